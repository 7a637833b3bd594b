import Derived.Test.YtbchkopkgpfkgaaGreatQBK
import Derived.Test.YtbchkopkgpfkgaaGreatQBL
import Derived.Test.YtbchkopkgpfkgaaGreatQAOb
set_option linter.unusedVariables false
set_option maxRecDepth 100000
set_option maxHeartbeats 0
noncomputable section
namespace Go.Proofs.YtbchkopkgpfkgaaGreat
open Classical Go Go.Vc
section
variable {vs:List Vr} {k:Int}
theorem XP{c:Int}(h0:0≤c)(h1:c<(dC vs k).length):(cn vs k (gi (dC vs k) c):Int)=c:=by
 have go:∀n:Nat,n≤vs.length→∀c:Int,0≤c→c<(gL vs k n).length→(cn vs k (gi (gL vs k n) c):Int)=c:=λn=>by
  induction n with
  |zero=>intro _ c a b;simp[gL]at b;omega
  |succ n ih=>
   intro a c c0 c1;have hl:=NV (vs:=vs) (k:=k) (n:=n) aB;by_cases e:c<(gL vs k n).length;have q:=ih aB c c0 e;have:gi (gL vs k (n+1)) c=gi (gL vs k n) c:=by
    show gi (gL vs k n++_) c=_;unfold gi;rw[bX,oR aB,←bX]
   rw[this];exact q;by_cases h:(vr vs n).kd=k;have e1:gL vs k (n+1)=gL vs k n++ [(n:Int)]:=by show _++_=_;rw[aK h]
   rw[e1,dD,sS]at c1;have ec:c=((gL vs k n).length:Int):=aB;have:gi (gL vs k (n+1)) c=n:=by
    rw[e1,ec];unfold gi;rw[bX,iD,qN (cV _)];simp
   rw[this,ec,hl];have e1:gL vs k (n+1)=gL vs k n:=by show _++_=_;rw[aC h,kN]
   rw[e1]at c1;omega
 exact go vs.length (cV _) c h0 h1
theorem KB{A B:List Int}{c:Int}(h0:0≤c)(h1:c<A.length):gi (A++B) c=gi A c:=by
 unfold gi;rw[bX,oR aB,←bX]
theorem JF{A B:List Int}{c:Int}(h0:0≤c):gi (A++B) (A.length+c)=gi B c:=by
 unfold gi;rw[bX,qN aB,show((A.length:Int)+c).toNat-A.length=c.toNat by omega,←bX]
theorem PU:(bP vs).length=(dC vs 1).length+(dC vs 3).length:=by unfold bP;exact dD
def sN(vs:List Vr)(j:Int):Int:=if(vr vs j).kd=1 then cn vs 1 j else(dC vs 1).length+cn vs 3 j
abbrev kS(vs:List Vr)(j:Int):Prop:=(vr vs j).kd=1∨(vr vs j).kd=3
theorem aeJ{j:Int}(h0:0≤j)(h1:j<vs.length)(h:kS vs j):0≤sN vs j∧sN vs j<(bP vs).length∧gi (bP vs) (sN vs j)=j:=by
 unfold sN;have e:(bP vs).length=(dC vs 1).length+(dC vs 3).length:=dD ..;rw[e];by_cases q:(vr vs j).kd=1;rw[aK q];have a:=PD h0 h1 q;have b:=al3 h0 h1 q;rw[←iU]at a;exact⟨aB,aB,by unfold bP;rw[KB aB aB];exact b⟩;have q:(vr vs j).kd=3:=h.resolve_left q;rw[aC aB];have a:=PD h0 h1 q;have b:=al3 h0 h1 q;rw[←iU]at a;exact⟨aB,aB,by unfold bP;rw[JF aB];exact b⟩
theorem aHd{c:Int}(h0:0≤c)(h1:c<(bP vs).length):sN vs (gi (bP vs) c)=c∧kS vs (gi (bP vs) c):=by
 have e:(bP vs).length=(dC vs 1).length+(dC vs 3).length:=dD ..;by_cases q:c<(dC vs 1).length;have g:gi (bP vs) c=gi (dC vs 1) c:=KB h0 q;have b:=IL h0 q;rw[g];unfold sN;rw[aK b.2.2,XP h0 q];exact⟨rfl,.inl b.2.2⟩;have g:gi (bP vs) c=gi (dC vs 3) (c-(dC vs 1).length):=by
  have:=JF (A:=dC vs 1) (B:=dC vs 3) (c:=c-(dC vs 1).length) aB;rw[show((dC vs 1).length:Int)+(c-(dC vs 1).length)=c by omega]at this;exact this
 have b:=IL (vs:=vs) (k:=3) (c:=c-(dC vs 1).length) aB aB;rw[g];unfold sN;rw[aC aB,XP aB aB];exact⟨aB,.inr b.2.2⟩
def vS(vs:List Vr)(e:aV)(c:Int):Int:=Dd.eG 0 (Dd.eG 5 (oG (d8 vs) e c) ((vr vs (gi (bP vs) c)).hi-(vr vs (gi (bP vs) c)).lo)) (vr vs (gi (bP vs) c)).lo
def g0(vs:List Vr)(B:List Int)(j:Int):Int:=if(vr vs j).kd=2 then gi B (cn vs 2 j)else(vr vs j).ini
def gX(vs:List Vr)(B:List Int)(x:Int)(j:Int):aV→Int:=λe=>if kS vs j∧sN vs j<x then vS vs e (sN vs j)else g0 vs B j
theorem aCa{B:List Int}{j:Int}(h0:0≤j)(h1:j<vs.length)(e:aV):gX vs B 0 j e=g0 vs B j:=by
 refine aC λq=> ?_;have:=aeJ h0 h1 q.1;omega
theorem aFv{B:List Int}{x:Int}(h0:0≤x)(h1:x<(bP vs).length)(e:aV):gX vs B (x+1) (gi (bP vs) x) e=vS vs e x:=by
 have a:=aHd h0 h1;unfold gX;rw[aK ⟨a.2,aB⟩,a.1]
theorem auW{B:List Int}{x j:Int}(h0:0≤j)(h1:j<vs.length)(h:j≠gi (bP vs) x)(e:aV):gX vs B x j e=gX vs B (x+1) j e:=by
 unfold gX;by_cases k:kS vs j;have a:=aeJ h0 h1 k;have b:sN vs j≠x:=λq=>h (by rw[←q];exact a.2.2.symm);by_cases q:sN vs j<x;rw[aK ⟨k,q⟩,aK ⟨k,aB⟩];rw[aC (λc=>q c.2),aC (λc=>by have:=c.2;omega)];rw[aC (λc=>k c.1),aC (λc=>k c.1)]
def BE(vs:List Vr)(e:aV):List Int:=(List.range (dC vs 1).length).map λc:Nat=>vS vs e c
def C3(vs:List Vr)(e:aV):List Int:=(List.range (dC vs 3).length).map λc:Nat=>vS vs e ((dC vs 1).length+c)
theorem YD{e:aV}{c:Int}(h0:0≤c)(h1:c<(dC vs 1).length):gi (BE vs e) c=vS vs e c:=by
 unfold BE gi;rw[bX,iZ,EF aB];show vS vs e ((c.toNat:Nat):Int)=_;rw[show((c.toNat:Nat):Int)=c by omega]
theorem XR{e:aV}{c:Int}(h0:0≤c)(h1:c<(dC vs 3).length):gi (C3 vs e) c=vS vs e ((dC vs 1).length+c):=by
 unfold C3 gi;rw[bX,iZ,EF aB];show vS vs e (_+((c.toNat:Nat):Int))=_;rw[show((c.toNat:Nat):Int)=c by omega]
theorem aCc{B:List Int}{x j:Int}(hV:dO vs)(h0:0≤j)(h1:j<vs.length)(hx:((bP vs).length:Int)≤x)(e:aV):gX vs B x j e=pT vs (BE vs e) B (C3 vs e) j:=by
 have hk:=JV (hV.each j h0 h1).2.2.1;unfold gX;by_cases k:kS vs j;have a:=aeJ h0 h1 k;rw[aK ⟨k,aB⟩];rcases k with k|k
 have b:=PD h0 h1 k;rw[←iU]at b;rw[E_ k,nY aB,show((cn vs 1 j:Nat):Int)+0=cn vs 1 j by omega,YD aB aB];unfold sN;rw[aK k];have b:=PD h0 h1 k;rw[←iU]at b;rw[F2 k,nY aB,show((cn vs 3 j:Nat):Int)+0=cn vs 3 j by omega,XR aB aB];unfold sN;rw[aC aB];rw[aC (λc=>k c.1)];unfold g0;by_cases q:(vr vs j).kd=2;rw[aK q,FG q,nY aB,show((cn vs 2 j:Nat):Int)+0=cn vs 2 j by omega];rw[aC q,UY (by rcases hk with h|h|h|h;exact h;exact bM (.inl h) k;exact bM h q;exact bM (.inr h) k)]
theorem aAW(L:List Dd.Fk)(e:aV)(c:Int)(h:0≤(Dd.fk L c).h):0≤oG L e c:=(XF _ _ e _ aB).1
theorem as8{c:Int}(h0:0≤c)(h1:c<(bP vs).length):0≤(Dd.fk (d8 vs) c).h:=by rw[qR h0 h1];exact(xH _ _).1
theorem aeS(hV:dO vs){e:aV}{c:Int}(h0:0≤c)(h1:c<(bP vs).length):(vr vs (gi (bP vs) c)).lo≤vS vs e c∧vS vs e c≤(vr vs (gi (bP vs) c)).hi:=by
 have m:=DI.1 (qB h0 h1);have o:=hV.ord _ (pA m.1 m.2.1);have s:=aAW (d8 vs) e c (as8 h0 h1);unfold vS;rw[Dd.op0 rfl,Dd.op5 rfl];split<;>omega
theorem NF(hV:dO vs){B:List Int}(hl:B.length=(dZ vs 2).length)(hr:bF (dZ vs 2) B)(e:aV):rW vs (BE vs e) B (C3 vs e):=by
 have el:(bP vs).length=(dC vs 1).length+(dC vs 3).length:=dD ..;refine⟨by rw[←iU];simp[BE],hl,by rw[←iU];simp[C3],λc a b=> ?_,hr,λc a b=> ?_⟩;rw[←iU]at b;have:=aeS hV (e:=e) (c:=c) a aB;rw[show gi (bP vs) c=gi (dC vs 1) c from KB a b,DT a b]at this;rw[YD a b];exact this;rw[←iU]at b;have:=aeS hV (e:=e) (c:=(dC vs 1).length+c) aB aB;rw[show gi (bP vs) ((dC vs 1).length+c)=gi (dC vs 3) c from JF a,DT a b]at this;rw[XR a b];exact this
theorem alN{c:Int}(h0:0≤c)(h1:c<(bP vs).length):Dd.dR (iW vs) (λe=>vS vs e c):=λe e' q=>by
 have t:=sQ (vs:=vs) h0 h1;have l:=DL (vs:=vs) (l:=bP vs) (c+1).toNat;have d:=RS (n:=iW vs) (fi:=(Dd.fk (d8 vs) c).l) (bi:=(Dd.fk (d8 vs) c).h) (by rw[qR h0 h1];exact(sD _).1) (by rw[qR h0 h1];show gN vs ((bP vs).take c.toNat)+gD vs (gi (bP vs) c)≤gN vs (bP vs);omega) (Dd.fk (d8 vs) c).h.toNat (by have:=as8 h0 h1;omega) e e' q;have d:oG (d8 vs) e c=oG (d8 vs) e' c:=d;show vS vs e c=vS vs e' c;unfold vS;rw[d]
theorem KU{α:Type}{n:Nat}{f g:Nat→α}(h:∀c,c<n→f c=g c):(List.range n).map f=(List.range n).map g:=YH λc hc=>h c (CM.1 hc)
theorem ac6:Dd.dR (iW vs) (BE vs):=λe e' q=>KU λc hc=>alN (c:=(c:Int)) aB (by have:=PU (vs:=vs);omega) e e' q
theorem adQ:Dd.dR (iW vs) (C3 vs):=λe e' q=>KU λc hc=>alN (c:=(dC vs 1).length+(c:Int)) aB (by have:=PU (vs:=vs);omega) e e' q
end
def ahH(vs:List Vr)(B:List Int)(e:aV):List Int:=kD vs (BE vs e) B (C3 vs e)
def jN(vs:List Vr)(B:List Int):aV→Mc:=λe=>⟨ahH vs B e,[],0⟩
def wT(F:Fl)(B:List Int):aV→List Int:=λe=>yC F (ahH F.vs B e)
section
variable {F:Fl} {B:List Int} {e:aV}
theorem ZT:Dd.dR (iW F.vs) (ahH F.vs B):=λe e' q=>by unfold ahH;rw[ac6 e e' q,adQ e e' q]
theorem ayF:Dd.dR (iW F.vs) (jN F.vs B):=λe e' q=>by unfold jN;rw[ZT (F:=F) e e' q]
theorem ax2:Dd.dR (iW F.vs) (wT F B):=λe e' q=>by unfold wT;rw[ZT e e' q]
theorem abP(hV:gI F)(hl:B.length=(dZ F.vs 2).length)(hr:bF (dZ F.vs 2) B):oC F (iW F.vs) (jN F.vs B) (cJ F.bd) (cG F.bd):=⟨ayF,λe=>HP hV (NF hV.vs hl hr e)⟩
theorem ac5(hV:gI F)(x j:Int)(h0:0≤j)(h1:j<F.vs.length)(hx:((bP F.vs).length:Int)≤x)(e:aV):gX F.vs B x j e=iS (jN F.vs B) j e:=by
 rw[aCc hV.vs h0 h1 hx];exact(S9 h0 h1).symm
end
section
variable {vs:List Vr} {X:List Int}
theorem RJ{L:List Dd.Fk}{e:aV}:∀k:Nat,uW vs L e k=true↔∀c:Int,0≤c→c<k→oG L e c<(vr vs (Dd.fk L c).v).hi-(vr vs (Dd.fk L c).v).lo+1
 |0=>⟨λ_ c a b=>by omega,λ_=>rfl⟩
 |k+1=>by
  have ih:=RJ (L:=L) (e:=e) k;have o:uW vs L e (k+1)=(uW vs L e k&&decide (oG L e k<(vr vs (Dd.fk L k).v).hi-(vr vs (Dd.fk L k).v).lo+1)):=by
   show Dd.Bd.mE 8 (uW vs L e k) (decide (Dd.eG 7 _ _=1)) false=_;by_cases q:oG L e k<(vr vs (Dd.fk L k).v).hi-(vr vs (Dd.fk L k).v).lo+1;rw[Dd.WV rfl q,decide_eq_true q];cases uW vs L e k<;>rfl;rw[Dd.ZB rfl q,decide_eq_false q];cases uW vs L e k<;>rfl
  rw[o,Bool.and_eq_true,ih,decide_eq_true_eq];constructor;rintro⟨a,b⟩ c c0 c1;by_cases q:c=k;subst q;exact b;exact a c c0 aB;intro h;exact⟨λc a b=>h c a aB,h k aB aB⟩
end
section
variable {vs:List Vr} {A B C:List Int} {i n:Int}
end
end Go.Proofs.YtbchkopkgpfkgaaGreat
namespace Go.Proofs.YtbchkopkgpfkgaaGreat
open Classical Go.Vc
variable{F:Fl}{V:HV}
end Go.Proofs.YtbchkopkgpfkgaaGreat
end
