import Derived.Test.YtbchkopkgpfkgaaGreatKBK
import Derived.Test.YtbchkopkgpfkgaaGreatKBL
import Derived.Test.YtbchkopkgpfkgaaGreatKAOb
set_option linter.unusedVariables false
set_option linter.unusedSimpArgs false
set_option maxRecDepth 100000
set_option maxHeartbeats 0
noncomputable section
namespace Go.Proofs.YtbchkopkgpfkgaaGreat
open Classical Go Go.Vc
section
variable {vs:List Vr} {k:Int}
theorem XP{c:Int}(h0:0≤c)(h1:c<(dC vs k).length):(cn vs k (gi (dC vs k) c):Int)=c:=by
 have go:∀n:Nat,n≤vs.length→∀c:Int,0≤c→c<(gL vs k n).length→(cn vs k (gi (gL vs k n) c):Int)=c:=λn=>by
  induction n with
  |zero=>intro _ c a b;simp[gL]at b;omega
  |succ n ih=>
   intro a c c0 c1;have hl:=NV (vs:=vs) (k:=k) (n:=n) aB;by_cases e:c<(gL vs k n).length;have q:=ih aB c c0 e;have:gi (gL vs k (n+1)) c=gi (gL vs k n) c:=by
    show gi (gL vs k n++_) c=_;unfold gi;rw[bX,oR aB,←bX]
   rw[this];exact q;by_cases h:(vr vs n).kd=k;have e1:gL vs k (n+1)=gL vs k n++ [(n:Int)]:=by show _++_=_;rw[aK h]
   rw[e1,dD,sS]at c1;have ec:c=((gL vs k n).length:Int):=aB;have:gi (gL vs k (n+1)) c=n:=by
    rw[e1,ec];unfold gi;rw[bX,iD,qN (cV _)];simp
   rw[this,ec,hl];have e1:gL vs k (n+1)=gL vs k n:=by show _++_=_;rw[aC h,kN]
   rw[e1]at c1;omega
 exact go vs.length (cV _) c h0 h1
theorem KB{A B:List Int}{c:Int}(h0:0≤c)(h1:c<A.length):gi (A++B) c=gi A c:=by
 unfold gi;rw[bX,oR aB,←bX]
theorem JF{A B:List Int}{c:Int}(h0:0≤c):gi (A++B) (A.length+c)=gi B c:=by
 unfold gi;rw[bX,qN aB,show((A.length:Int)+c).toNat-A.length=c.toNat by omega,←bX]
theorem PU:(bP vs).length=(dC vs 1).length+(dC vs 3).length:=by unfold bP;exact dD
def sN(vs:List Vr)(j:Int):Int:=if(vr vs j).kd=1 then cn vs 1 j else(dC vs 1).length+cn vs 3 j
abbrev kS(vs:List Vr)(j:Int):Prop:=(vr vs j).kd=1∨(vr vs j).kd=3
theorem aeJ{j:Int}(h0:0≤j)(h1:j<vs.length)(h:kS vs j):0≤sN vs j∧sN vs j<(bP vs).length∧gi (bP vs) (sN vs j)=j:=by
 unfold sN;have e:(bP vs).length=(dC vs 1).length+(dC vs 3).length:=dD ..;rw[e];by_cases q:(vr vs j).kd=1;rw[aK q];have a:=PD h0 h1 q;have b:=al3 h0 h1 q;rw[←iU]at a;exact⟨aB,aB,by unfold bP;rw[KB aB aB];exact b⟩;have q:(vr vs j).kd=3:=h.resolve_left q;rw[aC aB];have a:=PD h0 h1 q;have b:=al3 h0 h1 q;rw[←iU]at a;exact⟨aB,aB,by unfold bP;rw[JF aB];exact b⟩
theorem aHd{c:Int}(h0:0≤c)(h1:c<(bP vs).length):sN vs (gi (bP vs) c)=c∧kS vs (gi (bP vs) c):=by
 have e:(bP vs).length=(dC vs 1).length+(dC vs 3).length:=dD ..;by_cases q:c<(dC vs 1).length;have g:gi (bP vs) c=gi (dC vs 1) c:=KB h0 q;have b:=IL h0 q;rw[g];unfold sN;rw[aK b.2.2,XP h0 q];exact⟨rfl,.inl b.2.2⟩;have g:gi (bP vs) c=gi (dC vs 3) (c-(dC vs 1).length):=by
  have:=JF (A:=dC vs 1) (B:=dC vs 3) (c:=c-(dC vs 1).length) aB;rw[show((dC vs 1).length:Int)+(c-(dC vs 1).length)=c by omega]at this;exact this
 have b:=IL (vs:=vs) (k:=3) (c:=c-(dC vs 1).length) aB aB;rw[g];unfold sN;rw[aC aB,XP aB aB];exact⟨aB,.inr b.2.2⟩
def vS(vs:List Vr)(e:aV)(c:Int):Int:=Dd.eG 0 (Dd.eG 5 (oG (d8 vs) e c) ((vr vs (gi (bP vs) c)).hi-(vr vs (gi (bP vs) c)).lo)) (vr vs (gi (bP vs) c)).lo
def g0(vs:List Vr)(B:List Int)(j:Int):Int:=if(vr vs j).kd=2 then gi B (cn vs 2 j)else(vr vs j).ini
def gX(vs:List Vr)(B:List Int)(x:Int)(j:Int):aV→Int:=λe=>if kS vs j∧sN vs j<x then vS vs e (sN vs j)else g0 vs B j
theorem aCa{B:List Int}{j:Int}(h0:0≤j)(h1:j<vs.length)(e:aV):gX vs B 0 j e=g0 vs B j:=by
 refine aC λq=> ?_;have:=aeJ h0 h1 q.1;omega
theorem aFv{B:List Int}{x:Int}(h0:0≤x)(h1:x<(bP vs).length)(e:aV):gX vs B (x+1) (gi (bP vs) x) e=vS vs e x:=by
 have a:=aHd h0 h1;unfold gX;rw[aK ⟨a.2,aB⟩,a.1]
theorem auW{B:List Int}{x j:Int}(h0:0≤j)(h1:j<vs.length)(h:j≠gi (bP vs) x)(e:aV):gX vs B x j e=gX vs B (x+1) j e:=by
 unfold gX;by_cases k:kS vs j;have a:=aeJ h0 h1 k;have b:sN vs j≠x:=λq=>h (by rw[←q];exact a.2.2.symm);by_cases q:sN vs j<x;rw[aK ⟨k,q⟩,aK ⟨k,aB⟩];rw[aC (λc=>q c.2),aC (λc=>by have:=c.2;omega)];rw[aC (λc=>k c.1),aC (λc=>k c.1)]
def BE(vs:List Vr)(e:aV):List Int:=(List.range (dC vs 1).length).map λc:Nat=>vS vs e c
def C3(vs:List Vr)(e:aV):List Int:=(List.range (dC vs 3).length).map λc:Nat=>vS vs e ((dC vs 1).length+c)
theorem YD{e:aV}{c:Int}(h0:0≤c)(h1:c<(dC vs 1).length):gi (BE vs e) c=vS vs e c:=by
 unfold BE gi;rw[bX,iZ,EF aB];show vS vs e ((c.toNat:Nat):Int)=_;rw[show((c.toNat:Nat):Int)=c by omega]
theorem XR{e:aV}{c:Int}(h0:0≤c)(h1:c<(dC vs 3).length):gi (C3 vs e) c=vS vs e ((dC vs 1).length+c):=by
 unfold C3 gi;rw[bX,iZ,EF aB];show vS vs e (_+((c.toNat:Nat):Int))=_;rw[show((c.toNat:Nat):Int)=c by omega]
theorem aCc{B:List Int}{x j:Int}(hV:dO vs)(h0:0≤j)(h1:j<vs.length)(hx:((bP vs).length:Int)≤x)(e:aV):gX vs B x j e=pT vs (BE vs e) B (C3 vs e) j:=by
 have hk:=JV (hV.each j h0 h1).2.2.1;unfold gX;by_cases k:kS vs j;have a:=aeJ h0 h1 k;rw[aK ⟨k,aB⟩];rcases k with k|k
 have b:=PD h0 h1 k;rw[←iU]at b;rw[E_ k,nY aB,show((cn vs 1 j:Nat):Int)+0=cn vs 1 j by omega,YD aB aB];unfold sN;rw[aK k];have b:=PD h0 h1 k;rw[←iU]at b;rw[F2 k,nY aB,show((cn vs 3 j:Nat):Int)+0=cn vs 3 j by omega,XR aB aB];unfold sN;rw[aC aB];rw[aC (λc=>k c.1)];unfold g0;by_cases q:(vr vs j).kd=2;rw[aK q,FG q,nY aB,show((cn vs 2 j:Nat):Int)+0=cn vs 2 j by omega];rw[aC q,UY (by rcases hk with h|h|h|h;exact h;exact bM (.inl h) k;exact bM h q;exact bM (.inr h) k)]
theorem aAW(L:List Dd.Fk)(e:aV)(c:Int)(h:0≤(Dd.fk L c).h):0≤oG L e c:=(XF _ _ e _ aB).1
theorem as8{c:Int}(h0:0≤c)(h1:c<(bP vs).length):0≤(Dd.fk (d8 vs) c).h:=by rw[qR h0 h1];exact(xH _ _).1
theorem aeS(hV:dO vs){e:aV}{c:Int}(h0:0≤c)(h1:c<(bP vs).length):(vr vs (gi (bP vs) c)).lo≤vS vs e c∧vS vs e c≤(vr vs (gi (bP vs) c)).hi:=by
 have m:=DI.1 (qB h0 h1);have o:=hV.ord _ (pA m.1 m.2.1);have s:=aAW (d8 vs) e c (as8 h0 h1);unfold vS;rw[Dd.op0 rfl,Dd.op5 rfl];split<;>omega
theorem NF(hV:dO vs){B:List Int}(hl:B.length=(dZ vs 2).length)(hr:bF (dZ vs 2) B)(e:aV):rW vs (BE vs e) B (C3 vs e):=by
 have el:(bP vs).length=(dC vs 1).length+(dC vs 3).length:=dD ..;refine⟨by rw[←iU];simp[BE],hl,by rw[←iU];simp[C3],λc a b=> ?_,hr,λc a b=> ?_⟩;rw[←iU]at b;have:=aeS hV (e:=e) (c:=c) a aB;rw[show gi (bP vs) c=gi (dC vs 1) c from KB a b,DT a b]at this;rw[YD a b];exact this;rw[←iU]at b;have:=aeS hV (e:=e) (c:=(dC vs 1).length+c) aB aB;rw[show gi (bP vs) ((dC vs 1).length+c)=gi (dC vs 3) c from JF a,DT a b]at this;rw[XR a b];exact this
theorem alN{c:Int}(h0:0≤c)(h1:c<(bP vs).length):Dd.dR (iW vs) (λe=>vS vs e c):=λe e' q=>by
 have t:=sQ (vs:=vs) h0 h1;have l:=DL (vs:=vs) (l:=bP vs) (c+1).toNat;have d:=RS (n:=iW vs) (fi:=(Dd.fk (d8 vs) c).l) (bi:=(Dd.fk (d8 vs) c).h) (by rw[qR h0 h1];exact(sD _).1) (by rw[qR h0 h1];show gN vs ((bP vs).take c.toNat)+gD vs (gi (bP vs) c)≤gN vs (bP vs);omega) (Dd.fk (d8 vs) c).h.toNat (by have:=as8 h0 h1;omega) e e' q;have d:oG (d8 vs) e c=oG (d8 vs) e' c:=d;show vS vs e c=vS vs e' c;unfold vS;rw[d]
theorem KU{α:Type}{n:Nat}{f g:Nat→α}(h:∀c,c<n→f c=g c):(List.range n).map f=(List.range n).map g:=YH λc hc=>h c (CM.1 hc)
theorem ac6:Dd.dR (iW vs) (BE vs):=λe e' q=>KU λc hc=>alN (c:=(c:Int)) aB (by have:=PU (vs:=vs);omega) e e' q
theorem adQ:Dd.dR (iW vs) (C3 vs):=λe e' q=>KU λc hc=>alN (c:=(dC vs 1).length+(c:Int)) aB (by have:=PU (vs:=vs);omega) e e' q
end
def ahH(vs:List Vr)(B:List Int)(e:aV):List Int:=kD vs (BE vs e) B (C3 vs e)
def jN(vs:List Vr)(B:List Int):aV→Mc:=λe=>⟨ahH vs B e,[],0⟩
def wT(F:Fl)(B:List Int):aV→List Int:=λe=>yC F (ahH F.vs B e)
section
variable {F:Fl} {B:List Int} {e:aV}
theorem ZT:Dd.dR (iW F.vs) (ahH F.vs B):=λe e' q=>by unfold ahH;rw[ac6 e e' q,adQ e e' q]
theorem ayF:Dd.dR (iW F.vs) (jN F.vs B):=λe e' q=>by unfold jN;rw[ZT (F:=F) e e' q]
theorem ax2:Dd.dR (iW F.vs) (wT F B):=λe e' q=>by unfold wT;rw[ZT e e' q]
theorem abP(hV:gI F)(hl:B.length=(dZ F.vs 2).length)(hr:bF (dZ F.vs 2) B):oC F (iW F.vs) (jN F.vs B) (cJ F.bd) (cG F.bd):=⟨ayF,λe=>HP hV (NF hV.vs hl hr e)⟩
theorem ac5(hV:gI F)(x j:Int)(h0:0≤j)(h1:j<F.vs.length)(hx:((bP F.vs).length:Int)≤x)(e:aV):gX F.vs B x j e=iS (jN F.vs B) j e:=by
 rw[aCc hV.vs h0 h1 hx];exact(S9 h0 h1).symm
end
def bE(x bi b:Int):Bool:=decide (x/2^(bi-1-b).toNat%2=1)
theorem acM{x fi bi:Int}{e:aV}(x0:0≤x)(x1:x<2^bi.toNat)(b0:0≤bi)(he:∀b:Int,0≤b→b<bi→e (fi+b)=bE x bi b):∀k:Nat,(k:Int)≤bi→mN fi bi e k=x/2^(bi-k).toNat*2^(bi-k).toNat
 |0,_=>by
  show(0:Int)=_;rw[show(bi-((0:Nat):Int)).toNat=bi.toNat by omega,Int.ediv_eq_zero_of_lt x0 x1,Int.zero_mul]
 |k+1,h=>by
  have ih:=acM x0 x1 b0 he k aB;have e1:(bi-((k:Nat):Int)).toNat=(bi-1-k).toNat+1:=aB
  have e2:(bi-((k+1:Nat):Int)).toNat=(bi-1-k).toNat:=aB;show mN fi bi e k+(if e (fi+k)=true then 2^(bi-1-k).toNat else 0)=_;rw[ih,he k aB aB,e1,e2,Int.pow_succ,←Int.ediv_ediv_of_nonneg (Int.le_of_lt (Dd.kI _))];unfold bE;generalize (2:Int)^(bi-1-k).toNat=P;generalize x/P=q;have d:=Int.emod_add_mul_ediv q 2;have m:q%2=0∨q%2=1:=aB;have r:q/2*(P*2)=(2*(q/2))*P:=by rw[u6 P 2,←Int.mul_assoc,u6 (q/2) 2]
  rw[r];rcases m with m|m
  rw[aC (by simp[m]),show q=2*(q/2) by omega];have:2*(q/2)/2=q/2:=aB;rw[this];omega;rw[aK (by simp[m])];have t:q*P=(2*(q/2)+1)*P:=by rw[show 2*(q/2)+1=q by omega]
  rw[t,Int.add_mul,LK]
def vP(vs:List Vr)(X:List Int)(c:Nat):List Bool:=(List.range (gD vs (gi (bP vs) c)).toNat).map λb:Nat=>bE (gi X c-(vr vs (gi (bP vs) c)).lo) (gD vs (gi (bP vs) c)) b
def iI(vs:List Vr)(X:List Int)(k:Nat):List Bool:=(List.range k).flatMap (vP vs X)
section
variable {vs:List Vr} {X:List Int}
theorem N0(c:Nat):((vP vs X c).length:Int)=gD vs (gi (bP vs) c):=by
 have h:=xH vs (gi (bP vs) c);have e:(vP vs X c).length=(gD vs (gi (bP vs) c)).toNat:=by simp[vP]
 omega
theorem Y6(k:Nat):iI vs X (k+1)=iI vs X k++vP vs X k:=by unfold iI;rw[sP,sV];simp
theorem EA:∀k:Nat,k≤(bP vs).length→((iI vs X k).length:Int)=gN vs ((bP vs).take k)
 |0,_=>rfl
 |k+1,h=>by
  have ih:=EA k aB;have t:=sQ (vs:=vs) (l:=bP vs) (c:=(k:Int)) aB aB;rw[show((k:Int)+1).toNat=k+1 by omega,iD]at t;have c:=N0 (vs:=vs) (X:=X) k;rw[Y6,dD,t,←ih,←c];omega
theorem acB{c:Nat}{b:Int}(hb:0≤b)(hb1:b<gD vs (gi (bP vs) c)):∀k:Nat,c<k→k≤(bP vs).length→gb (iI vs X k) (gN vs ((bP vs).take c)+b)=bE (gi X c-(vr vs (gi (bP vs) c)).lo) (gD vs (gi (bP vs) c)) b
 |0,h,_=>by omega
 |k+1,h,hk=>by
  have l:=EA (vs:=vs) (X:=X) k aB;rw[Y6];by_cases e:c=k;subst e;have:((iI vs X c).length:Int)≤gN vs ((bP vs).take c)+b:=aB
  unfold gb;rw[bX,qN aB,show(gN vs ((bP vs).take c)+b).toNat-(iI vs X c).length=b.toNat by omega];unfold vP;rw[iZ,EF aB];show bE _ _ ((b.toNat:Nat):Int)=_;rw[show((b.toNat:Nat):Int)=b by omega];have ih:=acB hb hb1 k aB aB;have t:=sQ (vs:=vs) (l:=bP vs) (c:=(c:Int)) aB aB;rw[show((c:Int)+1).toNat=c+1 by omega,iD]at t;have mm:gN vs ((bP vs).take (c+1))≤gN vs ((bP vs).take k):=by
   have:=DL (vs:=vs) (l:=(bP vs).take k) (c+1);rw[List.take_take,QJ aB]at this;exact this
  have n:=(sD (vs:=vs) ((bP vs).take c)).1;rw[←ih];unfold gb;rw[bX,oR aB,←bX]
theorem adL(hV:dO vs){e:aV}(he:∀p:Int,0≤p→p<iW vs→e p=gb (iI vs X (bP vs).length) p){c:Int}(h0:0≤c)(h1:c<(bP vs).length)
  (hx:(vr vs (gi (bP vs) c)).lo≤gi X c∧gi X c≤(vr vs (gi (bP vs) c)).hi):oG (d8 vs) e c=gi X c-(vr vs (gi (bP vs) c)).lo:=by
 have m:=DI.1 (qB h0 h1);have o:=hV.ord _ (pA m.1 m.2.1);have l:=aiO (vs:=vs) (i:=gi (bP vs) c) o.1 aB;have n:=xH vs (gi (bP vs) c);unfold oG;rw[qR h0 h1];show mN (gN vs ((bP vs).take c.toNat)) (gD vs (gi (bP vs) c)) e (gD vs (gi (bP vs) c)).toNat=_;rw[acM (x:=gi X c-(vr vs (gi (bP vs) c)).lo) aB aB n.1 (λb b0 b1=> ?_) _ aB];rw[show(gD vs (gi (bP vs) c)-(((gD vs (gi (bP vs) c)).toNat:Nat):Int)).toNat=0 by omega];simp;have t:=sQ (vs:=vs) h0 h1;have lt:=DL (vs:=vs) (l:=bP vs) (c+1).toNat;have nn:=(sD (vs:=vs) ((bP vs).take c.toNat)).1;rw[he _ aB (by show _<gN vs (bP vs);omega)];have:=acB (vs:=vs) (X:=X) (c:=c.toNat) (b:=b) b0 (by rw[show((c.toNat:Nat):Int)=c by omega];exact b1) (bP vs).length aB (cV _);rw[show((c.toNat:Nat):Int)=c by omega]at this;exact this
theorem am4(hV:dO vs){e:aV}(he:∀p:Int,0≤p→p<iW vs→e p=gb (iI vs X (bP vs).length) p){c:Int}(h0:0≤c)(h1:c<(bP vs).length)
  (hx:(vr vs (gi (bP vs) c)).lo≤gi X c∧gi X c≤(vr vs (gi (bP vs) c)).hi):vS vs e c=gi X c:=by
 unfold vS;rw[adL hV he h0 h1 hx,Dd.op0 rfl,Dd.op5 rfl];split<;>omega
theorem OW{A B C:List Int}(hI:rW vs A B C){c:Int}(h0:0≤c)(h1:c<(bP vs).length):(vr vs (gi (bP vs) c)).lo≤gi (A++C) c∧gi (A++C) c≤(vr vs (gi (bP vs) c)).hi:=by
 have el:(bP vs).length=(dC vs 1).length+(dC vs 3).length:=dD ..;have l1:=hI.l1;have l3:=hI.l3;have k1:=iU (vs:=vs) (k:=1);have k3:=iU (vs:=vs) (k:=3);by_cases q:c<(dC vs 1).length;rw[show gi (bP vs) c=gi (dC vs 1) c from KB h0 q,DT h0 q,KB h0 aB];exact hI.r1 c h0 aB;have g:gi (bP vs) c=gi (dC vs 3) (c-(dC vs 1).length):=by
  have:=JF (A:=dC vs 1) (B:=dC vs 3) (c:=c-(dC vs 1).length) aB;rw[show((dC vs 1).length:Int)+(c-(dC vs 1).length)=c by omega]at this;exact this
 have g2:gi (A++C) c=gi C (c-(dC vs 1).length):=by
  have:=JF (A:=A) (B:=C) (c:=c-(dC vs 1).length) aB;rw[show(A.length:Int)+(c-(dC vs 1).length)=c by omega]at this;exact this
 rw[g,g2,DT aB aB];exact hI.r3 _ aB aB
theorem aBB(hV:dO vs){A B C:List Int}(hI:rW vs A B C){e:aV}(he:∀p:Int,0≤p→p<iW vs→e p=gb (iI vs (A++C) (bP vs).length) p):BE vs e=A∧C3 vs e=C:=by
 have el:(bP vs).length=(dC vs 1).length+(dC vs 3).length:=dD ..;have l1:=hI.l1;have l3:=hI.l3;have k1:=iU (vs:=vs) (k:=1);have k3:=iU (vs:=vs) (k:=3);constructor;refine GT (by simp[BE];omega) λc a b=> ?_;rw[show(BE vs e).length=(dC vs 1).length by simp[BE]]at b;rw[YD a b,am4 hV he a aB (OW hI a aB),KB a aB];refine GT (by simp[C3];omega) λc a b=> ?_;rw[show(C3 vs e).length=(dC vs 3).length by simp[C3]]at b;rw[XR a b,am4 hV he aB aB (OW hI aB aB)];have:=JF (A:=A) (B:=C) (c:=c) a;rw[show(A.length:Int)=(dC vs 1).length by omega]at this;exact this
theorem RJ{L:List Dd.Fk}{e:aV}:∀k:Nat,uW vs L e k=true↔∀c:Int,0≤c→c<k→oG L e c<(vr vs (Dd.fk L c).v).hi-(vr vs (Dd.fk L c).v).lo+1
 |0=>⟨λ_ c a b=>by omega,λ_=>rfl⟩
 |k+1=>by
  have ih:=RJ (L:=L) (e:=e) k;have o:uW vs L e (k+1)=(uW vs L e k&&decide (oG L e k<(vr vs (Dd.fk L k).v).hi-(vr vs (Dd.fk L k).v).lo+1)):=by
   show Dd.Bd.mE 8 (uW vs L e k) (decide (Dd.eG 7 _ _=1)) false=_;by_cases q:oG L e k<(vr vs (Dd.fk L k).v).hi-(vr vs (Dd.fk L k).v).lo+1;rw[Dd.WV rfl q,decide_eq_true q];cases uW vs L e k<;>rfl;rw[Dd.ZB rfl q,decide_eq_false q];cases uW vs L e k<;>rfl
  rw[o,Bool.and_eq_true,ih,decide_eq_true_eq];constructor;rintro⟨a,b⟩ c c0 c1;by_cases q:c=k;subst q;exact b;exact a c c0 aB;intro h;exact⟨λc a b=>h c a aB,h k aB aB⟩
theorem aDS(hV:dO vs){A B C:List Int}(hI:rW vs A B C){e:aV}(he:∀p:Int,0≤p→p<iW vs→e p=gb (iI vs (A++C) (bP vs).length) p):uW vs (d8 vs) e (d8 vs).length=true:=by
 refine(RJ _).2 λc a b=> ?_;rw[pN]at b;have i:=OW hI a b;rw[adL hV he a b i,qR a b];show gi (A++C) c-(vr vs (gi (bP vs) c)).lo<(vr vs (gi (bP vs) c)).hi-(vr vs (gi (bP vs) c)).lo+1;omega
end
def G_(vs:List Vr)(A B C:List Int)(i:Int):Prop:=∃j:Int,0≤j∧j<i∧¬(vr vs j).kd=0∧(pT vs A B C j<(vr vs j).lo∨(vr vs j).hi<pT vs A B C j)
section
variable {vs:List Vr} {A B C:List Int} {i n:Int}
theorem aEY:¬G_ vs A B C 0:=λ⟨j,a,b,_⟩=>aB
theorem aF_(h:(vr vs i).kd=0):G_ vs A B C i↔G_ vs A B C (i+1):=by
 constructor;rintro⟨j,a,b,c,d⟩;exact⟨j,a,aB,c,d⟩;rintro⟨j,a,b,c,d⟩;by_cases e:j=i;subst e;exact bM h c;exact⟨j,a,aB,c,d⟩
theorem UP(h0:0≤i)(h:¬(vr vs i).kd=0)(e:pT vs A B C i=n):((G_ vs A B C i∨n<(vr vs i).lo)∨(vr vs i).hi<n)↔G_ vs A B C (i+1):=by
 subst e;constructor;rintro((⟨j,a,b,c,d⟩|q)|q);exact⟨j,a,aB,c,d⟩;exact⟨i,h0,aB,h,.inl q⟩;exact⟨i,h0,aB,h,.inr q⟩;rintro⟨j,a,b,c,d⟩;by_cases q:j=i;subst q;rcases d with d|d
 exact .inl (.inr d);exact .inr d;exact .inl (.inl ⟨j,a,aB,c,d⟩)
theorem YB{X:List Int}{k:Int}(hc:cn vs k (vs.length:Int)≤X.length)(hd:(X.drop (cn vs k (vs.length:Int))).length=0)(hk:¬k=0)(hn:¬G_ vs A B C (vs.length:Int))(he:∀j:Int,0≤j→j<vs.length→(vr vs j).kd=k→pT vs A B C j=gi X (cn vs k j)):X.length=(dZ vs k).length∧bF (dZ vs k) X:=by
 rw[mX]at hd;have hl:X.length=(dZ vs k).length:=by rw[←H9 (vs:=vs) (k:=k) (i:=(vs.length:Int)) (eL _)];omega
 refine⟨hl,λc a b=> ?_⟩;have b2:c<(dC vs k).length:=by rw[iU];exact b
 have g:=IL a b2;have e:=he _ g.1 g.2.1 g.2.2;rw[XP a b2]at e;rw[←DT a b2,←e];have q:¬(pT vs A B C (gi (dC vs k) c)<(vr vs (gi (dC vs k) c)).lo∨(vr vs (gi (dC vs k) c)).hi<pT vs A B C (gi (dC vs k) c)):=λq=>hn ⟨_,g.1,g.2.1,by rw[g.2.2];exact hk,q⟩;omega
theorem aEZ(c1:cn vs 1 (vs.length:Int)≤A.length)(c2:cn vs 2 (vs.length:Int)≤B.length)(c3:cn vs 3 (vs.length:Int)≤C.length)(d1:(A.drop (cn vs 1 (vs.length:Int))).length=0)(d2:(B.drop (cn vs 2 (vs.length:Int))).length=0)(d3:(C.drop (cn vs 3 (vs.length:Int))).length=0)
  (hn:¬G_ vs A B C (vs.length:Int)):rW vs A B C:=by
 have e1:=YB c1 d1 aB hn λj a b h=>by rw[E_ h,nY aB,show((cn vs 1 j:Nat):Int)+0=cn vs 1 j by omega]
 have e2:=YB c2 d2 aB hn λj a b h=>by rw[FG h,nY aB,show((cn vs 2 j:Nat):Int)+0=cn vs 2 j by omega]
 have e3:=YB c3 d3 aB hn λj a b h=>by rw[F2 h,nY aB,show((cn vs 3 j:Nat):Int)+0=cn vs 3 j by omega]
 exact⟨e1.1,e2.1,e3.1,e1.2,e2.2,e3.2⟩
end
theorem aDz{V:HV}{a1 a2 a3:Value}{X1 X2 X3:List Int}(h1:aT .i64 V a1 X1)(h2:aT .i64 V a2 X2)(h3:aT .i64 V a3 X3){j:Int}(j0:0≤j)(j1:j<4):aT .i64 V (gv [.slice none 0 0,a1,a2,a3] j) (gr [[],X1,X2,X3] j):=by
 have:j=0∨j=1∨j=2∨j=3:=aB;rcases this with rfl|rfl|rfl|rfl
 exact⟨none,0,rfl,cV _,kE _,λh=>bM rfl h⟩;exact h1;exact h2;exact h3
end Go.Proofs.YtbchkopkgpfkgaaGreat
namespace Go.Proofs.YtbchkopkgpfkgaaGreat
open Classical Go.Vc
variable{F:Fl}{V:HV}
abbrev anX:=λb1 (va:Value) (ha:Value) (ba:Value) b2 (sa:Value) (sb:Value) (sc:Value) b3 (u:Value) b4 (a1:Value) (a2:Value) (a3:Value) i_n (F:Fl) (A:List Int) (B:List Int) (C:List Int) b5 (i:Int)=>[aM 26 b1 [va,ha,ba],aM 43 b2 [sa,sb,sc],aM 90 b3 [va,ha,ba,u,vn,vn,vi 0],aM 145 b4 [vn,a1,a2,a3],Gr 3 1 u i_n (((kD F.vs A B C).take i_n).map (Value.int .i64)),aM 69 b5 [Value.string (vr F.vs i).nm,vi ((vr F.vs i).kd),vi ((vr F.vs i).lo),vi ((vr F.vs i).hi),vi ((vr F.vs i).ini)]]
theorem aqL{va ha ba:Value}(hF:fV V va ha ba F){A B C:List Int}{sa sb sc:Value}(hVa:gI F)(hA:aT .i64 V sa A)(hB:aT .i64 V sb B)(hC:aT .i64 V sc C)(hNI:¬rW F.vs A B C):
  aP Tryz.prog 28 [.agg #[va,ha,ba],.agg #[sa,sb,sc]] V [] (λv V' σ'=>σ'=[]∧∃e,e≠0∧v= .tuple #[.pointer none,.int .i64 e]):=by
 refine bI Tryz.func28 ?_;intro w0 D;have hF0:=hF;obtain⟨hvs,hH⟩:=hF.h;obtain⟨xQ,hQ⟩:=hF.b.sl;have hbvv:=aR.bound hF.v;have hbh:=aR.bound hH.sl;have hbb:=aR.bound hQ;have hbA:=hA.bound;have hbB:=hB.bound;have hbC:=hC.bound;have hz1:=hVa.sz.1;refine aD ?_;refine bH λb1=> ?_;refine bH λb2=> ?_;refine aS ?_;refine PA ?_;refine aG ?_ ?_<;>intro c1;omega;refine aJ ?_;refine oq (bL (out:=[va,ha,ba,Value.slice none 0 0,Value.slice none 0 0,Value.slice none 0 0,Value.int .i64 0]) BI.out [(0,[va,ha,ba])] rfl rfl) ?_;refine bH λb3=> ?_;refine dS ?_;refine oq (bL (out:=[Value.slice none 0 0,sa,sb,sc]) BI.out [(1,[sa]),(2,[sb]),(3,[sc])] aBZ rfl) ?_;refine aQ λb4=> ?_;refine atX ?_;refine lp5 [0,1,2,3,6,7,8,20,33,34] (λ(i:Int) (u:Value) (a1:Value) (a2:Value) (a3:Value)=> [(9,(.bool (decide (G_ F.vs A B C i)))),(35,(vi i))]) (λi u a1 a2 a3=> [aM 26 b1 [va,ha,ba],aM 43 b2 [sa,sb,sc],aM 90 b3 [va,ha,ba,u,vn,vn,vi 0],aM 145 b4 [vn,a1,a2,a3],Gr 3 1 u i.toNat (((kD F.vs A B C).take i.toNat).map (Value.int .i64))]) (λi u a1 a2 a3=>0≤i∧i≤F.vs.length∧aT .i64 V a1 (A.drop (cn F.vs 1 i))∧aT .i64 V a2 (B.drop (cn F.vs 2 i))∧aT .i64 V a3 (C.drop (cn F.vs 3 i))∧cn F.vs 1 i≤A.length∧cn F.vs 2 i≤B.length∧cn F.vs 3 i≤C.length) (λi u a1 a2 a3=>(F.vs.length-i).toNat) 0 vn sa sb sc ?_ ?_ ?_ ?_;exact⟨jf (by exact aEY),rfl,Go.i_⟩
 (rfl)
 exact⟨aB,aB,hA,hB,hC,by rw[CO];exact kE _,by rw[CO];exact kE _,by rw[CO];exact kE _⟩;rintro i u a1 a2 a3 e1 ⟨i1,i2,ha1,ha2,ha3,hc1,hc2,hc3⟩;refine aF ?_;refine aG ?_ ?_<;>intro c2;refine aJ ?_;have hoe:=hVa.vs.each i i1 a_;have hkd:=JV hoe.2.2.1;refine aH ?_;refine YF ?_;refine aQ λb5=> ?_;refine qQ ?_;refine aG ?_ ?_<;>intro c3;refine aD ?_;rcases(show(vr F.vs i).kd=1∨(vr F.vs i).kd=2∨(vr F.vs i).kd=3 from aB)with e2_0|e2_1|e2_2
 refine aI ?_;have hld2:=mX (i:=cn F.vs 1 i) (l:=A);refine av0 ?_;refine aG ?_ ?_<;>intro c4;refine aF ?_;refine t8 ?_;refine T8 ?_;exact⟨rfl,1,aB,rfl⟩;refine aEb ?_;refine cL ⟨anX b1 va ha ba b2 sa sb sc b3 u b4 a1 a2 a3 i.toNat F A B C b5 i,[],dL,cB _,⟨[],.refl _⟩,?_⟩;refine aDv ?_;refine aJ ?_;by_cases g1:G_ F.vs A B C (i);refine nA ?_;have hini:=E_ (vs:=F.vs) (A:=A) (B:=B) (C:=C) (i:=i) aO;refine pX ?_;refine cQ 1 1 [.int .i64 (gi (A.drop (cn F.vs 1 i)) 0)] (λb6=> ?_);refine dV rfl rfl rfl fW a_ eZ λv1 hn1=> ?_;refine rR ?_;refine bO (k:=4) rfl (λho1=> ?_);refine pW ?_;refine t6 ?_;exact qI (i+1) v1 (dropR a1 (1:Int).toNat 1) a2 a3 ⟨jt KP,aL dB,Go.i_⟩ ⟨aB,aB,aT.lstep ha1 a_ i1 a_ aO,aT.lsame ha2 i1 a_ a_,aT.lsame ha3 i1 a_ a_,EI,LM,MG⟩ (hr:=by rw[iL i1 a_,f_,hini,show(i+1).toNat=i.toNat+1 by omega];rfl);refine aN ?_;by_cases g2:(gi (A.drop (cn F.vs 1 i)) 0)<((vr F.vs i).lo);refine aS ?_;have hini:=E_ (vs:=F.vs) (A:=A) (B:=B) (C:=C) (i:=i) aO;refine pX ?_;refine cQ 1 1 [.int .i64 (gi (A.drop (cn F.vs 1 i)) 0)] (λb7=> ?_);refine dV rfl rfl rfl fW a_ eZ λv2 hn2=> ?_;refine rR ?_;refine bO (k:=4) rfl (λho2=> ?_);refine tR ?_;refine t6 ?_;exact qI (i+1) v2 (dropR a1 (1:Int).toNat 1) a2 a3 ⟨jt KP,aL dB,Go.i_⟩ ⟨aB,aB,aT.lstep ha1 a_ i1 a_ aO,aT.lsame ha2 i1 a_ a_,aT.lsame ha3 i1 a_ a_,EI,LM,MG⟩ (hr:=by rw[iL i1 a_,f_,hini,show(i+1).toNat=i.toNat+1 by omega];rfl);refine aS ?_;have hini:=E_ (vs:=F.vs) (A:=A) (B:=B) (C:=C) (i:=i) aO;refine pX ?_;refine cQ 1 1 [.int .i64 (gi (A.drop (cn F.vs 1 i)) 0)] (λb8=> ?_);refine dV rfl rfl rfl fW a_ eZ λv3 hn3=> ?_;refine rR ?_;refine bO (k:=4) rfl (λho3=> ?_);refine j8 rfl eQ ho3 ?_;refine t6 ?_;exact qI (i+1) v3 (dropR a1 (1:Int).toNat 1) a2 a3 ⟨jb KP,aL dB,Go.i_⟩ ⟨aB,aB,aT.lstep ha1 a_ i1 a_ aO,aT.lsame ha2 i1 a_ a_,aT.lsame ha3 i1 a_ a_,EI,LM,MG⟩ (hr:=by rw[iL i1 a_,f_,hini,show(i+1).toNat=i.toNat+1 by omega];rfl);refine aI ?_;have hld2:=mX (i:=cn F.vs 2 i) (l:=B);refine awW ?_;refine aG ?_ ?_<;>intro c5;refine aF ?_;refine t8 ?_;refine T8 ?_;exact⟨rfl,1,aB,rfl⟩;refine aBf ?_;refine cL ⟨anX b1 va ha ba b2 sa sb sc b3 u b4 a1 a2 a3 i.toNat F A B C b5 i,[],dL,cB _,⟨[],.refl _⟩,?_⟩;refine aDN ?_;refine aJ ?_;by_cases g3:G_ F.vs A B C (i);refine nA ?_;have hini:=FG (vs:=F.vs) (A:=A) (B:=B) (C:=C) (i:=i) aO;refine pX ?_;refine cQ 1 1 [.int .i64 (gi (B.drop (cn F.vs 2 i)) 0)] (λb9=> ?_);refine dV rfl rfl rfl fW a_ eZ λv4 hn4=> ?_;refine rR ?_;refine bO (k:=4) rfl (λho4=> ?_);refine j8 rfl eQ ho4 ?_;refine t6 ?_;exact qI (i+1) v4 a1 (dropR a2 (1:Int).toNat 1) a3 ⟨jt KP,aL dB,Go.i_⟩ ⟨aB,aB,aT.lsame ha1 i1 a_ a_,aT.lstep ha2 a_ i1 a_ aO,aT.lsame ha3 i1 a_ a_,LF,EI,MG⟩ (hr:=by rw[iL i1 a_,f_,hini,show(i+1).toNat=i.toNat+1 by omega];rfl);refine aN ?_;by_cases g4:(gi (B.drop (cn F.vs 2 i)) 0)<((vr F.vs i).lo);refine aS ?_;have hini:=FG (vs:=F.vs) (A:=A) (B:=B) (C:=C) (i:=i) aO;refine pX ?_;refine cQ 1 1 [.int .i64 (gi (B.drop (cn F.vs 2 i)) 0)] (λb10=> ?_);refine dV rfl rfl rfl fW a_ eZ λv5 hn5=> ?_;refine rR ?_;refine bO (k:=4) rfl (λho5=> ?_);refine j8 rfl eQ ho5 ?_;refine t6 ?_;exact qI (i+1) v5 a1 (dropR a2 (1:Int).toNat 1) a3 ⟨jt KP,aL dB,Go.i_⟩ ⟨aB,aB,aT.lsame ha1 i1 a_ a_,aT.lstep ha2 a_ i1 a_ aO,aT.lsame ha3 i1 a_ a_,LF,EI,MG⟩ (hr:=by rw[iL i1 a_,f_,hini,show(i+1).toNat=i.toNat+1 by omega];rfl);refine aS ?_;have hini:=FG (vs:=F.vs) (A:=A) (B:=B) (C:=C) (i:=i) aO;refine pX ?_;refine cQ 1 1 [.int .i64 (gi (B.drop (cn F.vs 2 i)) 0)] (λb11=> ?_);refine dV rfl rfl rfl fW a_ eZ λv6 hn6=> ?_;refine rR ?_;refine bO (k:=4) rfl (λho6=> ?_);refine j8 rfl eQ ho6 ?_;refine t6 ?_;exact qI (i+1) v6 a1 (dropR a2 (1:Int).toNat 1) a3 ⟨jb KP,aL dB,Go.i_⟩ ⟨aB,aB,aT.lsame ha1 i1 a_ a_,aT.lstep ha2 a_ i1 a_ aO,aT.lsame ha3 i1 a_ a_,LF,EI,MG⟩ (hr:=by rw[iL i1 a_,f_,hini,show(i+1).toNat=i.toNat+1 by omega];rfl);refine aI ?_;have hld2:=mX (i:=cn F.vs 3 i) (l:=C);refine au5 ?_;refine aG ?_ ?_<;>intro c6;refine aF ?_;refine t8 ?_;refine T8 ?_;exact⟨rfl,1,aB,rfl⟩;refine aEL ?_;refine cL ⟨anX b1 va ha ba b2 sa sb sc b3 u b4 a1 a2 a3 i.toNat F A B C b5 i,[],dL,cB _,⟨[],.refl _⟩,?_⟩;refine aEO ?_;refine aJ ?_;by_cases g5:G_ F.vs A B C (i);refine nA ?_;have hini:=F2 (vs:=F.vs) (A:=A) (B:=B) (C:=C) (i:=i) aO;refine pX ?_;refine cQ 1 1 [.int .i64 (gi (C.drop (cn F.vs 3 i)) 0)] (λb12=> ?_);refine dV rfl rfl rfl fW a_ eZ λv7 hn7=> ?_;refine rR ?_;refine bO (k:=4) rfl (λho7=> ?_);refine j8 rfl eQ ho7 ?_;refine t6 ?_;exact qI (i+1) v7 a1 a2 (dropR a3 (1:Int).toNat 1) ⟨jt KP,aL dB,Go.i_⟩ ⟨aB,aB,aT.lsame ha1 i1 a_ a_,aT.lsame ha2 i1 a_ a_,aT.lstep ha3 a_ i1 a_ aO,LF,LM,EI⟩ (hr:=by rw[iL i1 a_,f_,hini,show(i+1).toNat=i.toNat+1 by omega];rfl);refine aN ?_;by_cases g6:(gi (C.drop (cn F.vs 3 i)) 0)<((vr F.vs i).lo);refine aS ?_;have hini:=F2 (vs:=F.vs) (A:=A) (B:=B) (C:=C) (i:=i) aO;refine pX ?_;refine cQ 1 1 [.int .i64 (gi (C.drop (cn F.vs 3 i)) 0)] (λb13=> ?_);refine dV rfl rfl rfl fW a_ eZ λv8 hn8=> ?_;refine rR ?_;refine bO (k:=4) rfl (λho8=> ?_);refine j8 rfl eQ ho8 ?_;refine t6 ?_;exact qI (i+1) v8 a1 a2 (dropR a3 (1:Int).toNat 1) ⟨jt KP,aL dB,Go.i_⟩ ⟨aB,aB,aT.lsame ha1 i1 a_ a_,aT.lsame ha2 i1 a_ a_,aT.lstep ha3 a_ i1 a_ aO,LF,LM,EI⟩ (hr:=by rw[iL i1 a_,f_,hini,show(i+1).toNat=i.toNat+1 by omega];rfl);refine aS ?_;have hini:=F2 (vs:=F.vs) (A:=A) (B:=B) (C:=C) (i:=i) aO;refine pX ?_;refine cQ 1 1 [.int .i64 (gi (C.drop (cn F.vs 3 i)) 0)] (λb14=> ?_);refine dV rfl rfl rfl fW a_ eZ λv9 hn9=> ?_;refine rR ?_;refine bO (k:=4) rfl (λho9=> ?_);refine j8 rfl eQ ho9 ?_;refine t6 ?_;exact qI (i+1) v9 a1 a2 (dropR a3 (1:Int).toNat 1) ⟨jb KP,aL dB,Go.i_⟩ ⟨aB,aB,aT.lsame ha1 i1 a_ a_,aT.lsame ha2 i1 a_ a_,aT.lstep ha3 a_ i1 a_ aO,LF,LM,EI⟩ (hr:=by rw[iL i1 a_,f_,hini,show(i+1).toNat=i.toNat+1 by omega];rfl);refine aH ?_;have hini:=UY (vs:=F.vs) (A:=A) (B:=B) (C:=C) (i:=i) a_;refine pX ?_;refine cQ 1 1 [.int .i64 ((vr F.vs i).ini)] (λb15=> ?_);refine dV rfl rfl rfl fW a_ eZ λv10 hn10=> ?_;refine rR ?_;refine bO (k:=4) rfl (λho10=> ?_);refine j8 rfl eQ ho10 ?_;refine t6 ?_;exact qI (i+1) v10 a1 a2 a3 ⟨jb KP,aL dB,Go.i_⟩ ⟨aB,aB,aT.lsame ha1 i1 a_ a_,aT.lsame ha2 i1 a_ a_,aT.lsame ha3 i1 a_ a_,LF,LM,MG⟩ (hr:=by rw[iL i1 a_,f_,hini,show(i+1).toNat=i.toNat+1 by omega];rfl);refine eW ?_;refine g_ [0,1,2,3,6,7,8,9,20,33,34,35,36,88] (λ(j0:Int)=> [(89,(vi j0))]) (λj0=>0≤j0∧j0≤4∧∀x:Int,0≤x→x<j0→(gr [[],A.drop (cn F.vs 1 i),B.drop (cn F.vs 2 i),C.drop (cn F.vs 3 i)] x).length=0) (λj0=>(4-j0).toNat) 0 ?_ ?_ ?_;exact⟨rfl,Go.i_⟩;exact⟨aB,aB,λx a b=>aB⟩;rintro j0 e3 ⟨j01,j02,hem⟩;refine aF ?_;refine aG ?_ ?_<;>intro c7;refine aF ?_;refine oq (W9 (v:=(gv [vn,a1,a2,a3] j0)) (i:=j0) UL.out PL.out SZ.out rfl rfl a_ k6 (abW (cs:=[vn,a1,a2,a3]) a_ k6)) ?_;refine aF ?_;refine oq (fK (aDz ha1 ha2 ha3 j01 a_)) ?_;refine aD ?_;refine aG ?_ ?_<;>intro c8;refine aF ?_;refine t8 ?_;refine T8 ?_;exact⟨rfl,1,aB,rfl⟩;refine aF ?_;exact dW (j0+1) ⟨aL a_,Go.i_⟩ ⟨aB,aB,eK hem a_⟩;refine aJ ?_;have hie:i=(F.vs.length:Int):=aB;refine aI ?_;refine aG ?_ ?_<;>intro c9;refine aF ?_;refine sF ?_;exact⟨rfl,3,aB,rfl⟩;exact bM (aEZ (by rw[hie]at hc1;exact hc1) (by rw[hie]at hc2;exact hc2) (by rw[hie]at hc3;exact hc3) (by have:=hem 1 a_ a_;rw[hie]at this;exact this) (by have:=hem 2 a_ a_;rw[hie]at this;exact this) (by have:=hem 3 a_ a_;rw[hie]at this;exact this) (by rw[hie]at*;assumption)) hNI
theorem aA8{va ha ba:Value}(hF:fV V va ha ba F){A B C:List Int}{sa sb sc:Value}(hVa:gI F)(hA:aT .i64 V sa A)(hB:aT .i64 V sb B)(hC:aT .i64 V sc C)(hNI:¬rW F.vs A B C):
  aP Tryz.prog 12 [.agg #[va,ha,ba],.agg #[sa,sb,sc]] V [] (λv V' σ'=>σ'=[]∧∃e,e≠0∧v= .tuple #[.agg #[.slice none 0 0,.int .i64 0],.int .i64 e]):=by
 refine bI Tryz.func12 ?_;intro w0 D;obtain⟨hvs,hH⟩:=hF.h;obtain⟨xQ,hQ⟩:=hF.b.sl;have hbvv:=aR.bound hF.v;have hbh:=aR.bound hH.sl;have hbb:=aR.bound hQ;refine aD ?_;refine bH λb1=> ?_;refine bH λb2=> ?_;refine aQ λb3=> ?_;refine aN ?_;refine aZ [] (aqL hF hVa hA hB hC hNI) ?_;rintro _ _ _ _ ⟨rfl,e0,he0,rfl⟩;refine dI ?_;refine aG ?_ ?_<;>intro c1;refine aD ?_;refine oq (bL (out:=[Value.slice none 0 0,Value.int .i64 0]) BI.out [] rfl rfl) ?_;refine aJ ?_;refine c_ 2 λVf1 hVf1 hc1=> ?_;refine fR ?_;refine jE _ (vi e0) (eC AG.out rfl (d7 hc1) rfl rfl) (fA rfl) ?_;exact⟨rfl,e0,he0,rfl⟩;exact bM he0 c1
end Go.Proofs.YtbchkopkgpfkgaaGreat
end
