import Derived.Test.YtbchkopkgpfkgaaGreatQAZ
import Derived.Test.YtbchkopkgpfkgaaGreatQAJ
set_option linter.unusedVariables false
set_option linter.unusedSimpArgs false
noncomputable section
namespace Go.Proofs.YtbchkopkgpfkgaaGreat.Dd.Bd
open Go.Vc
variable{N:List Fk}{e:Int→Bool}{r vars:Int}
def nd(N:List Fk)(r:Int):Fk:=N.getD (r-2).toNat ⟨0,0,0⟩
def bY(vars:Int)(N:List Fk)(r:Int):Int:=if r<2 then vars else(nd N r).v
def Rf(N:List Fk)(r:Int):Prop:=0≤r∧r<2+N.length
structure Fm (vars:Int) (N:List Fk):Prop where
 vr:∀r:Int,2≤r→r<2+N.length→0≤(nd N r).v∧(nd N r).v<vars
 ne:∀r:Int,2≤r→r<2+N.length→(nd N r).l≠(nd N r).h
 lo:∀r:Int,2≤r→r<2+N.length→0≤(nd N r).l∧(nd N r).l<r∧(nd N r).v<bY vars N (nd N r).l
 hi:∀r:Int,2≤r→r<2+N.length→0≤(nd N r).h∧(nd N r).h<r∧(nd N r).v<bY vars N (nd N r).h
 uq:∀r s:Int,2≤r→r<2+N.length→2≤s→s<2+N.length→nd N r=nd N s→r=s
theorem iK(h:r<2):bY vars N r=vars:=aK h
theorem l5(h:¬r<2):bY vars N r=(nd N r).v:=aC h
theorem Fm.lev_le(f:Fm vars N)(h:Rf N r):bY vars N r≤vars:=by
 by_cases h2:r<2;rw[iK h2];omega;rw[l5 h2];have:=f.vr r aB h.2;omega
theorem Fm.lev_nn(f:Fm vars N)(hv:0≤vars)(h:Rf N r):0≤bY vars N r:=by
 by_cases h2:r<2;rw[iK h2];exact hv;rw[l5 h2];exact(f.vr r aB h.2).1
theorem Fm.lev_node_lt(f:Fm vars N)(h:Rf N r)(h2:bY vars N r=vars):r<2:=by
 refine kB λq=> ?_;rw[l5 q]at h2;have:=f.vr r aB h.2;omega
theorem B6{M:List Fk}(_h0:2≤r)(h:r<2+N.length):nd (N++M) r=nd N r:=by
 unfold nd;rw[bX,bX,oR aB]
theorem QF{n:Fk}:nd (N++ [n]) (2+N.length)=n:=by
 unfold nd;rw[bX,show((2:Int)+N.length-2).toNat=N.length by omega];simp
theorem oT{M:List Fk}(h:r<2+N.length):bY vars (N++M) r=bY vars N r:=by
 unfold bY;by_cases h2:r<2;rw[aK h2,aK h2];rw[aC h2,aC h2,B6 aB h]
def iS(N:List Fk)(e:Int→Bool):Nat→Int→Bool
 |0,r=>decide (r=1)
 |k+1,r=>if r<2 then decide (r=1)else iS N e k (if e (nd N r).v then(nd N r).h else(nd N r).l)
def vl(N:List Fk)(e:Int→Bool)(r:Int):Bool:=iS N e N.length r
theorem aaI(f:Fm vars N)(e:Int→Bool):∀(k j:Nat) (r:Int),Rf N r→r≤k+1→r≤j+1→iS N e k r=iS N e j r
 |0,j,r,h,hk,hj=>by
  have h2:r<2:=by omega
  cases j with
  |zero=>rfl
  |succ j=>show decide (r=1)=if r<2 then decide (r=1)else _;rw[aK h2]
 |k+1,j,r,h,hk,hj=>by
  by_cases h2:r<2;cases j with
  |zero=>show(if r<2 then decide (r=1)else _)=decide (r=1);rw[aK h2]
  |succ j=>show(if r<2 then decide (r=1)else _)=(if r<2 then decide (r=1)else _);rw[aK h2,aK h2]
  have hlt:2≤r:=aB;have a:=f.lo r hlt h.2;have b:=f.hi r hlt h.2;cases j with
  |zero=>omega
  |succ j=>
   show(if r<2 then decide (r=1)else _)=(if r<2 then decide (r=1)else _);rw[aC h2,aC h2];refine aaI f e k j _ ?_ ?_ ?_;unfold Rf;have:=h.2;split<;>omega;split<;>omega;split<;>omega
theorem fN(h:r<2):vl N e r=decide (r=1):=by
 unfold vl;cases hN:N.length with
 |zero=>rfl
 |succ k=>show(if r<2 then decide (r=1)else _)=_;rw[aK h]
theorem o4(f:Fm vars N)(h2:2≤r)(h:r<2+N.length):vl N e r=vl N e (if e (nd N r).v then(nd N r).h else(nd N r).l):=by
 have a:=f.lo r h2 h;have b:=f.hi r h2 h;unfold vl;cases hN:N.length with
 |zero=>rw[hN]at h;omega
 |succ k=>
  show(if r<2 then decide (r=1)else _)=_;rw[aC aB];refine aaI f e k (k+1) _ ?_ ?_ ?_;unfold Rf;split<;>omega;split<;>omega;split<;>omega
theorem tK{M:List Fk}(f:Fm vars N)(g:Fm vars (N++M))(e:Int→Bool):∀(k:Nat) (r:Int),Rf N r→r≤k+1→vl (N++M) e r=vl N e r
 |0,r,h,hk=>by rw[fN (by omega),fN (by omega)]
 |k+1,r,h,hk=>by
  by_cases h2:r<2;rw[fN h2,fN h2];have a:=f.lo r aB h.2;have b:=f.hi r aB h.2;have hl:(N++M).length=N.length+M.length:=dD;have h3:=h.2;rw[o4 f aB h.2,o4 g aB aB,B6 aB h.2];refine tK f g e k _ ?_ ?_;unfold Rf;split<;>omega;split<;>omega
theorem Y8(f:Fm vars N){e':Int→Bool}:∀(k:Nat) (r:Int),Rf N r→r≤k+1→(∀i,bY vars N r≤i→i<vars→e i=e' i)→vl N e r=vl N e' r
 |0,r,h,hk,_=>by rw[fN (by omega),fN (by omega)]
 |k+1,r,h,hk,he=>by
  by_cases h2:r<2;rw[fN h2,fN h2];have a:=f.lo r aB h.2;have b:=f.hi r aB h.2;have c:=f.vr r aB h.2;have h3:=h.2;rw[l5 h2]at he;rw[o4 f aB h.2,o4 f (e:=e') aB h.2,he _ (eL _) c.2];refine Y8 f k _ ?_ ?_ λi hi=>he i ?_;unfold Rf;split<;>omega;split<;>omega;split at hi<;>omega
def dF(f:(Int→Bool)→Bool):Nat→Int→(Int→Bool)→List Bool
 |0,_,e=> [f e]
 |m+1,v,e=>dF f m (v+1) (up e v false)++dF f m (v+1) (up e v true)
theorem gT(f:(Int→Bool)→Bool):∀(m:Nat) (v:Int) (e:Int→Bool),(dF f m v e).length=2^m
 |0,_,_=>rfl
 |m+1,v,e=>by
  show(dF f m (v+1) (up e v false)++dF f m (v+1) (up e v true)).length=_;rw[dD,gT f m,gT f m,qE];omega
theorem i8{f g:(Int→Bool)→Bool}:∀(m:Nat) (v:Int) (e:Int→Bool),(∀e',(∀i,i<v→e' i=e i)→f e'=g e')→dF f m v e=dF g m v e
 |0,v,e,h=>by show [f e]=[g e];rw[h e λ_ _=>rfl]
 |m+1,v,e,h=>by
  show dF f m (v+1) (up e v false)++dF f m (v+1) (up e v true)=dF g m (v+1) (up e v false)++dF g m (v+1) (up e v true);have key:∀b,dF f m (v+1) (up e v b)=dF g m (v+1) (up e v b):=λb=>i8 m (v+1) _ λe' he=>h e' λi hi=>by
   rw[he i aB];unfold up;rw[aC aB]
  rw[key,key]
def bU(N:List Fk):Nat→Int→Ly→Ly×Int
 |0,_,s=>(s,0)
 |k+1,r,s=>match s.2 r with
  |some p=>(s,p)
  |none=>((((bU N k (nd N r).h (bU N k (nd N r).l s).1).1.1++ [⟨(nd N r).v,(bU N k (nd N r).l s).2,(bU N k (nd N r).h (bU N k (nd N r).l s).1).2⟩]),
   cX (bU N k (nd N r).h (bU N k (nd N r).l s).1).1.2 r (2+(bU N k (nd N r).h (bU N k (nd N r).l s).1).1.1.length)),2+(bU N k (nd N r).h (bU N k (nd N r).l s).1).1.1.length)
def jQ:Int→Option Int:=cX (cX (λ_=>none) 0 0) 1 1
structure wR (N:List Fk) (s:Ly):Prop where
 z:s.2 0=some 0
 o:s.2 1=some 1
 rf:∀r p:Int,s.2 r=some p→Rf N r∧Rf s.1 p∧(2≤r↔2≤p)
 nd:∀r p:Int,2≤r→s.2 r=some p→∃a b,s.2 (nd N r).l=some a∧s.2 (nd N r).h=some b∧a<p∧b<p∧Proofs.YtbchkopkgpfkgaaGreat.Dd.Bd.nd s.1 p=⟨(Proofs.YtbchkopkgpfkgaaGreat.Dd.Bd.nd N r).v,a,b⟩
 inj:∀r q p:Int,s.2 r=some p→s.2 q=some p→r=q
 sur:∀p:Int,Rf s.1 p→∃r,s.2 r=some p
theorem NZ:jQ 0=some 0:=by unfold jQ;rw[cP aB,dG]
theorem FC:jQ 1=some 1:=dG
theorem asP(h:2≤r∨r<0):jQ r=none:=by unfold jQ;rw[cP aB,cP aB]
theorem nI{p:Int}(h:jQ r=some p):p=r∧(r=0∨r=1):=by
 by_cases h0:r=0;subst h0;rw[NZ]at h;simp at h;omega;by_cases h1:r=1;subst h1;rw[FC]at h;simp at h;omega;rw[asP aB]at h;cases h
theorem VS(N:List Fk):wR N ([],jQ) where
 z:=NZ
 o:=FC
 rf:=λr p h=>by
  obtain⟨rfl,h⟩:=nI h;refine⟨⟨aB,aB⟩,⟨aB,?_⟩,Iff.rfl⟩;show p<2+((0:Nat):Int);omega
 nd:=λr p h2 h=>by obtain⟨_,h⟩:=nI h;omega
 inj:=λr q p h1 h2=>by obtain⟨h1,_⟩:=nI h1;obtain⟨h2,_⟩:=nI h2;omega
 sur:=λp h=>by
  have h0:=h.1;have h1:p<2+((0:Nat):Int):=h.2;by_cases q:p=0;subst q;exact⟨0,NZ⟩;have:p=1:=aB;subst this;exact⟨1,FC⟩
structure OZ (N:List Fk) (r:Int) (s:Ly) (x:Ly×Int):Prop where
 inv:wR N x.1
 at_:x.1.2 r=some x.2
 ext:∀q p:Int,s.2 q=some p→x.1.2 q=some p
 only:∀q:Int,r<q→x.1.2 q=s.2 q
 len:s.1.length≤x.1.1.length
theorem gK{k:Nat}{p:Int}{s:Ly}(h:s.2 r=some p):bU N (k+1) r s=(s,p):=by
 unfold bU;rw[h]
theorem jX(f:Fm vars N):∀(k:Nat) (r:Int) (s:Ly),Rf N r→r<k→wR N s→OZ N r s (bU N k r s)
 |0,r,s,h,hk,_=>by have:=h.1;omega
 |k+1,r,s,h,hk,hI=>by
  cases hs:s.2 r with
  |some p=>rw[gK hs];exact⟨hI,hs,λ_ _ h=>h,λ_ _=>rfl,cV _⟩
  |none=>
   have h2:2≤r:=by
    have h0:=h.1;refine kB λq=> ?_;by_cases e:r=0;subst e;rw[hI.z]at hs;cases hs;have:r=1:=aB;subst this;rw[hI.o]at hs;cases hs
   have hl:=f.lo r h2 h.2;have hh:=f.hi r h2 h.2;have h3:=h.2;have A:=jX f k (nd N r).l s ⟨hl.1,aB⟩ aB hI;have B:=jX f k (nd N r).h (bU N k (nd N r).l s).1 ⟨hh.1,aB⟩ aB A.inv;have e:bU N (k+1) r s=(((((bU N k (nd N r).h (bU N k (nd N r).l s).1).1.1++ [⟨(nd N r).v,(bU N k (nd N r).l s).2,(bU N k (nd N r).h (bU N k (nd N r).l s).1).2⟩]),
    cX (bU N k (nd N r).h (bU N k (nd N r).l s).1).1.2 r (2+(bU N k (nd N r).h (bU N k (nd N r).l s).1).1.1.length)),2+(bU N k (nd N r).h (bU N k (nd N r).l s).1).1.1.length):Ly×Int):=by
    rw[bU,hs]
   rw[e];generalize (bU N k (nd N r).l s)=x at A B;generalize (bU N k (nd N r).h x.1)=y at B;have hat:=B.ext _ _ A.at_;have hnone:y.1.2 r=none:=by rw[B.only r hh.2.1,A.only r hl.2.1,hs]
   have ra:=(B.inv.rf _ _ hat).2.1;have rb:=(B.inv.rf _ _ B.at_).2.1;have hlen:(y.1.1++ [(⟨(nd N r).v,x.2,y.2⟩:Fk)]).length=y.1.1.length+1:=bK;have oth:∀{q p:Int},y.1.2 q=some p→cX y.1.2 r (2+(y.1.1.length:Int)) q=some p:=λ{q p} hq=>by
    rw[cP];exact hq;intro e;subst e;rw[hnone]at hq;cases hq
   have cases_:∀{q p:Int},cX y.1.2 r (2+(y.1.1.length:Int)) q=some p→(q=r∧p=2+(y.1.1.length:Int))∨(q≠r∧y.1.2 q=some p):=λ{q p} hq=>by
    by_cases e:q=r;subst e;rw[dG]at hq;simp at hq;exact Or.inl ⟨rfl,hq.symm⟩;rw[cP e]at hq;exact Or.inr ⟨e,hq⟩
   refine⟨⟨oth B.inv.z,oth B.inv.o,λq p hq=> ?_,λq p hq2 hq=> ?_,λq q' p hq hq'=> ?_,λp hp=> ?_⟩,dG,λq p hq=>oth (B.ext _ _ (A.ext _ _ hq)),λq hq=> ?_,?_⟩;rcases cases_ hq with⟨rfl,rfl⟩|⟨_,hq⟩
   refine⟨h,⟨aB,?_⟩,aB⟩;show _<2+(((y.1.1++ [(⟨(nd N q).v,x.2,y.2⟩:Fk)]).length:Nat):Int);rw[hlen];omega;obtain⟨a,b,c⟩:=B.inv.rf q p hq;refine⟨a,⟨b.1,?_⟩,c⟩;have:=b.2;show _<2+(((y.1.1++ [(⟨(nd N r).v,x.2,y.2⟩:Fk)]).length:Nat):Int);rw[hlen];omega;rcases cases_ hq with⟨rfl,rfl⟩|⟨_,hq⟩
   exact⟨x.2,y.2,oth hat,oth B.at_,ra.2,rb.2,QF⟩;obtain⟨a,b,c1,c2,c3,c4,c5⟩:=B.inv.nd q p hq2 hq;have hp:=(B.inv.rf q p hq);exact⟨a,b,oth c1,oth c2,c3,c4,by rw[←c5];exact B6 (hp.2.2.1 hq2) hp.2.1.2⟩;rcases cases_ hq with⟨rfl,rfl⟩|⟨n1,hq⟩
   rcases cases_ hq' with⟨rfl,_⟩|⟨_,hq'⟩
   rfl;have:=(B.inv.rf _ _ hq').2.1.2;omega;rcases cases_ hq' with⟨e1,e2⟩|⟨_,hq2⟩
   have:=(B.inv.rf _ _ hq).2.1.2;omega;exact B.inv.inj _ _ _ hq hq2;have h1:p<2+(((y.1.1++ [(⟨(nd N r).v,x.2,y.2⟩:Fk)]).length:Nat):Int):=hp.2;rw[hlen]at h1;by_cases e:p=2+(y.1.1.length:Int);exact⟨r,by rw[e];exact dG⟩;obtain⟨q,hq⟩:=B.inv.sur p ⟨hp.1,aB⟩;exact⟨q,oth hq⟩;show cX y.1.2 r _ q=_;rw[cP aB,B.only q aB,A.only q aB];have:=A.len;have:=B.len;show _≤(y.1.1++ [(⟨(nd N r).v,x.2,y.2⟩:Fk)]).length;rw[hlen];omega
def cK:Nat→List Fk→Int→List Bool→List Fk×Int
 |0,O,_,t=>(O,if t.getD 0 false then 1 else 0)
 |m+1,O,v,t=>
  if(cK m O (v+1) (t.take (2^m))).2=(cK m (cK m O (v+1) (t.take (2^m))).1 (v+1) (t.drop (2^m))).2 then((cK m (cK m O (v+1) (t.take (2^m))).1 (v+1) (t.drop (2^m))).1,(cK m O (v+1) (t.take (2^m))).2)
  else match fx ⟨v,(cK m O (v+1) (t.take (2^m))).2,(cK m (cK m O (v+1) (t.take (2^m))).1 (v+1) (t.drop (2^m))).2⟩ (cK m (cK m O (v+1) (t.take (2^m))).1 (v+1) (t.drop (2^m))).1 with
   |some i=>((cK m (cK m O (v+1) (t.take (2^m))).1 (v+1) (t.drop (2^m))).1,2+i)
   |none=>((cK m (cK m O (v+1) (t.take (2^m))).1 (v+1) (t.drop (2^m))).1++ [⟨v,(cK m O (v+1) (t.take (2^m))).2,(cK m (cK m O (v+1) (t.take (2^m))).1 (v+1) (t.drop (2^m))).2⟩],2+(cK m (cK m O (v+1) (t.take (2^m))).1 (v+1) (t.drop (2^m))).1.length)
theorem oO{m:Nat}{O:List Fk}{v:Int}{t1 t2:List Bool}(h1:t1.length=2^m){A B:List Fk}{a b:Int}(ha:cK m O (v+1) t1=(A,a))(hb:cK m A (v+1) t2=(B,b)):
  cK (m+1) O v (t1++t2)=if a=b then(B,a)else match fx ⟨v,a,b⟩ B with|some i=>(B,2+(i:Int))|none=>(B++ [⟨v,a,b⟩],2+(B.length:Int)):=by
 have e1:(t1++t2).take (2^m)=t1:=by rw[←h1];simp
 have e2:(t1++t2).drop (2^m)=t2:=by rw[←h1];simp
 rw[cK,e1,e2,ha];simp only[hb]
theorem vL:∀(m:Nat) (O:List Fk) (v:Int) (t:List Bool),O.length≤(cK m O v t).1.length∧(cK m O v t).1.length+1≤O.length+2^m
 |0,O,v,t=>by show O.length≤O.length∧O.length+1≤O.length+1;omega
 |m+1,O,v,t=>by
  have a:=vL m O (v+1) (t.take (2^m));have b:=vL m (cK m O (v+1) (t.take (2^m))).1 (v+1) (t.drop (2^m));have p:2^(m+1)=2^m+2^m:=by rw[qE];omega
  rw[cK];split;show _≤(cK m (cK m O (v+1) (t.take (2^m))).1 (v+1) (t.drop (2^m))).1.length∧(cK m (cK m O (v+1) (t.take (2^m))).1 (v+1) (t.drop (2^m))).1.length+1≤_;omega;split;show _≤(cK m (cK m O (v+1) (t.take (2^m))).1 (v+1) (t.drop (2^m))).1.length∧(cK m (cK m O (v+1) (t.take (2^m))).1 (v+1) (t.drop (2^m))).1.length+1≤_;omega;simp only[dD,l4,xP];omega
theorem nR(f:Fm vars N):∀(m:Nat) (v:Int) (r:Int) (s:Ly) (e:Int→Bool) (k:Nat),wR N s→Rf N r→v=vars-m→v≤bY vars N r→r<k→
  cK m s.1 v (dF (λe=>vl N e r) m v e)=((bU N k r s).1.1,(bU N k r s).2)
 |0,v,r,s,e,k,hI,hr,hv,hl,hk=>by
  have hc:=f.lev_node_lt hr (by have:=f.lev_le hr;omega);obtain⟨k,rfl⟩:∃j,k=j+1:=⟨k-1,by have:=hr.1;omega⟩;show(s.1,if(vl N e r)=true then(1:Int)else 0)=_;rw[fN hc];have h0:=hr.1;by_cases h1:r=1;subst h1;rw[gK hI.o];rfl;have:r=0:=aB
  subst this;rw[gK hI.z];rfl
 |m+1,v,r,s,e,k,hI,hr,hv,hl,hk=>by
  have V:=jX f k r s hr hk hI;have h1:v+1=vars-m:=aB;obtain⟨k,rfl⟩:∃j,k=j+1:=⟨k-1,by have:=hr.1;omega⟩;show cK (m+1) s.1 v (dF _ m (v+1) (up e v false)++dF _ m (v+1) (up e v true))=_;by_cases hlt:v<bY vars N r;have A:=nR f m (v+1) r s (up e v false) (k+1) hI hr h1 aB hk;have B:=nR f m (v+1) r (bU N (k+1) r s).1 (up e v true) (k+1) V.inv hr h1 aB hk;rw[gK V.at_]at B;rw[oO (gT _ _ _ _) A B,aK rfl];have hlv:bY vars N r=v:=aB;have h2:2≤r:=by
   refine kB λq=> ?_;rw[iK aB]at hlv;omega
  rw[l5 aB]at hlv;have hlo:=f.lo r h2 hr.2;have hhi:=f.hi r h2 hr.2;have h3:=hr.2;have rl:Rf N (nd N r).l:=⟨hlo.1,aB⟩;have rh:Rf N (nd N r).h:=⟨hhi.1,aB⟩;have t1:dF (λe=>vl N e r) m (v+1) (up e v false)=dF (λe=>vl N e (nd N r).l) m (v+1) (up e v false):=i8 m _ _ λe' he=>by
   have:e' v=false:=by rw[he v aB];exact aK rfl
   show vl N e' r=_;rw[o4 f h2 hr.2,hlv,this];rfl
  have t2:dF (λe=>vl N e r) m (v+1) (up e v true)=dF (λe=>vl N e (nd N r).h) m (v+1) (up e v true):=i8 m _ _ λe' he=>by
   have:e' v=true:=by rw[he v aB];exact aK rfl
   show vl N e' r=_;rw[o4 f h2 hr.2,hlv,this];rfl
  rw[t1,t2];cases hs:s.2 r with
  |some p=>
   obtain⟨a,b,c1,c2,c3,c4,c5⟩:=hI.nd r p h2 hs;have A:=nR f m (v+1) (nd N r).l s (up e v false) (k+1) hI rl h1 aB aB;rw[gK c1]at A;have B:=nR f m (v+1) (nd N r).h s (up e v true) (k+1) hI rh h1 aB aB;rw[gK c2]at B;rw[gK hs,oO (gT _ _ _ _) A B];have hab:a≠b:=λq=>f.ne r h2 hr.2 (hI.inj _ _ _ c1 (q▸c2));rw[aC hab];have hp:=hI.rf r p hs;have hp2:=hp.2.2.1 h2;have hp3:=hp.2.1.2;cases hf:fx ⟨v,a,b⟩ s.1 with
   |none=>
    exact bM (by have q:=c5;rw[hlv]at q;exact q) (zA hf (p-2).toNat aB)
   |some i=>
    obtain⟨q1,q2,q3⟩:=rG hf;have hi:nd s.1 (2+i)=⟨v,a,b⟩:=by unfold nd;rw[show((2:Int)+i-2).toNat=i by omega];exact q2
    obtain⟨r',hr'⟩:=hI.sur (2+i) ⟨aB,aB⟩;obtain⟨a',b',d1,d2,d3,d4,d5⟩:=hI.nd r' (2+i) ((hI.rf _ _ hr').2.2.2 aB) hr';rw[hi]at d5;simp only[Fk.mk.injEq]at d5;have e1:=hI.inj _ _ _ c1 (d5.2.1▸d1);have e2:=hI.inj _ _ _ c2 (d5.2.2▸d2);have:r=r':=f.uq r r' h2 hr.2 ((hI.rf _ _ hr').2.2.2 aB) (hI.rf _ _ hr').1.2 (Fk.eq UA e1 e2);subst this;rw[hs]at hr';simp at hr';show(s.1,2+(i:Int))=(s.1,p);rw[hr']
  |none=>
   have VA:=jX f k (nd N r).l s rl aB hI;have VB:=jX f k (nd N r).h (bU N k (nd N r).l s).1 rh aB VA.inv;have A:=nR f m (v+1) (nd N r).l s (up e v false) k hI rl h1 aB aB;have B:=nR f m (v+1) (nd N r).h (bU N k (nd N r).l s).1 (up e v true) k VA.inv rh h1 aB aB;have E:bU N (k+1) r s=(((((bU N k (nd N r).h (bU N k (nd N r).l s).1).1.1++ [⟨(nd N r).v,(bU N k (nd N r).l s).2,(bU N k (nd N r).h (bU N k (nd N r).l s).1).2⟩]),
    cX (bU N k (nd N r).h (bU N k (nd N r).l s).1).1.2 r (2+(bU N k (nd N r).h (bU N k (nd N r).l s).1).1.1.length)),2+(bU N k (nd N r).h (bU N k (nd N r).l s).1).1.1.length):Ly×Int):=by
    rw[bU,hs]
   rw[E,oO (gT _ _ _ _) A B];clear E A B V;generalize (bU N k (nd N r).l s)=x at VA VB;generalize (bU N k (nd N r).h x.1)=y at VB;have hat:=VB.ext _ _ VA.at_;have hab:x.2≠y.2:=λq=>f.ne r h2 hr.2 (VB.inv.inj _ _ _ hat (by rw[q];exact VB.at_));rw[aC hab];have hnone:y.1.2 r=none:=by rw[VB.only r hhi.2.1,VA.only r hlo.2.1,hs]
   cases hf:fx ⟨v,x.2,y.2⟩ y.1.1 with
   |none=>rw[←hlv]
   |some i=>
    exfalso;obtain⟨q1,q2,q3⟩:=rG hf;have hi:nd y.1.1 (2+i)=⟨v,x.2,y.2⟩:=by unfold nd;rw[show((2:Int)+i-2).toNat=i by omega];exact q2
    obtain⟨r',hr'⟩:=VB.inv.sur (2+i) ⟨aB,aB⟩;obtain⟨a',b',d1,d2,d3,d4,d5⟩:=VB.inv.nd r' (2+i) ((VB.inv.rf _ _ hr').2.2.2 aB) hr';rw[hi]at d5;simp only[Fk.mk.injEq]at d5;have e1:=VB.inv.inj _ _ _ hat (d5.2.1▸d1);have e2:=VB.inv.inj _ _ _ VB.at_ (d5.2.2▸d2);have:r=r':=f.uq r r' h2 hr.2 ((VB.inv.rf _ _ hr').2.2.2 aB) (VB.inv.rf _ _ hr').1.2 (Fk.eq UA e1 e2);subst this;rw[hnone]at hr';cases hr'
end Go.Proofs.YtbchkopkgpfkgaaGreat.Dd.Bd
namespace Go.Proofs.YtbchkopkgpfkgaaGreat.Dd.Bd
open Go Go.Vc
open Classical
variable{N:List Fk}{hi:Prop}{r vars:Int}{s:Ly}
theorem BC(N:List Fk)(r:Int):nd N r=fk N (r-2):=rfl
def CS(N:List Fk)(root:Int):List Fk×Int:=((bU N (root.toNat+1) root ([],jQ)).1.1,(bU N (root.toNat+1) root ([],jQ)).2)
theorem az7(f : Fm vars N)  (hI : wR N s) : s.1.length ≤ N.length := by
  have h : ∀ p : _root_.Fin s.1.length, ∃ r : _root_.Fin N.length, s.2 (2 + (r.val : Int)) = some (2 + (p.val : Int)) := λp => by
    obtain ⟨r, hr⟩ := hI.sur (2 + (p.val : Int)) ⟨aB, by have := p.isLt; omega⟩;obtain ⟨q1, q2, q3⟩ := hI.rf r _ hr;have h2 := q3.2 aB;have h3 := q1.2;exact ⟨⟨(r - 2).toNat, by omega⟩, by show s.2 (2 + ((r - 2).toNat : Int)) = _; rw [show (2 : Int) + ((r - 2).toNat : Int) = r by omega]; exact hr⟩
  refine kB λq => ?_;have key : ∀ (n m : Nat) (F : _root_.Fin n → _root_.Fin m), m < n → ∃ a b, a ≠ b ∧ F a = F b := by
    intro n;induction n with
    | zero => intro m F h; omega
    | succ n ih =>
      intro m F hlt;by_cases hm : m ≤ n
      · by_cases hex : ∃ a : _root_.Fin n, F a.castSucc = F (Fin.last n)
        · obtain ⟨a, ha⟩ := hex
          exact ⟨a.castSucc, Fin.last n, by intro e; have := congrArg Fin.val e; simp at this; have := a.isLt; omega, ha⟩
        · by_cases hm0 : m = 0
          · subst hm0; exact (F (Fin.last n)).elim0
          · obtain ⟨m', rfl⟩ : ∃ m', m = m' + 1 := ⟨m - 1, by omega⟩
            by_cases hmn : m' + 1 < n
            · obtain ⟨a, b, hab, e⟩ := ih (m' + 1) (λa => F a.castSucc) hmn
              exact ⟨a.castSucc, b.castSucc, by intro e; exact hab (Fin.castSucc_inj.1 e), e⟩
            ·
              let L := F (Fin.last n);have hne : ∀ a : _root_.Fin n, F a.castSucc ≠ L := λa e => hex ⟨a, e⟩;let G : _root_.Fin n → _root_.Fin m' := λa => if hlt : (F a.castSucc).val < L.val then ⟨(F a.castSucc).val, by have := L.isLt; omega⟩ else ⟨(F a.castSucc).val - 1, by
                have h1 := (F a.castSucc).isLt;have h2 : (F a.castSucc).val ≠ L.val := λe => hne a (Fin.ext e);omega⟩
              obtain ⟨a, b, hab, e⟩ := ih m' G aB;refine ⟨a.castSucc, b.castSucc, by intro e; exact hab (Fin.castSucc_inj.1 e), Fin.ext ?_⟩;have ha : (F a.castSucc).val ≠ L.val := λe => hne a (Fin.ext e);have hb : (F b.castSucc).val ≠ L.val := λe => hne b (Fin.ext e);have e' := congrArg Fin.val e;simp only [G] at e';split at e' <;> split at e' <;> simp at e' <;> omega
      · omega
  obtain ⟨a, b, hab, e⟩ := key s.1.length N.length (λp => (h p).choose) aB;have h1 := (h a).choose_spec;have h2 := (h b).choose_spec;have e : (h a).choose = (h b).choose := e;rw [e] at h1;rw [h1] at h2;simp at h2;exact hab (Fin.ext aB)
def pG(vars:Int)(N:List Fk)(r v:Int)(hi:Prop):Int:=if bY vars N r≠v then r else if hi then(nd N r).h else(nd N r).l
theorem af3{v:Int}(h:bY vars N r≠v):pG vars N r v hi=r:=aK h
theorem agZ{v:Int}(h:bY vars N r=v)(q:hi):pG vars N r v hi=(nd N r).h:=by unfold pG;rw[aC (λe=>e h),aK q]
theorem aiD{v:Int}(h:bY vars N r=v)(q:¬hi):pG vars N r v hi=(nd N r).l:=by unfold pG;rw[aC (λe=>e h),aC q]
theorem wR.ge2(h:wR N s)(hr:Rf N r)(hn:s.2 r=none):2≤r:=by
 have h0:=hr.1;refine kB λq=> ?_;by_cases e:r=0;subst e;rw[h.z]at hn;cases hn;have:r=1:=aB;subst this;rw[h.o]at hn;cases hn
theorem M_{k:Nat}{x y:Ly×Int}(hs:s.2 r=none)(hx:x=bU N k (fk N (r-2)).l s)(hy:y=bU N k (fk N (r-2)).h x.1):
  bU N (k+1) r s=((y.1.1++ [⟨(fk N (r-2)).v,x.2,y.2⟩],cX y.1.2 r (2+(y.1.1.length:Int))),2+(y.1.1.length:Int)):=by
 subst hx;subst hy;rw[bU,hs];rfl
end Go.Proofs.YtbchkopkgpfkgaaGreat.Dd.Bd
namespace Go.Proofs.YtbchkopkgpfkgaaGreat.Dd.Bd
open Go Go.Vc
open Classical
variable{N:List Fk}{vars:Int}
def P9(vars:Int)(N:List Fk)(j r:Int):Prop:=0≤r∧r≤1+j∧(fk N j).v<bY vars N r
def GS(vars:Int)(N:List Fk)(j:Int):Prop:=
 0≤(fk N j).v∧(fk N j).v<vars∧(fk N j).l≠(fk N j).h∧(∀k:Int,0≤k→k<j→fk N k≠fk N j)∧P9 vars N j (fk N j).l∧P9 vars N j (fk N j).h
theorem Z1(f:Fm vars N){j:Int}(h0:0≤j)(h1:j<N.length):GS vars N j:=by
 have e:nd N (2+j)=fk N j:=by rw[BC,show(2+j-2:Int)=j by omega]
 have a:=f.vr (2+j) aB aB;have b:=f.ne (2+j) aB aB;have c:=f.lo (2+j) aB aB;have d:=f.hi (2+j) aB aB;rw[e]at a b c d;refine⟨a.1,a.2,b,λk k0 k1 q=> ?_,⟨c.1,aB,c.2.2⟩,⟨d.1,aB,d.2.2⟩⟩;have:=f.uq (2+k) (2+j) aB aB aB aB (by rw[BC,BC,show(2+k-2:Int)=k by omega,show(2+j-2:Int)=j by omega];exact q);omega
theorem amN(h:∀j:Int,0≤j→j<N.length→GS vars N j):Fm vars N where
 vr:=λr h0 h1=>by have:=h (r-2) aB aB;exact⟨this.1,this.2.1⟩
 ne:=λr h0 h1=>(h (r-2) aB aB).2.2.1
 lo:=λr h0 h1=>by have:=(h (r-2) aB aB).2.2.2.2.1;rw[BC];exact⟨this.1,by have:=this.2.1;omega,this.2.2⟩
 hi:=λr h0 h1=>by have:=(h (r-2) aB aB).2.2.2.2.2;rw[BC];exact⟨this.1,by have:=this.2.1;omega,this.2.2⟩
 uq:=λr s r0 r1 s0 s1 e=>by
  rw[BC,BC]at e;by_cases q:r<s;exact bM e ((h (s-2) aB aB).2.2.2.1 (r-2) aB aB);by_cases q2:s<r;exact bM e.symm ((h (r-2) aB aB).2.2.2.1 (s-2) aB aB);omega
def LO(vars:Int)(N:List Fk)(root:Int):Prop:=Fm vars N∧0≤root∧root≤1+N.length
theorem aIo{a b x:Int}(h0:0≤x)(h1:x<2):gi [a,b] x=if x=0 then a else b:=by
 by_cases e:x=0;subst e;rfl;have:x=1:=aB;subst this;rfl
theorem aC7(f:Fm vars N){i x:Int}(h0:0≤i)(h1:i<N.length)(x0:0≤x)(x1:x<2):P9 vars N i (gi [(fk N i).l,(fk N i).h] x):=by
 have hn:=Z1 f h0 h1;rw[aIo x0 x1];by_cases e:x=0;rw[aK e];exact hn.2.2.2.2.1;rw[aC e];exact hn.2.2.2.2.2
theorem aiM{A B:List Fk}(hl:A.length=B.length)(h:∀x:Int,0≤x→x<A.length→fk A x=fk B x):A=B:=by
 refine R5 hl λi h1 h2=> ?_;have:=h i aB aB;unfold fk at this;rw[bX,bX,show(i:Int).toNat=i by omega,dT h1,dT h2]at this;exact this
def Ok(vars:Int)(N:List Fk)(root:Int):Prop:=(0≤vars∧vars≤40)∧N.length≤4096∧LO vars N root∧(CS N root).1=N∧(CS N root).2=root
def jK(vars:Int)(N:List Fk)(root:Int):Int:=if vars<0∨40<vars then 3 else if 4096<N.length then 4 else if Ok vars N root then 0 else 1
section
variable {vars root:Int} {N:List Fk}
theorem J6(h:vars<0∨40<vars):jK vars N root=3:=aK h
theorem OM(h:¬(vars<0∨40<vars))(h2:4096<N.length):jK vars N root=4:=by unfold jK;rw[aC h,aK h2]
theorem VN(h:¬(vars<0∨40<vars))(h2:¬4096<N.length)(h3:¬Ok vars N root):jK vars N root=1:=by unfold jK;rw[aC h,aC h2,aC h3]
theorem BM(h:Ok vars N root):jK vars N root=0:=by
 have h1:=h.1;have h2:=h.2.1;unfold jK;rw[aC aB,aC aB,aK h]
theorem qF:jK vars N root=0↔Ok vars N root:=by
 refine⟨λh=> ?_,BM⟩;unfold jK at h;by_cases h1:vars<0∨40<vars;rw[aK h1]at h;omega;rw[aC h1]at h;by_cases h2:4096<N.length;rw[aK h2]at h;omega;rw[aC h2]at h;by_cases h3:Ok vars N root;exact h3;rw[aC h3]at h;omega
theorem LO.rf(h:LO vars N root):Rf N root:=⟨h.2.1,by have:=h.2.2;omega⟩
end
end Go.Proofs.YtbchkopkgpfkgaaGreat.Dd.Bd
namespace Go.Proofs.YtbchkopkgpfkgaaGreat.Dd.Bd
open Go Go.Vc
open Classical
variable{H:HV}{N:List Fk}{b:Nat}{i:Int}{nvs:List Value}
structure Dg where
 v:Int
 N:List Fk
 r:Int
theorem aEJ{a b:Dg}(h1:a.v=b.v)(h2:a.N=b.N)(h3:a.r=b.r):a=b:=by
 cases a;cases b;simp at h1 h2 h3;subst h1;subst h2;subst h3;rfl
abbrev dg(D:List Dg)(i:Int):Dg:=D.getD i.toNat ⟨0,[],0⟩
def dgc(nvs:List Value)(D:List Dg)(i:Nat):List Value:=[.int .i64 (dg D i).v,gv nvs i,.int .i64 (dg D i).r]
def anF(nvs:List Value)(D:List Dg):List Value:=(List.range D.length).flatMap (dgc nvs D)
theorem TU(f:Nat→List Value)(hf:∀i,(f i).length=3):∀n,((List.range n).flatMap f).length=n*3
 |0=>rfl
 |n+1=>by
  rw[sP,sV,dD,TU f hf n];simp[hf];omega
theorem asK(f:Nat→List Value)(hf:∀i,(f i).length=3):∀n i,i<n→(((List.range n).flatMap f).drop (i*3)).take 3=f i
 |0,i,h=>by omega
 |n+1,i,h=>by
  rw[sP,sV];have hl:=TU f hf n;by_cases e:i=n;subst e;rw[List.drop_append,EP aB,hl,ED];simp;exact lJ (by rw[hf];omega);rw[S5 aB,N4 HY];exact asK f hf n i aB
theorem JT{D:List Dg}(h0:0≤i)(h1:i<D.length):((anF nvs D).drop (i.toNat*3)).take 3=[.int .i64 (dg D i).v,gv nvs i,.int .i64 (dg D i).r]:=by
 have h:=asK (dgc nvs D) (λ_=>rfl) D.length i.toNat aB;unfold dgc at h;rw[show((i.toNat:Nat):Int)=i by omega]at h;exact h
theorem ac_{D:List Dg}{o:Nat}{u:Value}(h0:0≤i)(h1:i<D.length)(ho:o<3)(hu:[Value.int .i64 (dg D i).v,gv nvs i,.int .i64 (dg D i).r][o]? =some u):(anF nvs D)[i.toNat*3+o]? =some u:=by
 rw[←hu,←JT h0 h1,iH,aK ho,kO]
structure yG (H:HV) (v:Value) (nvs:List Value) (D:List Dg):Prop where
 sl:aR 3 H v D.length (anF nvs D)
 at_:∀i:Int,0≤i→i<D.length→eS H (gv nvs i) (dg D i).N
theorem yG.mono{H':HV}{v:Value}{D:List Dg}(h:yG H v nvs D)(s:Vc.bR H H'):yG H' v nvs D:=⟨h.sl.mono s,λi a b=>(h.at_ i a b).mono s⟩
theorem yG.one{v r:Int}{n:Value}(h:Cells H b [.int .i64 v,n,.int .i64 r])(hN:eS H n N):yG H (.slice (some ⟨b,0,none⟩) 1 1) [n] [⟨v,N,r⟩]:=
 ⟨mP h rfl (cV _) aB,λi h0 h1=>by
  have h1:i<1:=h1;have:i=0:=aB;subst this;exact hN⟩
theorem yG.two{v r v2 r2:Int}{n n2:Value}{N2:List Fk}(h:Cells H b [.int .i64 v,n,.int .i64 r,.int .i64 v2,n2,.int .i64 r2])(hN:eS H n N)(hN2:eS H n2 N2):
  yG H (.slice (some ⟨b,0,none⟩) 2 2) [n,n2] [⟨v,N,r⟩,⟨v2,N2,r2⟩]:=
 ⟨mP h rfl (cV _) aB,λi h0 h1=>by
  have h1:i<2:=h1;have:i=0∨i=1:=aB;rcases this with rfl|rfl
  exact hN;exact hN2⟩
def CV(d:Dg):Prop:=Ok d.v d.N d.r
def rN(D:List Dg):Prop:=∀i:Int,0≤i→i<D.length→CV (dg D i)
def xE(D:List Dg):Prop:=∀i:Int,0≤i→i<D.length→(dg D i).v=(dg D 0).v
def vE(D:List Dg):Int:=if rN D then if xE D then 0 else 2 else 1
theorem QX{D:List Dg}(h:¬rN D):vE D=1:=aC h
theorem ad2{D:List Dg}(h:rN D)(h2:¬xE D):vE D=2:=by unfold vE;rw[aK h,aC h2]
theorem CR{D:List Dg}(h:rN D)(h2:xE D):vE D=0:=by unfold vE;rw[aK h,aK h2]
theorem rF{D:List Dg}:vE D=0↔rN D∧xE D:=by
 refine⟨λh=> ?_,λh=>CR h.1 h.2⟩;by_cases h1:rN D;by_cases h2:xE D;exact⟨h1,h2⟩;rw[ad2 h1 h2]at h;omega;rw[QX h1]at h;omega
theorem YR{v r:Int}:rN [⟨v,N,r⟩]↔Ok v N r:=⟨λh=>h 0 aB QZ,λh i h0 h1=>by
 have h1:i<1:=h1;have:i=0:=aB;subst this;exact h⟩
theorem apW{v r:Int}:xE [⟨v,N,r⟩]:=λi h0 h1=>by
 have h1:i<1:=h1;have:i=0:=aB;subst this;rfl
end Go.Proofs.YtbchkopkgpfkgaaGreat.Dd.Bd
namespace Go.Proofs.YtbchkopkgpfkgaaGreat.Dd.Bd
open Go Go.Vc
open Classical
variable{M:List Fk}
def lR(M:List Fk):Fk→Option Int:=λn=>(fx n M).map λi:Nat=>2+(i:Int)
theorem alJ{n:Fk}(h:lR M n=none):cX (lR M) n (2+(M.length:Int))=lR (M++ [n]):=by
 funext q;have hn:fx n M=none:=by unfold lR at h;simpa using h
 unfold lR;rw[RF];by_cases e:q=n;subst e;rw[dG,hn];show _=Option.map _ (if q=q then some M.length else none);rw[aK rfl];rfl;rw[cP e];cases fx q M with
 |some i=>rfl
 |none=>show none=Option.map _ (if n=q then some M.length else none);rw[aC λz=>e z.symm];rfl
def lK(M:List Fk)(v l h:Int):List Fk×Int:=if l=h then(M,l)else match fx ⟨v,l,h⟩ M with
 |some i=>(M,2+(i:Int))
 |none=>(M++ [⟨v,l,h⟩],2+(M.length:Int))
theorem acR{v l h:Int}(e:l=h):lK M v l h=(M,l):=aK e
theorem aqD{v l h:Int}(e:l≠h)(i:(lR M ⟨v,l,h⟩).isSome=true):lK M v l h=(M,(lR M ⟨v,l,h⟩).getD 0):=by
 unfold lK;rw[aC e];unfold lR at*;cases q:fx ⟨v,l,h⟩ M with
 |none=>rw[q]at i;cases i
 |some k=>rfl
theorem apU{v l h:Int}(e:l≠h)(i:¬(lR M ⟨v,l,h⟩).isSome=true):lR M ⟨v,l,h⟩=none∧lK M v l h=(M++ [⟨v,l,h⟩],2+(M.length:Int)):=by
 unfold lK;rw[aC e];unfold lR at*;cases q:fx ⟨v,l,h⟩ M with
 |none=>exact⟨rfl,rfl⟩
 |some k=>rw[q]at i;exact bM rfl i
structure aA7 (vars:Int) (M:List Fk) (v l h:Int) (x:List Fk×Int):Prop where
 fm:Fm vars x.1
 ext:∃X,x.1=M++X∧X.length≤1
 rf:Rf x.1 x.2
 lv:v≤bY vars x.1 x.2
 vl:∀e,Proofs.YtbchkopkgpfkgaaGreat.Dd.Bd.vl x.1 e x.2=if e v then Proofs.YtbchkopkgpfkgaaGreat.Dd.Bd.vl M e h else Proofs.YtbchkopkgpfkgaaGreat.Dd.Bd.vl M e l
theorem Fm.snoc{vars v l h:Int}(f:Fm vars M)(hv:0≤v)(hv2:v<vars)(hl:Rf M l)(hh:Rf M h)(ll:v<bY vars M l)(lh:v<bY vars M h)(hne:l≠h)(hn:fx ⟨v,l,h⟩ M=none):Fm vars (M++ [⟨v,l,h⟩]):=by
 have hlen:(M++ [(⟨v,l,h⟩:Fk)]).length=M.length+1:=bK;have old:∀r:Int,2≤r→r<2+M.length→nd (M++ [⟨v,l,h⟩]) r=nd M r:=λr a b=>B6 a b;have lst:nd (M++ [⟨v,l,h⟩]) (2+(M.length:Int))=⟨v,l,h⟩:=QF;have sp:∀r:Int,2≤r→r<2+((M++ [(⟨v,l,h⟩:Fk)]).length:Int)→r<2+(M.length:Int)∨r=2+(M.length:Int):=λr a b=>by rw[hlen]at b;omega
 refine⟨λr a b=> ?_,λr a b=> ?_,λr a b=> ?_,λr a b=> ?_,λr s a b c d e=> ?_⟩;rcases sp r a b with q|rfl
 rw[old r a q];exact f.vr r a q;rw[lst];exact⟨hv,hv2⟩;rcases sp r a b with q|rfl
 rw[old r a q];exact f.ne r a q;rw[lst];exact hne;rcases sp r a b with q|rfl
 rw[old r a q,oT (by have:=(f.lo r a q).2.1;omega)];exact f.lo r a q;rw[lst];exact⟨hl.1,hl.2,by show v<_;rw[oT hl.2];exact ll⟩;rcases sp r a b with q|rfl
 rw[old r a q,oT (by have:=(f.hi r a q).2.1;omega)];exact f.hi r a q;rw[lst];exact⟨hh.1,hh.2,by show v<_;rw[oT hh.2];exact lh⟩;have key:∀r:Int,2≤r→r<2+(M.length:Int)→nd M r≠⟨v,l,h⟩:=λr a b q=>zA hn (r-2).toNat aB q;rcases sp r a b with q|rfl
 rcases sp s c d with q2|rfl
 rw[old r a q,old s c q2]at e;exact f.uq r s a q c q2 e;rw[old r a q,lst]at e;exact bM e (key r a q);rcases sp s c d with q2|rfl
 rw[lst,old s c q2]at e;exact bM e.symm (key s c q2);rfl
theorem zD{vars v l h:Int}(f:Fm vars M)(hv:0≤v)(hv2:v<vars)(hl:Rf M l)(hh:Rf M h)(ll:v<bY vars M l)(lh:v<bY vars M h):aA7 vars M v l h (lK M v l h):=by
 by_cases e:l=h;rw[acR e];subst e;exact⟨f,⟨[],bK,bK⟩,hl,by show v≤bY vars M l;omega,λe=>by show vl M e l=_;split<;>rfl⟩;unfold lK;rw[aC e];cases q:fx ⟨v,l,h⟩ M with
 |some i=>
  obtain⟨q1,q2,q3⟩:=rG q;have hi:nd M (2+(i:Int))=⟨v,l,h⟩:=by unfold nd;rw[show((2:Int)+i-2).toNat=i by omega];exact q2
  have hr:Rf M (2+(i:Int)):=⟨aB,aB⟩;refine⟨f,⟨[],bK,bK⟩,hr,?_,λe=> ?_⟩;show v≤bY vars M (2+(i:Int));rw[l5 aB,hi];exact eL _;show vl M e (2+(i:Int))=_;rw[o4 f aB hr.2,hi];show vl M e (if e v=true then h else l)=_;split<;>rfl
 |none=>
  have g:=f.snoc hv hv2 hl hh ll lh e q;have hlen:(M++ [(⟨v,l,h⟩:Fk)]).length=M.length+1:=bK;have hi:nd (M++ [⟨v,l,h⟩]) (2+(M.length:Int))=⟨v,l,h⟩:=QF;refine⟨g,⟨[⟨v,l,h⟩],rfl,bK⟩,⟨by show 0≤2+(M.length:Int);omega,by show 2+(M.length:Int)<2+((M++ [(⟨v,l,h⟩:Fk)]).length:Int);omega⟩,?_,λe=> ?_⟩;show v≤bY vars (M++ [⟨v,l,h⟩]) (2+(M.length:Int));rw[l5 aB,hi];exact eL _;show vl (M++ [⟨v,l,h⟩]) e (2+(M.length:Int))=_;rw[o4 g aB aB,hi];show vl _ e (if e v=true then h else l)=_;split;exact tK f g e h.toNat h hh aB;exact tK f g e l.toNat l hl aB
end Go.Proofs.YtbchkopkgpfkgaaGreat.Dd.Bd
namespace Go.Proofs.YtbchkopkgpfkgaaGreat.Dd.Bd
open Go Go.Vc
open Classical
def j7(Ds:List Dg)(k:fH):Prop:=∀i:Int,0≤i→i<3→Rf (dg Ds i).N (kg k i)∧(Ds.length≤i→kg k i=0)
def cU(vars:Int)(Ds:List Dg)(k:fH):Nat→Int
 |0=>vars
 |n+1=>if bY vars (dg Ds n).N (kg k n)<cU vars Ds k n then bY vars (dg Ds n).N (kg k n)else cU vars Ds k n
def cO(vars:Int)(Ds:List Dg)(k:fH):Int:=cU vars Ds k 3
def gF(Ds:List Dg)(F:Bool→Bool→Bool→Bool)(k:fH)(e:Int→Bool):Bool:=
 F (vl (dg Ds 0).N e (kg k 0)) (vl (dg Ds 1).N e (kg k 1)) (vl (dg Ds 2).N e (kg k 2))
structure gQ (vars:Int) (Ds:List Dg):Prop where
 v0:0≤vars
 v1:vars≤40
 le:Ds.length≤3
 fm:∀i:Int,0≤i→Fm vars (dg Ds i).N
theorem YP{Ds:List Dg}{i:Int}(h0:0≤i)(h:Ds.length≤i):dg Ds i=⟨0,[],0⟩:=by
 unfold dg;rw[bX,CD aB];rfl
theorem H4{vars:Int}:Fm vars [] where
 vr:=λr h0 h1=>by have h1:r<2+((0:Nat):Int):=h1;omega
 ne:=λr h0 h1=>by have h1:r<2+((0:Nat):Int):=h1;omega
 lo:=λr h0 h1=>by have h1:r<2+((0:Nat):Int):=h1;omega
 hi:=λr h0 h1=>by have h1:r<2+((0:Nat):Int):=h1;omega
 uq:=λr s h0 h1=>by have h1:r<2+((0:Nat):Int):=h1;omega
section
variable {vars:Int} {Ds:List Dg} {k:fH} {F:Bool→Bool→Bool→Bool}
theorem I8(n:Nat):cU vars Ds k n≤vars:=by
 induction n with
 |zero=>exact eL _
 |succ n ih=>
  show(if bY vars (dg Ds n).N (kg k n)<cU vars Ds k n then bY vars (dg Ds n).N (kg k n)else cU vars Ds k n)≤vars;split<;>omega
theorem YG{n i:Nat}(h:i<n):cU vars Ds k n≤bY vars (dg Ds i).N (kg k i):=by
 induction n with
 |zero=>omega
 |succ n ih=>
  show(if bY vars (dg Ds n).N (kg k n)<cU vars Ds k n then bY vars (dg Ds n).N (kg k n)else cU vars Ds k n)≤_;by_cases e:i=n;subst e;split<;>omega;have:=ih aB;split<;>omega
theorem HO(d:gQ vars Ds)(h:j7 Ds k):∀n:Nat,n≤3→0≤cU vars Ds k n
 |0,_=>d.v0
 |n+1,hn=>by
  have a:=HO d h n aB;have b:=(d.fm n aB).lev_nn d.v0 (h n aB aB).1;show 0≤if bY vars (dg Ds n).N (kg k n)<cU vars Ds k n then bY vars (dg Ds n).N (kg k n)else cU vars Ds k n
  split<;>omega
theorem I4:∀n:Nat,cU vars Ds k n=vars∨∃i,i<n∧cU vars Ds k n=bY vars (dg Ds i).N (kg k i)
 |0=>Or.inl rfl
 |n+1=>by
  show(if bY vars (dg Ds n).N (kg k n)<cU vars Ds k n then bY vars (dg Ds n).N (kg k n)else cU vars Ds k n)=vars∨∃i,i<n+1∧(if bY vars (dg Ds n).N (kg k n)<cU vars Ds k n then bY vars (dg Ds n).N (kg k n)else cU vars Ds k n)=_;by_cases q:bY vars (dg Ds n).N (kg k n)<cU vars Ds k n;rw[aK q];exact Or.inr ⟨n,aB,rfl⟩;rw[aC q];rcases I4 n with e|⟨i,hi,e⟩
  exact Or.inl e;exact Or.inr ⟨i,aB,e⟩
theorem RI(h:j7 Ds k){n:Nat}(h1:n≤3)(h2:Ds.length≤n):cU vars Ds k n=cO vars Ds k:=by
 have key:∀m:Nat,Ds.length≤m→m<3→cU vars Ds k (m+1)=cU vars Ds k m:=λm a b=>by
  have e:=(h m aB aB).2 aB;have l:bY vars (dg Ds m).N (kg k m)=vars:=by rw[e];exact iK aB
  have t:=I8 (vars:=vars) (Ds:=Ds) (k:=k) m;show(if bY vars (dg Ds m).N (kg k m)<cU vars Ds k m then bY vars (dg Ds m).N (kg k m)else cU vars Ds k m)=_;rw[l,aC aB]
 unfold cO;by_cases e3:n=3;rw[e3];rw[key 2 aB aB];by_cases e2:n=2;rw[e2];rw[key 1 aB aB];by_cases e1:n=1;rw[e1];rw[key 0 aB aB,show n=0 by omega]
theorem AS{i:Int}(h0:0≤i)(h1:i<3):cO vars Ds k≤bY vars (dg Ds i).N (kg k i):=by
 have:=YG (vars:=vars) (Ds:=Ds) (k:=k) (n:=3) (i:=i.toNat) aB;rwa[show((i.toNat:Nat):Int)=i by omega]at this
theorem jO(d:gQ vars Ds)(h:j7 Ds k):0≤cO vars Ds k∧cO vars Ds k≤vars:=⟨HO d h 3 aB,I8 3⟩
def bt(Ds:List Dg)(k:fH)(n j:Nat):Prop:=j<n∧kg k j=1
def btL(Ds:List Dg)(k:fH)(n:Nat):List Value:=[.bool (decide (bt Ds k n 0)),.bool (decide (bt Ds k n 1)),.bool (decide (bt Ds k n 2))]
theorem aGx:btL Ds k 0=[.bool false,.bool false,.bool false]:=by
 have h:∀j,¬bt Ds k 0 j:=λj q=>by have:=q.1;omega
 unfold btL;rw[decide_eq_false (h 0),decide_eq_false (h 1),decide_eq_false (h 2)]
theorem ax8{n j:Nat}(h:j≠n):bt Ds k (n+1) j↔bt Ds k n j:=⟨λq=>⟨by have:=q.1;omega,q.2⟩,λq=>⟨by have:=q.1;omega,q.2⟩⟩
theorem aDh{n:Nat}:bt Ds k (n+1) n↔kg k n=1:=⟨λq=>q.2,λq=>⟨aB,q⟩⟩
theorem aoT{i:Int}(h0:0≤i)(h1:i<3):(btL Ds k i.toNat).set (0+i.toNat) (.bool (decide (gi [k.1,k.2.1,k.2.2] i=1)))=btL Ds k (i+1).toNat:=by
 have hi:i=0∨i=1∨i=2:=aB;have key:∀n:Nat,(decide (bt Ds k (n+1) n))=decide (kg k n=1):=λn=>decide_eq_decide.2 aDh;have oth:∀n j:Nat,j≠n→(decide (bt Ds k (n+1) j))=decide (bt Ds k n j):=λn j h=>decide_eq_decide.2 (ax8 h);rcases hi with rfl|rfl|rfl
 show [_,_,_]=[Value.bool (decide (bt Ds k (0+1) 0)),Value.bool (decide (bt Ds k (0+1) 1)),Value.bool (decide (bt Ds k (0+1) 2))];rw[key 0,oth 0 1 aB,oth 0 2 aB];rfl;show [_,_,_]=[Value.bool (decide (bt Ds k (1+1) 0)),Value.bool (decide (bt Ds k (1+1) 1)),Value.bool (decide (bt Ds k (1+1) 2))];rw[key 1,oth 1 0 aB,oth 1 2 aB];rfl;show [_,_,_]=[Value.bool (decide (bt Ds k (2+1) 0)),Value.bool (decide (bt Ds k (2+1) 1)),Value.bool (decide (bt Ds k (2+1) 2))];rw[key 2,oth 2 0 aB,oth 2 1 aB];rfl
theorem F8(d:gQ vars Ds)(h:j7 Ds k)(ht:cO vars Ds k=vars){n:Nat}(h2:Ds.length≤n)(e:Int→Bool){j:Nat}(hj:j<3):decide (bt Ds k n j)=vl (dg Ds j).N e (kg k j):=by
 have hk:=h j aB aB;have hlt:kg k j<2:=(d.fm j aB).lev_node_lt hk.1 (by have:=AS (vars:=vars) (Ds:=Ds) (k:=k) (i:=j) aB aB;have:=(d.fm j aB).lev_le hk.1;omega);rw[fN hlt];refine decide_eq_decide.2 ⟨λq=>q.2,λq=>⟨?_,q⟩⟩;refine kB λz=> ?_;have:=hk.2 aB;omega
theorem F3(d:gQ vars Ds)(h:j7 Ds k)(ht:cO vars Ds k=vars){n:Nat}(h2:Ds.length≤n)(e:Int→Bool):F (decide (bt Ds k n 0)) (decide (bt Ds k n 1)) (decide (bt Ds k n 2))=gF Ds F k e:=by
 unfold gF;rw[F8 d h ht h2 e (j:=0) aB,F8 d h ht h2 e (j:=1) aB,F8 d h ht h2 e (j:=2) aB];rfl
def lw(vars:Int)(Ds:List Dg)(k:fH)(tp:Int)(hi:Prop)(n j:Nat):Int:=if j<n then pG vars (dg Ds j).N (kg k j) tp hi else kg k j
def HA(vars:Int)(Ds:List Dg)(k:fH)(tp:Int)(hi:Prop)(n:Nat):fH:=(lw vars Ds k tp hi n 0,lw vars Ds k tp hi n 1,lw vars Ds k tp hi n 2)
theorem aoM{tp:Int}{hi:Prop}{j:Nat}:lw vars Ds k tp hi 0 j=kg k j:=aC aB
theorem kY{tp:Int}{hi:Prop}{n j:Nat}(h:j≠n):lw vars Ds k tp hi (n+1) j=lw vars Ds k tp hi n j:=by
 unfold lw;by_cases q:j<n;rw[aK q,aK aB];rw[aC q,aC aB]
theorem zV{tp:Int}{hi:Prop}{n:Nat}:lw vars Ds k tp hi (n+1) n=pG vars (dg Ds n).N (kg k n) tp hi:=aK aB
theorem AX{tp:Int}{hi:Prop}{i:Int}(h0:0≤i)(h1:i<3):(pI (HA vars Ds k tp hi i.toNat)).set (0+i.toNat) (.int .i64 (pG vars (dg Ds i).N (gi [k.1,k.2.1,k.2.2] i) tp hi))=pI (HA vars Ds k tp hi (i+1).toNat):=by
 have hi':i=0∨i=1∨i=2:=aB;rcases hi' with rfl|rfl|rfl
 show [_,_,_]=pI (lw vars Ds k tp hi (0+1) 0,lw vars Ds k tp hi (0+1) 1,lw vars Ds k tp hi (0+1) 2);rw[zV,kY (j:=1) aB,kY (j:=2) aB];rfl;show [_,_,_]=pI (lw vars Ds k tp hi (1+1) 0,lw vars Ds k tp hi (1+1) 1,lw vars Ds k tp hi (1+1) 2);rw[zV,kY (j:=0) aB,kY (j:=2) aB];rfl;show [_,_,_]=pI (lw vars Ds k tp hi (2+1) 0,lw vars Ds k tp hi (2+1) 1,lw vars Ds k tp hi (2+1) 2);rw[zV,kY (j:=0) aB,kY (j:=1) aB];rfl
def fM(vars:Int)(Ds:List Dg)(k:fH)(hi:Prop):fH:=HA vars Ds k (cO vars Ds k) hi Ds.length
theorem XL{N':List Fk}(f:Fm vars N'){r x:Int}{hi:Prop}(h:Rf N' r)(hx:x<vars)(hl:x≤bY vars N' r):Rf N' (pG vars N' r x hi)∧x<bY vars N' (pG vars N' r x hi):=by
 by_cases q:bY vars N' r=x;have h2:2≤r:=by
  refine kB λz=> ?_;rw[iK aB]at q;omega
 have q2:=q;rw[l5 aB]at q2;have a:=f.lo r h2 h.2;have b:=f.hi r h2 h.2;have h3:=h.2;by_cases p:hi;rw[agZ q p];exact⟨⟨b.1,aB⟩,aB⟩;rw[aiD q p];exact⟨⟨a.1,aB⟩,aB⟩;rw[af3 q];exact⟨h,aB⟩
theorem Z3{N':List Fk}(f:Fm vars N'){r x:Int}{hi:Prop}(h:Rf N' r)(hx:x<vars)(e:Int→Bool)(he:e x=true↔hi):vl N' e (pG vars N' r x hi)=vl N' e r:=by
 by_cases q:bY vars N' r=x;have h2:2≤r:=by
  refine kB λz=> ?_;rw[iK aB]at q;omega
 have q2:=q;rw[l5 aB]at q2;rw[o4 f h2 h.2 (r:=r),q2];by_cases p:hi;rw[agZ q p,aK (he.2 p)];rw[aiD q p,aC λz=>p (he.1 z)];rw[af3 q]
theorem PC{hi:Prop}{i:Nat}(h1:i<3):kg (fM vars Ds k hi) i=if i<Ds.length then pG vars (dg Ds i).N (kg k i) (cO vars Ds k) hi else kg k i:=by
 have:i=0∨i=1∨i=2:=aB;rcases this with rfl|rfl|rfl<;>rfl
theorem sM(d:gQ vars Ds)(h:j7 Ds k)(ht:cO vars Ds k<vars)(hi:Prop):j7 Ds (fM vars Ds k hi)∧cO vars Ds k<cO vars Ds (fM vars Ds k hi):=by
 have each:∀i:Nat,i<3→Rf (dg Ds i).N (kg (fM vars Ds k hi) i)∧(Ds.length≤i→kg (fM vars Ds k hi) i=0)∧cO vars Ds k<bY vars (dg Ds i).N (kg (fM vars Ds k hi) i):=λi hi3=>by
  have hk:=h i aB aB;rw[PC hi3];by_cases q:i<Ds.length;rw[aK q];have:=XL (d.fm i aB) (hi:=hi) hk.1 ht (AS aB aB);exact⟨this.1,λz=>aB,this.2⟩;rw[aC q];have e:=hk.2 aB;refine⟨hk.1,λz=>hk.2 aB,?_⟩;rw[e,iK aB];exact ht
 refine⟨λi h0 h1=> ?_,?_⟩;have:=each i.toNat aB;rw[show((i.toNat:Nat):Int)=i by omega]at this;exact⟨this.1,λz=>this.2.1 aB⟩;rcases I4 (vars:=vars) (Ds:=Ds) (k:=fM vars Ds k hi) 3 with e|⟨i,h3,e⟩
 unfold cO at ht⊢;rw[e];exact ht;have:=(each i h3).2.2;show _<cU vars Ds (fM vars Ds k hi) 3;rw[e];exact this
theorem JW(d:gQ vars Ds)(h:j7 Ds k)(ht:cO vars Ds k<vars){hi:Prop}{e:Int→Bool}(he:e (cO vars Ds k)=true↔hi):gF Ds F (fM vars Ds k hi) e=gF Ds F k e:=by
 have each:∀i:Nat,i<3→vl (dg Ds i).N e (kg (fM vars Ds k hi) i)=vl (dg Ds i).N e (kg k i):=λi hi3=>by
  have hk:=h i aB aB;rw[PC hi3];by_cases q:i<Ds.length;rw[aK q];exact Z3 (d.fm i aB) hk.1 ht e he;rw[aC q]
 unfold gF;have e0:vl (dg Ds 0).N e (kg (fM vars Ds k hi) 0)=vl (dg Ds 0).N e (kg k 0):=each 0 aB;have e1:vl (dg Ds 1).N e (kg (fM vars Ds k hi) 1)=vl (dg Ds 1).N e (kg k 1):=each 1 aB;have e2:vl (dg Ds 2).N e (kg (fM vars Ds k hi) 2)=vl (dg Ds 2).N e (kg k 2):=each 2 aB;rw[e0,e1,e2]
end
structure Std (vars:Int) (Ds:List Dg) (F:Bool→Bool→Bool→Bool) (M:List Fk) (k:fH) (p:Int):Prop where
 rf:Rf M p
 lv:cO vars Ds k≤bY vars M p
 val:∀e,vl M e p=gF Ds F k e
structure kG (vars:Int) (Ds:List Dg) (F:Bool→Bool→Bool→Bool) (M:List Fk) (Dn:fH→Option Int):Prop where
 fm:Fm vars M
 dn:∀k p,Dn k=some p→j7 Ds k→Std vars Ds F M k p
structure xC (vars:Int) (Ds:List Dg) (F:Bool→Bool→Bool→Bool) (k:fH) (M M':List Fk) (Dn':fH→Option Int) (p:Int):Prop where
 inv:kG vars Ds F M' Dn'
 ext:∃X,M'=M++X
 std:Std vars Ds F M' k p
 len:M'.length+1≤M.length+2^(vars-cO vars Ds k).toNat
section
variable {vars:Int} {Ds:List Dg} {k:fH} {F:Bool→Bool→Bool→Bool} {M:List Fk} {Dn:fH→Option Int}
theorem Std.up{X:List Fk}{p:Int}(s:Std vars Ds F M k p)(f:Fm vars M)(g:Fm vars (M++X)):Std vars Ds F (M++X) k p where
 rf:=⟨s.rf.1,by have:=s.rf.2;rw[dD];omega⟩
 lv:=by rw[oT s.rf.2];exact s.lv
 val:=λe=>by rw[tK f g e p.toNat p s.rf aB];exact s.val e
theorem kG.up{X:List Fk}(c:kG vars Ds F M Dn)(g:Fm vars (M++X)):kG vars Ds F (M++X) Dn:=⟨g,λk p h hk=>(c.dn k p h hk).up c.fm g⟩
theorem kG.set{p:Int}(c:kG vars Ds F M Dn)(s:Std vars Ds F M k p):kG vars Ds F M (cX Dn k p):=⟨c.fm,λq r h hk=>by
 by_cases e:q=k;subst e;rw[dG]at h;cases h;exact s;rw[cP e]at h;exact c.dn q r h hk⟩
theorem awU:kG vars Ds F [] (λ_=>none):=⟨H4,λ_ _ h=>by cases h⟩
theorem LD{p:Int}(c:kG vars Ds F M Dn)(hk:j7 Ds k)(h:Dn k=some p):xC vars Ds F k M M Dn p:=
 ⟨c,⟨[],bK⟩,c.dn k p h hk,by have:=eR (vars-cO vars Ds k).toNat;omega⟩
theorem B2(c:kG vars Ds F M Dn)(d:gQ vars Ds)(hk:j7 Ds k)(ht:cO vars Ds k=vars){n:Nat}(h2:Ds.length≤n){p:Int}
  (hp:p=if F (decide (bt Ds k n 0)) (decide (bt Ds k n 1)) (decide (bt Ds k n 2))=true then 1 else 0):xC vars Ds F k M M (cX Dn k p) p:=by
 have h01:0≤p∧p<2:=by rw[hp];split<;>omega
 have s:Std vars Ds F M k p:=⟨⟨h01.1,aB⟩,by rw[iK h01.2];omega,λe=>by
  rw[fN h01.2,←F3 d hk ht h2 e,hp];cases F (decide (bt Ds k n 0)) (decide (bt Ds k n 1)) (decide (bt Ds k n 2))<;>rfl⟩
 exact⟨c.set s,⟨[],bK⟩,s,by have:=eR (vars-cO vars Ds k).toNat;omega⟩
theorem IV{M1 M2:List Fk}{D1 D2:fH→Option Int}{p1 p2:Int}{x:List Fk×Int}(d:gQ vars Ds)(hk:j7 Ds k)(ht:cO vars Ds k<vars)
  (A:xC vars Ds F (fM vars Ds k False) M M1 D1 p1) (B:xC vars Ds F (fM vars Ds k True) M1 M2 D2 p2) (hx:x=lK M2 (cO vars Ds k) p1 p2):xC vars Ds F k M x.1 (cX D2 k x.2) x.2:=by
 obtain⟨X1,e1⟩:=A.ext;obtain⟨X2,e2⟩:=B.ext;have l1:=sM d hk ht False;have l2:=sM d hk ht True;have mb:=jO d hk;have g2:Fm vars (M1++X2):=e2▸B.inv.fm;have s1:Std vars Ds F M2 (fM vars Ds k False) p1:=by rw[e2];exact A.std.up A.inv.fm g2
 have n:=zD B.inv.fm mb.1 ht s1.rf B.std.rf (by have:=s1.lv;omega) (by have:=B.std.lv;omega);rw[←hx]at n;obtain⟨X3,e3,l3⟩:=n.ext;have g3:Fm vars (M2++X3):=e3▸n.fm;have s:Std vars Ds F x.1 k x.2:=⟨n.rf,n.lv,λe=>by
  rw[n.vl e];by_cases q:e (cO vars Ds k)=true
  ·rw[aK q,B.std.val e,JW d hk ht (by simp[q])]
  ·rw[aC q,s1.val e,JW d hk ht (by simp[q])]⟩
 refine⟨?_,⟨X1++X2++X3,by rw[e3,e2,e1];simp⟩,s,?_⟩
 ·have:=B.inv.up g3
  rw[←e3]at this;exact this.set s
 ·have a:=A.len
  have b:=B.len;have w:x.1.length≤M2.length+1:=by rw[e3,dD];omega
  have m1:2^(vars-cO vars Ds (fM vars Ds k False)).toNat≤2^((vars-cO vars Ds k).toNat-1):=oB aB (by have:=(jO d l1.1);omega);have m2:2^(vars-cO vars Ds (fM vars Ds k True)).toNat≤2^((vars-cO vars Ds k).toNat-1):=oB aB (by have:=(jO d l2.1);omega);have m3:2^(vars-cO vars Ds k).toNat=2^((vars-cO vars Ds k).toNat-1)+2^((vars-cO vars Ds k).toNat-1):=by
   conv=>lhs;rw[show(vars-cO vars Ds k).toNat=((vars-cO vars Ds k).toNat-1)+1 by omega]
   rw[qE];omega
  omega
theorem xC.small{M':List Fk}{Dn':fH→Option Int}{p:Int}(c:xC vars Ds F k M M' Dn' p)(d:gQ vars Ds)(hk:j7 Ds k):M'.length+1≤M.length+1099511627776:=by
 have:=c.len;have mb:=jO d hk;have h1:=d.v1;have:2^(vars-cO vars Ds k).toNat≤2^40:=oB aB aB;omega
theorem MQ{i:Int}(h0:0≤i):cU vars Ds k (i+1).toNat=if bY vars (dg Ds i).N (kg k i)<cU vars Ds k i.toNat then bY vars (dg Ds i).N (kg k i)else cU vars Ds k i.toNat:=by
 rw[show(i+1).toNat=i.toNat+1 by omega];show(if bY vars (dg Ds (i.toNat:Int)).N (kg k (i.toNat:Int))<_ then bY vars (dg Ds (i.toNat:Int)).N (kg k (i.toNat:Int))else _)=_;rw[show((i.toNat:Nat):Int)=i by omega]
theorem IR(d:gQ vars Ds)(hk:j7 Ds k)(ht:cO vars Ds k<vars)(hi:Prop):2^(vars-cO vars Ds (fM vars Ds k hi)).toNat+2^(vars-cO vars Ds (fM vars Ds k hi)).toNat≤2^(vars-cO vars Ds k).toNat:=by
 have l1:=sM d hk ht hi;have b:=jO d l1.1;have m1:2^(vars-cO vars Ds (fM vars Ds k hi)).toNat≤2^((vars-cO vars Ds k).toNat-1):=oB aB aB;have m3:2^(vars-cO vars Ds k).toNat=2^((vars-cO vars Ds k).toNat-1)+2^((vars-cO vars Ds k).toNat-1):=by
  conv=>lhs;rw[show(vars-cO vars Ds k).toNat=((vars-cO vars Ds k).toNat-1)+1 by omega]
  rw[qE];omega
 omega
end
end Go.Proofs.YtbchkopkgpfkgaaGreat.Dd.Bd
namespace Go.Proofs.YtbchkopkgpfkgaaGreat.Dd.Bd
open Go Go.Vc
open Classical
variable{Ds:List Dg}{F:Bool→Bool→Bool→Bool}{M:List Fk}{i vars:Int}
def cF(vars:Int)(g:(Int→Bool)→Bool):List Fk×Int:=cK vars.toNat [] 0 (dF g vars.toNat 0 (λ_=>false))
theorem VQ{p:Int}(f:Fm vars M)(h:Rf M p)(hv:0≤vars):CS M p=cF vars (λe=>vl M e p):=by
 have:=nR f vars.toNat 0 p ([],jQ) (λ_=>false) (p.toNat+1) (VS M) h aB (f.lev_nn hv h) (by have:=h.1;omega);exact this.symm
theorem ak0(vars:Int)(g:(Int→Bool)→Bool):(cF vars g).1.length+1≤2^vars.toNat:=by
 have:=(vL vars.toNat [] 0 (dF g vars.toNat 0 (λ_=>false))).2;have e:([]:List Fk).length=0:=rfl;unfold cF;omega
abbrev rt(Ds:List Dg):fH:=((dg Ds 0).r,(dg Ds 1).r,(dg Ds 2).r)
def rn(Ds:List Dg)(n j:Nat):Int:=if j<n then(dg Ds j).r else 0
def KV(Ds:List Dg)(n:Nat):fH:=(rn Ds n 0,rn Ds n 1,rn Ds n 2)
theorem aqH{j:Nat}:rn Ds 0 j=0:=aC aB
theorem kW{n j:Nat}(h:j≠n):rn Ds (n+1) j=rn Ds n j:=by
 unfold rn;by_cases q:j<n;rw[aK q,aK aB];rw[aC q,aC aB]
theorem AL{n:Nat}:rn Ds (n+1) n=(dg Ds n).r:=aK aB
theorem MD(h0:0≤i)(h1:i<3):(pI (KV Ds i.toNat)).set (0+i.toNat) (.int .i64 (dg Ds i).r)=pI (KV Ds (i+1).toNat):=by
 have hi':i=0∨i=1∨i=2:=aB;rcases hi' with rfl|rfl|rfl
 show [_,_,_]=pI (rn Ds (0+1) 0,rn Ds (0+1) 1,rn Ds (0+1) 2);rw[AL,kW (j:=1) aB,kW (j:=2) aB];rfl;show [_,_,_]=pI (rn Ds (1+1) 0,rn Ds (1+1) 1,rn Ds (1+1) 2);rw[AL,kW (j:=0) aB,kW (j:=2) aB];rfl;show [_,_,_]=pI (rn Ds (2+1) 0,rn Ds (2+1) 1,rn Ds (2+1) 2);rw[AL,kW (j:=0) aB,kW (j:=1) aB];rfl
theorem PT{n:Nat}(h:Ds.length≤n):KV Ds n=rt Ds:=by
 have key:∀j:Nat,rn Ds n j=(dg Ds j).r:=λj=>by
  unfold rn;by_cases q:j<n;rw[aK q];rw[aC q,YP aB aB]
 unfold KV;rw[key 0,key 1,key 2];rfl
def IF(Ds:List Dg):Prop:=∀i:Int,0≤i→i<Ds.length→Rf (dg Ds i).N (dg Ds i).r
theorem ahA(h0:0≤i)(h1:i<3):kg (rt Ds) i=(dg Ds i).r:=by
 have:i=0∨i=1∨i=2:=aB;rcases this with rfl|rfl|rfl<;>rfl
theorem VO(h:IF Ds):j7 Ds (rt Ds):=λi h0 h1=>by
 rw[ahA h0 h1];by_cases q:i<Ds.length;exact⟨h i h0 q,λz=>aB⟩;rw[YP h0 aB];exact⟨⟨eL _,by show(0:Int)<2+((0:Nat):Int);omega⟩,λ_=>rfl⟩
theorem MJ{k:fH}(d:gQ vars Ds)(hk:j7 Ds k):2^(vars-cO vars Ds k).toNat≤1099511627776:=by
 have mb:=jO d hk;have h1:=d.v1;have:2^(vars-cO vars Ds k).toNat≤2^40:=oB aB aB;omega
def TM(vars:Int)(Ds:List Dg)(F:Bool→Bool→Bool→Bool):List Fk×Int:=cF vars (gF Ds F (rt Ds))
theorem azB{p:Int}(f:Fm vars M)(s:Std vars Ds F M (rt Ds) p)(hv:0≤vars):CS M p=TM vars Ds F:=by
 rw[VQ f s.rf hv];unfold TM;rw[show(λe=>vl M e p)=gF Ds F (rt Ds)from funext s.val]
end Go.Proofs.YtbchkopkgpfkgaaGreat.Dd.Bd
namespace Go.Proofs.YtbchkopkgpfkgaaGreat.Dd.Bd
open Go Go.Vc
open Classical
variable{Ds:List Dg}{F:Bool→Bool→Bool→Bool}{p:Prop}{vars:Int}
section
variable {P:Program} {C:Cx} {env:cR} {V:HV} {σ:aY} {dst:Option Nat} {x y:Operand} {t T T':TypeId} {pos:String} {af:Array Edge} {g:Option (Nat×Bool)} {m n:Int} {k2:IntKind}
end
def mE(op:Int)(a b _c:Bool):Bool:=decide (op/2^(((if a then 2 else 0)+(if b then 1 else 0):Nat))%2=1)
def PM(a _b _c:Bool):Bool:= !a
def aDZ(a b c:Bool):Bool:=if a then b else c
def dgv(u:Value)(d:Dg):Value:=.agg #[.int .i64 d.v,u,.int .i64 d.r]
def C2:Dg:=⟨0,[],0⟩
def RD(D:Dg)(E:Int)(v:Value)(V':HV)(σ':aY):Prop:=σ'=[]∧∃u',v= .tuple #[dgv u' D,.int .i64 E]∧eS V' u' D.N
def RB(D:Dg)(v:Value)(V':HV)(σ':aY):Prop:=σ'=[]∧∃u',v=dgv u' D∧eS V' u' D.N
def q7(op:Int)(A B:Dg):Int:=if vE [A,B]≠0 then vE [A,B]else if op<0∨15<op then 3 else 0
def cmD(vars:Int)(Ds:List Dg)(F:Bool→Bool→Bool→Bool):Dg:=⟨vars,(TM vars Ds F).1,(TM vars Ds F).2⟩
def yE(op:Int)(A B:Dg):Dg:=if q7 op A B=0 then cmD A.v [A,B] (mE op)else C2
theorem aG3{op:Int}{A B:Dg}(h:vE [A,B]≠0):q7 op A B=vE [A,B]∧yE op A B=C2:=by
 have e:q7 op A B=vE [A,B]:=by unfold q7;rw[aK h]
 exact⟨e,by unfold yE;rw[aC (by rw[e];exact h)]⟩
theorem awC{op:Int}{A B:Dg}(h:vE [A,B]=0)(h2:op<0∨15<op):q7 op A B=3∧yE op A B=C2:=by
 have e:q7 op A B=3:=by unfold q7;rw[aC aB,aK h2]
 exact⟨e,by unfold yE;rw[aC aB]⟩
theorem ahF{op:Int}{A B:Dg}(h:vE [A,B]=0)(h2:¬(op<0∨15<op)):q7 op A B=0∧yE op A B=cmD A.v [A,B] (mE op):=by
 have e:q7 op A B=0:=by unfold q7;rw[aC aB,aC h2]
 exact⟨e,by unfold yE;rw[aK e]⟩
structure SW (vars:Int) (Ds:List Dg):Prop where
 ok:gQ vars Ds
 v:∀i:Int,0≤i→i<Ds.length→(dg Ds i).v=vars
 r:IF Ds
theorem CZ(h1:1≤Ds.length)(h3:Ds.length≤3)(h:vE Ds=0):SW (dg Ds 0).v Ds:=by
 obtain⟨hv,hs⟩:=rF.1 h;have h0:=hv 0 (eL _) aB;refine⟨⟨h0.1.1,h0.1.2,h3,λi hi=> ?_⟩,hs,λi hi hl=> ?_⟩;by_cases q:i<Ds.length;have:=(hv i hi q).2.2.1.1;rw[hs i hi q]at this;exact this;rw[YP hi aB];exact H4;exact(hv i hi hl).2.2.1.rf
theorem T4(h:vars≤12):(TM vars Ds F).1.length≤4096:=by
 have:=ak0 vars (gF Ds F (rt Ds));have h2:2^vars.toNat≤2^12:=oB aB aB;unfold TM;omega
def cbD(Ds:List Dg)(F:Bool→Bool→Bool→Bool):Dg:=if vE Ds=0 then cmD (dg Ds 0).v Ds F else C2
theorem au7(h:vE Ds=0):cbD Ds F=cmD (dg Ds 0).v Ds F:=aK h
theorem aHk(h:vE Ds≠0):cbD Ds F=C2:=aC h
def FX(vars:Int):Int:=if vars<0∨40<vars then 3 else 0
def HK(vars:Int)(p:Prop):Dg:=if vars<0∨40<vars then C2 else⟨vars,[],if p then 1 else 0⟩
def vaE(vars i:Int):Int:=if vars<0∨40<vars∨i<0∨vars≤i then 3 else 0
def vaD(vars i:Int):Dg:=if vars<0∨40<vars∨i<0∨vars≤i then C2 else⟨vars,[⟨i,0,1⟩],2⟩
theorem HX(h:vars<0∨40<vars):FX vars=3∧HK vars p=C2:=⟨aK h,aK h⟩
theorem CO(h:¬(vars<0∨40<vars)):FX vars=0∧HK vars p=⟨vars,[],if p then 1 else 0⟩:=⟨aC h,aC h⟩
theorem agT{i:Int}(h:vars<0∨40<vars∨i<0∨vars≤i):vaE vars i=3∧vaD vars i=C2:=⟨aK h,aK h⟩
theorem aEH{i:Int}(h:¬(vars<0∨40<vars∨i<0∨vars≤i)):vaE vars i=0∧vaD vars i=⟨vars,[⟨i,0,1⟩],2⟩:=⟨aC h,aC h⟩
end Go.Proofs.YtbchkopkgpfkgaaGreat.Dd.Bd
namespace Go.Proofs.YtbchkopkgpfkgaaGreat.Dd.Bd
open Go Go.Vc
open Classical
structure Rs (vars:Int) (N:List Fk) (i:Int) (b:Bool) (M:List Fk) (r p:Int):Prop where
 rf:Rf M p
 lv:bY vars N r≤bY vars M p
 val:∀e,vl M e p=vl N (up e i b) r
structure lI (vars:Int) (N:List Fk) (i:Int) (b:Bool) (M:List Fk) (Dn:Int→Option Int):Prop where
 fm:Fm vars M
 z:Dn 0=some 0
 o:Dn 1=some 1
 dn:∀r p,Dn r=some p→Rf N r→Rs vars N i b M r p
structure ROk (vars:Int) (N:List Fk) (i:Int) (b:Bool) (r:Int) (M M':List Fk) (Dn':Int→Option Int) (p:Int):Prop where
 inv:lI vars N i b M' Dn'
 ext:∃X,M'=M++X
 std:Rs vars N i b M' r p
 len:M'.length+1≤M.length+2^(vars-bY vars N r).toNat
section
variable {vars:Int} {N:List Fk} {i:Int} {b:Bool} {M:List Fk} {Dn:Int→Option Int} {r:Int}
theorem at6:lI vars N i b [] jQ:=⟨H4,NZ,FC,λr p h _=>by
 obtain⟨rfl,h⟩:=nI h;exact⟨⟨aB,by show p<2+((0:Nat):Int);omega⟩,by rw[iK aB,iK aB];exact eL _,λe=>by rw[fN aB,fN aB]⟩⟩
theorem PX{e:Int→Bool}{v:Int}:up e v b v=b:=aK rfl
end
end Go.Proofs.YtbchkopkgpfkgaaGreat.Dd.Bd
namespace Go.Proofs.YtbchkopkgpfkgaaGreat.Dd.Bd
open Go Go.Vc
open Classical
variable{vars:Int}
theorem F4{m:Nat}{O:List Fk}{v:Int}{t1 t2:List Bool}(h1:t1.length=2^m):cK (m+1) O v (t1++t2)=lK (cK m (cK m O (v+1) t1).1 (v+1) t2).1 v (cK m O (v+1) t1).2 (cK m (cK m O (v+1) t1).1 (v+1) t2).2:=by
 rw[oO h1 (A:=(cK m O (v+1) t1).1) (a:=(cK m O (v+1) t1).2) rfl (B:=(cK m (cK m O (v+1) t1).1 (v+1) t2).1) (b:=(cK m (cK m O (v+1) t1).1 (v+1) t2).2) rfl];unfold lK;by_cases e:(cK m O (v+1) t1).2=(cK m (cK m O (v+1) t1).1 (v+1) t2).2;first|rw[aK e,aK e]|rw[aK e]
 first|(rw[aC e,aC e];done)|(rw[aC e];done)|(rw[aC e,aC e];rfl)|(rw[aC e];rfl)
structure OV (vars:Int) (O:List Fk) (m:Nat) (v:Int) (t:List Bool) (x:List Fk×Int):Prop where
 fm:Fm vars x.1
 ext:∃X,x.1=O++X
 rf:Rf x.1 x.2
 lv:v≤bY vars x.1 x.2
 tb:∀e,dF (λe=>vl x.1 e x.2) m v e=t
theorem B0:∀(m:Nat) (O:List Fk) (v:Int) (t:List Bool),Fm vars O→v=vars-m→0≤v→t.length=2^m→OV vars O m v t (cK m O v t)
 |0,O,v,t,f,hv,h0,ht=>by
  have h2:(if t.getD 0 false then(1:Int)else 0)<2:=by split<;>omega
  have h3:0≤(if t.getD 0 false then(1:Int)else 0):=by split<;>omega
  refine⟨f,⟨[],by simp[cK]⟩,⟨h3,by show(if t.getD 0 false then(1:Int)else 0)<2+(O.length:Int);omega⟩,by show v≤bY vars O (if t.getD 0 false then(1:Int)else 0);rw[iK h2];omega,λe=> ?_⟩;show [vl O e (if t.getD 0 false then(1:Int)else 0)]=t;rw[fN h2];match t,ht with
  | [b],_=>cases b<;>rfl
 |m+1,O,v,t,f,hv,h0,ht=>by
  have hp:2^(m+1)=2^m+2^m:=by rw[qE];omega
  have e:t=t.take (2^m)++t.drop (2^m):=(GP _ _).symm;have l1:(t.take (2^m)).length=2^m:=by rw[jL];omega
  have l2:(t.drop (2^m)).length=2^m:=by rw[mX];omega
  rw[e];generalize t.take (2^m)=t1 at l1;generalize t.drop (2^m)=t2 at l2;rw[F4 l1];have A:=B0 m O (v+1) t1 f aB aB l1;have B:=B0 m (cK m O (v+1) t1).1 (v+1) t2 A.fm aB aB l2;generalize cK m O (v+1) t1=x at A B;generalize cK m x.1 (v+1) t2=y at B;obtain⟨X1,e1⟩:=A.ext;obtain⟨X2,e2⟩:=B.ext;have g2:Fm vars (x.1++X2):=e2▸B.fm;have ra:Rf y.1 x.2:=⟨A.rf.1,by rw[e2,dD];have:=A.rf.2;omega⟩;have la:bY vars y.1 x.2=bY vars x.1 x.2:=by rw[e2,oT A.rf.2]
  have va:∀e,vl y.1 e x.2=vl x.1 e x.2:=λe=>by rw[e2];exact tK A.fm g2 e x.2.toNat x.2 A.rf aB
  have n:=zD B.fm h0 aB ra B.rf (by have:=A.lv;omega) (by have:=B.lv;omega);obtain⟨X3,e3,_⟩:=n.ext;refine⟨n.fm,⟨X1++X2++X3,by rw[e3,e2,e1];simp⟩,n.rf,n.lv,λe=> ?_⟩;show dF _ m (v+1) (up e v false)++dF _ m (v+1) (up e v true)=t1++t2;rw[i8 m (v+1) (up e v false) (g:=λe=>vl x.1 e x.2) λe' he=> ?_,i8 m (v+1) (up e v true) (g:=λe=>vl y.1 e y.2) λe' he=> ?_,A.tb,B.tb];have:e' v=true:=by rw[he v aB];exact aK rfl
  rw[n.vl,aK this];have:e' v=false:=by rw[he v aB];exact aK rfl
  rw[n.vl,aC (by rw[this];simp),va]
theorem XT(h:0≤vars)(g:(Int→Bool)→Bool):OV vars [] vars.toNat 0 (dF g vars.toNat 0 (λ_=>false)) (cF vars g):=
 B0 vars.toNat [] 0 _ H4 aB (eL _) (gT _ _ _ _)
theorem RY(h:0≤vars)(g:(Int→Bool)→Bool):LO vars (cF vars g).1 (cF vars g).2:=by
 have p:=XT h g;exact⟨p.fm,p.rf.1,by have:=p.rf.2;omega⟩
theorem amG(h:0≤vars)(g:(Int→Bool)→Bool):CS (cF vars g).1 (cF vars g).2=cF vars g:=by
 have p:=XT h g;rw[VQ p.fm p.rf h];unfold cF at p⊢;rw[p.tb]
theorem aGT(h:0≤vars)(h2:vars≤40)(g:(Int→Bool)→Bool)(hl:(cF vars g).1.length≤4096):Ok vars (cF vars g).1 (cF vars g).2:=
 ⟨⟨h,h2⟩,hl,RY h g,by rw[amG h g],by rw[amG h g]⟩
theorem aAQ(h:0≤vars)(g:(Int→Bool)→Bool)(e:Int→Bool):dF (λe=>vl (cF vars g).1 e (cF vars g).2) vars.toNat 0 e=dF g vars.toNat 0 (λ_=>false):=(XT h g).tb e
end Go.Proofs.YtbchkopkgpfkgaaGreat.Dd.Bd
namespace Go.Proofs.YtbchkopkgpfkgaaGreat.Dd.Bd
open Go Go.Vc
open Classical
section
variable {P:Program} {C:Cx} {env:cR} {V:HV} {σ:aY} {dst:Option Nat} {x y:Operand} {t T T':TypeId} {pos:String} {af:Array Edge} {g:Option (Nat×Bool)} {m n:Int} {k2:IntKind}
end
def ctF(vars:Int)(N:List Fk):Nat→Int→Int
 |0,r=>r
 |k+1,r=>if r<2 then r else ctF vars N k (nd N r).l*2^(bY vars N (nd N r).l-(nd N r).v-1).toNat+ctF vars N k (nd N r).h*2^(bY vars N (nd N r).h-(nd N r).v-1).toNat
def ct(vars:Int)(N:List Fk)(r:Int):Int:=ctF vars N N.length r
structure CnI (vars:Int) (N:List Fk) (Dn:Int→Option Int):Prop where
 z:Dn 0=some 0
 o:Dn 1=some 1
 dn:∀r p,Dn r=some p→p=ct vars N r
end Go.Proofs.YtbchkopkgpfkgaaGreat.Dd.Bd
namespace Go.Proofs.YtbchkopkgpfkgaaGreat.Dd.Bd
open Go Go.Vc
open Classical
def A0:Dg:=⟨2,[⟨1,0,1⟩,⟨0,0,2⟩],3⟩
theorem vE2{a b:Dg}(ha:Ok a.v a.N a.r)(hb:Ok b.v b.N b.r)(h:b.v=a.v):vE [a,b]=0:=CR (λi h0 h1=>by
 have h1:i<2:=h1;have:i=0∨i=1:=aB;rcases this with rfl|rfl
 exact ha;exact hb) (λi h0 h1=>by
 have h1:i<2:=h1;have:i=0∨i=1:=aB;rcases this with rfl|rfl
 rfl;exact h)
theorem vE1{a:Dg}(ha:Ok a.v a.N a.r):vE [a]=0:=CR (YR.2 ha) apW
end Go.Proofs.YtbchkopkgpfkgaaGreat.Dd.Bd
namespace Go.Proofs.YtbchkopkgpfkgaaGreat.Dd.Bd
open Go Go.Vc
open Classical
structure ad0 (N:List Fk) (done:List Int) (s:Ly):Prop where
 len:done.length=s.1.length
 at_:∀k:Int,0≤k→k<done.length→s.2 (gi done k+2)=some (2+k)
end Go.Proofs.YtbchkopkgpfkgaaGreat.Dd.Bd
namespace Go.Proofs.YtbchkopkgpfkgaaGreat.Dd.Bd
open Go Go.Vc
open Classical
variable{vars:Int}
theorem wA(f:(Int→Bool)→Bool):∀(m:Nat) (v:Int) (e:Int→Bool) (k:Int),0≤k→k<2^m→
  gb (dF f m v e) k=f (λi=>if v≤i∧i<v+m then decide (k/2^(v+m-1-i).toNat%2=1)else e i)
 |0,v,e,k,h0,h1=>by
  have hk:k=0:=by have h1:k<1:=h1;omega
  subst hk;show f e=_;congr 1;funext i;rw[aC aB]
 |m+1,v,e,k,h0,h1=>by
  have hp:(2:Int)^(m+1)=2^m+2^m:=by rw[Int.pow_succ];omega
  have hp0:=kI m;have hl:=gT f m (v+1) (up e v false);have hl2:((dF f m (v+1) (up e v false)).length:Int)=2^m:=by rw[hl];simp
  show gb (dF f m (v+1) (up e v false)++dF f m (v+1) (up e v true)) k=_;by_cases hk:k<2^m;have e1:gb (dF f m (v+1) (up e v false)++dF f m (v+1) (up e v true)) k=gb (dF f m (v+1) (up e v false)) k:=by
   unfold gb;rw[bX,bX,oR aB]
  rw[e1,wA f m (v+1) _ k h0 hk];congr 1;funext i;by_cases hi:v≤i∧i<v+(m+1:Nat);rw[aK hi];by_cases hv:i=v;subst hv;rw[aC aB];unfold up;rw[aK rfl,show(i+((m+1:Nat):Int)-1-i).toNat=m by omega,EX h0 hp0 aB,aK hk];rfl;rw[aK aB,show(v+1+(m:Int)-1-i).toNat=(v+((m+1:Nat):Int)-1-i).toNat by omega];rw[aC hi,aC aB];unfold up;rw[aC aB];have e1:gb (dF f m (v+1) (up e v false)++dF f m (v+1) (up e v true)) k=gb (dF f m (v+1) (up e v true)) (k-2^m):=by
   unfold gb;rw[bX,bX,qN aB,show k.toNat-(dF f m (v+1) (up e v false)).length=(k-2^m).toNat by omega]
  rw[e1,wA f m (v+1) _ (k-2^m) aB aB];congr 1;funext i;by_cases hi:v≤i∧i<v+(m+1:Nat);rw[aK hi];by_cases hv:i=v;subst hv;rw[aC aB];unfold up;rw[aK rfl,show(i+((m+1:Nat):Int)-1-i).toNat=m by omega,EX h0 hp0 aB,aC hk];rfl;rw[aK aB,show(v+1+(m:Int)-1-i).toNat=(v+((m+1:Nat):Int)-1-i).toNat by omega,aaU (m:=m) aB rfl];rw[aC hi,aC aB];unfold up;rw[aC aB]
def dU(vars:Int)(g:(Int→Bool)→Bool):List Bool:=(List.range (2^vars.toNat)).map (λk:Nat=>g (i9 vars (k:Int)))
theorem E4(vars:Int)(g:(Int→Bool)→Bool):(dU vars g).length=2^vars.toNat:=by simp[dU]
theorem vO(vars:Int)(g:(Int→Bool)→Bool):((dU vars g).length:Int)=2^vars.toNat:=by rw[E4];simp
theorem E3{k:Int}{g:(Int→Bool)→Bool}(h0:0≤k)(h1:k<2^vars.toNat):gb (dU vars g) k=g (i9 vars k):=by
 have h2:k<((2^vars.toNat:Nat):Int):=by simpa using h1
 unfold dU;rw[tV _ _ _ h0 h2,afZ h0]
theorem lW(h:0≤vars)(g:(Int→Bool)→Bool):dF g vars.toNat 0 (λ_=>false)=dU vars g:=by
 refine aiJ (by rw[gT,E4]) λk h0 h1=> ?_;rw[gT]at h1;have h2:k<2^vars.toNat:=by simpa using h1
 rw[wA g _ _ _ k h0 h2,E3 h0 h2];congr 1;funext i;unfold i9;by_cases hi:0≤i∧i<0+(vars.toNat:Int);rw[aK hi];have:(0≤i∧i<vars∧k/2^(vars-1-i).toNat%2=1)↔k/2^(0+(vars.toNat:Int)-1-i).toNat%2=1:=by
  rw[show(0+(vars.toNat:Int)-1-i).toNat=(vars-1-i).toNat by omega];exact⟨λq=>q.2.2,λq=>⟨aB,aB,q⟩⟩
 exact(decide_eq_decide.2 this).symm;rw[aC hi];exact(decide_eq_false aB).symm
theorem ayE(h:0≤vars)(g:(Int→Bool)→Bool):cK vars.toNat [] 0 (dU vars g)=cF vars g:=by
 unfold cF;rw[lW h]
def HL(vars:Int)(t:List Bool):Dg:=⟨vars,(cK vars.toNat [] 0 t).1,(cK vars.toNat [] 0 t).2⟩
theorem aq4(h:0≤vars)(g:(Int→Bool)→Bool):HL vars (dU vars g)=⟨vars,(cF vars g).1,(cF vars g).2⟩:=by
 unfold HL;rw[ayE h]
def tbD(A:Dg):List Bool:=dU A.v (λe=>vl A.N e A.r)
def dR(vars:Int)(g:(Int→Bool)→Bool):Prop:=∀e e':Int→Bool,(∀i,0≤i→i<vars→e i=e' i)→g e=g e'
theorem ak3{r:Int}{N:List Fk}(f:Fm vars N)(hv:0≤vars)(hr:Rf N r):dR vars (λe=>vl N e r):=λe e' h=>by
 have hr1:=hr.1;refine Y8 f r.toNat r hr aB λi hi hi2=>h i ?_ hi2;have:=f.lev_nn hv hr;omega
end Go.Proofs.YtbchkopkgpfkgaaGreat.Dd.Bd
namespace Go.Proofs.YtbchkopkgpfkgaaGreat.Dd.Bd
open Go Go.Vc
open Classical
theorem ae7{A B:Dg}(ha:jK A.v A.N A.r=0)(hb:jK B.v B.N B.r=0):rN [A,B]:=λi h0 h1=>by
 have h1:i<((2:Nat):Int):=h1;rcases(show i=0∨i=1 by omega)with rfl|rfl
 exact qF.1 ha;exact qF.1 hb
theorem aiI{vars k r:Int}{N:List Fk}(f:Fm vars N)(hv:0≤vars)(hr:Rf N r):vl N (λi=>gb (OJ vars k) i) r=vl N (i9 vars k) r:=ak3 f hv hr _ _ λi h0 h1=>Z5 h0 h1
end Go.Proofs.YtbchkopkgpfkgaaGreat.Dd.Bd
namespace Go.Proofs.YtbchkopkgpfkgaaGreat.Dd.Bd
open Go Go.Vc
end Go.Proofs.YtbchkopkgpfkgaaGreat.Dd.Bd
namespace Go.Proofs.YtbchkopkgpfkgaaGreat.Dd.Bd
open Go Go.Vc
open Classical
variable{A:Dg}{L t:List Bool}{N:List Fk}{e:Int→Bool}{i vars:Int}
def fD(vars:Int)(g:(Int→Bool)→Bool):Dg:=⟨vars,(cF vars g).1,(cF vars g).2⟩
def gA(A:Dg):(Int→Bool)→Bool:=λe=>vl A.N e A.r
theorem aaJ(h:0≤vars)(g:(Int→Bool)→Bool):HL vars (dU vars g)=fD vars g:=aq4 h g
theorem aFM(h0:0≤vars)(h12:vars≤12)(g:(Int→Bool)→Bool):CV (fD vars g):=aGT h0 aB g (by
 have:=ak0 vars g;have:2^vars.toNat≤2^12:=oB aB aB;omega)
theorem ar9(h:CV A):fD A.v (gA A)=A:=by
 have hc:=VQ h.2.2.1.1 h.2.2.1.rf h.1.1;unfold fD gA;rw[←hc];exact aEJ rfl h.2.2.2.1 h.2.2.2.2
theorem aw4{g g':(Int→Bool)→Bool}(h0:0≤vars)(hg:dR vars g)(hg':dR vars g')(h:dU vars g=dU vars g'):g=g':=by
 funext e;have hl:(((List.range vars.toNat).map (λj:Nat=>e (j:Int))).length:Int)=vars:=by simp;omega
 have hb:=ah8 ((List.range vars.toNat).map (λj:Nat=>e (j:Int))) ((List.range vars.toNat).map (λj:Nat=>e (j:Int))).length;have ha:=ajU hl;generalize hk:BO ((List.range vars.toNat).map (λj:Nat=>e (j:Int))) ((List.range vars.toNat).map (λj:Nat=>e (j:Int))).length=k at hb ha;have hlen:((List.range vars.toNat).map (λj:Nat=>e (j:Int))).length=vars.toNat:=bK;rw[hlen]at hb;have he:∀i:Int,0≤i→i<vars→e i=i9 vars k i:=λi i0 i1=>by
  rw[ha];show e i=decide _;rw[tV _ _ _ i0 aB,afZ i0];cases e i;exact(decide_eq_false bK).symm;exact(decide_eq_true ⟨i0,i1,rfl⟩).symm
 have e1:=E3 (g:=g) hb.1 hb.2;have e2:=E3 (g:=g') hb.1 hb.2;rw[h]at e1;rw[hg e _ he,hg' e _ he,←e1,←e2]
theorem O2(h0:0≤vars){g:(Int→Bool)→Bool}(hg:dR vars g):gA (fD vars g)=g:=by
 refine aw4 h0 (ak3 (RY h0 g).1 h0 (RY h0 g).rf) hg ?_;rw[←lW h0,←lW h0];exact aAQ h0 g _
theorem az4{r v:Int}{m:Nat}(f:Fm vars N)(hr:Rf N r)(hv:v<vars):dF (λe=>vl N e r) (m+1) v e=dF (λe=>vl N e (pG vars N r v False)) m (v+1) (up e v false)++dF (λe=>vl N e (pG vars N r v True)) m (v+1) (up e v true):=by
 show dF (λe=>vl N e r) m (v+1) (up e v false)++dF (λe=>vl N e r) m (v+1) (up e v true)=_;rw[i8 (f:=λe=>vl N e r) (g:=λe=>vl N e (pG vars N r v False)) m (v+1) (up e v false) λe' he=>(Z3 f hr hv e' (by rw[he v aB,PX];simp)).symm,
  i8 (f:=λe=>vl N e r) (g:=λe=>vl N e (pG vars N r v True)) m (v+1) (up e v true) λe' he=>(Z3 f hr hv e' (by rw[he v aB,PX];simp)).symm]
theorem ap8{r v:Int}(hr:r<2):dF (λe=>vl N e r) 0 v e=[decide (r=1)]:=by
 show [vl N e r]=_;rw[fN hr]
def qA(A:Dg):Int:=if jK A.v A.N A.r≠0 then 1 else if 12<A.v then 4 else 0
def SI(A:Dg):List Bool:=if qA A=0 then tbD A else []
theorem apJ(h:jK A.v A.N A.r≠0):qA A=1∧SI A=[]:=by
 have e:qA A=1:=aK h;exact⟨e,by unfold SI;rw[aC aB]⟩
theorem apQ(h:jK A.v A.N A.r=0)(h2:12<A.v):qA A=4∧SI A=[]:=by
 have e:qA A=4:=by unfold qA;rw[aC aB,aK h2]
 exact⟨e,by unfold SI;rw[aC aB]⟩
theorem ZZ(h:jK A.v A.N A.r=0)(h2:¬12<A.v):qA A=0∧SI A=tbD A:=by
 have e:qA A=0:=by unfold qA;rw[aC aB,aC h2]
 exact⟨e,by unfold SI;rw[aK e]⟩
def s9(vars:Int)(t:List Bool):Int:=if vars<0∨12<vars then 3 else if t.length≠2^vars.toNat then 2 else 0
def D3(vars:Int)(t:List Bool):Dg:=if s9 vars t=0 then HL vars t else C2
theorem an_(h:vars<0∨12<vars):s9 vars t=3∧D3 vars t=C2:=by
 have e:s9 vars t=3:=aK h;exact⟨e,by unfold D3;rw[aC aB]⟩
theorem ab6(n:Nat):((2^n:Nat):Int)=(2:Int)^n:=by simp
theorem aAw(h:¬(vars<0∨12<vars))(h2:(t.length:Int)≠2^vars.toNat):s9 vars t=2∧D3 vars t=C2:=by
 have e:s9 vars t=2:=by
  unfold s9;rw[aC h,aK];intro q;rw[q,ab6]at h2;exact h2 rfl
 exact⟨e,by unfold D3;rw[aC aB]⟩
theorem aD_(h2:(t.length:Int)=2^vars.toNat):t.length=2^vars.toNat:=by
 rw[←ab6]at h2;omega
theorem aqY(h:¬(vars<0∨12<vars))(h2:(t.length:Int)=2^vars.toNat):s9 vars t=0∧D3 vars t=HL vars t:=by
 have e:s9 vars t=0:=by
  unfold s9;rw[aC h,aC (by rw[aD_ h2];simp)]
 exact⟨e,by unfold D3;rw[aK e]⟩
def uG(A B:Dg)(i:Int):Int:=if vE [A,B]≠0 then vE [A,B]else if i<0∨A.v≤i then 3 else 0
def I5(A B:Dg)(i:Int):Dg:=if uG A B i=0 then fD A.v (λe=>aDZ (gA B e) (gA A (up e i true)) (gA A (up e i false)))else C2
theorem afW{B:Dg}(h:vE [A,B]=0)(h2:i<0∨A.v≤i):uG A B i=3∧I5 A B i=C2:=by
 have e:uG A B i=3:=by unfold uG;rw[aC aB,aK h2]
 exact⟨e,by unfold I5;rw[aC aB]⟩
theorem apS{B:Dg}(h:vE [A,B]=0)(h2:¬(i<0∨A.v≤i)):uG A B i=0∧I5 A B i=fD A.v (λe=>aDZ (gA B e) (gA A (up e i true)) (gA A (up e i false))):=by
 have e:uG A B i=0:=by unfold uG;rw[aC aB,aC h2]
 exact⟨e,by unfold I5;rw[aK e]⟩
theorem ok2{B:Dg}(h:vE [A,B]=0):CV A∧CV B∧B.v=A.v:=by
 obtain⟨a,b⟩:=rF.1 h;exact⟨a 0 aB ahN,a 1 aB Z2,b 1 aB Z2⟩
end Go.Proofs.YtbchkopkgpfkgaaGreat.Dd.Bd
namespace Go.Proofs.YtbchkopkgpfkgaaGreat.Dd.Bd
open Go Go.Vc
open Classical
variable{A:Dg}{vars:Int}
theorem arZ(h:jK A.v A.N A.r≠0):vE [A]=1:=QX λq=>h (qF.2 (q 0 aB QZ))
theorem ahG(h:jK A.v A.N A.r=0):vE [A]=0:=vE1 (qF.1 h)
theorem apI{B C0:Dg}:rN [A,B,C0]↔CV A∧CV B∧CV C0:=⟨λq=>⟨q 0 aB (by show(0:Int)<((3:Nat):Int);omega),q 1 aB ahS,q 2 aB afL⟩,λq i h0 h1=>by
 have h1:i<((3:Nat):Int):=h1;rcases(show i=0∨i=1∨i=2 by omega)with rfl|rfl|rfl
 exact q.1;exact q.2.1;exact q.2.2⟩
theorem aoO{B C0:Dg}:xE [A,B,C0]↔B.v=A.v∧C0.v=A.v:=⟨λq=>⟨q 1 aB ahS,q 2 aB afL⟩,λq i h0 h1=>by
 have h1:i<((3:Nat):Int):=h1;rcases(show i=0∨i=1∨i=2 by omega)with rfl|rfl|rfl
 rfl;exact q.1;exact q.2⟩
theorem M6{g g':(Int→Bool)→Bool}(h:∀e,g e=g' e):fD vars g=fD vars g':=by rw[funext h]
theorem aAy(A:Dg):cmD A.v [A] PM=fD A.v (λe=> !gA A e):=rfl
theorem aB7{B:Dg}{op:Int}(hz:vE [A,B]=0)(h:¬(op<0∨15<op)):yE op A B=HL A.v (dU A.v (λe=>mE op (gA A e) (gA B e) false)):=by
 rw[(ahF hz h).2,aaJ (ok2 hz).1.1.1];rfl
theorem akD{i:Int}(h40:vars≤40)(h0:0≤i)(h1:i<vars):CV ⟨vars,[⟨i,0,1⟩],2⟩:=by
 have f:LO vars [⟨i,0,1⟩] 2:=by
  refine⟨amN λj j0 j1=> ?_,aB,by show(2:Int)≤1+((1:Nat):Int);omega⟩;have j1:j<1:=j1;have:j=0:=aB;subst this;exact⟨h0,h1,by show(0:Int)≠1;omega,λk a b=>aB,⟨eL _,by show(0:Int)≤1+0;omega,h1⟩,⟨by show(0:Int)≤1;omega,by show(1:Int)≤1+0;omega,h1⟩⟩
 have hx:(([],jQ),0)=bU [⟨i,0,1⟩] 2 (fk [⟨i,0,1⟩] (2-2)).l ([],jQ):=(gK NZ).symm;have hy:(([],jQ),1)=bU [⟨i,0,1⟩] 2 (fk [⟨i,0,1⟩] (2-2)).h (([],jQ),(0:Int)).1:=(gK FC).symm;have e:=M_ (k:=2) (s:=([],jQ)) (asP (r:=2) aB) hx hy;have e1:(CS [⟨i,0,1⟩] 2).1=[⟨i,0,1⟩]:=by
  show(bU [⟨i,0,1⟩] (2+1) 2 ([],jQ)).1.1=_;rw[e];rfl
 have e2:(CS [⟨i,0,1⟩] 2).2=2:=by
  show(bU [⟨i,0,1⟩] (2+1) 2 ([],jQ)).2=_;rw[e];rfl
 exact⟨⟨by show 0≤vars;omega,h40⟩,by show 1≤4096;omega,f,e1,e2⟩
theorem aC1{i:Int}(h0:0≤i)(h1:i<vars)(h40:vars≤40):gA ⟨vars,[⟨i,0,1⟩],2⟩=λe=>e i:=by
 funext e;have f:=(akD h40 h0 h1).2.2.1.1;show vl [⟨i,0,1⟩] e 2=e i;rw[o4 f aB (by show(2:Int)<2+((1:Nat):Int);omega)];show vl [⟨i,0,1⟩] e (if e i then 1 else 0)=e i;cases e i;exact fN bK;exact fN bK
end Go.Proofs.YtbchkopkgpfkgaaGreat.Dd.Bd
namespace Go.Proofs.YtbchkopkgpfkgaaGreat.Dd
open Classical Go Go.Vc
variable{B:Bd.Dg}{L:List Int}{N:List Fk}{j p0 p1 root vars:Int}
def pM(v:Int)(N:List Fk)(r:Int):Mg:=⟨v,[0,1],N,r⟩
section
variable {v r:Int} {N:List Fk}
theorem J0{i:Int}(h:¬(mG (pM v N r)).lf i):2≤i:=by
 have h:¬i<((2:Nat):Int):=h;omega
theorem BW{i:Int}(h:(mG (pM v N r)).ok i):0≤i∧i<2+N.length:=by
 have h1:i<((2:Nat):Int)+N.length:=h.2;exact⟨h.1,aB⟩
theorem P8{i:Int}(h:Bd.Rf N i):(mG (pM v N r)).ok i:=⟨h.1,by have:=h.2;show i<((2:Nat):Int)+N.length;omega⟩
theorem aHr(i:Int):(mG (pM v N r)).nd i=Bd.nd N i:=rfl
theorem aiL(i:Int):bY v (mG (pM v N r)) i=Bd.bY v N i:=by
 by_cases h:i<2;rw[Bd.iK h,mD (show(mG (pM v N r)).lf i from h)];rw[Bd.l5 h,m_ (show¬(mG (pM v N r)).lf i from h)];rfl
theorem NP(f:Bd.Fm v N):GRed v (mG (pM v N r)) where
 vr:=λi h hl=>f.vr i (J0 hl) (BW h).2
 ne:=λi h hl=>f.ne i (J0 hl) (BW h).2
 lo:=λi h hl=>by
  have h2:=J0 hl;have a:=f.lo i h2 (BW h).2;have hq:=(BW h).2;have b:Bd.Rf N (Bd.nd N i).l:=⟨a.1,aB⟩;refine⟨P8 b,?_,?_⟩;show((Bd.nd N i).l+1-((2:Nat):Int)).toNat<(i+1-((2:Nat):Int)).toNat;omega;rw[aiL];exact a.2.2
 hi:=λi h hl=>by
  have h2:=J0 hl;have a:=f.hi i h2 (BW h).2;have hq:=(BW h).2;have b:Bd.Rf N (Bd.nd N i).h:=⟨a.1,aB⟩;refine⟨P8 b,?_,?_⟩;show((Bd.nd N i).h+1-((2:Nat):Int)).toNat<(i+1-((2:Nat):Int)).toNat;omega;rw[aiL];exact a.2.2
 uq:=λi s h hl h' hl' e=>f.uq i s (J0 hl) (BW h).2 (J0 hl') (BW h').2 e
theorem as9(f:Bd.Fm v N):∀j:Int,0≤j→j<(pM v N r).N.length→(0≤(fk (pM v N r).N j).l∧(fk (pM v N r).N j).l<(pM v N r).L.length+j)∧(0≤(fk (pM v N r).N j).h∧(fk (pM v N r).N j).h<(pM v N r).L.length+j):=λj h0 h1=>by
 have h1:j<N.length:=h1;have a:=f.lo (j+2) aB aB;have b:=f.hi (j+2) aB aB;have e:Bd.nd N (j+2)=fk N j:=by unfold Bd.nd;rw[show j+2-2=j by omega]
 rw[e]at a b;show(0≤(fk N j).l∧(fk N j).l<((2:Nat):Int)+j)∧(0≤(fk N j).h∧(fk N j).h<((2:Nat):Int)+j);omega
theorem aED(f:Bd.Fm v N){j:Int}(h0:0≤j)(h1:j<N.length):(0≤(fk N j).l∧(fk N j).l<2+j)∧(0≤(fk N j).h∧(fk N j).h<2+j):=as9 (r:=0) f j h0 h1
theorem aGr(f:Bd.Fm v N){j:Int}(h0:0≤j)(h1:j<N.length):0≤(fk N j).v∧(fk N j).v<v:=by
 have a:=f.vr (j+2) aB aB;have e:Bd.nd N (j+2)=fk N j:=by unfold Bd.nd;rw[show j+2-2=j by omega]
 rw[e]at a;exact a
theorem av1(f:Bd.Fm v N)(e:Int→Bool):∀(k:Nat) (i:Int),Bd.Rf N i→i≤k→cD (mG (pM v N r)) e i=if Bd.vl N e i=true then 1 else 0:=by
 intro k;induction k with
 |zero=>
  intro i h hk;have:i=0:=by have:=h.1;omega
  subst this;rw[fE (show(mG (pM v N r)).lf 0 by show(0:Int)<((2:Nat):Int);omega),Bd.fN aB];rfl
 |succ k ih=>
  intro i h hk;by_cases h2:i<2;rw[fE (show(mG (pM v N r)).lf i from h2),Bd.fN h2];have:=h.1;rcases(show i=0∨i=1 by omega)with e|e<;>subst e<;>rfl
  have a:=f.lo i aB h.2;have b:=f.hi i aB h.2;have h3:=h.2;rw[f8 (NP f) (P8 h) (show¬(mG (pM v N r)).lf i from h2),Bd.o4 f aB h.2,aHr];split;rw[ih _ ⟨b.1,aB⟩ aB];rw[ih _ ⟨a.1,aB⟩ aB]
def kJ(v:Int)(N:List Fk)(r:Int):Mg:=dg v (dH v λe=>if Bd.vl N e r=true then(1:Int)else 0)
theorem aIt:lI (pM v N r) (-1) false (eA (eA [] 0).1 1).1 [] [(eA [] 0).2,(eA (eA [] 0).1 1).2]:=by
 have a:=TF (A:=pM v N r) (i:=-1) (b:=false) at6 (k:=0) rfl ahN (by show bF 0;unfold bF;omega);have c:=TF a (k:=1) rfl Z2 (by show bF 1;unfold bF;omega);exact c
theorem aFW{M:List Fk}{R:List Int}{j:Int}(f:Bd.Fm v N)(h0:0≤j)(h1:j<N.length):BS (pM v N r) (-1) false M R j=kT M (fk N j).v (gi R (fk N j).l) (gi R (fk N j).h):=
 au2 (A:=pM v N r) (by have:=(aGr f h0 h1).1;show(fk N j).v≠-1;omega)
theorem az8{L R:List Int}{M:List Fk}{j:Int}(f:Bd.Fm v N)(c:lI (pM v N r) (-1) false L M R)(hk:(R.length:Int)=2+j)(h0:0≤j)(h1:j<N.length):
  lI (pM v N r) (-1) false L (kT M (fk N j).v (gi R (fk N j).l) (gi R (fk N j).h)).1 (R++ [(kT M (fk N j).v (gi R (fk N j).l) (gi R (fk N j).h)).2]):=by
 have:=amR (NP f) (as9 f) c (by show(R.length:Int)=((2:Nat):Int)+j;omega) h0 h1;rw[aFW f h0 h1]at this;exact this
theorem aEe{L R:List Int}{M:List Fk}(h:Bd.Ok v N r)(c:lI (pM v N r) (-1) false L M R)(hR:(R.length:Int)=2+N.length):
  (bV L M).ok (gi R r)∧bD v L M (gi R r)=kJ v N r∧q9 L (bD v L M (gi R r))=0:=by
 have hf:=h.2.2.1.1;have hrf:Bd.Rf N r:=⟨h.2.2.1.2.1,by have:=h.2.2.1.2.2;omega⟩;have hr:(mG (pM v N r)).ok r:=P8 hrf;obtain⟨a1,a2,a3,_⟩:=c.fin h.1.1 (by show 2≤4096;omega) h.2.1 (by show(R.length:Int)=((2:Nat):Int)+N.length;omega) hr;refine⟨a1,?_,a3⟩;have e:(dH v λe=>vl (pM v N r) (up e (-1) false))=dH v λe=>if Bd.vl N e r=true then(1:Int)else 0:=by
  congr 1;funext e;have d:dR v (λe=>cD (mG (pM v N r)) e r):=tL (NP hf) h.1.1 hr;have e1:cD (mG (pM v N r)) (up e (-1) false) r=cD (mG (pM v N r)) e r:=d _ _ λi h0 _=>aC aB;show cD (mG (pM v N r)) (up e (-1) false) r=_;rw[e1];exact av1 hf e r.toNat r hrf (by have:=hrf.1;omega)
 exact a2.trans (congrArg (dg v) e)
theorem akN(h:Bd.Ok v N r):dR v (λe=>if Bd.vl N e r=true then(1:Int)else 0):=by
 have hrf:Bd.Rf N r:=⟨h.2.2.1.2.1,by have:=h.2.2.1.2.2;omega⟩;have d:dR v (λe=>cD (mG (pM v N r)) e r):=tL (NP h.2.2.1.1) h.1.1 (P8 hrf);have e:(λe=>cD (mG (pM v N r)) e r)=λe=>if Bd.vl N e r=true then(1:Int)else 0:=funext λe=>av1 h.2.2.1.1 e r.toNat r hrf (by have:=hrf.1;omega)
 rwa[e]at d
theorem aBn(b:Bool):bF (if b=true then(1:Int)else 0):=by split<;>(unfold bF;omega)
theorem PF(h:Bd.Ok v N r)(h12:v≤12):Ok (kJ v N r)∧(kJ v N r).v=v∧∀e,vl (kJ v N r) e=if Bd.vl N e r=true then 1 else 0:=by
 have hd:=akN h;have hin:∀z∈dH v (λe=>if Bd.vl N e r=true then(1:Int)else 0),bF z:=λz hz=>by
  obtain⟨e,rfl⟩:=(jB h.1.1 hd).1 hz;exact aBn _
 obtain⟨m0,m1⟩:=AZ (vars:=v) h12 (jT _) hin;have ok:=aGW h.1.1 h.1.2 (jT _) m0;rw[m1]at ok;exact⟨ok,rfl,λe=>av3 h.1.1 hd (λe=>aBn _) e⟩
end
theorem apI{A B C:Mg}:rN [A,B,C]↔Ok A∧Ok B∧Ok C:=⟨λh=>⟨h 0 aB (by show(0:Int)<((3:Nat):Int);omega),h 1 aB ahS,h 2 aB afL⟩,λh i h0 h1=>by
 have h1:i<((3:Nat):Int):=h1;rcases(show i=0∨i=1∨i=2 by omega)with rfl|rfl|rfl
 exact h.1;exact h.2.1;exact h.2.2⟩
theorem aoO{A B C:Mg}:xE [A,B,C]↔B.v=A.v∧C.v=A.v:=⟨λh=>⟨h 1 aB ahS,h 2 aB afL⟩,λh i h0 h1=>by
 have h1:i<((3:Nat):Int):=h1;rcases(show i=0∨i=1∨i=2 by omega)with rfl|rfl|rfl
 rfl;exact h.1;exact h.2⟩
section
variable {v r:Int} {N:List Fk} {A B:Mg}
def NS(v:Int)(N:List Fk)(r:Int)(A B:Mg):List Int:=dH v λe=>if vl (kJ v N r) e=1 then vl A e else vl B e
def KO(v:Int)(N:List Fk)(r:Int)(A B:Mg):Int:=if Bd.Ok v N r then vE [kJ v N r,A,B]else 1
def chD(v:Int)(N:List Fk)(r:Int)(A B:Mg):Mg:=if KO v N r A B=0 then pE v (NS v N r A B)else zM
theorem aJR(h:¬Bd.Ok v N r):KO v N r A B=1∧chD v N r A B=zM:=by
 have e:KO v N r A B=1:=aC h;exact⟨e,aC (by rw[e];omega)⟩
theorem aJc(h:Bd.Ok v N r)(q:vE [kJ v N r,A,B]≠0):KO v N r A B=vE [kJ v N r,A,B]∧chD v N r A B=zM:=by
 have e:KO v N r A B=vE [kJ v N r,A,B]:=aK h;exact⟨e,aC (by rw[e];exact q)⟩
theorem aBY(h:Bd.Ok v N r)(h12:v≤12)(q:vE [kJ v N r,A,B]=0):KO v N r A B=0∧chD v N r A B=pE v (NS v N r A B)∧j6 v (NS v N r A B)=0∧pE v (NS v N r A B)=dg v (NS v N r A B):=by
 have e:KO v N r A B=0:=(aK h).trans q;obtain⟨hv,hs⟩:=rF.1 q;obtain⟨_,oa,ob⟩:=apI.1 hv;obtain⟨sa,sb⟩:=aoO.1 hs;obtain⟨ol,lv,lvl⟩:=PF h h12;have hd:dR v λe=>if vl (kJ v N r) e=1 then vl A e else vl B e:=λe e' he=>by
  have d1:=ol.dep e e' he;have d2:=oa.dep e e' (λi a b=>he i a (by have:i<A.v:=b;rw[sa]at this;exact this));have d3:=ob.dep e e' (λi a b=>he i a (by have:i<B.v:=b;rw[sb]at this;exact this));show(if vl (kJ v N r) e=1 then vl A e else vl B e)=if vl (kJ v N r) e'=1 then vl A e' else vl B e'
  rw[d1,d2,d3]
 have hin:∀z∈NS v N r A B,bF z:=λz hz=>by
  obtain⟨e,rfl⟩:=(jB h.1.1 hd).1 hz;split;exact awT oa e;exact awT ob e
 obtain⟨m0,m1⟩:=AZ (vars:=v) h12 (jT _) hin;exact⟨e,aK e,m0,m1⟩
theorem aGP(ok:Bd.Ok v N r)(h12:v≤12)(oa:Ok A)(ob:Ok B)(h1:v=A.v)(h2:A.v=B.v):KO v N r A B=0∧chD v N r A B=dg A.v (NS v N r A B):=by
 have hz:vE [kJ v N r,A,B]=0:=CR (apI.2 ⟨(PF ok h12).1,oa,ob⟩) (aoO.2 ⟨h1.symm,by rw[←h2];exact h1.symm⟩);obtain⟨a,b,_,c⟩:=aBY ok h12 hz;exact⟨a,by rw[b,c,h1]⟩
end
def tO(p0 p1:Int)(bN:List Int):Nat→Int→Option Int
 |0=>cX (cX (λ_=>none) p0 0) p1 1
 |j+1=>cX (tO p0 p1 bN j) (2*gi bN j+1) (2+j)
theorem WX{bN:List Int}{q:Int}(h:q%2=0):∀j,tO p0 p1 bN j q=tO p0 p1 bN 0 q
 |0=>rfl
 |j+1=>by
  show cX (tO p0 p1 bN j) (2*gi bN j+1) _ q=_;rw[cP aB,WX h j]
theorem adB{bN:List Int}(hn:bN.Nodup):∀{j:Nat} {i:Nat},i<j→j≤bN.length→tO p0 p1 bN j (2*gi bN i+1)=some (2+(i:Int))
 |j+1,i,h,hl=>by
  show cX (tO p0 p1 bN j) (2*gi bN j+1) _ (2*gi bN i+1)=_;by_cases e:i=j;subst e;rw[dG];rw[cP,adB hn (by omega) (by omega)];intro q;have q:bN.getD i 0=bN.getD j 0:=by unfold gi at q;simp only[iD]at q;omega
  rw[bX,bX,dT aB,dT aB]at q;exact e ((List.getElem_inj hn).1 q)
structure aDu (vars:Int) (N:List Fk) (root p0 p1:Int) (bN:List Int) (B:Bd.Dg):Prop where
 v:B.v=vars
 ndb:∀j:Int,0≤j→j<bN.length→0≤gi bN j∧gi bN j<N.length
 len:B.N.length=bN.length
 nd:∀j:Int,0≤j→j<bN.length→fk B.N j=⟨(fk N (gi bN j)).v,(tO p0 p1 bN j.toNat (fk N (gi bN j)).l).getD 0,(tO p0 p1 bN j.toNat (fk N (gi bN j)).h).getD 0⟩
 rt:(tO p0 p1 bN bN.length root).getD 0=B.r
def bB(vars:Int)(t:List Int):Bd.Dg:=⟨vars,(cK 2 vars.toNat [] 0 t).1,(cK 2 vars.toNat [] 0 t).2⟩
theorem acK:∀(m:Nat) (O:List Fk) (v:Int) (t:List Bool),cK 2 m O v (t.map λb=>if b=true then(1:Int)else 0)=Bd.cK m O v t
 |0,O,v,t=>by
  cases t with
  |nil=>rfl
  |cons a l=>cases a<;>rfl
 |m+1,O,v,t=>by
  rw[cK,Bd.cK];simp only[←List.map_take,←List.map_drop,acK m];rfl
theorem aEw(t:List Bool):bB vars (t.map λb=>if b=true then(1:Int)else 0)=Bd.HL vars t:=by
 unfold bB;rw[acK];rfl
theorem azF(hv:0≤vars)(b:hJ vars L N)(hr:(bV L N).ok root)(h01:∀e,cD (bV L N) e root=0∨cD (bV L N) e root=1)
  (hp0:∀i∈(oE N root).lv,gi L i=0→2*i=p0) (hp1:∀i∈(oE N root).lv,gi L i=1→2*i=p1) (hne:p0≠p1):
  aDu vars N root p0 p1 (oE N root).nd (bB vars (dH vars λe=>cD (bV L N) e root)):=by
 have hO:=FA b hr;have hE:oE N root=fS N (root.toNat+2) root DU:=rfl;have hlv:=JM b hr;have hbd:∀i∈(oE N root).lv,0≤i∧i<L.length:=λi h=>JN b hr h;have hseen:∀q,dQ (oE N root) q→(bV L N).ok q:=λq h=>(lF b hr h).1;have hlvq:∀q,dQ (oE N root) q→q%2=0→q/2∈(oE N root).lv:=λq h h2=>(hlv _).2 (by rw[show 2*(q/2)=q by omega];exact h);have hval:∀i∈(oE N root).lv,gi L i=0∨gi L i=1:=λi hi=>by
  obtain⟨e,he⟩:=aj5 b hr hi;rw[←he];exact h01 e
 have f:GOk vars 2 (sG L N id (oE N root)):={
  toGRed:=GW b hr
  kr:=λr h hl=>by
   have:=hval _ (hlvq r h hl);show 0≤gi L (r/2)∧gi L (r/2)<2;omega
  kq:=λr s h hl h' hl' e=>by
   have hl:r%2=0:=hl;have hl':s%2=0:=hl';have e2:gi L (r/2)=gi L (s/2):=e;have:=b.nod _ _ (hbd _ (hlvq r h hl)).1 (hbd _ (hlvq r h hl)).2 (hbd _ (hlvq s h' hl')).1 (hbd _ (hlvq s h' hl')).2 e2;omega}
 have K0:(0:Int)≤2:=aB;have hI0:=VS f;have hmu:(sG L N id (oE N root)).mu root<root.toNat+2:=J7 hr;have hV:=jX f K0 (root.toNat+2) root _ hO.at_ hmu hI0;have hR:=OK f b.red hseen K0 (root.toNat+2) root DU ([],jQ _) ((bV L N).mu root) hO.at_ hmu (cV _) hI0 (aC6 _);rw[←hE]at hR;have hg:∀e,cD (sG L N id (oE N root)) e root=cD (bV L N) e root:=λe=>
  (HJ (G:=sG L N id (oE N root)) (G':=bV L N) (GW b hr) b.red (λr h=>⟨hseen r h,Iff.rfl,rfl⟩) id (λ_ _ _=>rfl) e _ root hO.at_ (cV _)).symm
 have hC:=nR f K0 vars.toNat 0 root ([],jQ (sG L N id (oE N root))) e0 (root.toNat+2) hI0 hO.at_ aB (f.lev_nn hv hO.at_) hmu;have hD:bB vars (dH vars λe=>cD (bV L N) e root)=⟨vars,(bU 2 (sG L N id (oE N root)) (root.toNat+2) root ([],jQ (sG L N id (oE N root)))).1.1,(bU 2 (sG L N id (oE N root)) (root.toNat+2) root ([],jQ (sG L N id (oE N root)))).2⟩:=by
  unfold bB;have:(dH vars λe=>cD (bV L N) e root)=dF (λe=>cD (sG L N id (oE N root)) e root) vars.toNat 0 e0:=by
   congr 1;funext e;exact(hg e).symm
  rw[this,hC]
 rw[hD];generalize bU 2 (sG L N id (oE N root)) (root.toNat+2) root ([],jQ (sG L N id (oE N root)))=T at hV hR hC;have hNn:(oE N root).nd.Nodup:=by
  refine AP.2 λi j hi hj hij e=> ?_;have a:=hR.pl i hi;have c:=hR.pl j hj;rw[bX,dT hi]at a;rw[bX,dT hj]at c;simp only[X8]at a c;rw[e,c]at a;simp at a;omega
 have hplace:∀j:Int,0≤j→j<(oE N root).nd.length→T.1.2 (2*gi (oE N root).nd j+1)=some (2+j):=λj h0 h1=>by
  have:=hR.pl j.toNat aB;rw[show((j.toNat:Nat):Int)=j by omega]at this;exact this
 have hnum:∀(j:Nat) (q a:Int),j≤(oE N root).nd.length→dQ (oE N root) q→T.1.2 q=some a→a<2+j→(tO p0 p1 (oE N root).nd j q).getD 0=a:=λj q a hj hq ha hlt=>by
  by_cases h2:q%2=0;rw[WX h2];have h1:=hV.inv.lf q hq h2;rw[ha]at h1;have ea:a=gi L (q/2):=Option.some.inj h1;rcases hval _ (hlvq q hq h2)with z|z
  have hq0:q=p0:=by have:=hp0 _ (hlvq q hq h2) z;omega
  rw[ea,z,hq0];show(cX (cX (λ_=>none) p0 0) p1 1 p0).getD 0=0;rw[cP hne,dG];rfl;have hq1:q=p1:=by have:=hp1 _ (hlvq q hq h2) z;omega
  rw[ea,z,hq1];show(cX (cX (λ_=>none) p0 0) p1 1 p1).getD 0=1;rw[dG];rfl;have hge:=(hV.inv.rf q a ha).2.2.1 h2;have hlt2:a<2+((oE N root).nd.length:Int):=aB;obtain⟨i,rfl⟩:∃i:Nat,a=2+(i:Int):=⟨(a-2).toNat,aB⟩;have e:=hV.inv.inj _ _ _ ha (hplace i aB aB);rw[e,adB hNn aB hj];rfl
 have hndseen:∀j:Int,0≤j→j<(oE N root).nd.length→dQ (oE N root) (2*gi (oE N root).nd j+1):=λj h0 h1=>(hV.inv.rf _ _ (hplace j h0 h1)).1;refine⟨rfl,λj h0 h1=> ?_,hR.len,λj h0 h1=> ?_,?_⟩;have:=hseen _ (hndseen j h0 h1);have a:=this.1;have c:=this.2.2 aB;omega;have hs:=hndseen j h0 h1;have hodd:¬(sG L N id (oE N root)).lf (2*gi (oE N root).nd j+1):=by show¬(2*gi (oE N root).nd j+1)%2=0;omega
 obtain⟨a,c,n1,n2,n3,n4,n5⟩:=hV.inv.nd _ _ hodd (hplace j h0 h1);have e1:(sG L N id (oE N root)).nd (2*gi (oE N root).nd j+1)=fk N (gi (oE N root).nd j):=by
  show fk N ((2*gi (oE N root).nd j+1)/2)=_;rw[show(2*gi (oE N root).nd j+1)/2=gi (oE N root).nd j by omega]
 rw[e1]at n1 n2 n5;have c1:=(lF b hr hs).2 hodd;rw[show(2*gi (oE N root).nd j+1)/2=gi (oE N root).nd j by omega]at c1;rw[hnum j.toNat _ a aB c1.1 n1 aB,hnum j.toNat _ c aB c1.2 n2 aB,←n5];show fk T.1.1 j=C5 2 T.1.1 (2+j);unfold C5 fk;rw[show(2+j-2:Int).toNat=j.toNat by omega];have hp:=(hV.inv.rf _ _ hV.at_).2.1.2;rw[hR.len]at hp;exact hnum _ root T.2 (cV _) hO.at_ hV.at_ hp
section
variable {v r no yes:Int} {N:List Fk}
def HB(v:Int)(N:List Fk)(r no yes:Int):List Int:=dH v λe=>if Bd.vl N e r=true then yes else no
def GI(v:Int)(N:List Fk)(r no yes:Int):Int:=if Bd.Ok v N r then if bF no∧bF yes then 0 else 3 else 1
def ofD(v:Int)(N:List Fk)(r no yes:Int):Mg:=if GI v N r no yes=0 then dg v (HB v N r no yes)else zM
theorem aJx(h:¬Bd.Ok v N r):GI v N r no yes=1∧ofD v N r no yes=zM:=by
 have e:GI v N r no yes=1:=aC h;exact⟨e,aC (by rw[e];omega)⟩
theorem aEt(h:Bd.Ok v N r)(q:¬bF no∨¬bF yes):GI v N r no yes=3∧ofD v N r no yes=zM:=by
 have e:GI v N r no yes=3:=by unfold GI;rw[aK h,aC (λz=>q.elim (λn=>n z.1) λn=>n z.2)]
 exact⟨e,aC (by rw[e];omega)⟩
theorem aAU(h:Bd.Ok v N r)(h1:bF no)(h2:bF yes):GI v N r no yes=0∧ofD v N r no yes=dg v (HB v N r no yes):=by
 have e:GI v N r no yes=0:=by unfold GI;rw[aK h,aK ⟨h1,h2⟩]
 exact⟨e,aK e⟩
theorem aB9(h:Bd.Ok v N r):dR v λe=>if Bd.vl N e r=true then yes else no:=λe e' he=>by
 have d:=akN h e e' he;have d:(if Bd.vl N e r=true then(1:Int)else 0)=if Bd.vl N e' r=true then(1:Int)else 0:=d
 show(if Bd.vl N e r=true then yes else no)=if Bd.vl N e' r=true then yes else no
 cases h1:Bd.vl N e r<;>cases h2:Bd.vl N e' r<;>simp[h1,h2]at d⊢
theorem aGC(h:Bd.Ok v N r)(h1:bF no)(h2:bF yes):∀z∈HB v N r no yes,bF z:=λz hz=>by
 obtain⟨e,rfl⟩:=(jB h.1.1 (aB9 h)).1 hz;split;exact h2;exact h1
theorem aE3(h:Bd.Ok v N r)(h12:v≤12)(h1:bF no)(h2:bF yes):j6 v (HB v N r no yes)=0∧pE v (HB v N r no yes)=dg v (HB v N r no yes):=AZ h12 (jT _) (aGC h h1 h2)
theorem aF1(h:Bd.Ok v N r)(h12:v≤12):(dH v λe=>if vl (kJ v N r) e=1 then yes else no)=HB v N r no yes:=by
 unfold HB;congr 1;funext e;rw[(PF h h12).2.2 e];cases Bd.vl N e r<;>simp
end
theorem DY{z:Int}(b:hJ vars L N):(eA L z).2%2=0∧0≤(eA L z).2/2∧(eA L z).2/2<(eA L z).1.length∧gi (eA L z).1 ((eA L z).2/2)=z:=by
 have o:=qY (z:=z) b;have e:(eA L z).2%2=0:=o.lf;have r:=o.rf;have r1:=r.1;have r2:=r.2.1 e;exact⟨e,aB,r2,o.vl⟩
theorem al2{z i:Int}(b:hJ vars L N)(h0:0≤i)(h1:i<L.length)(e:gi L i=z):2*i=(eA L z).2:=by
 have o:=qY (z:=z) b;obtain⟨a1,a2,a3,a4⟩:=DY (z:=z) b;obtain⟨X,hX⟩:=o.ext;have e1:gi (eA L z).1 i=z:=by rw[hX,qJ h0 h1,e]
 have hl:=tM (L:=L) (z:=z);have:=o.ok.nod i _ h0 aB a2 a3 (e1.trans a4.symm);omega
theorem ajJ{κ α:Type}{f:κ→Option α}{a b:κ}{x y:α}(h:a≠b):cX (cX f a x) b y=cX (cX f b y) a x:=by
 funext q;by_cases ha:q=a;subst ha;rw[cP h,dG,dG];by_cases hb:q=b;subst hb;rw[dG,cP (λe=>h e.symm),dG];rw[cP hb,cP ha,cP ha,cP hb]
theorem aE8(b:hJ vars L N):(eA L 0).2≠(eA (eA L 0).1 1).2:=λq=>by
 have o:=qY (z:=0) b;obtain⟨a1,a2,a3,a4⟩:=DY (z:=0) b;obtain⟨c1,c2,c3,c4⟩:=DY (z:=1) o.ok;obtain⟨Y,hY⟩:=(qY (z:=1) o.ok).ext;rw[←q,hY,qJ a2 a3,a4]at c4;omega
theorem apC{bN:List Int}(h:0≤j):tO p0 p1 bN (j+1).toNat=cX (tO p0 p1 bN j.toNat) (2*gi bN j+1) (2+j):=by
 rw[show(j+1).toNat=j.toNat+1 by omega];show cX (tO p0 p1 bN j.toNat) (2*gi bN (j.toNat:Int)+1) (2+(j.toNat:Int))=_;rw[show((j.toNat:Nat):Int)=j by omega]
theorem al8{bN:List Int}(h:0≤j):tO p0 p1 bN (j.toNat+1)=cX (tO p0 p1 bN j.toNat) (2*gi bN j+1) (2+j):=by
 rw[←apC h,show(j+1).toNat=j.toNat+1 by omega]
def fbE(B:Bd.Dg):Int:=if 4096<B.N.length then 4 else 0
def YI(B:Bd.Dg):Bd.Dg:=if 4096<B.N.length then⟨0,[],0⟩else B
theorem aJt(h:4096<B.N.length):fbE B=4∧YI B=⟨0,[],0⟩:=⟨aK h,aK h⟩
theorem aBa(h:¬4096<B.N.length):fbE B=0∧YI B=B:=⟨aC h,aC h⟩
theorem aGl(hv:0≤vars)(b:hJ vars L N)(hr:(bV L N).ok root)(h01:∀e,cD (bV L N) e root=0∨cD (bV L N) e root=1):
  aDu vars N root (eA L 0).2 (eA (eA L 0).1 1).2 (oE N root).nd (bB vars (dH vars λe=>cD (bV L N) e root)):=by
 have o:=qY (z:=0) b;obtain⟨a1,a2,a3,a4⟩:=DY (z:=0) b;obtain⟨c1,c2,c3,c4⟩:=DY (z:=1) o.ok;obtain⟨X,hX⟩:=o.ext;obtain⟨Y,hY⟩:=(qY (z:=1) o.ok).ext;have hl:=tM (L:=L) (z:=0);refine azF hv b hr h01 (λi hi e=> ?_) (λi hi e=> ?_) λq=> ?_;have hb:=JN b hr hi;exact al2 b hb.1 hb.2 e;have hb:=JN b hr hi;exact al2 o.ok hb.1 aB (by rw[hX,qJ hb.1 hb.2];exact e);rw[←q,hY,qJ a2 a3,a4]at c4;omega
section
variable {A:Mg} {x0:Int}
def GE(A:Mg)(x0:Int):List Int:=dH A.v λe=>if vl A e=x0 then(1:Int)else 0
def lvE(A:Mg)(x0:Int):Int:=if Ok A then fbE (bB A.v (GE A x0))else 1
def lvB(A:Mg)(x0:Int):Bd.Dg:=if Ok A then YI (bB A.v (GE A x0))else⟨0,[],0⟩
theorem aIM(h:¬Ok A):lvE A x0=1∧lvB A x0=⟨0,[],0⟩:=⟨aC h,aC h⟩
theorem aDd(h:Ok A):lvE A x0=fbE (bB A.v (GE A x0))∧lvB A x0=YI (bB A.v (GE A x0)):=⟨aK h,aK h⟩
theorem ar5{L:List Int}{M:List Fk}{p:Int}(s:Std A.v [A] (λx _ _=>if x=x0 then(1:Int)else 0) L M (rt [A]) p)(e:Int→Bool):cD (bV L M) e p=if vl A e=x0 then 1 else 0:=s.val e
theorem aGn{L:List Int}{M:List Fk}{p:Int}(s:Std A.v [A] (λx _ _=>if x=x0 then(1:Int)else 0) L M (rt [A]) p)(e:Int→Bool):cD (bV L M) e p=0∨cD (bV L M) e p=1:=by
 rw[ar5 s e];split;exact .inr rfl;exact .inl rfl
theorem aBm{L:List Int}{M:List Fk}{p:Int}(s:Std A.v [A] (λx _ _=>if x=x0 then(1:Int)else 0) L M (rt [A]) p):(dH A.v λe=>cD (bV L M) e p)=GE A x0:=by
 unfold GE;congr 1;funext e;exact ar5 s e
theorem aGm{L:List Int}(h:∀z∈L,z∈([]:List Int)∨∃e,gF [A] (λx _ _=>if x=x0 then(1:Int)else 0) (rt [A]) e=z):∀z∈L,bF z:=λz hz=>by
 rcases h z hz with q|⟨e,q⟩
 cases q;rw[←q];show bF (if vl A e=x0 then(1:Int)else 0);split<;>(unfold bF;omega)
theorem aBV{t:List Bool}(h:GE A x0=t.map λb=>if b=true then(1:Int)else 0):bB A.v (GE A x0)=Bd.HL A.v t:=by rw[h,aEw]
end
end Go.Proofs.YtbchkopkgpfkgaaGreat.Dd
namespace Go.Proofs.YtbchkopkgpfkgaaGreat
open Classical Go Go.Vc
variable{E:Int}{V:HV}{v:Value}
abbrev aV:=Int→Bool
def Dg(n:Int)(f:aV→Int):Dd.Mg:=Dd.dg n (Dd.dH n f)
structure Fd (n:Int) (f:aV→Int):Prop where
 rn:∀e,Dd.bF (f e)
 dp:Dd.dR n f
structure Dm (V:HV) (n:Int) (la na:Value) (f:aV→Int):Prop where
 mt:Dd.Mt V la na (Dg n f)
 fn:Fd n f
theorem Dm.mono{W:HV}{n:Int}{la na:Value}{f:aV→Int}(h:Dm V n la na f)(s:Vc.bR V W):Dm W n la na f:=⟨h.mt.mono s,h.fn⟩
abbrev Bg(n:Int)(b:aV→Bool):Dd.Bd.Dg:=Dd.Bd.fD n b
structure Bm (V:HV) (n:Int) (nv:Value) (b:aV→Bool):Prop where
 mt:Dd.eS V nv (Bg n b).N
 dp:Dd.Bd.dR n b
theorem Bm.mono{W:HV}{n:Int}{nv:Value}{b:aV→Bool}(h:Bm V n nv b)(s:Vc.bR V W):Bm W n nv b:=⟨h.mt.mono s,h.dp⟩
structure Nb (n:Int):Prop where
 n0:0≤n
 n12:n≤12
theorem t_{n:Int}{f g:aV→Int}(h:∀e,f e=g e):Dg n f=Dg n g:=by rw[funext h]
section
variable {n:Int} (N:Nb n)
include N
theorem awL{f:aV→Int}(h:Fd n f):∀z∈Dd.dH n f,Dd.bF z:=λz hz=>by
 obtain⟨e,rfl⟩:=(Dd.jB N.n0 h.dp).1 hz;exact h.rn e
theorem CG{f:aV→Int}(h:Fd n f):Dd.Ok (Dg n f):=Dd.auV N.n0 (by have:=N.n12;omega) (Dd.jT _) (awL N h) (Dd.aaA N.n12 (Dd.jT _))
theorem rA{f:aV→Int}(h:Fd n f)(e:aV):Dd.vl (Dg n f) e=f e:=Dd.av3 N.n0 h.dp h.rn e
theorem JD{f:aV→Int}(h:Fd n f):Dd.j6 n (Dd.dH n f)=0∧Dd.pE n (Dd.dH n f)=Dg n f:=Dd.AZ N.n12 (Dd.jT _) (awL N h)
theorem am3{f g:aV→Int}(h:Fd n f)(k:Fd n g):Dd.vE [Dg n f,Dg n g]=0:=Dd.rF.2 ⟨Dd.ae7.2 ⟨CG N h,CG N k⟩,Dd.aqE.2 rfl⟩
theorem MM{b:aV→Bool}:Dd.Bd.CV (Bg n b):=Dd.Bd.aFM N.n0 N.n12 b
theorem afR{b:aV→Bool}:Dd.Bd.Ok n (Bg n b).N (Bg n b).r:=MM N
theorem ad3{b:aV→Bool}(h:Dd.Bd.dR n b)(e:aV):Dd.Bd.vl (Bg n b).N e (Bg n b).r=b e:=congrFun (Dd.Bd.O2 N.n0 h) e
omit N in
theorem aoR{c:Int}(h:Dd.bF c):Fd n λ_=>c:=⟨λ_=>h,λ_ _ _=>rfl⟩
theorem acX{c:Int}(h:Dd.bF c):Dd.FX n c=0∧Dd.HK n c=Dg n λ_=>c:=by
 have q:=Dd.CO (vars:=n) (v:=c) (by have:=N.n0;have:=N.n12;intro q;rcases q with q|q;omega;exact q h);exact⟨q.1,q.2.trans (Dd.aEX (vars:=n) (v:=c)).symm⟩
theorem axM{op:Int}{f g:aV→Int}(hf:Fd n f)(hg:Fd n g)(h0:0≤op)(h8:op≤8)(hr:∀e,Dd.bF (Dd.eG op (f e) (g e))):
  Fd n (λe=>Dd.eG op (f e) (g e))∧Dd.q7 op (Dg n f) (Dg n g)=0∧Dd.yE op (Dg n f) (Dg n g)=Dg n λe=>Dd.eG op (f e) (g e):=by
 have k:Fd n (λe=>Dd.eG op (f e) (g e)):=⟨hr,λe e' he=>by show Dd.eG op (f e) (g e)=Dd.eG op (f e') (g e');rw[hf.dp e e' he,hg.dp e e' he]⟩;have a:=Dd.aBG (op:=op) (am3 N hf hg) aB;have t:Dd.apT op (Dg n f) (Dg n g)=Dd.dH n λe=>Dd.eG op (f e) (g e):=by
  show Dd.dH n (λe=>Dd.eG op (Dd.vl (Dg n f) e) (Dd.vl (Dg n g) e))=_;simp only[rA N hf,rA N hg]
 have v:(Dg n f).v=n:=rfl;rw[t,v]at a;exact⟨k,a.1.trans (JD N k).1,a.2.trans (JD N k).2⟩
theorem azH{lo hi:Int}{f:aV→Int}(hf:Fd n f)(h:lo≤hi)(h1:Dd.bF lo)(h2:Dd.bF hi):
  Fd n (λe=>Dd.oJ lo hi (f e))∧Dd.uG (Dg n f) lo hi=0∧Dd.I5 (Dg n f) lo hi=Dg n λe=>Dd.oJ lo hi (f e):=by
 have k:Fd n (λe=>Dd.oJ lo hi (f e)):=⟨λe=>by have:=Dd.aDg h (f e);unfold Dd.bF at*;omega,λe e' he=>by show Dd.oJ lo hi (f e)=Dd.oJ lo hi (f e');rw[hf.dp e e' he]⟩;have a:=Dd.apS (low:=lo) (high:=hi) (CG N hf) (Dd.aBH aB (λq=>q h1) (λq=>q h2));have t:Dd.WB (Dg n f) lo hi=Dd.dH n λe=>Dd.oJ lo hi (f e):=by
  show Dd.dH n (λe=>Dd.oJ lo hi (Dd.vl (Dg n f) e))=_;simp only[rA N hf]
 have v:(Dg n f).v=n:=rfl;rw[t,v]at a;exact⟨k,a.1.trans (JD N k).1,a.2.trans (JD N k).2⟩
theorem arA{b:aV→Bool}{f g:aV→Int}(hb:Dd.Bd.dR n b)(hf:Fd n f)(hg:Fd n g):
  Fd n (λe=>if b e=true then f e else g e)∧Dd.KO n (Bg n b).N (Bg n b).r (Dg n f) (Dg n g)=0∧Dd.chD n (Bg n b).N (Bg n b).r (Dg n f) (Dg n g)=Dg n λe=>if b e=true then f e else g e:=by
 have k:Fd n (λe=>if b e=true then f e else g e):=⟨λe=>by show Dd.bF (if b e=true then f e else g e);split;exact hf.rn e;exact hg.rn e,λe e' he=>by show(if b e=true then f e else g e)=(if b e'=true then f e' else g e');rw[hf.dp e e' he,hg.dp e e' he,hb e e' he]⟩;have a:=Dd.aGP (afR N (b:=b)) N.n12 (CG N hf) (CG N hg) (v:=n) rfl rfl;have l:=(Dd.PF (afR N (b:=b)) N.n12).2.2;have t:Dd.NS n (Bg n b).N (Bg n b).r (Dg n f) (Dg n g)=Dd.dH n λe=>if b e=true then f e else g e:=by
  show Dd.dH n (λe=>if Dd.vl (Dd.kJ n (Bg n b).N (Bg n b).r) e=1 then Dd.vl (Dg n f) e else Dd.vl (Dg n g) e)=_;congr 1;funext e;rw[l,ad3 N hb,rA N hf,rA N hg];cases b e<;>simp
 rw[t]at a;exact⟨k,a⟩
theorem azY{x:Int}{f:aV→Int}(hf:Fd n f):Dd.Bd.dR n (λe=>decide (f e=x))∧Dd.lvE (Dg n f) x=0∧Dd.lvB (Dg n f) x=Bg n λe=>decide (f e=x):=by
 have k:Dd.Bd.dR n (λe=>decide (f e=x)):=λe e' he=>by show decide (f e=x)=decide (f e'=x);rw[hf.dp e e' he]
 have y:=Dd.aDd (x0:=x) (CG N hf);have t:Dd.GE (Dg n f) x=(Dd.dU n λe=>decide (f e=x)).map λb=>if b=true then(1:Int)else 0:=by
  rw[Dd.az5,←Dd.lW N.n0];show Dd.dH n _=Dd.dH n _;congr 1;funext e;rw[rA N hf];by_cases q:f e=x<;>simp[q]
 have b:Dd.bB n (Dd.GE (Dg n f) x)=Bg n λe=>decide (f e=x):=(Dd.aBV (A:=Dg n f) t).trans (Dd.Bd.aaJ N.n0 (λe=>decide (f e=x)));have hb:¬4096<(Bg n λe=>decide (f e=x)).N.length:=by have:=(MM N (b:=λe=>decide (f e=x))).2.1;omega
 have w:=Dd.aBa hb;have v:(Dg n f).v=n:=rfl;rw[v,b]at y;exact⟨k,y.1.trans w.1,y.2.trans w.2⟩
theorem aJs{b:aV→Bool}{p q:Int}(hb:Dd.Bd.dR n b)(h1:Dd.bF p)(h2:Dd.bF q):
  Fd n (λe=>if b e=true then q else p)∧Dd.GI n (Bg n b).N (Bg n b).r p q=0∧Dd.ofD n (Bg n b).N (Bg n b).r p q=Dg n λe=>if b e=true then q else p:=by
 have k:Fd n (λe=>if b e=true then q else p):=⟨λe=>by show Dd.bF (if b e=true then q else p);split;exact h2;exact h1,λe e' he=>by show(if b e=true then q else p)=(if b e'=true then q else p);rw[hb e e' he]⟩;have a:=Dd.aAU (afR N (b:=b)) h1 h2;have t:Dd.HB n (Bg n b).N (Bg n b).r p q=Dd.dH n λe=>if b e=true then q else p:=by
  unfold Dd.HB;congr 1;funext e;rw[ad3 N hb]
 rw[t]at a;exact⟨k,a⟩
theorem aFl{b:aV→Bool}(hb:Dd.Bd.dR n b):Dd.Bd.dR n (λe=> !b e)∧Dd.Bd.vE [Bg n b]=0∧Dd.Bd.cbD [Bg n b] Dd.Bd.PM=Bg n λe=> !b e:=by
 refine⟨λe e' he=>by show(!b e)= !b e';rw[hb e e' he],Dd.Bd.vE1 (MM N),?_⟩;rw[Dd.Bd.au7 (Dd.Bd.vE1 (MM N))];refine(Dd.Bd.aAy _).trans (Dd.Bd.M6 λe=> ?_);show(!(Dd.Bd.gA (Dd.Bd.fD n b) e))= !b e;rw[Dd.Bd.O2 N.n0 hb]
theorem aFq{b c:aV→Bool}{op:Int}(hb:Dd.Bd.dR n b)(hc:Dd.Bd.dR n c)(h0:0≤op)(h1:op≤15):
  Dd.Bd.dR n (λe=>Dd.Bd.mE op (b e) (c e) false)∧Dd.Bd.q7 op (Bg n b) (Bg n c)=0∧Dd.Bd.yE op (Bg n b) (Bg n c)=Bg n λe=>Dd.Bd.mE op (b e) (c e) false:=by
 have z:Dd.Bd.vE [Bg n b,Bg n c]=0:=Dd.Bd.vE2 (MM N) (MM N) rfl;refine⟨λe e' he=>by show Dd.Bd.mE op (b e) (c e) false=Dd.Bd.mE op (b e') (c e') false;rw[hb e e' he,hc e e' he],(Dd.Bd.ahF z aB).1,?_⟩;refine(Dd.Bd.aB7 z aB).trans ((Dd.Bd.aaJ N.n0 _).trans (Dd.Bd.M6 λe=> ?_));show Dd.Bd.mE op (Dd.Bd.gA (Dd.Bd.fD n b) e) (Dd.Bd.gA (Dd.Bd.fD n c) e) false=Dd.Bd.mE op (b e) (c e) false;rw[Dd.Bd.O2 N.n0 hb,Dd.Bd.O2 N.n0 hc]
theorem aBp:Dd.Bd.dR n (λ_=>true)∧Dd.Bd.FX n=0∧Dd.Bd.HK n True=Bg n λ_=>true:=by
 have h0:=N.n0;have h12:=N.n12;have a:=Dd.Bd.CO (vars:=n) (p:=True) aB;have k:Dd.Bd.CV ⟨n,[],1⟩:=by
  refine⟨⟨h0,by show n≤40;omega⟩,by show 0≤4096;omega,⟨Dd.Bd.H4,by show(0:Int)≤1;omega,by show(1:Int)≤1+((0:Nat):Int);omega⟩,?_,?_⟩;show(Dd.Bd.bU [] 2 1 ([],Dd.Bd.jQ)).1.1=[];rw[Dd.Bd.gK Dd.Bd.FC];show(Dd.Bd.bU [] 2 1 ([],Dd.Bd.jQ)).2=1;rw[Dd.Bd.gK Dd.Bd.FC]
 have e:Dd.Bd.HK n True=⟨n,[],1⟩:=a.2.trans (by rw[aK trivial]);refine⟨λ_ _ _=>rfl,a.1,e.trans ?_⟩;rw[←Dd.Bd.ar9 k];exact Dd.Bd.M6 λe=>by
  show Dd.Bd.vl [] e 1=true;rw[Dd.Bd.fN aB];rfl
theorem aGe{i:Int}(h0:0≤i)(h1:i<n):Dd.Bd.dR n (λe=>e i)∧Dd.Bd.vaE n i=0∧Dd.Bd.vaD n i=Bg n λe=>e i:=by
 have h12:=N.n12;have a:=Dd.Bd.aEH (vars:=n) (i:=i) aB;refine⟨λe e' he=>he i h0 h1,a.1,a.2.trans ?_⟩;rw[←Dd.Bd.ar9 (Dd.Bd.akD aB h0 h1),Dd.Bd.aC1 h0 h1 aB]
theorem axO{b:aV→Bool}(hb:Dd.Bd.dR n b):Dd.Bd.qA (Bg n b)=0∧Dd.Bd.SI (Bg n b)=Dd.Bd.dU n b:=by
 have h:=Dd.Bd.ZZ (Dd.Bd.qF.2 (MM N (b:=b))) (by have:=N.n12;show¬12<n;omega);refine⟨h.1,h.2.trans ?_⟩;show Dd.Bd.dU n (Dd.Bd.gA (Dd.Bd.fD n b))=_;rw[Dd.Bd.O2 N.n0 hb]
theorem axY{f:aV→Int}(h:Fd n f):Dd.qA (Dg n f)=0∧Dd.tbL (Dg n f)=Dd.dU n f:=by
 have a:=Dd.ZZ (CG N h) (by have:=N.n12;show¬12<n;omega);refine⟨a.1,a.2.trans ?_⟩;rw[←Dd.lW N.n0];exact Dd.ah6 N.n0 (Dd.jT _)
theorem aDX{f:aV→Int}(h:Fd n f){t:List Int}(ht:t=Dd.dU n f):Dd.s9 n t=0∧Dd.D3 n t=Dg n f:=by
 subst ht;have a:=Dd.aqY (vars:=n) (t:=Dd.dU n f) (by have:=N.n0;have:=N.n12;omega) (Dd.vO n f);rw[←Dd.lW N.n0]at a⊢;exact⟨a.1.trans (JD N h).1,a.2.trans (JD N h).2⟩
end
theorem KE{D:Dd.Mg}{n:Int}{f:aV→Int}(h:Dd.jY V v D E)(hf:Fd n f)(hE:E=0)(hD:D=Dg n f):
  ∃l m,v= .tuple #[.agg #[.int .i64 n,l,m,.int .i64 (Dg n f).r],.int .i64 0]∧Dm V n l m f:=by
 subst hD;obtain⟨l,m,e,hm⟩:=h;exact⟨l,m,by rw[e,hE];rfl,hm,hf⟩
theorem aeU{D:Dd.Bd.Dg}{σ:aY}{n:Int}{b:aV→Bool}(h:Dd.Bd.RD D E v V σ)(hb:Dd.Bd.dR n b)(hE:E=0)(hD:D=Bg n b):
  σ=[]∧∃m,v= .tuple #[.agg #[.int .i64 n,m,.int .i64 (Bg n b).r],.int .i64 0]∧Bm V n m b:=by
 subst hD;obtain⟨e1,m,e,hm⟩:=h;exact⟨e1,m,by rw[e,hE];rfl,hm,hb⟩
end Go.Proofs.YtbchkopkgpfkgaaGreat
end
