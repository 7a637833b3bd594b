import Derived.Test.YtbchkopkgpfkgaaGreatQAOb
import Derived.Test.YtbchkopkgpfkgaaGreatQBB
import Derived.Test.YtbchkopkgpfkgaaGreatQAZ
set_option linter.unusedVariables false
set_option linter.unusedSimpArgs false
set_option maxRecDepth 100000
set_option maxHeartbeats 4000000
noncomputable section
namespace Go
theorem F_{p:Prop}(h:p:=by show¬i<((0:Nat):Int);omega):p:=h
end Go
namespace Go.Vc
open Go
section
variable {P:Program} {C:Cx} {N:Nat} {K:K3} {Q:Ex→K3} {env e':cR} {V V':HV} {σ σ' σ2 σ3:aY} {c:Code} {l:List (Nat×Value)}
theorem lw1{A0:Type}{S:A0→List (Nat×Value)}{R:A0→aY}{F:A0→Prop}{ν:A0→Nat}{m:Nat}(x0:A0)[hn:Nz σ2 σ3](a:bT e' (S x0))(b:F x0)(hr:R x0=σ3:=by rfl)(hμ:ν x0<m:=by omega)(hl:bT e' l:=by exact nF):
 ∃(z0:A0),bT e' (S z0)∧bT e' l∧R z0=σ2∧F z0∧ν z0<m:=⟨x0,a,hl,by rw[hn.out];exact hr,b,hμ⟩
end
section
variable {P:Program} {C:Cx} {N:Nat} {K:K3} {Q:Ex→K3} {env e':cR} {V V':HV} {σ σ':aY} {c:Code} {l:List (Nat×Value)}
theorem jp1{A0:Type}(W:List Nat)(S:A0→List (Nat×Value))(R:A0→aY)(F:A0→Prop)(h:VC P C N c (λe V' σ'=>∃(x0:A0),bT e (S x0)∧bT e l∧V=V'∧R x0=σ'∧F x0) Q env V σ)
  (k:∀(x0:A0) (e:cR),F x0→K (dN N (S x0) (dN N l e)) V (R x0)) (hl:iC env W l:=by exact kQ):VC P C N c K Q env V σ:=
 jp0 W (λp=>S p) (λp=>R p) (λp=>F p) (f5 h (λ_ _ _ ⟨x0,d⟩=>⟨x0,d⟩) (λ_ _ _ _ h=>h)) (λp=>k p) hl
theorem jx4{A0:Type}{A1:Type}{A2:Type}{A3:Type}(W:List Nat)(S:A0→A1→A2→A3→List (Nat×Value))(R:A0→A1→A2→A3→aY)(F:A0→A1→A2→A3→HV→Prop)(h:VC P C N c (λe V' σ'=>∃(x0:A0) (x1:A1) (x2:A2) (x3:A3),bT e (S x0 x1 x2 x3)∧bT e l∧bR V V'∧R x0 x1 x2 x3=σ'∧F x0 x1 x2 x3 V') Q env V σ)
  (k:∀(x0:A0) (x1:A1) (x2:A2) (x3:A3) (e:cR) (V':HV),bR V V'→F x0 x1 x2 x3 V'→K (dN N (S x0 x1 x2 x3) (dN N l e)) V' (R x0 x1 x2 x3)) (hl:iC env W l:=by exact kQ):VC P C N c K Q env V σ:=
 jx0 W (λp=>S (p.1) (p.2.1) (p.2.2.1) (p.2.2.2)) (λp=>R (p.1) (p.2.1) (p.2.2.1) (p.2.2.2)) (λp V'=>F (p.1) (p.2.1) (p.2.2.1) (p.2.2.2) V') (f5 h (λ_ _ _ ⟨x0,x1,x2,x3,d⟩=>⟨(x0,x1,x2,x3),d⟩) (λ_ _ _ _ h=>h)) (λp=>k (p.1) (p.2.1) (p.2.2.1) (p.2.2.2)) hl
end
end Go.Vc
namespace Go.Proofs.YtbchkopkgpfkgaaGreat
open Go Go.Vc
open Classical
def NO(t:Int):List St:=if t=0 then []else [.mk 2 t 0 0 tm0 [] [] []]
def spJ(p q:Int×Int):Int×Int:=(aX (p.1+q.1) 67108865,aX (p.2+q.2) 67108865)
abbrev gmI(a b:Int):Int:=if b<a then b else a
mutual
def spS:St→Int×Int
 | .mk dk c _ n t a b _=>
  if dk=3 then(lM c 0 67108865+gmI (spA a (0,0)).1 (spA b (0,0)).1,lM c 0 67108865+bJ (spA a (0,0)).2 (spA b (0,0)).2)
  else if dk=4 then
   (if t.op≠0 then(gmI (lM n 0 4096) 1*lM c 0 67108865,lM n 0 4096*(lM c 0 67108865+(spA a (0,0)).2))
    else if t.n≠0 then(lM n 0 4096*(lM c 0 67108865+(spA a (0,0)).1),lM n 0 4096*(lM c 0 67108865+(spA a (0,0)).2))
    else(gmI (lM n 0 4096) 1*lM c 0 67108865,gmI (lM n 0 4096) 1*lM c 0 67108865))
  else(lM c 0 67108865,lM c 0 67108865)
def spA:List St→Int×Int→Int×Int
 | [],p=>p
 |s::r,p=>spA r (spJ p (spS s))
end
abbrev spL(l:List St):Int×Int:=spA l (0,0)
abbrev AN(l:List St):Int:=(spL l).1
theorem akZ(s:St):spS s=if s.dk=3 then(lM s.cost 0 67108865+gmI (spL s.thn).1 (spL s.els).1,lM s.cost 0 67108865+bJ (spL s.thn).2 (spL s.els).2)
 else if s.dk=4 then
  (if s.tm.op≠0 then(gmI (lM s.n 0 4096) 1*lM s.cost 0 67108865,lM s.n 0 4096*(lM s.cost 0 67108865+(spL s.thn).2))
   else if s.tm.n≠0 then(lM s.n 0 4096*(lM s.cost 0 67108865+(spL s.thn).1),lM s.n 0 4096*(lM s.cost 0 67108865+(spL s.thn).2))
   else(gmI (lM s.n 0 4096) 1*lM s.cost 0 67108865,gmI (lM s.n 0 4096) 1*lM s.cost 0 67108865))
 else(lM s.cost 0 67108865,lM s.cost 0 67108865):=by cases s;rfl
theorem aHN:∀(a b:List St) (p:Int×Int),spA (a++b) p=spA b (spA a p)
 | [],_,_=>rfl
 |s::r,b,p=>aHN r b (spJ p (spS s))
theorem aCU{l:List St}{i:Int}(h0:0≤i)(h1:i<l.length):spL (l.take (i+1).toNat)=spJ (spL (l.take i.toNat)) (spS (st l i)):=by
 rw[show(i+1).toNat=i.toNat+1 by omega,mK (d:=st0) h0 h1];exact aHN ..
mutual
theorem aL7:∀s:St,0≤(spS s).1∧0≤(spS s).2
 | .mk dk c v n t a b bd=>by
  have x:=atL a (0,0) j_ j_;have y:=atL b (0,0) j_ j_;have hc:=aj6 (n:=c) (lo:=0) (hi:=67108865) aB;have hn:=aj6 (n:=n) (lo:=0) (hi:=4096) aB;have m:0≤gmI (lM n 0 4096) 1:=by unfold gmI;split<;>omega
  have p1:=oN m hc.1;have p2:=oN hn.1 (show 0≤lM c 0 67108865+(spA a (0,0)).2 by omega);have p3:=oN hn.1 (show 0≤lM c 0 67108865+(spA a (0,0)).1 by omega);grind[spS,spA]
theorem atL:∀(l:List St) (p:Int×Int),(0≤p.1∧p.1≤67108865)→(0≤p.2∧p.2≤67108865)→(0≤(spA l p).1∧(spA l p).1≤67108865)∧0≤(spA l p).2∧(spA l p).2≤67108865
 | [],_,h,k=>⟨h,k⟩
 |s::r,p,h,k=>by
  have q:=aL7 s;exact atL r (spJ p (spS s)) (fG aB aB) (fG aB aB)
end
theorem aiV(l:List St):(0≤(spL l).1∧(spL l).1≤67108865)∧0≤(spL l).2∧(spL l).2≤67108865:=atL l (0,0) j_ j_
def avO:St→St
 | .mk dk c v n t a b bd=>if dk=3 then .mk dk c v n t (a++NO (bJ 0 (AN b-AN a))) (b++NO (bJ 0 (AN a-AN b))) bd
  else if dk=4∧t.op≠0 then .mk dk c v n (.mk 0 1 []) [.mk 3 0 0 0 t a (NO (AN a)) []] b bd else .mk dk c v n t a b bd
mutual
def evS:St→St
 | .mk dk c v n t a b bd=>avO (.mk dk c v n t (i7 a) (i7 b) bd)
def i7:List St→List St
 | []=> []
 |s::r=>evS s::i7 r
end
def TO(F:Fl):Fl:=⟨F.vs,F.hs,i7 F.bd⟩
theorem adF:∀l:List St,(i7 l).length=l.length
 | []=>rfl
 |_::r=>congrArg (·+1) (adF r)
theorem aLd{l:List St}:i7 l=[]↔l=[]:=by cases l<;>simp[i7]
theorem aAe{dk c v n:Int}{t:Tm}{a b:List St}{bd:List Int}(h:dk=3):evS (.mk dk c v n t a b bd)= .mk dk c v n t (i7 a++NO (bJ 0 (AN (i7 b)-AN (i7 a)))) (i7 b++NO (bJ 0 (AN (i7 a)-AN (i7 b)))) bd:=aK h
theorem aAd{dk c v n:Int}{t:Tm}{a b:List St}{bd:List Int}(h:dk=4)(q:t.op≠0):evS (.mk dk c v n t a b bd)= .mk dk c v n (.mk 0 1 []) [.mk 3 0 0 0 t (i7 a) (NO (AN (i7 a))) []] (i7 b) bd:=(aC aB).trans (aK ⟨h,q⟩)
theorem aA5{dk c v n:Int}{t:Tm}{a b:List St}{bd:List Int}(h:¬dk=3)(q:¬(dk=4∧t.op≠0)):evS (.mk dk c v n t a b bd)= .mk dk c v n t (i7 a) (i7 b) bd:=(aC h).trans (aC q)
mutual
def ctS:St→Int
 | .mk dk c _ n t a _ _=>if dk=4 then(if t.n=0 then gmI n 1*c else n*(c+ctL a))else if dk=3 then c+ctL a else c
def ctL:List St→Int
 | []=>0
 |s::r=>ctS s+ctL r
end
mutual
def bnS:St→Prop
 | .mk dk _ _ n t a b _=>(dk=3→ctL a=ctL b∧bnL a∧bnL b)∧(dk=4→t.op=0∧(1≤n→bnL a))
def bnL:List St→Prop
 | []=>True
 |s::r=>bnS s∧bnL r
end
theorem avK:∀{a b:List St},bnL a→bnL b→bnL (a++b)
 | [],_,_,h=>h
 |_::_,_,h,k=>⟨h.1,avK h.2 k⟩
theorem aHJ(a b:List St):ctL (a++b)=ctL a+ctL b:=R_ (f:=ctS) rfl (λ_ _=>rfl) a b
theorem aHy(a b:List St):cG (a++b)=cG a+cG b:=R_ (f:=St.uT) rfl (λ_ _=>rfl) a b
theorem aHQ(w:Int):bnL (NO w):=by
 unfold NO;split;trivial;exact⟨⟨λh=>aB,λh=>aB⟩,trivial⟩
theorem aHR(w:Int):ctL (NO w)=w:=by
 unfold NO;split;rename_i h;rw[h];rfl;show w+0=w;omega
theorem aK0(w:Int):cG (NO w)=w:=by
 unfold NO;split;rename_i h;rw[h];rfl;show w+0+0=w;omega
theorem alH{F:Fl}:∀{a b:List St},fJ F False (a++b)→fJ F False a∧fJ F False b
 | [],_,h=>⟨trivial,h⟩
 |s::r,b,h=>by
  have h1:o_ F (False∧r++b=[]) s:=h.1;rw[false_and]at h1;have h2:=alH (a:=r) (b:=b) h.2;refine⟨⟨?_,h2.1⟩,h2.2⟩;rw[false_and];exact h1
theorem aH6{n lo hi:Int}(h:lo≤n)(k:n≤hi):lM n lo hi=n:=by unfold lM aX bJ;(repeat' split)<;>omega
mutual
theorem aL1{G:Fl}{last:Prop}:∀{s:St},o_ G last s→bnS s→s.uT≤67108864→(spS s).1=ctS s∧0≤ctS s∧ctS s≤s.uT
 | .mk dk c v n t a b bd,h,hb,hu=>by
  obtain⟨⟨c0,c1⟩,n0,n1⟩:=h.num;have c0:0≤c:=c0;have c1:c≤67108864:=c1;have n0:0≤n:=n0;have nn:=h.nn;have na:=(eB a nn.2.2.1).2.2;have nb:=(eB b nn.2.2.2).2.2;have ec:lM c 0 67108865=c:=aH6 c0 aB;by_cases e3:dk=3;subst e3;have hu:c+bJ (cG a) (cG b)≤67108864:=hu;obtain⟨q1,q2,q3⟩:=hb.1 rfl;have m1:cG a≤bJ (cG a) (cG b)∧cG b≤bJ (cG a) (cG b):=by unfold bJ;split<;>omega
  have x:=aiE (p:=(0,0)) h.2.1 q2 (eL _) UU;have y:=aiE (p:=(0,0)) h.2.2 q3 (eL _) UU;have x1:(spL a).1=0+ctL a:=x.1;have y1:(spL b).1=0+ctL b:=y.1;show lM c 0 67108865+gmI (spL a).1 (spL b).1=c+ctL a∧0≤c+ctL a∧c+ctL a≤c+bJ (cG a) (cG b);grind;by_cases e4:dk=4;subst e4;have n1:n≤4096:=n1 rfl;obtain⟨q1,q2⟩:=hb.2 rfl;have en:lM n 0 4096=n:=aH6 n0 n1;have hu:n*(c+cG a)≤67108864:=hu;have eu:(St.mk 4 c v n t a b bd).uT=n*(c+cG a):=rfl;have e1:(spS (St.mk 4 c v n t a b bd)).1=if t.n=0 then gmI n 1*c else n*(c+(spL a).1):=by grind[spS]
  have e2:ctS (St.mk 4 c v n t a b bd)=if t.n=0 then gmI n 1*c else n*(c+ctL a):=rfl
  rw[e1,e2,eu];by_cases z:n=0;grind;have hp:c+cG a≤n*(c+cG a):=by
   have:=aa0 (show 1≤n by omega) (show 0≤c+cG a by omega);omega
  have x:=aiE (p:=(0,0)) h.2.1 (q2 aB) (eL _) UU;have x1:(spL a).1=0+ctL a:=x.1;by_cases w:t.n=0;grind;rw[aC w,aC w,x1,LS];exact⟨rfl,oN n0 aB,aqJ aB n0⟩;have e1:(spS (St.mk dk c v n t a b bd)).1=lM c 0 67108865:=by unfold spS;rw[aC e3,aC e4]
  have e2:ctS (St.mk dk c v n t a b bd)=c:=by unfold ctS;rw[aC e4,aC e3]
  have e5:(St.mk dk c v n t a b bd).uT=c+bJ (cG a) (cG b):=aC e4;grind
theorem aiE{G:Fl}{top:Prop}{p:Int×Int}:∀{l:List St},fJ G top l→bnL l→0≤p.1→p.1+cG l≤67108864→(spA l p).1=p.1+ctL l∧0≤ctL l∧ctL l≤cG l
 | [],_,_,_,_=>⟨(Int.add_zero _).symm,eL _,eL _⟩
 |s::r,h,hb,h0,hu=>by
  have hu:p.1+(s.uT+cG r)≤67108864:=hu;have u:=(eB r h.2.nns).2.2;obtain⟨a1,a2,a3⟩:=aL1 h.1 hb.1 aB;have e:(spJ p (spS s)).1=p.1+ctS s:=by show aX (p.1+(spS s).1) 67108865=_;rw[a1];exact aK aB
  obtain⟨b1,b2,b3⟩:=aiE (p:=spJ p (spS s)) h.2 hb.2 aB aB;show(spA r (spJ p (spS s))).1=p.1+(ctS s+ctL r)∧0≤ctS s+ctL r∧ctS s+ctL r≤s.uT+cG r;omega
end
mutual
theorem aLT{G:Fl}{last:Prop}:∀{s:St},o_ G last (evS s)→(evS s).uT≤67108864→bnS (evS s)
 | .mk dk c v n t a b bd,h,hu=>by
  by_cases e3:dk=3;rw[aAe e3]at h hu⊢;subst e3;have cn:=h.num.1.1;have cn:0≤c:=cn;have nn:=h.nn;have h1:=alH h.2.1;have h2:=alH h.2.2;have ua:=(eB _ h1.1.nns).2.2;have ub:=(eB _ h2.1.nns).2.2;generalize eA:i7 a=A at*;generalize eB:i7 b=B at*;have w1:0≤bJ 0 (AN B-AN A)∧0≤bJ 0 (AN A-AN B):=by unfold bJ;constructor<;>split<;>omega
  generalize ew1:bJ 0 (AN B-AN A)=w at*;generalize ew2:bJ 0 (AN A-AN B)=w' at*;have hu:c+bJ (cG (A++NO w)) (cG (B++NO w'))≤67108864:=hu;rw[aHy,aHy,aK0,aK0]at hu;have lA:cG A≤67108864:=by unfold bJ at hu;split at hu<;>omega
  have lB:cG B≤67108864:=by unfold bJ at hu;split at hu<;>omega
  have bA:bnL A:=by rw[←eA]at h1 lA⊢;exact aj0 h1.1 lA
  have bB:bnL B:=by rw[←eB]at h2 lB⊢;exact aj0 h2.1 lB
  have sA:=(aiE (p:=(0,0)) h1.1 bA (eL _) UU).1;have sB:=(aiE (p:=(0,0)) h2.1 bB (eL _) UU).1;have sA:AN A=0+ctL A:=sA;have sB:AN B=0+ctL B:=sB;refine⟨λ_=>⟨?_,avK bA (aHQ _),avK bB (aHQ _)⟩,λz=>aB⟩;grind[aHJ,aHR];by_cases e4:dk=4∧t.op≠0;rw[aAd e4.1 e4.2]at h hu⊢;obtain⟨e4,eo⟩:=e4;subst e4;have c0:0≤c:=h.num.1.1;have hi:=h.2.1.1;have u1:=(eB _ h.2.1.nns).2.2;have ua:=(eB _ hi.2.1.nns).2.2;have hu:n*(c+cG [.mk 3 0 0 0 t (i7 a) (NO (AN (i7 a))) []])≤67108864:=hu;refine⟨λz=>aB,λ_=>⟨rfl,λn1=>⟨⟨λ_=> ?_,λz=>aB⟩,trivial⟩⟩⟩;have hp:=aa0 n1 (show 0≤c+cG [.mk 3 0 0 0 t (i7 a) (NO (AN (i7 a))) []] by omega);have lU:cG [.mk 3 0 0 0 t (i7 a) (NO (AN (i7 a))) []]=0+bJ (cG (i7 a)) (cG (NO (AN (i7 a))))+0:=rfl;have lA:cG (i7 a)≤67108864:=by grind
  have bA:=aj0 hi.2.1 lA;have sA:AN (i7 a)=0+ctL (i7 a):=(aiE (p:=(0,0)) hi.2.1 bA (eL _) UU).1;exact⟨by rw[aHR];omega,bA,aHQ _⟩;rw[aA5 e3 e4]at h hu⊢;refine⟨λz=>bM z e3,λz=>⟨?_,λn1=> ?_⟩⟩;grind;subst z;have c0:0≤c:=h.num.1.1;have ua:=(eB _ h.2.1.nns).2.2;have hu:n*(c+cG (i7 a))≤67108864:=hu;have hp:=aa0 n1 (show 0≤c+cG (i7 a) by omega);exact aj0 h.2.1 aB
theorem aj0{G:Fl}{top:Prop}:∀{l:List St},fJ G top (i7 l)→cG (i7 l)≤67108864→bnL (i7 l)
 | [],_,_=>trivial
 |s::r,h,hu=>by
  have hu:(evS s).uT+cG (i7 r)≤67108864:=hu;have u:=(eB _ h.2.nns).2.2;have v:=(St.ub_nn _ h.1.nn).2.2;exact⟨aLT h.1 aB,aj0 h.2 aB⟩
end
theorem aH3{f:Mc→Mc}{c d:Int}{t:Tm}(ho:t.op=0)(hf:∀m,(f m).time=m.time+d)(hx:t.n≠0):∀(n:Nat) (m:Mc),(mJ f c t n m).time=m.time+n*(c+d)
 |0,m=>by show m.time=_;simp
 |n+1,m=>by
  unfold mJ;have e:val m.vals t=t.n:=by rw[xF];unfold FY;rw[aK ho]
  rw[aC (by rw[e];exact hx),aH3 ho hf hx n,hf];grind
mutual
theorem rtS{G:Fl}{H:List Int}{last:Prop}:∀{s:St},o_ G last s→s.dk≠6→bnS s→∀m:Mc,(f9 G H s m).time=m.time+ctS s
 | .mk dk c v n t a b bd,h,h6,hb,m=>by
  have h6:dk≠6:=h6;have n0:0≤n:=h.num.2.1;by_cases e4:dk=4;subst e4;obtain⟨q1,q2⟩:=hb.2 rfl;show(mJ (fX G H a) c t n.toNat m).time=m.time+(if t.n=0 then gmI n 1*c else n*(c+ctL a));by_cases z:n=0;subst z;rw[show gmI 0 1=0 from rfl];show m.time=_;split<;>simp;by_cases w:t.n=0;have e:val m.vals t=0:=by rw[xF];unfold FY;rw[aK q1,w]
  rw[aK w,ajM aB e,show gmI n 1=1 by unfold gmI;split<;>omega];show m.time+c=_;omega;have hf:=λm=>rtL h.2.1 (q2 aB) m (H:=H);grind[aH3];have e:f9 G H (.mk dk c v n t a b bd) m=tT G H dk v n t bd (fX G H a) (fX G H b) ⟨m.vals,m.outs,m.time+c⟩:=aC e4;rw[e];unfold tT ctS;rw[aC e4];by_cases e3:dk=3;subst e3;obtain⟨q1,q2,q3⟩:=hb.1 rfl;rw[aC aB,aC aB,aK rfl,aK rfl];split;rw[rtL h.2.1 q2];show m.time+c+_=_;omega;rw[rtL h.2.2 q3];show m.time+c+_=_;omega;grind
theorem rtL{G:Fl}{H:List Int}:∀{l:List St},fJ G False l→bnL l→∀m:Mc,(fX G H l m).time=m.time+ctL l
 | [],_,_,m=>by show m.time=m.time+0;omega
 |s::r,h,hb,m=>by
  have h6:s.dk≠6:=λe=>(aF4 (iM.1 h.1).1.shp e).1.1;show(fX G H r (f9 G H s m)).time=m.time+(ctS s+ctL r);rw[rtL h.2 hb.2,rtS h.1 h6 hb.1];omega
end
theorem rtT{G:Fl}{H H':List Int}{top:Prop}:∀{l:List St},fJ G top l→bnL l→∀m m':Mc,m.time=m'.time→(fX G H l m).time=(fX G H' l m').time
 | [],_,_,_,_,e=>e
 |s::r,h,hb,m,m',e=>by
  refine rtT h.2 hb.2 _ _ ?_;by_cases h6:s.dk=6;have k:∀(H:List Int) (m:Mc),(f9 G H s m).time=stl s.bds (m.time+s.cost):=λH m=>by
   rw[tI,aC aB];unfold tT;grind
  rw[k,k,e];rw[rtS h.1 h6 hb.1,rtS h.1 h6 hb.1,e]
def VOq(m m':Mc):Prop:=m.vals=m'.vals∧m.outs=m'.outs
theorem aEa{G:Fl}{H:List Int}(w:Int)(m:Mc):VOq (fX G H (NO w) m) m:=by
 unfold NO;split;exact⟨rfl,rfl⟩;exact⟨rfl,rfl⟩
theorem anB{F:Fl}{H:List Int}:∀(a b:List St) (m:Mc),fX F H (a++b) m=fX F H b (fX F H a m)
 | [],_,_=>rfl
 |s::r,b,m=>anB r b (f9 F H s m)
theorem aHH{f g:Mc→Mc}{c:Int}{t:Tm}(hfg:∀m m',VOq m m'→VOq (f m) (g m')):∀(n:Nat) (m m':Mc),VOq m m'→VOq (mJ f c t n m) (mJ g c t n m')
 |0,_,_,h=>h
 |n+1,m,m',h=>by
  unfold mJ;rw[h.1];split;exact⟨rfl,h.2⟩;exact aHH hfg n _ _ (hfg _ _ ⟨rfl,h.2⟩)
theorem aHE{f:Mc→Mc}{c:Int}{t:Tm}(P:Mc→Prop)(hf:∀m,P m→VOq (f m) m)(hP:∀m m',VOq m m'→P m→P m'):∀(n:Nat) (m:Mc),P m→VOq (mJ f c t n m) m
 |0,_,_=>⟨rfl,rfl⟩
 |n+1,m,h=>by
  unfold mJ;split;exact⟨rfl,rfl⟩;have h0:P ⟨m.vals,m.outs,m.time+c⟩:=hP m _ ⟨rfl,rfl⟩ h;have h1:=hf _ h0;have h2:=aHE (c:=c) (t:=t) P hf hP n _ (hP _ _ ⟨h1.1.symm,h1.2.symm⟩ h0);exact⟨h2.1.trans h1.1,h2.2.trans h1.2⟩
theorem aHx{G:Fl}{H:List Int}{f:Mc→Mc}{c w:Int}{t:Tm}{A:List St}(hA:∀m m',VOq m m'→VOq (fX G H A m) (f m')):
  ∀(n:Nat) (m m':Mc),VOq m m'→VOq (mJ (fX G H [.mk 3 0 0 0 t A (NO w) []]) c (.mk 0 1 []) n m) (mJ f c t n m')
 |0,_,_,h=>h
 |n+1,m,m',h=>by
  have e1:∀m:Mc,val m.vals (.mk 0 1 [])=1:=λm=>rfl;have er:∀m:Mc,fX G H [.mk 3 0 0 0 t A (NO w) []] m=if val m.vals t≠0 then fX G H A ⟨m.vals,m.outs,m.time+0⟩else fX G H (NO w) ⟨m.vals,m.outs,m.time+0⟩:=λm=>rfl
  by_cases q:val m'.vals t=0;rw[ajM (f:=f) aB q];have k:=aHE (f:=fX G H [.mk 3 0 0 0 t A (NO w) []]) (c:=c) (t:=.mk 0 1 []) (λm=>val m.vals t=0) (λm hm=>by
   rw[er,aC (λz=>z hm)];have:=aEa (G:=G) (H:=H) w ⟨m.vals,m.outs,m.time+0⟩;exact this) (λm m' hm hz=>by rw[←hm.1];exact hz) (n+1) m (by rw[h.1];exact q)
  exact⟨k.1.trans h.1,k.2.trans h.2⟩;unfold mJ;rw[aC (by rw[e1];omega),aC q];refine aHx hA n _ _ ?_;rw[er,aK (by show val m.vals t≠0;rw[h.1];exact q)];exact hA _ _ h
mutual
theorem aMf{F:Fl}{H:List Int}:∀{s:St} (m m':Mc),VOq m m'→VOq (f9 (TO F) H (evS s) m) (f9 F H s m')
 | .mk dk c v n t a b bd,m,m',h=>by
  have ha:=λm m' h=>asV (F:=F) (H:=H) (l:=a) m m' h;have hb:=λm m' h=>asV (F:=F) (H:=H) (l:=b) m m' h;by_cases e3:dk=3;rw[aAe e3];subst e3;show VOq (if val m.vals t≠0 then fX (TO F) H (i7 a++_) ⟨m.vals,m.outs,m.time+c⟩else fX (TO F) H (i7 b++_) ⟨m.vals,m.outs,m.time+c⟩) (if val m'.vals t≠0 then fX F H a ⟨m'.vals,m'.outs,m'.time+c⟩else fX F H b ⟨m'.vals,m'.outs,m'.time+c⟩);rw[h.1];split;rw[anB];have k:=aEa (G:=TO F) (H:=H) (bJ 0 (AN (i7 b)-AN (i7 a))) (fX (TO F) H (i7 a) ⟨m'.vals,m.outs,m.time+c⟩);have q:=ha ⟨m'.vals,m.outs,m.time+c⟩ ⟨m'.vals,m'.outs,m'.time+c⟩ ⟨rfl,h.2⟩;exact⟨k.1.trans q.1,k.2.trans q.2⟩;rw[anB];have k:=aEa (G:=TO F) (H:=H) (bJ 0 (AN (i7 a)-AN (i7 b))) (fX (TO F) H (i7 b) ⟨m'.vals,m.outs,m.time+c⟩);have q:=hb ⟨m'.vals,m.outs,m.time+c⟩ ⟨m'.vals,m'.outs,m'.time+c⟩ ⟨rfl,h.2⟩;exact⟨k.1.trans q.1,k.2.trans q.2⟩;by_cases e4:dk=4∧t.op≠0;rw[aAd e4.1 e4.2];obtain⟨e4,_⟩:=e4;subst e4;exact aHx ha n.toNat m m' h;rw[aA5 e3 e4];by_cases q:dk=4;subst q;exact aHH ha n.toNat m m' h;have e:∀(G:Fl) (A B:List St) (m:Mc),f9 G H (.mk dk c v n t A B bd) m=tT G H dk v n t bd (fX G H A) (fX G H B) ⟨m.vals,m.outs,m.time+c⟩:=λ_ _ _ _=>aC q;rw[e,e];unfold tT;rw[aC e3,aC e3];obtain⟨h1,h2⟩:=h;show VOq (if dk=0 then⟨xN F m.vals v (val m.vals t),m.outs,m.time+c⟩else if dk=1 then⟨m.vals,m.outs++ [val m.vals t],m.time+c⟩else if dk=5 then⟨xN F m.vals v (gi H n),m.outs,m.time+c⟩else if dk=6 then⟨m.vals,m.outs,stl bd (m.time+c)⟩else⟨m.vals,m.outs,m.time+c⟩)
   (if dk=0 then⟨xN F m'.vals v (val m'.vals t),m'.outs,m'.time+c⟩else if dk=1 then⟨m'.vals,m'.outs++ [val m'.vals t],m'.time+c⟩else if dk=5 then⟨xN F m'.vals v (gi H n),m'.outs,m'.time+c⟩else if dk=6 then⟨m'.vals,m'.outs,stl bd (m'.time+c)⟩else⟨m'.vals,m'.outs,m'.time+c⟩)
  rw[h1,h2]
  (repeat' split)<;>exact⟨rfl,rfl⟩
theorem asV{F:Fl}{H:List Int}:∀{l:List St} (m m':Mc),VOq m m'→VOq (fX (TO F) H (i7 l) m) (fX F H l m')
 | [],_,_,h=>h
 |_::r,m,m',h=>asV (l:=r) _ _ (aMf m m' h)
end
theorem aK8{F:Fl}{A B C:List Int}:(qC (TO F) A B C).outs=(qC F A B C).outs:=(asV (F:=F) (l:=F.bd) _ _ ⟨rfl,rfl⟩).2
theorem aK4{F:Fl}(hV:gI (TO F)){A B C A' B' C':List Int}:(qC (TO F) A B C).time=(qC (TO F) A' B' C').time:=rtT hV.bd (aj0 hV.bd hV.uT) _ _ rfl
theorem ar6{F:Fl}:∀{a b:List St},acQ F False a→acQ F False b→acQ F False (a++b)
 | [],_,_,k=>k
 |s::r,b,h,k=>by
  refine⟨?_,ar6 h.2 k⟩;have h1:StW F (False∧r=[]) s:=h.1;rw[false_and]at h1;show StW F (False∧r++b=[]) s;rw[false_and];exact h1
theorem aBv{vs:List Vr}{n:Int}(h1:-1048576≤n)(h2:n≤1048576):lO vs false (.mk 0 n [])∧oI vs (.mk 0 n []):=by
 refine⟨⟨?_,?_,trivial⟩,trivial,?_⟩;unfold kF jI;simp;unfold H0;omega;show OL (pH vs 0 n []);rw[WR aB];exact⟨h1,h2⟩
theorem aKN{F:Fl}{w:Int}(h:0≤w):acQ F False (NO w):=by
 unfold NO;split;trivial;refine⟨⟨⟨(aeN rfl).2 ⟨⟨⟨⟨⟨rfl,rfl⟩,rfl⟩,rfl⟩,rfl⟩,⟨rfl,rfl⟩,rfl⟩,⟨h,eL _,λz=>by have:(2:Int)=4:=z;omega⟩,λz=>bM z.1 (by show¬(0:Int)<((0:Nat):Int);omega),?_⟩,trivial,trivial⟩,trivial⟩;exact aBv aB aB
mutual
theorem aMJ{F:Fl}{last:Prop}:∀{s:St},o_ F last s→StW (TO F) last (evS s)
 | .mk dk c v n t a b bd,h=>by
  have ha:=aAB h.2.1;have hb:=aAB h.2.2;have hn:=aKC h;have k:=h.1;have tA:=(aiV (i7 a)).1;have tB:=(aiV (i7 b)).1;by_cases e3:dk=3;rw[aAe e3];subst e3;have z:=(auF (F:=F) (s:=.mk 3 c v n t a b bd) (last:=last) rfl).1 k.shp;refine⟨⟨(auF rfl).2 z,hn,k.bd,k.ct⟩,ar6 ha (aKN ?_),ar6 hb (aKN ?_)⟩;unfold bJ;split<;>omega;unfold bJ;split<;>omega;by_cases e4:dk=4∧t.op≠0;rw[aAd e4.1 e4.2];obtain⟨e4,_⟩:=e4;subst e4;obtain⟨⟨q1,q2⟩,q3⟩:=(asO (F:=F) (s:=.mk 4 c v n t a b bd) (last:=last) rfl).1 k.shp;have q2:(b.length:Int)=0:=q2;refine⟨⟨(asO rfl).2 ⟨⟨q1,by show((i7 b).length:Int)=0;rw[adF];exact q2⟩,q3⟩,hn,k.bd,aBv aB aB⟩,⟨⟨⟨(auF rfl).2 ⟨⟨rfl,rfl⟩,rfl⟩,⟨eL _,eL _,λz=>by have:(3:Int)=4:=z;omega⟩,λz=>bM z.1 (by show¬(0:Int)<((0:Nat):Int);omega),k.ct⟩,ha,aKN tA.1⟩,trivial⟩,hb⟩;rw[aA5 e3 e4];refine⟨⟨?_,hn,k.bd,k.ct⟩,ha,hb⟩;have z:=k.shp;unfold iT zP at z⊢;show if dk=0 then _ else _
  simp only[St.dk,St.thn,St.els,St.var,St.n,St.tm,adF]at z⊢;exact z
theorem aAB{F:Fl}{top:Prop}:∀{l:List St},fJ F top l→acQ (TO F) top (i7 l)
 | [],_=>trivial
 |s::r,h=>by
  refine⟨?_,aAB h.2⟩;have:=aMJ h.1;rwa[show(top∧r=[])=(top∧i7 r=[]) by rw[aLd]]at this
end
theorem aHG(a b:List St):bN (a++b)=bN a+bN b:=R_ (f:=St.nd) rfl (λ_ _=>rfl) a b
theorem aHV(w:Int):bN (NO w)≤2:=by
 unfold NO;split;decide;exact eL _
theorem aHU(w:Int):C1 (NO w):=by
 unfold NO;split;trivial;exact⟨⟨j_,trivial,trivial⟩,trivial⟩
theorem avH:∀{a b:List St},C1 a→C1 b→C1 (a++b)
 | [],_,_,k=>k
 |_::_,_,h,k=>⟨h.1,avH h.2 k⟩
mutual
theorem aMu:∀s:St,(evS s).nd≤3*s.nd∧(s.td→(evS s).td)
 | .mk dk c v n t a b bd=>by
  have ha:=alG a;have hb:=alG b;have ht:=t.sz_pos;by_cases e3:dk=3;rw[aAe e3];refine⟨?_,λh=>⟨h.1,avH (ha.2 h.2.1) (aHU _),avH (hb.2 h.2.2) (aHU _)⟩⟩;have w1:=aHV (bJ 0 (AN (i7 b)-AN (i7 a)));have w2:=aHV (bJ 0 (AN (i7 a)-AN (i7 b)));show 1+t.sz+bN (_++_)+bN (_++_)≤3*(1+t.sz+bN a+bN b);rw[aHG,aHG];omega;by_cases e4:dk=4∧t.op≠0;rw[aAd e4.1 e4.2];refine⟨?_,λh=>⟨j_,⟨⟨h.1,ha.2 h.2.1,aHU _⟩,trivial⟩,hb.2 h.2.2⟩⟩;have w1:=aHV (AN (i7 a));show 1+(1+0)+((1+t.sz+bN (i7 a)+bN (NO _))+0)+bN (i7 b)≤3*(1+t.sz+bN a+bN b);omega;rw[aA5 e3 e4];refine⟨?_,λh=>⟨h.1,ha.2 h.2.1,hb.2 h.2.2⟩⟩;show 1+t.sz+bN (i7 a)+bN (i7 b)≤3*(1+t.sz+bN a+bN b);omega
theorem alG:∀l:List St,bN (i7 l)≤3*bN l∧(C1 l→C1 (i7 l))
 | []=>⟨by decide,λ_=>trivial⟩
 |s::r=>by
  have a:=aMu s;have b:=alG r;refine⟨?_,λh=>⟨a.2 h.1,b.2 h.2⟩⟩;show(evS s).nd+bN (i7 r)≤3*(s.nd+bN r);omega
end
theorem aK_{F:Fl}{i:Int}(h:ao4 F i):ao4 (TO F) i:=⟨h.nm,h.du,h.bd,h.ct⟩
theorem aMk{F:Fl}(h:gI F)(hf:bN F.bd+eV F.hs≤80):WkP (TO F) where
 vl:=by have:=h.sz.1;show F.vs.length≤64;omega
 hl:=by have:=h.sz.1;show F.hs.length≤8;omega
 hd:=h.sz.2.1
 nd:=by have:=(alG F.bd).1;have:=CY F.hs;have:=dK F.bd;show bN (i7 F.bd)+eV F.hs≤1024;omega
 td:=(alG F.bd).2 h.sz.2.2.2.2
 vs:=h.vs
 hs i a b:=aK_ (h.hs i a b)
 bd:=aAB h.bd
end Go.Proofs.YtbchkopkgpfkgaaGreat
namespace Go.Vc
open Go Go.RowKit
section
variable {P:Program} {C:Cx} {N:Nat} {K:K3} {Q:Ex→K3} {env:cR} {V:HV} {σ:aY} {ops:Array Oper} {rest:List Oper} {w:World}
variable {d k b s:Nat} {dst:Option Nat} {x y z:Operand} {t T T' T2 E E2:TypeId} {pos:String} {af:Array Edge} {g:Option (Nat×Bool)} {v:Value} {xs:List Value}
theorem aR.cells_of{m:Nat}{u:Value}{news:List Value}(h:aR s V u m news):(m=0∧news=[]∧∃c,u= .slice none 0 c)∨∃ad c,u= .slice (some ad) m c∧news.length=m*s∧∀w,Vc.bR V (hv w)→∀(j:Nat) (z:Value),news[j]? =some z→w.cell? (ad.add j)=some z:=by
 obtain⟨a,cap,rfl,hc,hm,hl,hd⟩:=h;cases a with
 |none=>
  have e:m=0:=kB λq=>by obtain⟨_,_,_,_,_,h,_⟩:=hd q;cases h
  subst e;grind
 |some ad=>
  refine .inr ⟨ad,cap,rfl,hl,λw hw j z hj=> ?_⟩;have hk:m≠0:=λq=>by subst q;have e:news=[]:=rS PZ;subst e;simp at hj
  obtain⟨b,off,cs,T,fz,e,hb2,he⟩:=hd hk;cases e;have hj2:j<m*s:=by rw[←hl];exact(EG.1 hj).1
  have hh:w.heap[b]? =some (.cells cs T fz):=hw b _ hb2;rw[add_none];simp[World.cell?,hh,he j hj2,hj]
theorem aCA{n m yy:Nat}{z0 u:Value}{news:List Value}(hT:P.underlying T=some (.slice E))(hi:TI P E z0 s yy)(hzs:z0.cells.size=s)(h0:0<s)(hx:ev env x=v)(hk:σ[k]? =some (Gr E s v n xs))(hy:ev env y=u)(hs:aR s V u m news)(h1:∀u∈news,u.oneCell'=true)
  (hb:(n+m)*yy≤140737488355328) (h63:n+m≤maxLen) (h:∀v',d6 P C N ops K rest (upd N env d v') V (σ.set k (Gr E s v' (n+m) (xs++news)))):
  d6 P C N ops K (⟨some d,.call {callee:=.builtin .append,args:= #[x,y],argTypes:= #[T,T]},t,pos,af,none⟩::rest) env V σ:=by
 rcases hs.cells_of with⟨rfl,rfl,cap,rfl⟩|⟨ad,cap,rfl,hl,hn⟩
 refine aa1 hT hi hx hk hy ?_;grind[EG.1,List.set_getElem_self];exact yJ hT hi hzs h0 hx hk hy hl (λw hm=>hn w hm.view) h1 hb h63 (λv' _=>h v')
theorem aKQ{n:Nat}{i:Int}{o m:Nat}{vs:List Value}(hA:r_ P T m)(hx:ev env x=C8 v i s o)(hk:σ[k]? =some (Gr E2 s v n xs))(h0:0≤i)(h1:i<n)(ho:o+m≤s)(hs:(xs.drop (i.toNat*s+o)).take m=vs):QV P C ⟨dst,.load T x,t,pos,af,g⟩ env V σ (.agg vs.toArray):=ldX hA hx (λ_ m=>m.grSls hk) h0 h1 ho hs
theorem aHM{n f o:Nat}{i:Int}(hF:yV P T f o)(hx:ev env x=iG v i s)(hv:∃b c,v= .slice (some ⟨b,0,none⟩) n c):QV P C ⟨dst,.fieldAddr T x f,t,pos,af,g⟩ env V σ (C8 v i s o):=by
 obtain⟨b,c,rfl⟩:=hv;have e1:iG (.slice (some ⟨b,0,none⟩) n c) i s= .pointer (some ⟨b,i.toNat*s,none⟩):=by simp only[iG];rw[add_none,Nat.zero_add]
 have e2:C8 (.slice (some ⟨b,0,none⟩) n c) i s o= .pointer (some ⟨b,i.toNat*s+o,none⟩):=by simp only[C8];rw[add_none,Nat.zero_add]
 rw[e2];exact KA hF (hx.trans e1)
theorem aKA{n c n2 c2:Nat}(hT:P.underlying T=some (.slice E))(hx:ev env x= .slice none n c)(hy:ev env y= .slice none n2 c2):QV P C ⟨dst,.binOp .neq T x y T',t,pos,af,g⟩ env V σ (.bool false):=cS λw _=>by
 simp[execOp,hx,hy,eqGuard,binOp,afG hT]
end
end Go.Vc
namespace Go.Proofs.YtbchkopkgpfkgaaGreat
open Go Go.Vc
theorem auA{α β:Type}(d:α)(f:α→List β)(Q:List α)(g:Nat→List β)(h:∀i,i<Q.length→g i=f (Q.getD i d)):(List.range Q.length).flatMap g=Q.flatMap f:=by
 have e:(List.range Q.length).map (fun i=>Q.getD i d)=Q:=List.ext_getElem (by simp) (fun i h1 h2=>by simp[List.getD_eq_getElem?_getD,h2]);grind[List.range,List.map_map,List.map_congr_left,List.mem_range.1]
theorem aaT{α β:Type}{d:α}{e:β}{f:α→β}{Q:List α}{i:Int}(h0:0≤i)(h1:i<Q.length):(Q.map f).getD i.toNat e=f (Q.getD i.toNat d):=by grind
theorem amF{α:Type}{d:α}{Q:List α}{i:Int}(h0:0≤i)(h1:i<Q.length):Q.getD i.toNat d∈Q:=by grind
abbrev t9:Value:=.slice none 0 0
abbrev TmR:=Tm×Value
def tmk(p:TmR):List Value:=[.int .i64 p.1.op,.int .i64 p.1.n,p.2]
def tmq(Q:List TmR):List Value:=Q.flatMap tmk
theorem aKI(Q:List TmR)(p:TmR):tmq (Q++ [p])=tmq Q++tmk p:=by simp[tmq]
def aiU(V:HV)(Q:List TmR):Prop:=∀p∈Q,eJ V p.2 p.1.kids
theorem aiU.mono{V W:HV}{Q:List TmR}(h:aiU V Q)(s:Vc.bR V W):aiU W Q:=λp hp=>(h p hp).mono s
theorem aiU.nil{V:HV}:aiU V []:=λ_ h=>by cases h
theorem aiU.snoc{V:HV}{Q:List TmR}{p:TmR}(h:aiU V Q)(hp:eJ V p.2 p.1.kids):aiU V (Q++ [p]):=λq hq=>by
 rcases jW.1 hq with hq|hq
 exact h q hq;rw[gY.1 hq];exact hp
theorem aMr{V:HV}{v:Value}{Q:List TmR}(h:aR 3 V v Q.length (tmq Q))(hq:aiU V Q):eJ V v (Q.map (·.1)):=by
 refine .mk (Q.map (·.2)) ?_ λi a b=> ?_;rw[fT,show Z9 (Q.map (·.2)) (Q.map (·.1))=tmq Q from ?_];exact h;unfold Z9 tmq;rw[fT];refine auA (tm0,t9) tmk Q _ λi hi=> ?_;unfold tmc tmk;grind;rw[fT]at b;have e1:tm (Q.map (·.1)) i=(Q.getD i.toNat (tm0,t9)).1:=aaT a b;have e2:gv (Q.map (·.2)) i=(Q.getD i.toNat (tm0,t9)).2:=aaT a b;rw[e1,e2];exact hq _ (amF a b)
structure Wd4 where
 k:Value
 t:Value
 e:Value
 b:Value
abbrev SrQ:=St×Wd4
def stk(p:SrQ):List Value:=[.int .i64 p.1.dk,.int .i64 p.1.cost,.int .i64 p.1.var,.int .i64 p.1.n,.int .i64 p.1.tm.op,.int .i64 p.1.tm.n,p.2.k,p.2.t,p.2.e,p.2.b]
def stq(Q:List SrQ):List Value:=Q.flatMap stk
theorem aLQ(Q R:List SrQ):stq (Q++R)=stq Q++stq R:=by simp[stq]
theorem aDW(Q:List SrQ)(p:SrQ):stq (Q++ [p])=stq Q++stk p:=by simp[stq]
structure adE (V:HV) (p:SrQ):Prop where
 k:eJ V p.2.k p.1.tm.kids
 t:eO V p.2.t p.1.thn
 e:eO V p.2.e p.1.els
 b:aT .i64 V p.2.b p.1.bds
def N3(V:HV)(Q:List SrQ):Prop:=∀p∈Q,adE V p
theorem adE.mono{V W:HV}{p:SrQ}(h:adE V p)(s:Vc.bR V W):adE W p:=⟨h.k.mono s,h.t.mono s,h.e.mono s,h.b.mono s⟩
theorem N3.mono{V W:HV}{Q:List SrQ}(h:N3 V Q)(s:Vc.bR V W):N3 W Q:=λp hp=>(h p hp).mono s
theorem N3.nil{V:HV}:N3 V []:=λ_ h=>by cases h
theorem N3.app{V:HV}{Q R:List SrQ}(h:N3 V Q)(k:N3 V R):N3 V (Q++R):=λq hq=>(jW.1 hq).elim (h q) (k q)
theorem N3.snoc{V:HV}{Q:List SrQ}{p:SrQ}(h:N3 V Q)(hp:adE V p):N3 V (Q++ [p]):=h.app λq hq=>by rw[gY.1 hq];exact hp
theorem N3.one{V:HV}{Q:List SrQ}(h:N3 V Q):∀u∈stq Q,u.oneCell'=true:=λu hu=>by
 obtain⟨p,hp,hu⟩:=List.mem_flatMap.1 hu;have q:=h p hp;simp only[stk,uL,List.not_mem_nil,or_false]at hu;rcases hu with rfl|rfl|rfl|rfl|rfl|rfl|rfl|rfl|rfl|rfl
 iterate 6 rfl
 exact q.k.one;exact q.t.one;exact q.e.one;exact Sl.one q.b
theorem ac0{V:HV}{v:Value}{Q:List SrQ}(h:aR 10 V v Q.length (stq Q))(hq:N3 V Q):eO V v (Q.map (·.1)):=by
 have d:SrQ:=(st0,⟨t9,t9,t9,t9⟩);have e1:∀i:Int,0≤i→i<Q.length→st (Q.map (·.1)) i=(Q.getD i.toNat d).1:=λi a b=>aaT a b;have f1:∀i:Int,0≤i→i<Q.length→gv (Q.map (·.2.k)) i=(Q.getD i.toNat d).2.k:=λi a b=>aaT a b;have f2:∀i:Int,0≤i→i<Q.length→gv (Q.map (·.2.t)) i=(Q.getD i.toNat d).2.t:=λi a b=>aaT a b;have f3:∀i:Int,0≤i→i<Q.length→gv (Q.map (·.2.e)) i=(Q.getD i.toNat d).2.e:=λi a b=>aaT a b;have f4:∀i:Int,0≤i→i<Q.length→gv (Q.map (·.2.b)) i=(Q.getD i.toNat d).2.b:=λi a b=>aaT a b;have ok:∀i:Int,0≤i→i<Q.length→adE V (Q.getD i.toNat d):=λi a b=>hq _ (amF a b);refine .mk (Q.map (·.2.k)) (Q.map (·.2.t)) (Q.map (·.2.e)) (Q.map (·.2.b)) ?_ (λi a b=> ?_) (λi a b=> ?_) (λi a b=> ?_) (λi a b=> ?_);rw[fT,show FD (Q.map (·.2.k)) (Q.map (·.2.t)) (Q.map (·.2.e)) (Q.map (·.2.b)) (Q.map (·.1))=stq Q from ?_];exact h;unfold FD stq;rw[fT];refine auA d stk Q _ λi hi=> ?_;unfold stc stk;grind;rw[fT]at b;rw[e1 i a b,f1 i a b];exact(ok i a b).k;rw[fT]at b;rw[e1 i a b,f2 i a b];exact(ok i a b).t;rw[fT]at b;rw[e1 i a b,f3 i a b];exact(ok i a b).e;rw[fT]at b;rw[e1 i a b,f4 i a b];exact(ok i a b).b
theorem awS{V:HV}{v:Value}{l:List St}(h:eO V v l):∃Q:List SrQ,aR 10 V v Q.length (stq Q)∧N3 V Q∧Q.map (·.1)=l:=by
 obtain⟨kv,tv,ev,bv,sl,hk,ht,he,hb⟩:=h;refine⟨(List.range l.length).map λi:Nat=>(st l i,⟨gv kv i,gv tv i,gv ev i,gv bv i⟩),?_,λp hp=> ?_,?_⟩;rw[fT,List.length_range,show stq _=FD kv tv ev bv l from ?_];exact sl;unfold stq FD;rw[WU,WU,List.map_map];rfl;obtain⟨i,hi,rfl⟩:=HW.1 hp;have hi:=CM.1 hi;exact⟨hk i aB aB,ht i aB aB,he i aB aB,hb i aB aB⟩;rw[List.map_map];refine R5 bK λi h1 h2=> ?_;simp[st,bX,h2]
abbrev abZ:=Ht×Value
def hrk(p:abZ):List Value:=[.string p.1.nm,.int .i64 p.1.lo,.int .i64 p.1.hi,.int .i64 p.1.tm.op,.int .i64 p.1.tm.n,p.2]
def hrq(Q:List abZ):List Value:=Q.flatMap hrk
abbrev hr(Q:List abZ)(i:Int):abZ:=Q.getD i.toNat (L3,t9)
def ac8(V:HV)(Q:List abZ):Prop:=∀p∈Q,eJ V p.2 p.1.tm.kids
theorem ac8.mono{V W:HV}{Q:List abZ}(h:ac8 V Q)(s:Vc.bR V W):ac8 W Q:=λp hp=>(h p hp).mono s
theorem ac8.put{V:HV}{Q:List abZ}{i:Nat}{p:abZ}(h:ac8 V Q)(hp:eJ V p.2 p.1.tm.kids):ac8 V (Q.set i p):=λq hq=>by
 rcases List.mem_or_eq_of_mem_set hq with h1|h1
 exact h q h1;rw[h1];exact hp
theorem ac8.at_{V:HV}{Q:List abZ}{i:Int}(h:ac8 V Q)(h0:0≤i)(h1:i<Q.length):eJ V (hr Q i).2 (hr Q i).1.tm.kids:=h _ (amF h0 h1)
theorem aLO(Q:List abZ):(hrq Q).length=Q.length*6:=by
 induction Q with
 |nil=>rfl
 |cons a l ih=>show(hrk a++hrq l).length=_;rw[dD,ih];show 6+_=(l.length+1)*6;omega
theorem amQ:∀(Q:List abZ) (i:Nat),i<Q.length→(hrq Q).drop (i*6)=hrk (Q.getD i (L3,t9))++(hrq Q).drop (i*6+6)
 |a::l,0,_=>by
  show hrk a++hrq l=hrk a++(hrk a++hrq l).drop (0*6+6);rw[show 0*6+6=(hrk a).length from rfl,List.drop_left]
 |a::l,i+1,h=>by
  show(hrk a++hrq l).drop ((i+1)*6)=hrk (l.getD i (L3,t9))++(hrk a++hrq l).drop ((i+1)*6+6);rw[show(i+1)*6=(hrk a).length+i*6 by show _=6+i*6;omega,HI,List.drop_length_add_append,List.drop_length_add_append];exact amQ l i vB
theorem aLj{Q:List abZ}{i:Int}(h0:0≤i)(h1:i<Q.length):((hrq Q).drop (i.toNat*6+3)).take 3=[.int .i64 (hr Q i).1.tm.op,.int .i64 (hr Q i).1.tm.n,(hr Q i).2]:=by
 rw[←List.drop_drop,amQ Q i.toNat aB];rfl
theorem aLn{Q:List abZ}{i:Int}{k:Value}(h0:0≤i)(h1:i<Q.length):
  (hrq Q).take (i.toNat*6+3)++ [.int .i64 (hr Q i).1.tm.op,.int .i64 (hr Q i).1.tm.n,k]++(hrq Q).drop (i.toNat*6+3+3)=hrq (Q.set i.toNat ((hr Q i).1,k)):=by
 have hl:=aLO Q;have e0:=amQ Q i.toNat (by omega);have e1:(hrq Q).take (i.toNat*6+3)=(hrq Q).take (i.toNat*6)++ [.string (hr Q i).1.nm,.int .i64 (hr Q i).1.lo,.int .i64 (hr Q i).1.hi]:=by
  rw[List.take_add,e0];rfl
 have e2:∀(l:List abZ) (n:Nat),(hrq l).take (n*6)=hrq (l.take n):=fun l=>by
  induction l with
  |nil=>simp[hrq]
  |cons a l ih=>
   intro n;cases n with
   |zero=>simp[hrq]
   |succ n=>
    show(hrk a++hrq l).take ((n+1)*6)=hrk a++hrq (l.take n);rw[←ih,show(n+1)*6=(hrk a).length+n*6 by show _=6+n*6;omega,List.take_length_add_append]
 have e3:∀(l:List abZ) (n:Nat),(hrq l).drop (n*6)=hrq (l.drop n):=fun l=>by
  induction l with
  |nil=>simp[hrq]
  |cons a l ih=>
   intro n;cases n with
   |zero=>simp[hrq]
   |succ n=>
    show(hrk a++hrq l).drop ((n+1)*6)=hrq (l.drop n);rw[←ih,show(n+1)*6=(hrk a).length+n*6 by show _=6+n*6;omega,List.drop_length_add_append]
 grind[List.set_eq_take_append_cons_drop,hrk,hrq,List.append_assoc]
theorem aMg{Q:List abZ}{i:Int}{k:Value}(h0:0≤i)(h1:i<Q.length):(Q.set i.toNat ((hr Q i).1,k)).map (·.1)=Q.map (·.1):=by grind[List.map_set,List.length_map,List.getElem?_eq_getElem,List.set_getElem_self]
theorem aMm{V:HV}{v:Value}{Q:List abZ}(h:aR 6 V v Q.length (hrq Q))(hq:ac8 V Q):Hts V v (Q.map (·.1)):=by
 refine⟨Q.map (·.2),?_,λi a b=> ?_⟩;rw[fT,show F0 (Q.map (·.2)) (Q.map (·.1))=hrq Q from ?_];exact h;unfold F0 hrq;rw[fT];refine auA (L3,t9) hrk Q _ λi hi=> ?_;unfold TD hrk;grind;rw[fT]at b;have e1:ht (Q.map (·.1)) i=(Q.getD i.toNat (L3,t9)).1:=aaT a b;have e2:gv (Q.map (·.2)) i=(Q.getD i.toNat (L3,t9)).2:=aaT a b;rw[e1,e2];exact hq _ (amF a b)
theorem aMt{V:HV}{v:Value}{l:List Ht}(h:Hts V v l):∃Q:List abZ,aR 6 V v Q.length (hrq Q)∧ac8 V Q∧Q.map (·.1)=l:=by
 obtain⟨kv,sl,hk⟩:=h;refine⟨(List.range l.length).map λi:Nat=>(ht l i,gv kv i),?_,λp hp=> ?_,?_⟩;rw[fT,List.length_range,show hrq _=F0 kv l from ?_];exact sl;unfold hrq F0;rw[WU,WU,List.map_map];rfl;grind;rw[List.map_map];refine R5 bK λi h1 h2=> ?_;simp[ht,bX,h2]
theorem ac8.one{V:HV}{Q:List abZ}(h:ac8 V Q):∀u∈hrq Q,u.oneCell'=true:=λu hu=>by
 obtain⟨p,hp,hu⟩:=List.mem_flatMap.1 hu;simp only[hrk,uL,List.not_mem_nil,or_false]at hu;rcases hu with rfl|rfl|rfl|rfl|rfl|rfl
 iterate 5 rfl
 exact(h p hp).one
theorem aKK(l:List Vr):∀u∈xU l,u.oneCell'=true:=λu hu=>by
 obtain⟨i,_,hu⟩:=List.mem_flatMap.1 hu;simp only[KG,uL,List.not_mem_nil,or_false]at hu;rcases hu with rfl|rfl|rfl|rfl|rfl<;>rfl
theorem aHO{H:HV}:eJ H t9 []:=.mk [] aR.nil λi a b=>bM b F_
theorem avN{H:HV}:eO H t9 []:=.mk [] [] [] [] aR.nil (λi a b=>bM b F_) (λi a b=>bM b F_) (λi a b=>bM b F_) (λi a b=>bM b F_)
section
variable {l:List St} {i b:Int}
theorem asD(h0:0≤i)(h1:i<l.length)(e:(spS (st l i)).1=b):(if 67108865<(spL (l.take i.toNat)).1+b then 67108865 else(spL (l.take i.toNat)).1+b)=(spL (l.take (i+1).toNat)).1:=by
 rw[aCU h0 h1,←e];exact sL
theorem asJ(h0:0≤i)(h1:i<l.length)(e:(spS (st l i)).2=b):(if 67108865<(spL (l.take i.toNat)).2+b then 67108865 else(spL (l.take i.toNat)).2+b)=(spL (l.take (i+1).toNat)).2:=by
 rw[aCU h0 h1,←e];exact sL
end
theorem awX{V:HV}{b c:Nat}{p:SrQ}(h:Cells V b (stk p))(ok:adE V p)(hc:1≤c)(hm:c≤maxLen):eO V (.slice (some ⟨b,0,none⟩) 1 c) [p.1]:=
 ac0 (Q:=[p]) (mP h rfl hc hm) λq hq=>by rw[gY.1 hq];exact ok
theorem aML{V:HV}{t:Int}(h:t=0):eO V (.slice none 0 0) (NO t):=by unfold NO;rw[aK h];exact avN
theorem aMI{V:HV}{t:Int}{b:Nat}(h:¬t=0)(hc:Cells V b [.int .i64 2,.int .i64 t,.int .i64 0,.int .i64 0,.int .i64 0,.int .i64 0,t9,t9,t9,t9]):eO V (.slice (some ⟨b,0,none⟩) 1 1) (NO t):=by
 unfold NO;rw[aC h];exact awX (p:=(.mk 2 t 0 0 tm0 [] [] [],⟨t9,t9,t9,t9⟩)) hc ⟨aHO,avN,avN,aT.nil⟩ (cV _) j_
section
variable {s:St}
theorem ajD(h:s.dk=3):spS s=(lM s.cost 0 67108865+gmI (spL s.thn).1 (spL s.els).1,lM s.cost 0 67108865+bJ (spL s.thn).2 (spL s.els).2):=by rw[akZ,aK h]
theorem adA(h:s.dk=4)(q:s.tm.op≠0):spS s=(gmI (lM s.n 0 4096) 1*lM s.cost 0 67108865,lM s.n 0 4096*(lM s.cost 0 67108865+(spL s.thn).2)):=by rw[akZ,aC aB,aK h,aK q]
theorem adD(h:s.dk=4)(q:¬s.tm.op≠0)(r:s.tm.n≠0):spS s=(lM s.n 0 4096*(lM s.cost 0 67108865+(spL s.thn).1),lM s.n 0 4096*(lM s.cost 0 67108865+(spL s.thn).2)):=by rw[akZ,aC aB,aK h,aC q,aK r]
theorem ac9(h:s.dk=4)(q:¬s.tm.op≠0)(r:¬s.tm.n≠0):spS s=(gmI (lM s.n 0 4096) 1*lM s.cost 0 67108865,gmI (lM s.n 0 4096) 1*lM s.cost 0 67108865):=by rw[akZ,aC aB,aK h,aC q,aC r]
theorem ajL(h:¬s.dk=3)(q:¬s.dk=4):spS s=(lM s.cost 0 67108865,lM s.cost 0 67108865):=by rw[akZ,aC h,aC q]
theorem aMs(h:s.dk=3):avO s= .mk s.dk s.cost s.var s.n s.tm (s.thn++NO (bJ 0 (AN s.els-AN s.thn))) (s.els++NO (bJ 0 (AN s.thn-AN s.els))) s.bds:=by cases s;exact aK h
theorem aMA(h:s.dk=4)(q:s.tm.op≠0):avO s= .mk s.dk s.cost s.var s.n (.mk 0 1 []) [.mk 3 0 0 0 s.tm s.thn (NO (AN s.thn)) []] s.els s.bds:=by
 cases s;exact(aC (λz=>bM (show(4:Int)=3 from h.symm.trans z) j_)).trans (aK ⟨h,q⟩)
theorem aMx(h:¬s.dk=3)(q:¬(s.dk=4∧s.tm.op≠0)):avO s=s:=by
 cases s;exact(aC h).trans (aC q)
theorem aMa(s:St):evS s=avO (.mk s.dk s.cost s.var s.n s.tm (i7 s.thn) (i7 s.els) s.bds):=by cases s;rfl
end
theorem aH7:∀l:List Tm,(l.length:Int)≤oD l
 | []=>eL _
 |t::r=>by have a:=aH7 r;have b:=t.sz_pos;show((r.length+1:Nat):Int)≤t.sz+oD r;omega
theorem amC:∀l:List St,(l.length:Int)≤bN l
 | []=>eL _
 |t::r=>by have a:=amC r;have b:=t.nd_pos;show((r.length+1:Nat):Int)≤t.nd+bN r;omega
theorem auS{α β:Type}{f:α→β}{Q:List α}{l:List β}{i:Int}(h:Q.map f=l.take i.toNat):Q.length=min i.toNat l.length:=by grind[List.length,List.length_map,List.length_take]
theorem ar8{α β:Type}{d:β}{f:α→β}{Q:List α}{l:List β}{i:Int}{p:α}(h:Q.map f=l.take i.toNat)(h0:0≤i)(h1:i<l.length)(hp:f p=l.getD i.toNat d:=by rfl):(Q++ [p]).map f=l.take (i+1).toNat:=by
 rw[f_,h,show(i+1).toNat=i.toNat+1 by omega,mK (d:=d) h0 h1,←hp];rfl
theorem at4{α β:Type}{f:α→β}{Q:List α}{l:List β}{i:Int}(h:Q.map f=l.take i.toNat)(h1:(l.length:Int)≤i):Q.map f=l:=by rw[h,lJ aB]
theorem aL0{V:HV}{p:TmR}(h:eJ V p.2 p.1.kids):∀u∈tmk p,u.oneCell'=true:=λu hu=>by
 simp only[tmk,uL,List.not_mem_nil,or_false]at hu;rcases hu with rfl|rfl|rfl
 rfl;rfl;exact h.one
theorem aHA{V:HV}{p:SrQ}(h:adE V p):∀u∈stk p,u.oneCell'=true:=λu hu=>
 N3.one (Q:=[p]) (λq hq=>by rw[gY.1 hq];exact h) u (by simp[stq];exact hu)
mutual
def akU:St→Prop
 | .mk _ _ _ _ _ a b bd=>bd.length≤1000000∧aDo a∧aDo b
def aDo:List St→Prop
 | []=>True
 |s::r=>akU s∧aDo r
end
theorem amW{l:List St}:aDo l↔∀i:Int,0≤i→i<l.length→akU (st l i):=IQ (f:=akU) trivial (λ_ _=>Iff.rfl)
theorem aLP(s:St):akU s↔s.bds.length≤1000000∧(∀x:Int,0≤x→x<s.thn.length→akU (st s.thn x))∧∀x:Int,0≤x→x<s.els.length→akU (st s.els x):=by
 cases s;rw[←amW,←amW];exact Iff.rfl
theorem aLU{F:Fl}{p:Prop}{s:St}(h:iT F s p):s.bds.length≤1000000:=by
 have:=K8 h;omega
mutual
theorem aMc{F:Fl}{p:Prop}:∀{s:St},o_ F p s→akU s
 | .mk _ _ _ _ _ _ _ _,h=>⟨aLU h.1.shp,amD h.2.1,amD h.2.2⟩
theorem amD{F:Fl}{p:Prop}:∀{l:List St},fJ F p l→aDo l
 | [],_=>trivial
 |_::_,h=>⟨aMc h.1,amD h.2⟩
end
theorem aH4{V:HV}{P:Program}{f:FuncId}{args:List Value}{E s n:Nat}{xs:List Value}(h:aP P f args V [] (λv V' σ'=>V'=V∧σ'=[Gr E s v n xs])):aP P f args V [] (λv V' σ'=>σ'=[]∧aR s V' v n xs):=
 ⟨h.ok,λw0 hs0 h1 h2 h3 h4=>(h.run w0 hs0 h1 h2 h3 h4).mono λe w' ⟨v,V',σ',he,⟨_,hs⟩,hm⟩=>by
  subst hs;obtain⟨x,hx,hd,m'⟩:=hm.freeze (σr:=[]) (.refl _);exact⟨v,_,[],he,⟨rfl,hx.sls.mono (jU hd)⟩,m'⟩⟩
theorem aMo{Q:List abZ}{l:List Ht}{i:Int}(h:Q.map (·.1)=l)(h0:0≤i)(h1:i<Q.length):(hr Q i).1.tm.sz≤eV l∧1≤(hr Q i).1.tm.sz:=by
 have hl:Q.length=l.length:=by rw[←h,fT]
 have e:ht l i=(hr Q i).1:=by rw[←h];exact aaT h0 h1
 have a:=alK (l:=l) h0 aB;have b:=CY (l.take i.toNat);have c:=(hr Q i).1.tm.sz_pos;rw[e]at a;omega
theorem as_{Q:List SrQ}{t:Int}(h:Q.map (·.1)=NO t):Q.length≤1:=by grind[List.length,List.length_map,NO]
theorem aHC{V:HV}{v:Value}{A W:List SrQ}{a w:List St}(h:aR 10 V v (A.length+W.length) (stq A++stq W))(hA:N3 V A)(hW:N3 V W)(eA:A.map (·.1)=a)(eW:W.map (·.1)=w):eO V v (a++w):=by
 rw[←eA,←eW,←f_];exact ac0 (by rw[dD,aLQ];exact h) (hA.app hW)
theorem aIe{Q:List SrQ}{l:List St}(h:Q.map (·.1)=i7 l)(hl:(l.length:Int)≤1000000):Q.length≤1000000:=by grind[List.length,List.length_map,adF]
theorem aL9{l:List St}{i:Int}(h0:0≤i)(h1:i<l.length):st (i7 l) i=evS (st l i):=by
 have e:∀l:List St,i7 l=l.map evS:=λl=>by
  induction l with
  |nil=>rfl
  |cons a r ih=>exact congrArg (evS a::·) ih
 rw[e];exact aaT h0 h1
theorem Hts.one{V:HV}{v:Value}{l:List Ht}(h:Hts V v l):v.oneCell'=true:=by obtain⟨kv,sl,_⟩:=h;exact aR.one sl
theorem au8{v:Value}(h:v.oneCell'=true):v.cells=[v].toArray:=by
 cases v<;>first|rfl|(cases h)
structure Fl3 (V:HV) (x y z:Value) (q:Prop) (G:Fl):Prop where
 a:x.oneCell'=true
 b:y.oneCell'=true
 d:z.oneCell'=true
 f:q→fV V x y z G
theorem Fl3.mono{V W:HV}{a b d:Value}{q:Prop}{G:Fl}(h:Fl3 V a b d q G)(s:Vc.bR V W):Fl3 W a b d q G:=⟨h.a,h.b,h.d,λz=>(h.f z).mono s⟩
theorem Fl3.of{V:HV}{a b d:Value}{q:Prop}{G:Fl}(h:fV V a b d G):Fl3 V a b d q G:=⟨aR.one h.v,h.h.one,eO.one h.b,λ_=>h⟩
def SPC(k:Nat):Prop:=∀(V:HV) (l:List St) (lv:Value),eO V lv l→bN l<k→aP Tryz.prog 192 [lv] V [] (λv _ _=>v= .tuple #[.int .i64 (spL l).1,.int .i64 (spL l).2])
theorem aIc{V:HV}{l:List St}{lv:Value}{k:Nat}(IH:SPC k)(hL:eO V lv l)(hk:bN l<(k+1:Nat)):
  aP Tryz.prog 192 [lv] V [] (λv _ _=>v= .tuple #[.int .i64 ((spL l).1),.int .i64 ((spL l).2)]):=by
 refine bI Tryz.func192 ?_;intro w0 D;obtain⟨kvs,tvs,evs,gH,hS,hK,hth,hel,hbv⟩:=hL;have hb:=aR.bound hS;refine eW ?_;refine xO ?_;refine g_ [0,17,18] (λ(i:Int)=> [(2,(.int .i64 ((spL (l.take i.toNat)).1))),(3,(.int .i64 ((spL (l.take i.toNat)).2))),(19,(vi i))]) (λi=>0≤i∧i≤l.length) (λi=>(l.length-i).toNat) 0 ?_ ?_ ?_;exact⟨aL dB,aL dB,rfl,trivial⟩;exact⟨aB,aB⟩;rintro i e1 ⟨i1,i2⟩;refine aF ?_;refine aG ?_ ?_<;>intro c1;refine aJ ?_;have eV:=qO (l:=l) i1 a_;have hse:=mC (st l i);have hsp:=(st l i).tm.sz_pos;have hsn:=dK (l.take i.toNat);have hs1:=dK (st l i).thn;have hs2:=dK (st l i).els;have pa:=aiV (st l i).thn;have pb:=aiV (st l i).els;have pl:=aiV (l.take i.toNat);have hc:=aj6 (n:=(st l i).cost) (lo:=0) (hi:=67108865) a_;have hm:=aj6 (n:=(st l i).n) (lo:=0) (hi:=4096) a_;refine aH ?_;refine R9 ?_;refine aQ λb1=> ?_;refine g4Z ?_;refine aF ?_;refine qq (cM JY) ?_;refine aD ?_;refine qq (cM JY) ?_;refine aAN ?_;refine aG ?_ ?_<;>intro c2;refine aJ ?_;refine oq (cM (IH _ _ _ (hth i i1 a_) a_)) ?_;refine dS ?_;refine oq (cM (IH _ _ _ (hel i i1 a_) a_)) ?_;refine aKi ?_;refine aI ?_;refine dP 0 ?_;refine aJ ?_;exact dW (i+1) ⟨aL (by exact asD i1 a_ (by first|exact congrArg Prod.fst (ajD a_)|exact congrArg Prod.fst (adA a_ a_)|exact congrArg Prod.fst (adD a_ a_ a_)|exact congrArg Prod.fst (ac9 a_ a_ a_)|exact congrArg Prod.fst (ajL a_ a_))),aL (by exact asJ i1 a_ (by first|exact congrArg Prod.snd (ajD a_)|exact congrArg Prod.snd (adA a_ a_)|exact congrArg Prod.snd (adD a_ a_ a_)|exact congrArg Prod.snd (ac9 a_ a_ a_)|exact congrArg Prod.snd (ajL a_ a_))),aL dB,trivial⟩ ⟨aB,aB⟩;refine aF ?_;refine aG ?_ ?_<;>intro c3;refine aJ ?_;refine oq (cM (IH _ _ _ (hth i i1 a_) a_)) ?_;refine aS ?_;have m0:=RM (a:=if 1<lM (st l i).n 0 4096 then 1 else lM (st l i).n 0 4096) (b:=lM (st l i).cost 0 67108865) (A:=4096) (B:=67108865) (by split<;>omega) (by split<;>omega) a_ a_;have m1:=RM (a:=lM (st l i).n 0 4096) (b:=lM (st l i).cost 0 67108865+(spL (st l i).thn).1) (A:=4096) (B:=134217730) a_ a_ a_ a_;have m2:=RM (a:=lM (st l i).n 0 4096) (b:=lM (st l i).cost 0 67108865+(spL (st l i).thn).2) (A:=4096) (B:=134217730) a_ a_ a_ a_;refine FJ ?_;refine aG ?_ ?_<;>intro c4;refine aAN ?_;refine dP 0 ?_;refine aJ ?_;exact dW (i+1) ⟨aL (by exact asD i1 a_ (by first|exact congrArg Prod.fst (ajD a_)|exact congrArg Prod.fst (adA a_ a_)|exact congrArg Prod.fst (adD a_ a_ a_)|exact congrArg Prod.fst (ac9 a_ a_ a_)|exact congrArg Prod.fst (ajL a_ a_))),aL (by exact asJ i1 a_ (by first|exact congrArg Prod.snd (ajD a_)|exact congrArg Prod.snd (adA a_ a_)|exact congrArg Prod.snd (adD a_ a_ a_)|exact congrArg Prod.snd (ac9 a_ a_ a_)|exact congrArg Prod.snd (ajL a_ a_))),aL dB,trivial⟩ ⟨aB,aB⟩;refine b_ ?_;refine aG ?_ ?_<;>intro c5;refine aIv ?_;refine dP 0 ?_;refine aJ ?_;exact dW (i+1) ⟨aL (by exact asD i1 a_ (by first|exact congrArg Prod.fst (ajD a_)|exact congrArg Prod.fst (adA a_ a_)|exact congrArg Prod.fst (adD a_ a_ a_)|exact congrArg Prod.fst (ac9 a_ a_ a_)|exact congrArg Prod.fst (ajL a_ a_))),aL (by exact asJ i1 a_ (by first|exact congrArg Prod.snd (ajD a_)|exact congrArg Prod.snd (adA a_ a_)|exact congrArg Prod.snd (adD a_ a_ a_)|exact congrArg Prod.snd (ac9 a_ a_ a_)|exact congrArg Prod.snd (ajL a_ a_))),aL dB,trivial⟩ ⟨aB,aB⟩;refine af5 ?_;refine dP 0 ?_;refine aJ ?_;exact dW (i+1) ⟨aL (by exact asD i1 a_ (by first|exact congrArg Prod.fst (ajD a_)|exact congrArg Prod.fst (adA a_ a_)|exact congrArg Prod.fst (adD a_ a_ a_)|exact congrArg Prod.fst (ac9 a_ a_ a_)|exact congrArg Prod.fst (ajL a_ a_))),aL (by exact asJ i1 a_ (by first|exact congrArg Prod.snd (ajD a_)|exact congrArg Prod.snd (adA a_ a_)|exact congrArg Prod.snd (adD a_ a_ a_)|exact congrArg Prod.snd (ac9 a_ a_ a_)|exact congrArg Prod.snd (ajL a_ a_))),aL dB,trivial⟩ ⟨aB,aB⟩;refine nA ?_;refine dP 0 ?_;refine aJ ?_;exact dW (i+1) ⟨aL (by exact asD i1 a_ (by first|exact congrArg Prod.fst (ajD a_)|exact congrArg Prod.fst (adA a_ a_)|exact congrArg Prod.fst (adD a_ a_ a_)|exact congrArg Prod.fst (ac9 a_ a_ a_)|exact congrArg Prod.fst (ajL a_ a_))),aL (by exact asJ i1 a_ (by first|exact congrArg Prod.snd (ajD a_)|exact congrArg Prod.snd (adA a_ a_)|exact congrArg Prod.snd (adD a_ a_ a_)|exact congrArg Prod.snd (ac9 a_ a_ a_)|exact congrArg Prod.snd (ajL a_ a_))),aL dB,trivial⟩ ⟨aB,aB⟩;refine dS ?_;exact lE (aL GK) (aL GK)
theorem aH_:∀k,SPC k
 |0=>λ_ l _ _ h=>bM h CF
 |k+1=>λV l lv hL hk=>aIc (aH_ k) hL hk
theorem aDL{V:HV}{l:List St}{lv:Value}(hL:eO V lv l):
  aP Tryz.prog 130 [lv] V [] (λv _ _=>v=(.int .i64 (AN l))):=by
 refine bI Tryz.func130 ?_;intro w0 D;refine aS ?_;refine oq (eH (aH_ ((bN l).toNat+1) _ _ _ hL (by have:=dK (l);omega)) rfl rfl) ?_;refine dI ?_;exact aW (aL dB)
abbrev aL_:=λ(t:Int)=>[vi 2,vi t,vi 0,vi 0,vi 0,vi 0,vn,vn,vn,vn]
theorem atS{V:HV}{t:Int}:
  aP Tryz.prog 131 [vi t] V [] (λv V' σ'=>σ'=[]∧eO V' v (NO t)):=by
 refine bI Tryz.func131 ?_;intro w0 D;refine dS ?_;refine aG ?_ ?_<;>intro c1;refine aF ?_;refine zJ ?_;exact⟨rfl,aML aO⟩;refine aJ ?_;refine oq (bL (out:=(aL_ t)) BI.out [(0,[Value.int .i64 2]),(1,[Value.int .i64 t])] rfl rfl) ?_;refine cQ 1 10 (aL_ t) (λb1=> ?_);refine aD ?_;refine c_ 0 λVf1 hVf1 hc1=> ?_;refine oA ?_;exact⟨rfl,aMI aO hc1⟩
theorem aKH{V:HV}{x:Value}{xs:List Int}(hs:aT .i64 V x xs)(hb:xs.length≤1000000):aP Tryz.prog 42 [x] V [] (λv V' σ'=>σ'=[]∧aT .i64 V' v xs):=(aH4 (JA hs hb)).mono λ_ _ _ _ h=>⟨h.1,aR.toI h.2⟩
def RTC(k:Nat):Prop:=∀(V:HV) (t:Tm) (ks:Value),eJ V ks t.kids→t.sz≤1000000→t.sz<k→aP Tryz.prog 69 [.agg #[.int .i64 t.op,.int .i64 t.n,ks]] V [] (λv V' σ'=>σ'=[]∧∃w,v= .agg #[.int .i64 t.op,.int .i64 t.n,w]∧eJ V' w t.kids)
theorem aHZ{V:HV}{t:Tm}{ks:Value}{k:Nat}(IH:RTC k)(hT:eJ V ks t.kids)(hz:t.sz≤1000000)(hk:t.sz<(k+1:Nat)):
  aP Tryz.prog 69 [.agg #[.int .i64 t.op,.int .i64 t.n,ks]] V [] (λv V' σ'=>σ'=[]∧∃w,v= .agg #[.int .i64 t.op,.int .i64 t.n,w]∧eJ V' w t.kids):=by
 refine bI Tryz.func69 ?_;intro w0 D;have hT0:=hT;obtain⟨kvs,hS,hK⟩:=hT0;have hb:=aR.bound hS;have hsk:=nT t;have hle:=aH7 t.kids;refine aD ?_;refine bH λb1=> ?_;refine aQ λb2=> ?_;refine aS ?_;refine fF 74 3 ?_;refine aI ?_;refine xO ?_;refine IP [0,1,2,7,8] (λ(i:Int) (u:Value) (Q:List TmR)=> [(3,u),(9,(vi i))]) (λi u Q=> [aM 74 b1 [.int .i64 t.op,.int .i64 t.n,ks],aM 74 b2 [vi 0,vi 0,vn],Gr 74 3 u Q.length (tmq Q)]) (λi u Q V'=>eJ V' ks t.kids∧aiU V' Q∧Q.map (·.1)=t.kids.take i.toNat∧0≤i∧i≤t.kids.length) (λi u Q=>(t.kids.length-i).toNat) 0 vn ([]) ?_ ?_ ?_ ?_;exact⟨oW,rfl,trivial⟩
 (rfl)
 exact⟨hT,aiU.nil,rfl,aB,aB⟩;rintro i u Q e1 V0l ⟨hT,hQ,hm,i1,i2⟩;have hT0:=hT;obtain⟨kvs,hS,hK⟩:=hT0;have hb:=aR.bound hS;refine aF ?_;refine aG ?_ ?_<;>intro c1;refine CE ?_;refine aQ λb3=> ?_;refine MH ?_;refine aH ?_;have eV:=mR (l:=t.kids) i1 a_;have hsn:=jA (t.kids.take i.toNat);have hql:=auS hm;refine aI ?_;refine aZ [] (IH _ _ _ (hK i i1 a_) a_ a_) ?_;rintro _ _ _ hV1 ⟨rfl,w1,rfl,hw1⟩;have hT:=hT.mono hV1;have hQ:=hQ.mono hV1;refine cQ 1 3 [.int .i64 ((tm t.kids i).op),.int .i64 ((tm t.kids i).n),w1] (λb4=> ?_);refine dV rfl rfl rfl (aL0 (p:=(tm t.kids i,w1)) hw1) a_ eZ λv1 hn1=> ?_;refine aD ?_;refine tC ?_;refine aJ ?_;exact uU (i+1) v1 (Q++ [(tm t.kids i,w1)]) ⟨rfl,aL a_,trivial⟩ ⟨hT,hQ.snoc hw1,ar8 (d:=tm0) hm i1 a_,aB,aB⟩ (hr:=by rw[aKI,dD];rfl);refine aI ?_;refine jM 2 λVf1 hVf1 hc1=> ?_;have hQ:=hQ.mono hVf1;refine aH ?_;have hkk:eJ Vf1 u t.kids:=at4 hm a_▸aMr hc1 hQ;refine aD ?_;refine j8 rfl eQ (eJ.one hkk) ?_;refine aJ ?_;refine dM rfl rfl (aU rfl (aU rfl (aU (eJ.one hkk) rfl))) ?_;refine aH ?_;refine c_ 1 λVf2 hVf2 hc2=> ?_;have hkk:=hkk.mono hVf2;refine fR ?_;refine UT ?_;exact⟨rfl,u,rfl,hkk⟩
theorem avT:∀k,RTC k
 |0=>λ_ t _ _ _ h=>bM h zQ
 |k+1=>λV t ks hT hz hk=>aHZ (avT k) hT hz hk
def RSC(k:Nat):Prop:=∀(V:HV) (l:List St) (lv:Value),eO V lv l→bN l≤1000000→(∀x:Int,0≤x→x<l.length→akU (st l x))→bN l<k→aP Tryz.prog 70 [lv] V [] (λv V' σ'=>σ'=[]∧eO V' v l)
abbrev aKG:=λ(l:List St) (i:Int) w1 tvs evs gH=>[vi ((st l i).dk),vi ((st l i).cost),vi ((st l i).var),vi ((st l i).n),vi ((st l i).tm.op),vi ((st l i).tm.n),w1,gv tvs i,gv evs i,gv gH i]
theorem aHv{V:HV}{l:List St}{lv:Value}{k:Nat}(IH:RSC k)(hL:eO V lv l)(hz:bN l≤1000000)(hbd:∀x:Int,0≤x→x<l.length→akU (st l x))(hk:bN l<(k+1:Nat)):
  aP Tryz.prog 70 [lv] V [] (λv V' σ'=>σ'=[]∧eO V' v l):=by
 refine bI Tryz.func70 ?_;intro w0 D;have hL0:=hL;obtain⟨kvs,tvs,evs,gH,hS,hK,hth,hel,hbv⟩:=hL0;have hb:=aR.bound hS;have hle:=amC l;refine dS ?_;refine fF 76 10 ?_;refine aD ?_;refine xO ?_;refine IP [0,2,6,7] (λ(i:Int) (u:Value) (Q:List SrQ)=> [(3,u),(8,(vi i))]) (λi u Q=> [Gr 76 10 u Q.length (stq Q)]) (λi u Q V'=>eO V' lv l∧N3 V' Q∧Q.map (·.1)=l.take i.toNat∧0≤i∧i≤l.length) (λi u Q=>(l.length-i).toNat) 0 vn ([]) ?_ ?_ ?_ ?_;exact⟨oW,rfl,trivial⟩
 (rfl)
 exact⟨hL,N3.nil,rfl,aB,aB⟩;rintro i u Q e1 V0l ⟨hL,hQ,hm,i1,i2⟩;have hL0:=hL;obtain⟨kvs,tvs,evs,gH,hS,hK,hth,hel,hbv⟩:=hL0;have hb:=aR.bound hS;refine aF ?_;refine aG ?_ ?_<;>intro c1;refine aJ ?_;have eV:=qO (l:=l) i1 a_;have hse:=mC (st l i);have hsp:=(st l i).tm.sz_pos;have hsn:=dK (l.take i.toNat);have hs1:=dK (st l i).thn;have hs2:=dK (st l i).els;have hk0:=hK i i1 a_;have L3:=hth i i1 a_;have he0:=hel i i1 a_;have hb0:=hbv i i1 a_;have hql:=auS hm;have hb1:=(aLP _).1 (hbd i i1 a_);refine aH ?_;refine R9 ?_;refine aQ λb1=> ?_;refine g4Z ?_;refine aF ?_;refine aZ [] (avT ((st l i).tm.sz.toNat+1) _ _ _ hk0 a_ a_) ?_;rintro _ _ _ hV1 ⟨rfl,w1,rfl,hw1⟩;have hL:=hL.mono hV1;have hQ:=hQ.mono hV1;have L3:=L3.mono hV1;have he0:=he0.mono hV1;have hb0:=hb0.mono hV1;refine aH ?_;refine kX (k:=1) (off:=4) (v:=(.agg #[.int .i64 ((st l i).tm.op),.int .i64 ((st l i).tm.n),w1])) (vs:=[.int .i64 ((st l i).tm.op),.int .i64 ((st l i).tm.n),w1]) (cs:=[.int .i64 ((st l i).dk),.int .i64 ((st l i).cost),.int .i64 ((st l i).var),.int .i64 ((st l i).n),.int .i64 ((st l i).tm.op),.int .i64 ((st l i).tm.n),gv kvs i,gv tvs i,gv evs i,gv gH i]) (cs':=(aKG l i w1 tvs evs gH)) SZ.out rfl rfl rfl rfl (aU rfl (aU rfl (aU (eJ.one hw1) rfl))) rfl (nW rfl) rfl ?_;refine aD ?_;refine kV [qt 0,qt 1,qt 3,qt 4,ld 2,qt 6,ld 5,ld 7,qt 8,ld 9] ?_;refine aJ ?_;refine cW ?_;refine aZ [] (IH _ _ _ L3 a_ hb1.2.1 a_) λw2 V2 sg2 hV2 hp2=> ?_;obtain⟨rfl,hw2⟩:=hp2;have hL:=hL.mono hV2;have hQ:=hQ.mono hV2;have he0:=he0.mono hV2;have hb0:=hb0.mono hV2;have hw1:=hw1.mono hV2;refine cL ⟨[Gr 76 10 u Q.length (stq Q),aM 76 b1 (aKG l i w1 tvs evs gH)],[],hV2,cB _,⟨[],.refl _⟩,?_⟩;refine yQ ?_;refine aZ [] (IH _ _ _ he0 a_ hb1.2.2 a_) λw3 V3 sg3 hV3 hp3=> ?_;obtain⟨rfl,hw3⟩:=hp3;have hL:=hL.mono hV3;have hQ:=hQ.mono hV3;have hb0:=hb0.mono hV3;have hw1:=hw1.mono hV3;have hw2:=hw2.mono hV3;refine cL ⟨[Gr 76 10 u Q.length (stq Q),aM 76 b1 (aKG l i w1 tvs evs gH)],[],hV3,cB _,⟨[],.refl _⟩,?_⟩;refine jS ?_;refine j8 rfl eQ (eO.one hw2) ?_;refine qT ?_;refine yN ?_;refine j8 rfl eQ (eO.one hw3) ?_;refine qT ?_;refine aF ?_;refine aZ [] (aKH hb0 hb1.1) λw4 V4 sg4 hV4 hp4=> ?_;obtain⟨rfl,hw4⟩:=hp4;have hL:=hL.mono hV4;have hQ:=hQ.mono hV4;have hw1:=hw1.mono hV4;have hw2:=hw2.mono hV4;have hw3:=hw3.mono hV4;refine aH ?_;refine j8 rfl eQ (Sl.one hw4) ?_;refine aJ ?_;refine cQ 1 10 [.int .i64 ((st l i).dk),.int .i64 ((st l i).cost),.int .i64 ((st l i).var),.int .i64 ((st l i).n),.int .i64 ((st l i).tm.op),.int .i64 ((st l i).tm.n),w1,w2,w3,w4] (λb2=> ?_);refine dV rfl rfl rfl (aHA (p:=(st l i,⟨w1,w2,w3,w4⟩)) ⟨hw1,hw2,hw3,hw4⟩) a_ eZ λv1 hn1=> ?_;refine aD ?_;refine wN ?_;refine aJ ?_;exact uU (i+1) v1 (Q++ [(st l i,⟨w1,w2,w3,w4⟩)]) ⟨rfl,aL a_,trivial⟩ ⟨hL,hQ.snoc ⟨hw1,hw2,hw3,hw4⟩,ar8 (d:=st0) hm i1 a_,aB,aB⟩ (hr:=by rw[aDW,dD];rfl);refine aS ?_;refine jM 0 λVf1 hVf1 hc1=> ?_;have hQ:=hQ.mono hVf1;refine oA ?_;exact⟨rfl,at4 hm a_▸ac0 hc1 hQ⟩
theorem aD4:∀k,RSC k
 |0=>λ_ l _ _ _ _ h=>bM h CF
 |k+1=>λV l lv hL hz hbd hk=>aHv (aD4 k) hL hz hbd hk
theorem aKw{V:HV}{cap:Nat}:
  aP Tryz.prog 67 [Value.slice none 0 cap] V [] (λv V' σ'=>V'=V∧σ'=[Gr 69 5 v 0 []]):=by
 refine bI Tryz.func67 ?_;intro w0 D;refine dI ?_;refine fF 69 5 ?_;refine aJ ?_;refine zJ ?_;exact⟨rfl,rfl⟩
theorem aIi{V:HV}{ad:Addr}{m c:Nat}{xs:List Value}(hl:xs.length=m*5)(h1:∀u∈xs,u.oneCell'=true)(hb:m≤1000000)(hn:∀w,Vc.bR V (hv w)→∀(j:Nat) (u:Value),xs[j]? =some u→w.cell? (ad.add j)=some u):
  aP Tryz.prog 67 [.slice (some ad) m c] V [] (λv V' σ'=>V'=V∧σ'=[Gr 69 5 v m xs]):=by
 refine bI Tryz.func67 ?_;intro w0 D;refine nK ?_;refine cQ 0 5 [] (λb1=> ?_);refine aH ?_;refine tD (k:=0) (b:=b1) (n:=0) (cap:=0) (cs:= #[]) 5 [] rfl rfl (cV _) (kE _) rfl rfl ?_;refine yJ (k:=0) (n:=0) (s:=5) (m:=m) (v:=(.slice (some ⟨b1,0,none⟩) 0 0)) (xs:=[]) (news:=xs) UL.out TZ.out rfl (nW rfl) rfl rfl rfl hl (λw hm=>hn w hm.view) h1 a_ eZ (λv1 hn1=> ?_);refine wL ?_;refine⟨rfl,?_⟩;show [_]=[_];simp
theorem aKL{V:HV}{x:Value}{xs:List Value}{k:Nat}(hs:aR 5 V x k xs)(h1:∀u∈xs,u.oneCell'=true)(hb:k≤1000000):aP Tryz.prog 67 [x] V [] (λv V' σ'=>V'=V∧σ'=[Gr 69 5 v k xs]):=by
 rcases hs.cells_of with⟨rfl,rfl,cap,rfl⟩|⟨ad,cap,rfl,hl,hn⟩
 exact aKw;exact aIi hl h1 hb hn
theorem aH1{V:HV}{cap:Nat}:
  aP Tryz.prog 68 [Value.slice none 0 cap] V [] (λv V' σ'=>V'=V∧σ'=[Gr 124 6 v 0 []]):=by
 refine bI Tryz.func68 ?_;intro w0 D;refine dI ?_;refine fF 124 6 ?_;refine aJ ?_;refine zJ ?_;exact⟨rfl,rfl⟩
theorem aIb{V:HV}{ad:Addr}{m c:Nat}{xs:List Value}(hl:xs.length=m*6)(h1:∀u∈xs,u.oneCell'=true)(hb:m≤1000000)(hn:∀w,Vc.bR V (hv w)→∀(j:Nat) (u:Value),xs[j]? =some u→w.cell? (ad.add j)=some u):
  aP Tryz.prog 68 [.slice (some ad) m c] V [] (λv V' σ'=>V'=V∧σ'=[Gr 124 6 v m xs]):=by
 refine bI Tryz.func68 ?_;intro w0 D;refine nK ?_;refine cQ 0 6 [] (λb1=> ?_);refine aH ?_;refine tD (k:=0) (b:=b1) (n:=0) (cap:=0) (cs:= #[]) 6 [] rfl rfl (cV _) (kE _) rfl rfl ?_;refine yJ (k:=0) (n:=0) (s:=6) (m:=m) (v:=(.slice (some ⟨b1,0,none⟩) 0 0)) (xs:=[]) (news:=xs) UL.out TZ.out rfl (nW rfl) rfl rfl rfl hl (λw hm=>hn w hm.view) h1 a_ eZ (λv1 hn1=> ?_);refine wL ?_;refine⟨rfl,?_⟩;show [_]=[_];simp
theorem aKE{V:HV}{x:Value}{xs:List Value}{k:Nat}(hs:aR 6 V x k xs)(h1:∀u∈xs,u.oneCell'=true)(hb:k≤1000000):aP Tryz.prog 68 [x] V [] (λv V' σ'=>V'=V∧σ'=[Gr 124 6 v k xs]):=by
 rcases hs.cells_of with⟨rfl,rfl,cap,rfl⟩|⟨ad,cap,rfl,hl,hn⟩
 exact aH1;exact aIb hl h1 hb hn
theorem aKv{V:HV}{va ha ba:Value}{F:Fl}(hF:fV V va ha ba F)(hV:gI F):
  aP Tryz.prog 23 [.agg #[va,ha,ba]] V [] (λv V' σ'=>σ'=[]∧∃a b c,v= .agg #[a,b,c]∧fV V' a b c F):=by
 refine bI Tryz.func23 ?_;intro w0 D;obtain⟨Q0,hQs,hQ0,hQm0⟩:=aMt hF.h;have hz1:=hV.sz.1;have hz2:=hV.sz.2.2.1;have hnn:=dK F.bd;have hhn:=CY F.hs;have hql0:Q0.length=F.hs.length:=by rw[←hQm0,fT]
 refine aD ?_;refine bH λb1=> ?_;refine aQ λb2=> ?_;refine aF ?_;refine aZ [] (aH4 (aKL hF.v (aKK _) a_)) λw5 V1 sg1 hV1 hp1=> ?_;obtain⟨rfl,hw5⟩:=hp1;have hF:=hF.mono hV1;have hQs:=hQs.mono hV1;have hQ0:=hQ0.mono hV1;refine aH ?_;refine j8 rfl eQ (aR.one hw5) ?_;refine aF ?_;refine aZ [] (aKE (k:=Q0.length) hQs hQ0.one a_) λr2 V2 sg2 hV2 hp2=> ?_;obtain⟨rfl,rfl⟩:=hp2;obtain⟨u2,hu2⟩:∃x,x=r2:=⟨_,rfl⟩;subst hu2;have hF:=hF.mono hV2;have hQ0:=hQ0.mono hV2;have hw5:=hw5.mono hV2;refine h_ [1,2,0] ?_;refine aH ?_;refine bO (k:=2) rfl (λho1=> ?_);refine pW ?_;refine aN ?_;refine oq (nG (k:=2) UL.out rfl rfl) ?_;refine aI ?_;refine lv2 [0,1,2,14] (λ(i:Int) (Q:List abZ)=> [(15,(vi i))]) (λi Q=> [aM 26 b1 [w5,u2,ba],aM 26 b2 [vn,vn,vn],Gr 124 6 u2 Q0.length (hrq Q)]) (λi Q V'=>fV V' va ha ba F∧aR 5 V' w5 F.vs.length (xU F.vs)∧ac8 V' Q∧Q.map (·.1)=F.hs∧Q.length=Q0.length∧0≤i∧i≤Q0.length) (λi Q=>(Q0.length-i).toNat) 0 Q0 ?_ ?_ ?_ ?_;exact⟨rfl,trivial⟩
 (rfl)
 exact⟨hF,hw5,hQ0,hQm0,rfl,aB,aB⟩;rintro i Q e1 V0l ⟨hF,hw5,hQ,hm,hl,i1,i2⟩;refine aF ?_;refine aG ?_ ?_<;>intro c1;refine b_ ?_;refine NL (k:=2) a_ rfl (λhsv=> ?_);have hrt:=aMo hm i1 a_;refine oL [qt 0,qt 1,qt 2,qt 3,qt 4,qt 5,qt 6,qt 7,ld 8,ld 9,qt 10,qt 11,ld 12] [0,0,1] ?_;refine aN ?_;refine rq rfl (Q5 (v:=u2) (i:=i) UL.out SZ.out rfl hsv rfl a_ a_) ?_;refine rq rfl (aHM FI.out rfl hsv) ?_;refine cW ?_;refine oq (aKQ (k:=2) (v:=u2) (i:=i) (o:=3) (vs:=[.int .i64 ((hr Q i).1.tm.op),.int .i64 ((hr Q i).1.tm.n),(hr Q i).2]) AG.out rfl rfl a_ a_ a_ (aLj a_ a_)) ?_;refine gW [0,0,1] dL ?_;refine cW ?_;refine aZ [] (avT ((hr Q i).1.tm.sz.toNat+1) _ _ _ (hQ.at_ i1 a_) a_ a_) ?_;rintro _ _ _ hV3 ⟨rfl,w1,rfl,hw1⟩;have hF:=hF.mono hV3;have hw5:=hw5.mono hV3;have hQ:=hQ.mono hV3;refine gW [0,0,1] hV3 ?_;refine rq rfl (Q5 (v:=u2) (i:=i) UL.out SZ.out rfl hsv rfl a_ a_) ?_;refine rq rfl (aHM FI.out rfl hsv) ?_;refine cW ?_;refine aIf (k:=2) (v:=u2) (i:=i) (o:=3) (vs:=[.int .i64 ((hr Q i).1.tm.op),.int .i64 ((hr Q i).1.tm.n),w1]) (xs':=(hrq (Q.set (i).toNat ((hr Q i).1,w1)))) SZ.out rfl rfl rfl rfl (aU rfl (aU rfl (aU (eJ.one hw1) rfl))) rfl a_ a_ a_ (aLn a_ a_) ?_;refine gW [0,0,1] dL ?_;refine aF ?_;exact VU (i+1) (Q.set i.toNat ((hr Q i).1,w1)) ⟨aL a_,trivial⟩ ⟨hF,hw5,hQ.put (p:=((hr Q i).1,w1)) hw1,(aMg i1 a_).trans hm,by rw[uM];exact hl,aB,aB⟩ (hr:=dB);refine aN ?_;refine aZ [] (aD4 ((bN F.bd).toNat+1) _ _ _ hF.b a_ (amW.1 (amD hV.bd)) a_) λw2 V4 sg4 hV4 hp4=> ?_;obtain⟨rfl,hw2⟩:=hp4;have hw5:=hw5.mono hV4;have hQ:=hQ.mono hV4;refine aH ?_;refine j8 rfl eQ (eO.one hw2) ?_;refine aJ ?_;refine bO (k:=2) rfl (λho2=> ?_);refine dM rfl rfl (aU (aR.one hw5) (aU ho2 (aU (eO.one hw2) rfl))) ?_;refine aH ?_;refine jM 2 λVf1 hVf1 hc1=> ?_;have hw5:=hw5.mono hVf1;have hQ:=hQ.mono hVf1;have hw2:=hw2.mono hVf1;refine c_ 1 λVf2 hVf2 hc2=> ?_;have hw5:=hw5.mono hVf2;have hQ:=hQ.mono hVf2;have hw2:=hw2.mono hVf2;have hc1:=hc1.mono hVf2;refine fR ?_;refine UT ?_;exact⟨rfl,w5,u2,w2,rfl,⟨hw5,by have q:=aMm (by rw[hl];exact hc1) hQ;rw[hm]at q;exact q,hw2⟩⟩
abbrev aKM:=λ(s:St) (ks:Value) (tv:Value) (ev:Value) (bv:Value)=>[vi s.dk,vi s.cost,vi s.var,vi s.n,vi s.tm.op,vi s.tm.n,ks,tv,ev,bv]
abbrev aLX:=λb2=>aM 76 b2 [vi 0,vi 0,vi 0,vi 0,vi 0,vi 0,vn,vn,vn,vn]
abbrev anD:=λ(s:St) (ks:Value) (tv:Value) (w3:Value)=>[vi 3,vi 0,vi 0,vi 0,vi s.tm.op,vi s.tm.n,ks,tv,w3,vn]
abbrev aKD:=[vi 0,vi 1,vn]
abbrev aLZ:=λ(s:St) (tv:Value) (ev:Value) (bv:Value)=>[vi s.dk,vi s.cost,vi s.var,vi s.n,vi 0,vi 1,vn,tv,ev,bv]
theorem aHP{V:HV}{s s':St}{ks tv ev bv:Value}{A B:List SrQ}(hK:eJ V ks s.tm.kids)(hb:aT .i64 V bv s.bds)(hA:N3 V A)(hB:N3 V B)(eA:A.map (·.1)=s.thn)(eB:B.map (·.1)=s.els)(ht1:tv.oneCell'=true)(he1:ev.oneCell'=true)(lA:A.length≤1000000)(lB:B.length≤1000000)(hs:avO s=s'):
  aP Tryz.prog 72 [.agg #[.int .i64 s.dk,.int .i64 s.cost,.int .i64 s.var,.int .i64 s.n,.int .i64 s.tm.op,.int .i64 s.tm.n,ks,tv,ev,bv]] V [Gr 76 10 tv A.length (stq A),Gr 76 10 ev B.length (stq B)] (λv V' σ'=>σ'=[]∧∃w:Wd4,v= .agg #[.int .i64 s'.dk,.int .i64 s'.cost,.int .i64 s'.var,.int .i64 s'.n,.int .i64 s'.tm.op,.int .i64 s'.tm.n,w.k,w.t,w.e,w.b]∧adE V' (s',w)):=by
 refine bI Tryz.func72 ?_;intro w0 D;have p1:0≤AN s.thn∧AN s.thn≤67108865:=(aiV s.thn).1;have p2:0≤AN s.els∧AN s.els≤67108865:=(aiV s.els).1;refine aD ?_;refine bH λb1=> ?_;refine aQ λb2=> ?_;refine dS ?_;refine aG ?_ ?_<;>intro c1;refine aJ ?_;refine qq (afT (v:=(.int .i64 (AN s.thn))) (k:=0) rfl (λVo hVo hbo=>by rw[←eA];exact aDL (ac0 hbo (hA.mono hVo))) rfl rfl) ?_;refine aD ?_;refine qq (afT (v:=(.int .i64 (AN s.els))) (k:=1) rfl (λVo hVo hbo=>by rw[←eB];exact aDL (ac0 hbo (hB.mono hVo))) rfl rfl) ?_;refine aJ ?_;refine oL [qt 0,qt 1,qt 2,qt 3,qt 4,qt 5,ld 6,ld 7,qt 8,ld 9] [1] ?_;refine aN ?_;refine cW ?_;refine aZ [] (atS (t:=if 0<((AN s.els)-(AN s.thn))then(AN s.els)-(AN s.thn)else 0)) λw1 V1 sg1 hV1 hp1=> ?_;obtain⟨rfl,hqw1⟩:=hp1;obtain⟨W1,W1s,W1k,W1m⟩:=awS hqw1;have W1l:=as_ W1m;have hK:=hK.mono hV1;have hb:=hb.mono hV1;have hA:=hA.mono hV1;have hB:=hB.mono hV1;refine gW [1] hV1 ?_;refine cW ?_;refine aCA (k:=0) (n:=A.length) (v:=tv) (xs:=(stq A)) (m:=W1.length) (news:=(stq W1)) UL.out TZ.out rfl (nW rfl) rfl rfl rfl W1s W1k.one a_ eZ (λv1=> ?_);refine gW [1] dL ?_;refine yN ?_;refine bO (k:=0) rfl (λho1=> ?_);refine pW ?_;refine xT [1] ?_;refine aH ?_;refine oL [qt 0,qt 1,qt 2,qt 3,qt 4,qt 5,ld 6,ld 7,qt 8,ld 9] [0,1] ?_;refine aN ?_;refine cW ?_;refine aZ [] (atS (t:=if 0<((AN s.thn)-(AN s.els))then(AN s.thn)-(AN s.els)else 0)) λw2 V2 sg2 hV2 hp2=> ?_;obtain⟨rfl,hqw2⟩:=hp2;obtain⟨W2,W2s,W2k,W2m⟩:=awS hqw2;have W2l:=as_ W2m;have hK:=hK.mono hV2;have hb:=hb.mono hV2;have hA:=hA.mono hV2;have hB:=hB.mono hV2;have W1k:=W1k.mono hV2;refine gW [0,1] hV2 ?_;refine cW ?_;refine aCA (k:=1) (n:=B.length) (v:=ev) (xs:=(stq B)) (m:=W2.length) (news:=(stq W2)) UL.out TZ.out rfl (nW rfl) rfl rfl rfl W2s W2k.one a_ eZ (λv2=> ?_);refine gW [0,1] dL ?_;refine yN ?_;refine bO (k:=1) rfl (λho2=> ?_);refine tR ?_;refine xT [0,1] ?_;refine aJ ?_;refine bO (k:=0) rfl (λho3=> ?_);refine bO (k:=1) rfl (λho4=> ?_);refine dM rfl rfl (aU rfl (aU rfl (aU rfl (aU rfl (aU rfl (aU rfl (aU (eJ.one hK) (aU ho3 (aU ho4 (aU (Sl.one hb) rfl)))))))))) ?_;refine aH ?_;refine jM 0 λVf1 hVf1 hc1=> ?_;have hK:=hK.mono hVf1;have hb:=hb.mono hVf1;have hA:=hA.mono hVf1;have hB:=hB.mono hVf1;have W1k:=W1k.mono hVf1;have W2k:=W2k.mono hVf1;refine jM 0 λVf2 hVf2 hc2=> ?_;have hK:=hK.mono hVf2;have hb:=hb.mono hVf2;have hA:=hA.mono hVf2;have hB:=hB.mono hVf2;have W1k:=W1k.mono hVf2;have W2k:=W2k.mono hVf2;have hc1:=hc1.mono hVf2;refine c_ 1 λVf3 hVf3 hc3=> ?_;have hK:=hK.mono hVf3;have hb:=hb.mono hVf3;have hA:=hA.mono hVf3;have hB:=hB.mono hVf3;have W1k:=W1k.mono hVf3;have W2k:=W2k.mono hVf3;have hc1:=hc1.mono hVf3;have hc2:=hc2.mono hVf3;refine fR ?_;refine QH ?_;subst hs;rw[aMs aO];exact⟨rfl,⟨ks,v1,v2,bv⟩,rfl,⟨hK,aHC hc1 hA W1k eA W1m,aHC hc2 hB W2k eB W2m,hb⟩⟩;refine aH ?_;refine eE [0,1,2,6] [(34,(.bool (decide ((s.dk=4)∧(s.tm.op≠0)))))] ?_ (λe1=> ?_);refine aF ?_;by_cases g1:s.dk=4;refine aS ?_;exact bC ⟨jb (ja g1 Iff.rfl),trivial⟩;refine aS ?_;exact bC ⟨jf (λz=>g1 z.1),trivial⟩;refine aG ?_ ?_<;>intro c2;refine aH ?_;refine KL [0,1,2,6,34] (λ(z5:Nat) (w3:Value)=> [(5,(vp z5))]) (λz5 w3=> [Gr 76 10 tv A.length (stq A),Gr 76 10 ev B.length (stq B),aM 76 b1 (aKM s ks tv ev bv),aLX b2,aM 76 z5 (anD s ks tv w3)]) (λz5 w3 V'=>eO V' w3 (NO (AN s.thn))) ?_ ?_;refine rE 11 [] ?_;refine P4 ?_;refine cY 5 ?_;refine jZ 6 rfl (afT (v:=(.int .i64 (AN s.thn))) (k:=0) rfl (λVo hVo hbo=>by rw[←eA];exact aDL (ac0 hbo (hA.mono hVo))) rfl rfl) ?_;refine gO (i:=7) (j:=9) eU ?_ ?_;refine cI ?_;refine aZ [] (atS (t:=(AN s.thn))) λw3 V3 sg3 hV3 hp3=> ?_;obtain⟨rfl,hqw3⟩:=hp3;have hK:=hK.mono hV3;refine cC [] hV3 ?_;refine jZ 8 rfl (bL (out:=(anD s ks tv w3)) BI.out [(0,[Value.int .i64 3]),(4,[.int .i64 s.tm.op,.int .i64 s.tm.n,ks]),(5,[tv]),(6,[w3])] (by show [(0,Value.cells (Value.int .i64 3)),(4,Value.cells (.agg #[.int .i64 s.tm.op,.int .i64 s.tm.n,ks])),(5,Value.cells tv),(6,Value.cells w3)]=_;rw[au8 ht1,eO.cells hqw3];try rfl) rfl) ?_;refine bW 9 ?_;refine aQ λb3=> ?_;refine cC [] dL ?_;refine bW 10 ?_;refine bO (k:=0) rfl (λho5=> ?_);refine dM rfl rfl (aU rfl (aU rfl (aU rfl (aU rfl (aU rfl (aU rfl (aU (eJ.one hK) (aU ho5 (aU (eO.one hqw3) (aU rfl rfl)))))))))) ?_;refine I_ [] ?_;refine en [0,1,2,3,4] ⟨b3,w3,⟨rfl,trivial⟩,nF,hV3,rfl,hqw3⟩;refine cI ?_;refine aQ λb4=> ?_;refine cC [] dL ?_;refine bW 7 ?_;refine aZ [] (atS (t:=(AN s.thn))) λw3 V4 sg4 hV4 hp4=> ?_;obtain⟨rfl,hqw3⟩:=hp4;have hK:=hK.mono hV4;refine cC [] hV4 ?_;refine jZ 8 rfl (bL (out:=(anD s ks tv w3)) BI.out [(0,[Value.int .i64 3]),(4,[.int .i64 s.tm.op,.int .i64 s.tm.n,ks]),(5,[tv]),(6,[w3])] (by show [(0,Value.cells (Value.int .i64 3)),(4,Value.cells (.agg #[.int .i64 s.tm.op,.int .i64 s.tm.n,ks])),(5,Value.cells tv),(6,Value.cells w3)]=_;rw[au8 ht1,eO.cells hqw3];try rfl) rfl) ?_;refine bW 10 ?_;refine bO (k:=0) rfl (λho6=> ?_);refine dM rfl rfl (aU rfl (aU rfl (aU rfl (aU rfl (aU rfl (aU rfl (aU (eJ.one hK) (aU ho6 (aU (eO.one hqw3) (aU rfl rfl)))))))))) ?_;refine I_ [] ?_;refine en [0,1,2,3,4] ⟨b4,w3,⟨rfl,trivial⟩,nF,hV4,rfl,hqw3⟩;rintro z5 w3 e2 Vj1 hSVj1 hqw3;have hK:=hK.mono hSVj1;have hb:=hb.mono hSVj1;have hA:=hA.mono hSVj1;have hB:=hB.mono hSVj1;refine jp1 [0,1,2,5,6,34] (λ(z55:Nat)=> []) (λz55=> [Gr 76 10 tv A.length (stq A),Gr 76 10 ev B.length (stq B),aM 76 b1 [.int .i64 s.dk,.int .i64 s.cost,.int .i64 s.var,.int .i64 s.n,vi 0,vi 1,vn,.slice (some ⟨z55,0,none⟩) 1 1,ev,bv],aLX b2,aM 76 z5 (anD s ks tv w3),aM 76 z55 (anD s ks tv w3)]) (λz55=>True) ?_ ?_;refine rE 7 [0,0,1] ?_;refine jZ 0 rfl (bL (out:=aKD) BI.out [(0,[Value.int .i64 0]),(1,[Value.int .i64 1])] rfl rfl) ?_;refine cY 1 ?_;refine cY 3 ?_;refine gO (i:=2) (j:=4) eU ?_ ?_;refine cI ?_;refine cQ 1 10 (anD s ks tv w3) (λb5=> ?_);refine cC [0,0,1] dL ?_;refine bW 4 ?_;refine kX (k:=2) (off:=4) (v:=(.agg #[vi 0,vi 1,vn])) (vs:=aKD) (cs:=(aKM s ks tv ev bv)) (cs':=(aLZ s tv ev bv)) SZ.out rfl rfl rfl rfl rfl rfl (nW rfl) rfl ?_;refine cC [0,0,1] dL ?_;refine cY 5 ?_;refine bW 6 ?_;refine aH ?_;refine cC [0,0,1] dL ?_;refine en [0,1,2,3,4,5] ⟨b5,trivial,nF,rfl,rfl,trivial⟩;refine cI ?_;refine kX (k:=2) (off:=4) (v:=(.agg #[vi 0,vi 1,vn])) (vs:=aKD) (cs:=(aKM s ks tv ev bv)) (cs':=(aLZ s tv ev bv)) SZ.out rfl rfl rfl rfl rfl rfl (nW rfl) rfl ?_;refine cC [0,0,1] dL ?_;refine bW 2 ?_;refine cQ 1 10 (anD s ks tv w3) (λb6=> ?_);refine cC [0,0,1] dL ?_;refine cY 5 ?_;refine bW 6 ?_;refine aH ?_;refine cC [0,0,1] dL ?_;refine en [0,1,2,3,4,5] ⟨b6,trivial,nF,rfl,rfl,trivial⟩;rintro z55 e3-;refine aI ?_;refine bO (k:=1) rfl (λho7=> ?_);refine dM rfl rfl (aU rfl (aU rfl (aU rfl (aU rfl (aU rfl (aU rfl (aU rfl (aU rfl (aU ho7 (aU (Sl.one hb) rfl)))))))))) ?_;refine aH ?_;refine jM 0 λVf4 hVf4 hc4=> ?_;have hK:=hK.mono hVf4;have hb:=hb.mono hVf4;have hA:=hA.mono hVf4;have hB:=hB.mono hVf4;have hqw3:=hqw3.mono hVf4;refine jM 0 λVf5 hVf5 hc5=> ?_;have hK:=hK.mono hVf5;have hb:=hb.mono hVf5;have hA:=hA.mono hVf5;have hB:=hB.mono hVf5;have hqw3:=hqw3.mono hVf5;have hc4:=hc4.mono hVf5;refine c_ 3 λVf6 hVf6 hc6=> ?_;have hK:=hK.mono hVf6;have hb:=hb.mono hVf6;have hA:=hA.mono hVf6;have hB:=hB.mono hVf6;have hqw3:=hqw3.mono hVf6;have hc4:=hc4.mono hVf6;have hc5:=hc5.mono hVf6;refine c_ 1 λVf7 hVf7 hc7=> ?_;have hK:=hK.mono hVf7;have hb:=hb.mono hVf7;have hA:=hA.mono hVf7;have hB:=hB.mono hVf7;have hqw3:=hqw3.mono hVf7;have hc4:=hc4.mono hVf7;have hc5:=hc5.mono hVf7;have hc6:=hc6.mono hVf7;refine fR ?_;refine s8 _ (eC AG.out rfl (d7 hc7) rfl rfl) ?_;subst hs;rw[aMA (And.left aO) (And.right aO)];exact⟨rfl,⟨t9,_,ev,bv⟩,rfl,⟨aHO,awX (p:=(.mk 3 0 0 0 s.tm s.thn (NO (AN s.thn)) [],⟨ks,tv,w3,t9⟩)) hc6 ⟨hK,eA▸ac0 hc4 hA,hqw3,aT.nil⟩ (cV _) j_,eB▸ac0 hc5 hB,hb⟩⟩;refine aJ ?_;refine bO (k:=0) rfl (λho8=> ?_);refine bO (k:=1) rfl (λho9=> ?_);refine dM rfl rfl (aU rfl (aU rfl (aU rfl (aU rfl (aU rfl (aU rfl (aU (eJ.one hK) (aU ho8 (aU ho9 (aU (Sl.one hb) rfl)))))))))) ?_;refine aH ?_;refine jM 0 λVf8 hVf8 hc8=> ?_;have hK:=hK.mono hVf8;have hb:=hb.mono hVf8;have hA:=hA.mono hVf8;have hB:=hB.mono hVf8;refine jM 0 λVf9 hVf9 hc9=> ?_;have hK:=hK.mono hVf9;have hb:=hb.mono hVf9;have hA:=hA.mono hVf9;have hB:=hB.mono hVf9;have hc8:=hc8.mono hVf9;refine c_ 1 λVf10 hVf10 hc10=> ?_;have hK:=hK.mono hVf10;have hb:=hb.mono hVf10;have hA:=hA.mono hVf10;have hB:=hB.mono hVf10;have hc8:=hc8.mono hVf10;have hc9:=hc9.mono hVf10;refine fR ?_;refine s8 _ (eC AG.out rfl (d7 hc10) rfl rfl) ?_;subst hs;rw[aMx aO aO];exact⟨rfl,⟨ks,tv,ev,bv⟩,rfl,⟨hK,eA▸ac0 hc8 hA,eB▸ac0 hc9 hB,hb⟩⟩
def aL5(k:Nat):Prop:=∀(V:HV) (l:List St) (lv:Value),eO V lv l→bN l≤1000000→bN l<k→aP Tryz.prog 24 [lv,.slice none 0 0] V [] (λv V' σ'=>∃Q:List SrQ,σ'=[Gr 76 10 v Q.length (stq Q)]∧N3 V' Q∧Q.map (·.1)=i7 l)
theorem aH5{V:HV}{l:List St}{lv:Value}{k:Nat}(IH:aL5 k)(hL:eO V lv l)(hz:bN l≤1000000)(hk:bN l<(k+1:Nat)):
  aP Tryz.prog 24 [lv,vn] V [] (λv V' σ'=>∃Q:List SrQ,σ'=[Gr 76 10 v Q.length (stq Q)]∧N3 V' Q∧Q.map (·.1)=i7 l):=by
 refine bI Tryz.func24 ?_;intro w0 D;have hL0:=hL;obtain⟨kvs,tvs,evs,gH,hS,hK,hth,hel,hbv⟩:=hL0;have hb:=aR.bound hS;have hle:=amC l;refine dS ?_;refine fF 76 10 ?_;refine aD ?_;refine xO ?_;refine IP [0,1,4,9,10] (λ(i:Int) (u:Value) (Q:List SrQ)=> [(5,u),(11,(vi i))]) (λi u Q=> [Gr 76 10 u Q.length (stq Q)]) (λi u Q V'=>eO V' lv l∧N3 V' Q∧Q.map (·.1)=(i7 l).take i.toNat∧0≤i∧i≤l.length) (λi u Q=>(l.length-i).toNat) 0 vn ([]) ?_ ?_ ?_ ?_;exact⟨oW,rfl,trivial⟩
 (rfl)
 exact⟨hL,N3.nil,rfl,aB,aB⟩;rintro i u Q e1 V0l ⟨hL,hQ,hm,i1,i2⟩;have hL0:=hL;obtain⟨kvs,tvs,evs,gH,hS,hK,hth,hel,hbv⟩:=hL0;have hb:=aR.bound hS;have hel1:=adF l;refine aF ?_;refine aG ?_ ?_<;>intro c1;refine aJ ?_;have eV:=qO (l:=l) i1 a_;have hse:=mC (st l i);have hsp:=(st l i).tm.sz_pos;have hsn:=dK (l.take i.toNat);have hs1:=dK (st l i).thn;have hs2:=dK (st l i).els;have hk0:=hK i i1 a_;have L3:=hth i i1 a_;have he0:=hel i i1 a_;have hb0:=hbv i i1 a_;have hql:=auS hm;have hn1:=amC (st l i).thn;have hn2:=amC (st l i).els;refine aH ?_;refine R9 ?_;refine aQ λb1=> ?_;refine g4Z ?_;refine dS ?_;refine oq (aKA UL.out rfl rfl) ?_;refine ZS ?_;refine jx4 [0,1,4,5,7,8,9,10,11,12,33] (λ(w2:Value) (w3:Value) (A:List SrQ) (B:List SrQ)=> []) (λw2 w3 A B=> [Gr 76 10 u Q.length (stq Q),aM 76 b1 [.int .i64 ((st l i).dk),.int .i64 ((st l i).cost),.int .i64 ((st l i).var),.int .i64 ((st l i).n),.int .i64 ((st l i).tm.op),.int .i64 ((st l i).tm.n),gv kvs i,w2,w3,gv gH i],Gr 76 10 w2 A.length (stq A),Gr 76 10 w3 B.length (stq B)]) (λw2 w3 A B V'=>w2.oneCell'=true∧w3.oneCell'=true∧N3 V' A∧N3 V' B∧A.map (·.1)=i7 (st l i).thn∧B.map (·.1)=i7 (st l i).els) ?_ ?_;refine rE 12 [0,1] ?_;refine cY 0 ?_;refine cY 2 ?_;refine cY 4 ?_;refine cY 6 ?_;refine gO (i:=1) (j:=5) eU ?_ ?_;refine rQ ?_;refine cC [0,1] dL ?_;refine gO (i:=3) (j:=5) eU ?_ ?_;refine cI ?_;refine aZ [] (IH _ _ _ L3 a_ a_) λw2 V1 sg1 hV1 hp1=> ?_;obtain⟨A,rfl,hA,eA⟩:=hp1;refine bO (k:=0) rfl (λhz2=> ?_);have he0:=he0.mono hV1;refine h_ [1,2,0] ?_;refine cC [0,1] hV1 ?_;refine bW 5 ?_;refine aH ?_;refine cC [0,1] dL ?_;refine cY 8 ?_;refine bW 7 ?_;refine aZ [] (IH _ _ _ he0 a_ a_) λw3 V2 sg2 hV2 hp2=> ?_;obtain⟨B,rfl,hB,eB⟩:=hp2;refine bO (k:=0) rfl (λhz3=> ?_);have hA:=hA.mono hV2;refine h_ [1,2,3,0] ?_;refine cC [0,1] hV2 ?_;refine bW 9 ?_;refine bO (k:=2) rfl (λho1=> ?_);refine pW ?_;refine cC [0,1] dL ?_;refine cY 10 ?_;refine bW 11 ?_;refine bO (k:=3) rfl (λho2=> ?_);refine tR ?_;refine cC [0,1] dL ?_;refine en [0,1,2,3] ⟨w2,w3,A,B,trivial,nF,hV1.trans hV2,rfl,⟨hz2,hz3,hA,hB,eA,eB⟩⟩;refine rQ ?_;refine cC [0,1] dL ?_;refine bW 3 ?_;refine aZ [] (IH _ _ _ L3 a_ a_) λw2 V3 sg3 hV3 hp3=> ?_;obtain⟨A,rfl,hA,eA⟩:=hp3;refine bO (k:=0) rfl (λhz2=> ?_);have he0:=he0.mono hV3;refine h_ [1,2,0] ?_;refine cC [0,1] hV3 ?_;refine cY 8 ?_;refine bW 7 ?_;refine aZ [] (IH _ _ _ he0 a_ a_) λw3 V4 sg4 hV4 hp4=> ?_;obtain⟨B,rfl,hB,eB⟩:=hp4;refine bO (k:=0) rfl (λhz3=> ?_);have hA:=hA.mono hV4;refine h_ [1,2,3,0] ?_;refine cC [0,1] hV4 ?_;refine bW 9 ?_;refine bO (k:=2) rfl (λho3=> ?_);refine j8 rfl eQ ho3 ?_;refine cC [0,1] dL ?_;refine cY 10 ?_;refine bW 11 ?_;refine bO (k:=3) rfl (λho4=> ?_);refine j8 rfl eQ ho4 ?_;refine cC [0,1] dL ?_;refine en [0,1,2,3] ⟨w2,w3,A,B,trivial,nF,hV3.trans hV4,rfl,⟨hz2,hz3,hA,hB,eA,eB⟩⟩;refine rQ ?_;refine cC [0,1] dL ?_;refine bW 1 ?_;refine aH ?_;refine cC [0,1] dL ?_;refine bW 3 ?_;refine aZ [] (IH _ _ _ L3 a_ a_) λw2 V5 sg5 hV5 hp5=> ?_;obtain⟨A,rfl,hA,eA⟩:=hp5;refine bO (k:=0) rfl (λhz2=> ?_);have he0:=he0.mono hV5;refine h_ [1,2,0] ?_;refine cC [0,1] hV5 ?_;refine cY 8 ?_;refine bW 7 ?_;refine aZ [] (IH _ _ _ he0 a_ a_) λw3 V6 sg6 hV6 hp6=> ?_;obtain⟨B,rfl,hB,eB⟩:=hp6;refine bO (k:=0) rfl (λhz3=> ?_);have hA:=hA.mono hV6;refine h_ [1,2,3,0] ?_;refine cC [0,1] hV6 ?_;refine bW 9 ?_;refine bO (k:=2) rfl (λho5=> ?_);refine j8 rfl eQ ho5 ?_;refine cC [0,1] dL ?_;refine cY 10 ?_;refine bW 11 ?_;refine bO (k:=3) rfl (λho6=> ?_);refine j8 rfl eQ ho6 ?_;refine cC [0,1] dL ?_;refine en [0,1,2,3] ⟨w2,w3,A,B,trivial,nF,hV5.trans hV6,rfl,⟨hz2,hz3,hA,hB,eA,eB⟩⟩;rintro w2 w3 A B e2 Vj1 hSVj1 ⟨hz2,hz3,hA,hB,eA,eB⟩;have hL:=hL.mono hSVj1;have hQ:=hQ.mono hSVj1;have hk0:=hk0.mono hSVj1;have hb0:=hb0.mono hSVj1;refine eW ?_;refine aZ [2,2] (aHP (s:=.mk (st l i).dk (st l i).cost (st l i).var (st l i).n (st l i).tm (i7 (st l i).thn) (i7 (st l i).els) (st l i).bds) hk0 hb0 hA hB eA eB hz2 hz3 (aIe eA a_) (aIe eB a_) (aMa _).symm) ?_;rintro _ _ _ hV7 ⟨rfl,w,rfl,hbal⟩;have hL:=hL.mono hV7;have hQ:=hQ.mono hV7;refine dM rfl rfl (aU rfl (aU rfl (aU rfl (aU rfl (aU rfl (aU rfl (aU (eJ.one hbal.k) (aU (eO.one hbal.t) (aU (eO.one hbal.e) (aU (Sl.one hbal.b) rfl)))))))))) ?_;refine aJ ?_;refine cQ 1 10 [.int .i64 ((evS (st l i)).dk),.int .i64 ((evS (st l i)).cost),.int .i64 ((evS (st l i)).var),.int .i64 ((evS (st l i)).n),.int .i64 ((evS (st l i)).tm.op),.int .i64 ((evS (st l i)).tm.n),w.k,w.t,w.e,w.b] (λb2=> ?_);refine dV rfl rfl rfl (aHA (p:=((evS (st l i)),w)) hbal) a_ eZ λv1 hn1=> ?_;refine aD ?_;refine wN ?_;refine aJ ?_;exact uU (i+1) v1 (Q++ [((evS (st l i)),w)]) ⟨rfl,aL a_,trivial⟩ ⟨hL,hQ.snoc hbal,ar8 (d:=st0) hm i1 a_ (aL9 i1 a_).symm,aB,aB⟩ (hr:=by rw[aDW,dD];rfl);refine b_ ?_;refine zJ ?_;exact⟨Q,rfl,hQ,at4 hm (by rw[adF];omega)⟩
theorem aH9:∀k,aL5 k
 |0=>λ_ l _ _ _ h=>bM h CF
 |k+1=>λV l lv hL hz hk=>aH5 (aH9 k) hL hz hk
theorem aHY{V:HV}{va ha ba:Value}{G:Fl}(hF:fV V va ha ba G){c:Int}(hc:aP Tryz.prog 22 [.agg #[va,ha,ba]] V [] (λv _ _=>v= .int .i64 c)):
  aP Tryz.prog 25 [.agg #[va,ha,ba]] V [] (λv V' σ'=>σ'=[]∧∃a b d,v= .tuple #[.agg #[a,b,d],.int .i64 (if c=0 then 0 else 4)]∧Fl3 V' a b d (c=0) G):=by
 refine bI Tryz.func25 ?_;intro w0 D;refine aD ?_;refine bH λb1=> ?_;refine aQ λb2=> ?_;refine aN ?_;refine oq (cM hc) ?_;refine aD ?_;refine aG ?_ ?_<;>intro c1;refine aD ?_;refine oq (bL (out:=[Value.slice none 0 0,Value.slice none 0 0,Value.slice none 0 0]) BI.out [] rfl rfl) ?_;refine aI ?_;refine c_ 1 λVf1 hVf1 hc1=> ?_;refine fR ?_;refine jE _ (vi 4) (eC AG.out rfl (d7 hc1) rfl rfl) (fA rfl) ?_;exact⟨rfl,t9,t9,t9,by rw[aC aO];rfl,⟨rfl,rfl,rfl,λh=>bM h aO⟩⟩;refine aJ ?_;refine dM rfl rfl (aU (aR.one hF.v) (aU (Hts.one hF.h) (aU (eO.one hF.b) rfl))) ?_;refine aD ?_;refine c_ 1 λVf2 hVf2 hc2=> ?_;have hF:=hF.mono hVf2;refine fR ?_;refine jE _ (vi 0) (eC AG.out rfl (d7 hc2) rfl rfl) (fA rfl) ?_;exact⟨rfl,va,ha,ba,by rw[aK (pU.1 aO)];rfl,Fl3.of hF⟩
theorem aKu{V:HV}{va ha ba:Value}{F:Fl}(hF:fV V va ha ba F)(hVa:gI F){c:Int}(hc:∀(V:HV) (va ha ba:Value),fV V va ha ba (TO F)→aP Tryz.prog 22 [.agg #[va,ha,ba]] V [] (λv _ _=>v= .int .i64 c)):
  aP Tryz.prog 7 [.agg #[va,ha,ba]] V [] (λv V' σ'=>σ'=[]∧∃a b d,v= .tuple #[.agg #[a,b,d],.int .i64 (if c=0 then 0 else 4)]∧Fl3 V' a b d (c=0) (TO F)):=by
 refine bI Tryz.func7 ?_;intro w0 D;have hz2:=hVa.sz.2.2.1;have hhn:=CY F.hs;have hnn:=dK F.bd;refine aD ?_;refine bH λb1=> ?_;refine aQ λb2=> ?_;refine aN ?_;refine oq (cM (rL hF hVa)) ?_;refine aS ?_;refine aG ?_ ?_<;>intro c1;omega;refine aJ ?_;refine aZ [] (aKv hF hVa) ?_;rintro _ _ _ _ ⟨rfl,a1,b1,d1,rfl,hG⟩;refine dM rfl rfl (aU (aR.one hG.v) (aU (Hts.one hG.h) (aU (eO.one hG.b) rfl))) ?_;refine aF ?_;refine aZ [] (aH9 ((bN F.bd).toNat+1) _ _ _ hG.b a_ a_) λw9 V2 sg2 hV2 hp2=> ?_;obtain⟨A,rfl,hA,eA⟩:=hp2;have hG:=hG.mono hV2;refine h_ [1,2,0] ?_;refine aH ?_;refine bO (k:=2) rfl (λho1=> ?_);refine pW ?_;refine aD ?_;refine jM 2 λVf1 hVf1 hc1=> ?_;have hG:=hG.mono hVf1;have hA:=hA.mono hVf1;refine aH ?_;have hw9:eO Vf1 w9 (i7 F.bd):=eA▸ac0 hc1 hA;have hE:fV Vf1 a1 b1 w9 (TO F):=⟨hG.v,hG.h,hw9⟩;refine aH ?_;refine aZ [] (aHY hE (hc _ _ _ _ hE)) ?_;rintro _ _ _ _ ⟨rfl,x1,x2,x3,rfl,h3⟩;refine aD ?_;refine dM rfl rfl (aU h3.a (aU h3.b (aU h3.d rfl))) ?_;refine aD ?_;refine c_ 1 λVf2 hVf2 hc2=> ?_;have h3:=h3.mono hVf2;refine fR ?_;refine jE _ (.int .i64 (if c=0 then 0 else 4)) (eC AG.out rfl (d7 hc2) rfl rfl) (fA rfl) ?_;exact⟨rfl,x1,x2,x3,rfl,h3⟩
end Go.Proofs.YtbchkopkgpfkgaaGreat
end
