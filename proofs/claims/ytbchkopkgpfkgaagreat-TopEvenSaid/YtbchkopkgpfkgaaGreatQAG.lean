import Derived.Test.YtbchkopkgpfkgaaGreatProg
import Derived.Test.YtbchkopkgpfkgaaGreatQAF
import Derived.Test.YtbchkopkgpfkgaaGreatQAC
set_option linter.unusedVariables false
set_option linter.unusedSimpArgs false
set_option maxRecDepth 100000
noncomputable section
namespace Go.Proofs.YtbchkopkgpfkgaaGreat.Dd
open Classical Go Go.Vc
variable{D:Mg}{K c i r root vars z:Int}{L V l lvs:List Int}{N:List Fk}{k:Nat}{α:Type}
structure Os where
 sn:Int→Option Bool
 lv:List Int
 nd:List Int
abbrev dQ(s:Os)(r:Int):Prop:=(s.sn r).getD false=true
abbrev DU:Os:=⟨λ_=>none,[],[]⟩
abbrev q8(s:Os)(r:Int):Os:=⟨cX s.sn r true,s.lv,s.nd⟩
def fS(N:List Fk):Nat→Int→Os→Os
 |0,_,s=>s
 |k+1,r,s=>if dQ s r then s else if r%2=0 then⟨cX s.sn r true,s.lv++ [r/2],s.nd⟩
  else⟨(fS N k (fk N (r/2)).h (fS N k (fk N (r/2)).l (q8 s r))).sn,(fS N k (fk N (r/2)).h (fS N k (fk N (r/2)).l (q8 s r))).lv,(fS N k (fk N (r/2)).h (fS N k (fk N (r/2)).l (q8 s r))).nd++ [r/2]⟩
theorem CX{s:Os}(h:dQ s r):fS N (k+1) r s=s:=by unfold fS;rw[aK h]
theorem FF{s:Os}(h:¬dQ s r)(h2:r%2=0):fS N (k+1) r s=⟨cX s.sn r true,s.lv++ [r/2],s.nd⟩:=by rw[fS,aC h,aK h2]
theorem FB{s a b:Os}(h:¬dQ s r)(h2:¬r%2=0)(ha:a=fS N k (fk N (r/2)).l (q8 s r))(hb:b=fS N k (fk N (r/2)).h a):fS N (k+1) r s=⟨b.sn,b.lv,b.nd++ [r/2]⟩:=by
 rw[fS,aC h,aC h2,←ha,←hb]
theorem eY{s:Os}{q:Int}{n:List Int}:dQ ⟨cX s.sn r true,l,n⟩ q↔q=r∨dQ s q:=by
 by_cases e:q=r;subst e;show(cX s.sn q true q).getD false=true↔_;rw[dG];simp;show(cX s.sn r true q).getD false=true↔_;rw[cP e];simp[e]
structure at0 (L:List Int) (N:List Fk) (r:Int) (s s':Os):Prop where
 mono:∀q,dQ s q→dQ s' q
 at_:dQ s' r
 only:∀q:Int,q%2=1→q≠r→(bV L N).mu r≤(bV L N).mu q→dQ s' q→dQ s q
 new:∀(P:Int→Prop),(∀q,(bV L N).ok q→¬q%2=0→P q→P (fk N (q/2)).l∧P (fk N (q/2)).h)→P r→∀q,dQ s' q→dQ s q∨P q
 clo:∀q,dQ s' q→dQ s q∨((bV L N).ok q∧(¬q%2=0→dQ s' (fk N (q/2)).l∧dQ s' (fk N (q/2)).h))
 lvs:(∀i:Int,i∈s.lv↔dQ s (2*i))→∀i:Int,i∈s'.lv↔dQ s' (2*i)
 nod:(∀i:Int,i∈s.lv↔dQ s (2*i))→s.lv.Nodup→s'.lv.Nodup
 sz:s.lv.length≤s'.lv.length∧s.nd.length≤s'.nd.length
theorem AR(f:GRed vars (bV L N)):∀(k:Nat) (r:Int) (s:Os),(bV L N).ok r→(bV L N).mu r<k→at0 L N r s (fS N k r s)
 |0,r,s,h,hk=>by omega
 |k+1,r,s,h,hk=>by
  by_cases hs:dQ s r;rw[CX hs];exact⟨λ_ h=>h,hs,λ_ _ _ _ h=>h,λ_ _ _ _ h=>.inl h,λ_ h=>.inl h,λh=>h,λ_ h=>h,cV _,cV _⟩;by_cases h2:r%2=0;rw[FF hs h2];refine⟨λq hq=>eY.2 (.inr hq),eY.2 (.inl rfl),λq hq hne _ hq'=>(eY.1 hq').resolve_left hne,λP _ hP q hq=> ?_,λq hq=> ?_,λhI i=> ?_,λhI hn=> ?_,?_,cV _⟩;rcases eY.1 hq with rfl|hq
  exact .inr hP;exact .inl hq;rcases eY.1 hq with rfl|hq
  exact .inr ⟨h,λz=>bM h2 z⟩;exact .inl hq;rw[eY,←hI i,jW,gY];constructor;rintro(z|z);exact .inr z;exact .inl (by omega);rintro(z|z);exact .inr (by omega);exact .inl z;refine List.nodup_append.2 ⟨hn,by simp,λa ha b hb=> ?_⟩;rw[gY]at hb;rintro rfl;subst hb;refine hs ?_;have:=(hI (r/2)).1 ha;rwa[show 2*(r/2)=r by omega]at this;simp;have hlo:=f.lo r h h2;have hhi:=f.hi r h h2;have hlo:(bV L N).ok (fk N (r/2)).l∧(bV L N).mu (fk N (r/2)).l<(bV L N).mu r∧_:=hlo;have hhi:(bV L N).ok (fk N (r/2)).h∧(bV L N).mu (fk N (r/2)).h<(bV L N).mu r∧_:=hhi;have A:=AR f k (fk N (r/2)).l (q8 s r) hlo.1 aB;have B:=AR f k (fk N (r/2)).h (fS N k (fk N (r/2)).l (q8 s r)) hhi.1 aB;rw[FB hs h2 rfl rfl];generalize fS N k (fk N (r/2)).l (q8 s r)=a at A B;generalize fS N k (fk N (r/2)).h a=b at B;have nl:∀q,(bV L N).mu r≤(bV L N).mu q→q≠(fk N (r/2)).l:=λq z e=>by rw[e]at z;omega
  have nh:∀q,(bV L N).mu r≤(bV L N).mu q→q≠(fk N (r/2)).h:=λq z e=>by rw[e]at z;omega
  refine⟨λq hq=>B.mono q (A.mono q (eY.2 (.inr hq))),B.mono r (A.mono r (eY.2 (.inl rfl))),λq hq hne hm hq'=> ?_,λP hC hP q hq=> ?_,λq hq=> ?_,λhI=> ?_,λhI hn=> ?_,?_,?_⟩;have z:=A.only q hq (nl q hm) aB (B.only q hq (nh q hm) aB hq');exact(eY.1 z).resolve_left hne;have c:=hC r h h2 hP;rcases B.new P hC c.2 q hq with z|z
  rcases A.new P hC c.1 q z with z|z
  rcases eY.1 z with rfl|z
  exact .inr hP;exact .inl z;exact .inr z;exact .inr z;rcases B.clo q hq with z|z
  rcases A.clo q z with z|⟨z1,z2⟩
  rcases eY.1 z with rfl|z
  exact .inr ⟨h,λ_=>⟨B.mono _ A.at_,B.at_⟩⟩;exact .inl z;exact .inr ⟨z1,λy=>⟨B.mono _ (z2 y).1,B.mono _ (z2 y).2⟩⟩;exact .inr z;refine B.lvs (A.lvs λi=> ?_);rw[eY];refine(hI i).trans ⟨.inr,λz=>z.resolve_left λe=> ?_⟩;omega;have hI2:∀i:Int,i∈(q8 s r).lv↔dQ (q8 s r) (2*i):=λi=>by
   rw[eY];refine(hI i).trans ⟨.inr,λz=>z.resolve_left λe=> ?_⟩;omega
  exact B.nod (A.lvs hI2) (A.nod hI2 hn);exact EU A.sz.1 B.sz.1;show s.nd.length≤(b.nd++ [r/2]).length;rw[dD];exact EU (EU A.sz.2 B.sz.2) (Nat.le_add_right _ _)
theorem B3:∀(n:Nat) {l:List Int},l.Nodup→(∀i∈l,0≤i∧i<n)→l.length≤n
 |0,l,_,h=>by
  cases l with
  |nil=>simp
  |cons a l=>have:=h a (mZ ..);omega
 |n+1,l,hn,h=>by
  by_cases hm:(n:Int)∈l;have:=B3 n (hn.erase (n:Int)) λi hi=>by
   have hi:=(hn.mem_erase_iff).1 hi;have:=h i hi.2;have:=hi.1;omega
  have hl:=List.length_erase_of_mem hm;omega;have:=B3 n hn λi hi=>by
   have h1:=h i hi;have:i≠n:=λe=>hm (e▸hi);omega
  omega
structure FW (L:List Int) (N:List Fk) (s:Os):Prop where
 lv:∀i∈s.lv,dQ s (2*i)∧0≤i∧i<L.length
 lvn:s.lv.Nodup
 nd:∀i∈s.nd,dQ s (2*i+1)∧0≤i∧i<N.length
 ndn:s.nd.Nodup
theorem FW.len{s:Os}(h:FW L N s):s.lv.length≤L.length∧s.nd.length≤N.length:=
 ⟨B3 _ h.lvn λi hi=>(h.lv i hi).2,B3 _ h.ndn λi hi=>(h.nd i hi).2⟩
theorem arX:FW L N DU:=⟨λ_ h=>by simp at h,bK,λ_ h=>by simp at h,bK⟩
theorem LZ{s:Os}(h:FW L N s):FW L N (q8 s r):=
 ⟨λi hi=>⟨eY.2 (.inr (h.lv i hi).1),(h.lv i hi).2⟩,h.lvn,λi hi=>⟨eY.2 (.inr (h.nd i hi).1),(h.nd i hi).2⟩,h.ndn⟩
structure R6 (L:List Int) (N:List Fk) (r:Int) (s s':Os):Prop where
 inv:FW L N s'
 new:∀i∈s'.nd,i∈s.nd∨((bV L N).mu (2*i+1)≤(bV L N).mu r)
theorem arO{s:Os}(h:FW L N s)(hr:(bV L N).ok r)(h2:r%2=0)(hs:¬dQ s r):FW L N ⟨cX s.sn r true,s.lv++ [r/2],s.nd⟩:=by
 refine⟨λi hi=> ?_,List.nodup_append.2 ⟨h.lvn,bK,λa ha b hb=> ?_⟩,λi hi=>⟨eY.2 (.inr (h.nd i hi).1),(h.nd i hi).2⟩,h.ndn⟩;rcases jW.1 hi with q|q
 exact⟨eY.2 (.inr (h.lv i q).1),(h.lv i q).2⟩;rw[gY]at q;subst q;refine⟨eY.2 (.inl aB),?_,hr.2.1 h2⟩;have:=hr.1;omega;rw[gY]at hb;rintro rfl;subst hb;refine hs ?_;have:=(h.lv _ ha).1;rwa[show 2*(r/2)=r by omega]at this
theorem ap5{s a b:Os}{l h':Int}(hI:FW L N s)(hr:(bV L N).ok r)(h2:¬r%2=0)(hs:¬dQ s r)(ml:(bV L N).mu l<(bV L N).mu r)(mh:(bV L N).mu h'<(bV L N).mu r)
  (A:R6 L N l (q8 s r) a) (B:R6 L N h' a b) (hm:dQ b r):R6 L N r s ⟨b.sn,b.lv,b.nd++ [r/2]⟩:=by
 have e2:2*(r/2)+1=r:=aB;have hnew:∀i∈b.nd,i∈s.nd∨(bV L N).mu (2*i+1)<(bV L N).mu r:=λi hi=>by
  rcases B.new i hi with q|q
  rcases A.new i q with q|q
  exact .inl q;exact .inr aB;exact .inr aB
 refine⟨⟨B.inv.lv,B.inv.lvn,λi hi=> ?_,List.nodup_append.2 ⟨B.inv.ndn,bK,λx hx y hy=> ?_⟩⟩,λi hi=> ?_⟩;rcases jW.1 hi with q|q
 exact B.inv.nd i q;rw[gY]at q;subst q;refine⟨by rw[e2];exact hm,?_,hr.2.2 aB⟩;have:=hr.1;omega;rw[gY]at hy;rintro rfl;subst hy;rcases hnew _ hx with q|q
 exact hs (by have:=(hI.nd _ q).1;rwa[e2]at this);rw[e2]at q;omega;rcases jW.1 hi with q|q
 rcases hnew i q with q|q
 exact .inl q;exact .inr aB;rw[gY]at q;subst q;exact .inr (by rw[e2];exact cV _)
theorem yX(f:GRed vars (bV L N)):∀(k:Nat) (r:Int) (s:Os),(bV L N).ok r→(bV L N).mu r<k→FW L N s→R6 L N r s (fS N k r s)
 |0,r,s,h,hk,_=>by omega
 |k+1,r,s,h,hk,hI=>by
  by_cases hs:dQ s r;rw[CX hs];exact⟨hI,λi hi=>.inl hi⟩;by_cases h2:r%2=0;rw[FF hs h2];exact⟨arO hI h h2 hs,λi hi=>.inl hi⟩;have hlo:=f.lo r h h2;have hhi:=f.hi r h h2;have hlo:(bV L N).ok (fk N (r/2)).l∧(bV L N).mu (fk N (r/2)).l<(bV L N).mu r∧_:=hlo;have hhi:(bV L N).ok (fk N (r/2)).h∧(bV L N).mu (fk N (r/2)).h<(bV L N).mu r∧_:=hhi;have A:=yX f k (fk N (r/2)).l (q8 s r) hlo.1 aB (LZ hI);have B:=yX f k (fk N (r/2)).h (fS N k (fk N (r/2)).l (q8 s r)) hhi.1 aB A.inv;have OA:=AR f k (fk N (r/2)).l (q8 s r) hlo.1 aB;have OB:=AR f k (fk N (r/2)).h (fS N k (fk N (r/2)).l (q8 s r)) hhi.1 aB;rw[FB hs h2 rfl rfl];exact ap5 hI h h2 hs hlo.2.1 hhi.2.1 A B (OB.mono _ (OA.mono _ (eY.2 (.inl rfl))))
def sG(L:List Int)(N:List Fk)(φ:Int→Int)(E:Os):lG:={bG L N φ with ok:=λr=>dQ E r}
def oE(N:List Fk)(root:Int):Os:=fS N (root.toNat+2) root DU
theorem J7(h:(bV L N).ok r):(bV L N).mu r<r.toNat+2:=by
 show(if r%2=0 then 0 else(r/2).toNat+1)<_;split<;>omega
section
variable {vars:Int} {L:List Int} {N:List Fk} {root:Int} (b:hJ vars L N) (hr:(bV L N).ok root)
include b hr
theorem FA:at0 L N root DU (oE N root):=AR b.red _ root DU hr (J7 hr)
theorem lF{q:Int}(h:dQ (oE N root) q):(bV L N).ok q∧(¬q%2=0→dQ (oE N root) (fk N (q/2)).l∧dQ (oE N root) (fk N (q/2)).h):=
 ((FA b hr).clo q h).resolve_left λz=>by simp[dQ]at z
theorem JM(i:Int):i∈(oE N root).lv↔dQ (oE N root) (2*i):=(FA b hr).lvs (λi=>by simp[dQ]) i
theorem aCW:(oE N root).lv.Nodup:=(FA b hr).nod (λi=>by simp[dQ]) bK
theorem GW{φ:Int→Int}:GRed vars (sG L N φ (oE N root)) where
 vr:=λr h hl=>b.red.vr r (lF b hr h).1 hl
 ne:=λr h hl=>b.red.ne r (lF b hr h).1 hl
 lo:=λr h hl=>⟨((lF b hr h).2 hl).1,(b.red.lo r (lF b hr h).1 hl).2⟩
 hi:=λr h hl=>⟨((lF b hr h).2 hl).2,(b.red.hi r (lF b hr h).1 hl).2⟩
 uq:=λr s h hl h' hl'=>b.red.uq r s (lF b hr h).1 hl (lF b hr h').1 hl'
theorem JN{i:Int}(h:i∈(oE N root).lv):0≤i∧i<L.length:=by
 have h:=(lF b hr ((JM b hr i).1 h)).1;have h1:=h.1;have h2:=h.2.1 aB;omega
theorem anU{q:Int}(h:dQ (oE N root) q):∃e:Int→Bool,∀e':Int→Bool,(∀i,i<bY vars (bV L N) q→e' i=e i)→cD (bV L N) e' root=cD (bV L N) e' q:=by
 have:=(FA b hr).new (λq=>(bV L N).ok q∧∃e:Int→Bool,∀e':Int→Bool,(∀i,i<bY vars (bV L N) q→e' i=e i)→cD (bV L N) e' root=cD (bV L N) e' q) (λq hq hl ⟨_,e,he⟩=>by
  have hlo:=b.red.lo q hq hl;have hhi:=b.red.hi q hq hl;have hll:bY vars (bV L N) q=(fk N (q/2)).v:=m_ (G:=bV L N) hl;refine⟨⟨hlo.1,up e (fk N (q/2)).v false,λe' he'=> ?_⟩,⟨hhi.1,up e (fk N (q/2)).v true,λe' he'=> ?_⟩⟩;rw[he e' λi hi=>by rw[he' i (by have:=hlo.2.2;show i<bY vars (bV L N) ((bV L N).nd q).l;have e3:((bV L N).nd q).v=(fk N (q/2)).v:=rfl;omega)];exact aC aB];rw[f8 b.red hq hl];have:e' ((bV L N).nd q).v=false:=by rw[he' _ hlo.2.2];exact aK rfl
  rw[this];rfl;rw[he e' λi hi=>by rw[he' i (by have:=hhi.2.2;show i<bY vars (bV L N) ((bV L N).nd q).h;have e3:((bV L N).nd q).v=(fk N (q/2)).v:=rfl;omega)];exact aC aB];rw[f8 b.red hq hl];have:e' ((bV L N).nd q).v=true:=by rw[he' _ hhi.2.2];exact aK rfl
  rw[this];rfl) ⟨hr,λ_=>false,λ_ _=>rfl⟩ q h
 exact(this.resolve_left λz=>by simp[dQ]at z).2
theorem akI(e:Int→Bool):∃i∈(oE N root).lv,gi L i=cD (bV L N) e root:=by
 have key:∀(k:Nat) (q:Int),(bV L N).mu q≤k→dQ (oE N root) q→∃i∈(oE N root).lv,gi L i=cD (bV L N) e q:=by
  intro k;induction k with
  |zero=>
   intro q hk hq;have hq2:=lF b hr hq;have hl:q%2=0:=kB λz=>by have:=(b.red.lo q hq2.1 z).2.1;omega
   exact⟨q/2,(JM b hr _).2 (by rw[show 2*(q/2)=q by omega];exact hq),by rw[fE (G:=bV L N) hl];rfl⟩
  |succ k ih=>
   intro q hk hq;have hq2:=lF b hr hq;by_cases hl:q%2=0;exact⟨q/2,(JM b hr _).2 (by rw[show 2*(q/2)=q by omega];exact hq),by rw[fE (G:=bV L N) hl];rfl⟩;have c:=hq2.2 hl;have l1:=(b.red.lo q hq2.1 hl).2.1;have l2:=(b.red.hi q hq2.1 hl).2.1;rw[f8 b.red hq2.1 hl];by_cases z:e ((bV L N).nd q).v=true;rw[aK z];exact ih _ aB c.2;rw[aC z];exact ih _ aB c.1
 exact key _ root (cV _) (FA b hr).at_
theorem aj5{i:Int}(h:i∈(oE N root).lv):∃e,cD (bV L N) e root=gi L i:=by
 have hs:=(JM b hr i).1 h;obtain⟨e,he⟩:=anU b hr hs;have:=he e λ_ _=>rfl;rw[fE (G:=bV L N) (show(2*i)%2=0 by omega)]at this;exact⟨e,by rw[this];show gi L (2*i/2)=_;rw[show 2*i/2=i by omega]⟩
end
structure Rel (K:Int) (G:lG) (m:Nat) (s:Os) (t:Ly):Prop where
 len:t.1.length=s.nd.length
 pl:∀j:Nat,j<s.nd.length→t.2 (2*s.nd.getD j 0+1)=some (K+j)
 st:∀q:Int,q%2=1→G.ok q→G.mu q≤m→(dQ s q↔(t.2 q).isSome=true)
theorem aC6{φ:Int→Int}{E:Os}(m:Nat):Rel K (sG L N φ E) m DU ([],jQ (sG L N φ E)) where
 len:=rfl
 pl:=λj h=>by simp at h
 st:=λq hq _ _=>by
  have:jQ (sG L N φ E) q=none:=aC λz=>by have:q%2=0:=z.2;omega
  simp[dQ,this]
theorem ZF{G:lG}{s:Ly}(hs:s.2 r=none):bU K G (k+1) r s=((((bU K G k (G.nd r).h (bU K G k (G.nd r).l s).1).1.1++ [⟨(G.nd r).v,(bU K G k (G.nd r).l s).2,(bU K G k (G.nd r).h (bU K G k (G.nd r).l s).1).2⟩]),
 cX (bU K G k (G.nd r).h (bU K G k (G.nd r).l s).1).1.2 r (K+(bU K G k (G.nd r).h (bU K G k (G.nd r).l s).1).1.1.length)),K+(bU K G k (G.nd r).h (bU K G k (G.nd r).l s).1).1.1.length):=by rw[bU,hs]
section
variable {vars K:Int} {L:List Int} {N:List Fk} {φ:Int→Int} {E:Os}
theorem OK(f:GOk vars K (sG L N φ E))(fb:GRed vars (bV L N))(hsub:∀q,dQ E q→(bV L N).ok q)(K0:0≤K):∀(k:Nat) (r:Int) (s:Os) (t:Ly) (m:Nat),dQ E r→(bV L N).mu r<k→(bV L N).mu r≤m→wR K (sG L N φ E) t→Rel K (sG L N φ E) m s t→Rel K (sG L N φ E) m (fS N k r s) (bU K (sG L N φ E) k r t).1
 |0,r,s,t,m,hr,hk,_,_,_=>by omega
 |k+1,r,s,t,m,hr,hk,hm,hI,R=>by
  by_cases h2:r%2=0;rw[gK (hI.lf r hr h2)];by_cases hs:dQ s r;rw[CX hs];exact R;rw[FF hs h2];refine⟨R.len,R.pl,λq hq ho hqm=> ?_⟩;rw[eY];exact(show(q=r∨dQ s q)↔dQ s q from⟨λz=>z.resolve_left λe=>by omega,.inr⟩).trans (R.st q hq ho hqm);have hst:=R.st r aB hr hm;by_cases hs:dQ s r;obtain⟨p,hp⟩:=ZA.1 (hst.1 hs);rw[gK hp,CX hs];exact R;have hn:t.2 r=none:=by
   cases q:t.2 r with
   |none=>rfl
   |some p=>exact bM (hst.2 (by rw[q];rfl)) hs
  have hb:=hsub r hr;have hlo:=f.lo r hr h2;have hhi:=f.hi r hr h2;have ml:(bV L N).mu (fk N (r/2)).l<(bV L N).mu r:=hlo.2.1;have mh:(bV L N).mu (fk N (r/2)).h<(bV L N).mu r:=hhi.2.1;have sl:dQ E (fk N (r/2)).l:=hlo.1;have sh:dQ E (fk N (r/2)).h:=hhi.1;have R1:Rel K (sG L N φ E) ((bV L N).mu r-1) (q8 s r) t:=⟨R.len,R.pl,λq hq ho hqm=>by
   rw[eY];have hqm:(bV L N).mu q≤(bV L N).mu r-1:=hqm;refine(show(q=r∨dQ s q)↔dQ s q from⟨λz=>z.resolve_left λe=> ?_,.inr⟩).trans (R.st q hq ho (by show(bV L N).mu q≤m;omega));subst e;omega⟩
  have VA:=jX f K0 k (fk N (r/2)).l t sl (by show(bV L N).mu (fk N (r/2)).l<k;omega) hI;have VB:=jX f K0 k (fk N (r/2)).h (bU K (sG L N φ E) k (fk N (r/2)).l t).1 sh (by show(bV L N).mu (fk N (r/2)).h<k;omega) VA.inv;have RA:=OK f fb hsub K0 k (fk N (r/2)).l (q8 s r) t ((bV L N).mu r-1) sl aB aB hI R1;have RB:=OK f fb hsub K0 k (fk N (r/2)).h _ _ ((bV L N).mu r-1) sh aB aB VA.inv RA;have OA:=AR fb k (fk N (r/2)).l (q8 s r) (hsub _ sl) aB;have OB:=AR fb k (fk N (r/2)).h (fS N k (fk N (r/2)).l (q8 s r)) (hsub _ sh) aB;rw[FB hs h2 rfl rfl,ZF hn];change Rel K (sG L N φ E) m _ (((bU K (sG L N φ E) k (fk N (r/2)).h (bU K (sG L N φ E) k (fk N (r/2)).l t).1).1.1++ [⟨(fk N (r/2)).v,(bU K (sG L N φ E) k (fk N (r/2)).l t).2,(bU K (sG L N φ E) k (fk N (r/2)).h (bU K (sG L N φ E) k (fk N (r/2)).l t).1).2⟩]),
   cX (bU K (sG L N φ E) k (fk N (r/2)).h (bU K (sG L N φ E) k (fk N (r/2)).l t).1).1.2 r (K+(bU K (sG L N φ E) k (fk N (r/2)).h (bU K (sG L N φ E) k (fk N (r/2)).l t).1).1.1.length))
  generalize fS N k (fk N (r/2)).l (q8 s r)=a at RA RB OA OB;generalize fS N k (fk N (r/2)).h a=b at RB OB;generalize bU K (sG L N φ E) k (fk N (r/2)).l t=x at RA RB VA VB;generalize bU K (sG L N φ E) k (fk N (r/2)).h x.1=y at RB VB;have hrl:r≠(fk N (r/2)).l:=λz=>by rw[←z]at ml;omega
  have hrh:r≠(fk N (r/2)).h:=λz=>by rw[←z]at mh;omega
  have hyn:y.1.2 r=none:=by rw[VB.only r hrh ahB,VA.only r hrl ahB,hn]
  refine⟨?_,λj hj=> ?_,λq hq ho hqm=> ?_⟩;simp[RB.len];have hj:j<(b.nd++ [r/2]).length:=hj;rw[dD]at hj;by_cases e:j<b.nd.length;have hp:=RB.pl j e;show cX y.1.2 r _ (2*(b.nd++ [r/2]).getD j 0+1)=_;rw[show(b.nd++ [r/2]).getD j 0=b.nd.getD j 0 by rw[bX,bX,oR e],cP];exact hp;intro z;rw[z,hyn]at hp;cases hp;have ej:j=b.nd.length:=by simp at hj;omega
  subst ej;show cX y.1.2 r _ (2*(b.nd++ [r/2]).getD b.nd.length 0+1)=_;rw[show(b.nd++ [r/2]).getD b.nd.length 0=r/2 by simp[bX],show 2*(r/2)+1=r by omega,dG,RB.len];show dQ ⟨b.sn,b.lv,b.nd++ [r/2]⟩ q↔(cX y.1.2 r _ q).isSome=true;by_cases e:q=r;subst e;rw[dG];exact⟨λ_=>rfl,λ_=>OB.mono _ (OA.mono _ (eY.2 (.inl rfl)))⟩;rw[cP e];by_cases hlt:(bV L N).mu q≤(bV L N).mu r-1;exact RB.st q hq ho hlt;have hge:(bV L N).mu r≤(bV L N).mu q:=aB;have nl:q≠(fk N (r/2)).l:=λz=>by rw[z]at hge;omega
  have nh:q≠(fk N (r/2)).h:=λz=>by rw[z]at hge;omega
  rw[VB.only q nh ahB,VA.only q nl ahB];refine Iff.trans ⟨λz=> ?_,λz=> ?_⟩ (R.st q hq ho hqm);exact(eY.1 (OA.only q hq nl aB (OB.only q hq nh aB z))).resolve_left e;exact OB.mono _ (OA.mono _ (eY.2 (.inr z)))
end
theorem SH:∀{A B:List Int},A.Pairwise (·<·)→B.Pairwise (·<·)→(∀z,z∈A↔z∈B)→A=B
 | [],[],_,_,_=>rfl
 | [],b::B,_,_,h=>by have:=(h b).2 (mZ ..);cases this
 |a::A,[],_,_,h=>by have:=(h a).1 (mZ ..);cases this
 |a::A,b::B,ha,hb,h=>by
  obtain⟨a1,a2⟩:=EW.1 ha;obtain⟨b1,b2⟩:=EW.1 hb;have e:a=b:=by
   rcases uL.1 ((h a).1 (mZ ..))with q|q
   exact q;rcases uL.1 ((h b).2 (mZ ..))with p|p
   exact p.symm;have:=b1 a q;have:=a1 b p;omega
  subst e;rw[SH a2 b2 λz=>⟨λhz=> ?_,λhz=> ?_⟩];rcases uL.1 ((h z).1 (uC _ hz))with q|q
  have:=a1 z hz;omega;exact q;rcases uL.1 ((h z).2 (uC _ hz))with q|q
  have:=b1 z hz;omega;exact q
abbrev srt(t:List Int):List Int:=t.mergeSort λx y=>decide (x≤y)
def dd:List Int→List Int
 | []=> []
 |a::l=>match dd l with
  | []=> [a]
  |b::r=>if a=b then b::r else a::b::r
theorem aaL(z:Int):∀{l:List Int},z∈dd l↔z∈l
 | []=>Iff.rfl
 |a::l=>by
  have ih:=aaL z (l:=l);unfold dd;cases h:dd l with
  |nil=>
   rw[h]at ih;show z∈ [a]↔_;rw[gY,uL,←ih];simp
  |cons b r=>
   rw[h]at ih;show z∈(if a=b then b::r else a::b::r)↔_;rw[uL (l:=l),←ih];by_cases e:a=b;subst e;rw[aK rfl];simp;rw[aC e];simp
theorem asZ:∀{l:List Int},l.Pairwise (·≤·)→(dd l).Pairwise (·<·)
 | [],_=>.nil
 |a::l,h=>by
  obtain⟨h1,h2⟩:=EW.1 h;have ih:=asZ h2;have hm:∀z,z∈dd l→a≤z:=λz hz=>h1 z ((aaL z).1 hz);unfold dd;cases hd:dd l with
  |nil=>show [a].Pairwise _;simp
  |cons b r=>
   rw[hd]at ih hm;show(if a=b then b::r else a::b::r).Pairwise _;by_cases e:a=b;rw[aK e];exact ih;rw[aC e];refine EW.2 ⟨λz hz=> ?_,ih⟩;have q1:=hm b (mZ ..);rcases uL.1 hz with rfl|hz
   omega;have:=(EW.1 ih).1 z hz;omega
theorem P6(t:List Int):(srt t).Pairwise (·≤·):=by
 have:=List.pairwise_mergeSort (le:=λx y:Int=>decide (x≤y)) (λa b c h1 h2=>by have h1:=of_decide_eq_true h1;have h2:=of_decide_eq_true h2;exact decide_eq_true (Int.le_trans h1 h2)) (λa b=>by
  by_cases h:a≤b;simp[h];simp;omega) t
 exact this.imp λh=>of_decide_eq_true h
def kZ(t:List Int):List Int:=dd (srt t)
theorem X9(t:List Int):(kZ t).Pairwise (·<·):=asZ (P6 t)
theorem zB{t:List Int}:z∈kZ t↔z∈t:=by unfold kZ;rw[aaL];exact List.mem_mergeSort
theorem aiX{A t:List Int}(h:A.Pairwise (·<·))(hm:∀z,z∈A↔z∈t):A=kZ t:=SH h (X9 t) λz=>(hm z).trans zB.symm
def ix(V:List Int)(z:Int):Int:=match gx z V with|some i=>(i:Int)|none=>-1
theorem aDn(h:z∈V):∃i,gx z V=some i:=by
 cases q:gx z V with
 |some i=>exact⟨i,rfl⟩
 |none=>
  obtain⟨i,hi,e⟩:=H2 h;exact bM (by rw[bX,dT hi];exact e) (K4 q i hi)
theorem DJ(h:z∈V):0≤ix V z∧ix V z<V.length∧gi V (ix V z)=z:=by
 obtain⟨i,hi⟩:=aDn h;obtain⟨h1,h2,_⟩:=DP hi;unfold ix;rw[hi];exact⟨by show(0:Int)≤(i:Int);omega,by show(i:Int)<_;omega,h2⟩
theorem aD3(h:V.Pairwise (·<·)){j:Int}(h0:0≤i)(h1:i<V.length)(h2:0≤j)(h3:j<V.length)(e:gi V i=gi V j):i=j:=by
 have key:∀a c:Nat,a<c→c<V.length→V.getD a 0<V.getD c 0:=λa c hac hc=>by
  rw[bX,bX,dT aB,dT hc];exact AP.1 h a c aB hc hac
 unfold gi at e;rcases Nat.lt_trichotomy i.toNat j.toNat with q|q|q
 have:=key _ _ q aB;omega;omega;have:=key _ _ q aB;omega
theorem atM(h:V.Pairwise (·<·))(h0:0≤i)(h1:i<V.length):ix V (gi V i)=i:=by
 have hm:gi V i∈V:=by
  unfold gi;rw[bX,dT aB];exact CP aB
 obtain⟨a,b,c⟩:=DJ hm;exact aD3 h a b h0 h1 c
def dg(vars:Int)(t:List Int):Mg:=⟨vars,kZ t,(cK (kZ t).length vars.toNat [] 0 (t.map (ix (kZ t)))).1,(cK (kZ t).length vars.toNat [] 0 (t.map (ix (kZ t)))).2⟩
theorem QO{f:(Int→Bool)→α}{z:α}:∀{m:Nat} {v:Int} {e:Int→Bool},z∈dF f m v e↔∃e',(∀i,(i<v∨v+m≤i)→e' i=e i)∧f e'=z
 |0,v,e=>by
  show z∈ [f e]↔_;rw[gY];constructor;rintro rfl;exact⟨e,λ_ _=>rfl,rfl⟩;rintro⟨e',h,rfl⟩;rw[show e'=e from funext λi=>h i aB]
 |m+1,v,e=>by
  show z∈dF f m (v+1) (up e v false)++dF f m (v+1) (up e v true)↔_;rw[jW,QO,QO];constructor;rintro(⟨e',h,rfl⟩|⟨e',h,rfl⟩);exact⟨e',λi hi=>by rw[h i aB];exact aC aB,rfl⟩;exact⟨e',λi hi=>by rw[h i aB];exact aC aB,rfl⟩;rintro⟨e',h,rfl⟩;by_cases q:e' v=true;refine .inr ⟨e',λi hi=> ?_,rfl⟩;by_cases e1:i=v;subst e1;rw[q];exact(aK rfl).symm;rw[h i aB];exact(aC e1).symm;refine .inl ⟨e',λi hi=> ?_,rfl⟩;by_cases e1:i=v;subst e1;show e' i=up e i false i;unfold up;rw[aK rfl];simpa using q;rw[h i aB];exact(aC e1).symm
abbrev e0:Int→Bool:=λ_=>false
def dR(vars:Int)(f:(Int→Bool)→α):Prop:=∀e e':Int→Bool,(∀i,0≤i→i<vars→e i=e' i)→f e=f e'
abbrev dH(vars:Int)(f:(Int→Bool)→α):List α:=dF f vars.toNat 0 e0
theorem jB{f:(Int→Bool)→α}(hv:0≤vars)(hd:dR vars f){z:α}:z∈dH vars f↔∃e,f e=z:=by
 rw[QO];constructor;rintro⟨e,_,h⟩;exact⟨e,h⟩;rintro⟨e,h⟩;refine⟨λi=>if 0≤i∧i<vars then e i else false,λi hi=> ?_,?_⟩;show(if 0≤i∧i<vars then e i else false)=_;rw[aC aB];rw[←h];exact hd _ _ λi a c=>aK ⟨a,c⟩
theorem tL{G:lG}(f:GRed vars G)(hv:0≤vars)(h:G.ok r):dR vars λe=>cD G e r:=λ_ _ he=>GG f _ r h (cV _) λi a c=>he i (by have:=f.lev_nn hv h;omega) c
def mL(L lv:List Int):List Int:=lv.mergeSort λi j=>decide (gi L i≤gi L j)
theorem D5(L lv:List Int):(mL L lv).length=lv.length:=List.length_mergeSort _
theorem vM{lv:List Int}:i∈mL L lv↔i∈lv:=List.mem_mergeSort
theorem az1(L lv:List Int):(mL L lv).map (gi L)=srt (lv.map (gi L)):=List.map_mergeSort (λa _ b _=>rfl)
def LC(lvs:List Int):Nat→Int→Option Int
 |0=>λ_=>none
 |i+1=>cX (LC lvs i) (2*gi lvs i) i
def xL(lvs bN:List Int):Nat→Int→Option Int
 |0=>LC lvs lvs.length
 |j+1=>cX (xL lvs bN j) (2*gi bN j+1) (lvs.length+j)
theorem acA(hn:lvs.Nodup):∀{n:Nat} {i:Nat},i<n→n≤lvs.length→LC lvs n (2*gi lvs i)=some (i:Int)
 |n+1,i,h,hl=>by
  show cX (LC lvs n) (2*gi lvs n) n (2*gi lvs i)=_;by_cases e:i=n;subst e;rw[dG];rw[cP,acA hn (by omega) (by omega)];intro q;have q:lvs.getD i 0=lvs.getD n 0:=by unfold gi at q;simp only[iD]at q;omega
  rw[bX,bX,dT aB,dT aB]at q;exact e ((List.getElem_inj hn).1 q)
theorem aaH{bN:List Int}{q:Int}(h:q%2=0):∀j,xL lvs bN j q=LC lvs lvs.length q
 |0=>rfl
 |j+1=>by
  show cX (xL lvs bN j) (2*gi bN j+1) _ q=_;rw[cP aB,aaH h j]
theorem ab5{bN:List Int}(hn:bN.Nodup):∀{j:Nat} {i:Nat},i<j→j≤bN.length→xL lvs bN j (2*gi bN i+1)=some ((lvs.length:Int)+i)
 |j+1,i,h,hl=>by
  show cX (xL lvs bN j) (2*gi bN j+1) _ (2*gi bN i+1)=_;by_cases e:i=j;subst e;rw[dG];rw[cP,ab5 hn (by omega) (by omega)];intro q;have q:bN.getD i 0=bN.getD j 0:=by unfold gi at q;simp only[iD]at q;omega
  rw[bX,bX,dT aB,dT aB]at q;exact e ((List.getElem_inj hn).1 q)
structure Fin (vars:Int) (L:List Int) (N:List Fk) (root:Int) (lvs bN:List Int) (D:Mg):Prop where
 v:D.v=vars
 lv:lvs.map (gi L)=D.L
 lvb:∀i:Int,0≤i→i<lvs.length→0≤gi lvs i∧gi lvs i<L.length
 ndb:∀j:Int,0≤j→j<bN.length→0≤gi bN j∧gi bN j<N.length
 len:D.N.length=bN.length
 nd:∀j:Int,0≤j→j<bN.length→fk D.N j=⟨(fk N (gi bN j)).v,(xL lvs bN j.toNat (fk N (gi bN j)).l).getD 0,(xL lvs bN j.toNat (fk N (gi bN j)).h).getD 0⟩
 rt:(xL lvs bN bN.length root).getD 0=D.r
theorem mY(h:z∈l):∃i:Nat,i<l.length∧gi l i=z:=by
 obtain⟨i,hi,e⟩:=H2 h;exact⟨i,hi,by unfold gi;rw[iD,bX,dT hi];exact e⟩
theorem qB(h0:0≤i)(h1:i<l.length):gi l i∈l:=by
 unfold gi;rw[bX,dT aB];exact CP aB
theorem anC{f:Int→Int}(h0:0≤i)(h1:i<l.length):gi (l.map f) i=f (gi l i):=by
 unfold gi;rw[bX,bX,iZ,dT aB];rfl
theorem al1(hv:0≤vars)(b:hJ vars L N)(hr:(bV L N).ok root):
  Fin vars L N root (mL L (oE N root).lv) (oE N root).nd (dg vars (dH vars λe=>cD (bV L N) e root)):=by
 have hO:=FA b hr;have hE:oE N root=fS N (root.toNat+2) root DU:=rfl;have hnod:=aCW b hr;have hlv:=JM b hr;have hbd:∀i∈(oE N root).lv,0≤i∧i<L.length:=λi h=>JN b hr h;have hdep:=tL b.red hv hr;have hA:(mL L (oE N root).lv).map (gi L)=kZ (dH vars λe=>cD (bV L N) e root):=by
  refine aiX ?_ λz=> ?_;have h1:((mL L (oE N root).lv).map (gi L)).Pairwise (·≤·):=by rw[az1];exact P6 _
  have h2:((mL L (oE N root).lv).map (gi L)).Nodup:=by
   refine List.Pairwise.map _ (R:=λa c=>a∈(oE N root).lv∧c∈(oE N root).lv∧a≠c) (λa c ⟨x,y,ne⟩ e=>ne (b.nod a c (hbd a x).1 (hbd a x).2 (hbd c y).1 (hbd c y).2 e)) ?_;have hnp:(mL L (oE N root).lv).Nodup:=(List.mergeSort_perm _ _).nodup_iff.2 hnod;exact hnp.imp_of_mem λha hc h=>⟨vM.1 ha,vM.1 hc,h⟩
  exact(h1.and h2).imp λ⟨x,y⟩=>Int.lt_iff_le_and_ne.2 ⟨x,y⟩;rw[jB hv hdep,HW];constructor;rintro⟨i,hi,rfl⟩;exact aj5 b hr (vM.1 hi);rintro⟨e,rfl⟩;obtain⟨i,hi,h⟩:=akI b hr e;exact⟨i,vM.2 hi,h⟩
 generalize hVeq:kZ (dH vars λe=>cD (bV L N) e root)=V at hA;have hVs:V.Pairwise (·<·):=hVeq▸X9 _;have hVl:V.length=(oE N root).lv.length:=by rw[←hA,fT,D5]
 have hmemV:∀i,i∈(oE N root).lv→gi L i∈V:=λi hi=>by rw[←hA];exact HW.2 ⟨i,vM.2 hi,rfl⟩
 have hseen:∀q,dQ (oE N root) q→(bV L N).ok q:=λq h=>(lF b hr h).1;have hlvq:∀q,dQ (oE N root) q→q%2=0→q/2∈(oE N root).lv:=λq h h2=>(hlv _).2 (by rw[show 2*(q/2)=q by omega];exact h);have f:GOk vars V.length (sG L N (ix V) (oE N root)):={
  toGRed:=GW b hr
  kr:=λr h hl=>by
   have:=DJ (hmemV _ (hlvq r h hl));exact⟨this.1,this.2.1⟩
  kq:=λr s h hl h' hl' e=>by
   have hl:r%2=0:=hl;have hl':s%2=0:=hl';have e:ix V (gi L (r/2))=ix V (gi L (s/2)):=e;have m1:=DJ (hmemV _ (hlvq r h hl));have m2:=DJ (hmemV _ (hlvq s h' hl'));have e2:gi L (r/2)=gi L (s/2):=by rw[←m1.2.2,←m2.2.2,e]
   have:=b.nod _ _ (hbd _ (hlvq r h hl)).1 (hbd _ (hlvq r h hl)).2 (hbd _ (hlvq s h' hl')).1 (hbd _ (hlvq s h' hl')).2 e2;omega}
 have K0:(0:Int)≤V.length:=aB;have hI0:=VS f;have hmu:(sG L N (ix V) (oE N root)).mu root<root.toNat+2:=J7 hr;have hV:=jX f K0 (root.toNat+2) root _ hO.at_ hmu hI0;have hR:=OK f b.red hseen K0 (root.toNat+2) root DU ([],jQ _) ((bV L N).mu root) hO.at_ hmu (cV _) hI0 (aC6 _);rw[←hE]at hR;have hg:∀e,cD (sG L N (ix V) (oE N root)) e root=ix V (cD (bV L N) e root):=λe=>by
  have h1:=HJ (G:=sG L N id (oE N root)) (G':=bV L N) (GW b hr) b.red (λr h=>⟨hseen r h,Iff.rfl,rfl⟩) id (λ_ _ _=>rfl) e _ root hO.at_ (cV _);have h2:=HJ (G:=sG L N id (oE N root)) (G':=sG L N (ix V) (oE N root)) (GW b hr) f.toGRed (λr h=>⟨h,Iff.rfl,rfl⟩) (ix V) (λ_ _ _=>rfl) e _ root hO.at_ (cV _);rw[h2,h1];rfl
 have hC:=nR f K0 vars.toNat 0 root ([],jQ (sG L N (ix V) (oE N root))) e0 (root.toNat+2) hI0 hO.at_ aB (f.lev_nn hv hO.at_) hmu;have hD:dg vars (dH vars λe=>cD (bV L N) e root)=⟨vars,V,(bU V.length (sG L N (ix V) (oE N root)) (root.toNat+2) root ([],jQ (sG L N (ix V) (oE N root)))).1.1,(bU V.length (sG L N (ix V) (oE N root)) (root.toNat+2) root ([],jQ (sG L N (ix V) (oE N root)))).2⟩:=by
  unfold dg;rw[hVeq];have:(dH vars λe=>cD (bV L N) e root).map (ix V)=dF (λe=>cD (sG L N (ix V) (oE N root)) e root) vars.toNat 0 e0:=by
   rw[Q3];congr 1;funext e;exact(hg e).symm
  rw[this,hC]
 rw[hD];generalize bU V.length (sG L N (ix V) (oE N root)) (root.toNat+2) root ([],jQ (sG L N (ix V) (oE N root)))=T at hV hR hC;have hSn:(mL L (oE N root).lv).Nodup:=(List.mergeSort_perm _ _).nodup_iff.2 hnod;have hSl:=D5 L (oE N root).lv;have hNn:(oE N root).nd.Nodup:=by
  refine AP.2 λi j hi hj hij e=> ?_;have a:=hR.pl i hi;have c:=hR.pl j hj;rw[bX,dT hi]at a;rw[bX,dT hj]at c;simp only[X8]at a c;rw[e,c]at a;simp at a;omega
 have hplace:∀j:Int,0≤j→j<(oE N root).nd.length→T.1.2 (2*gi (oE N root).nd j+1)=some (V.length+j):=λj h0 h1=>by
  have:=hR.pl j.toNat aB;rw[show((j.toNat:Nat):Int)=j by omega]at this;exact this
 have hnum:∀(j:Nat) (q a:Int),j≤(oE N root).nd.length→dQ (oE N root) q→T.1.2 q=some a→a<V.length+j→(xL (mL L (oE N root).lv) (oE N root).nd j q).getD 0=a:=λj q a hj hq ha hlt=>by
  by_cases h2:q%2=0;rw[aaH h2];have h1:=hV.inv.lf q hq h2;rw[ha]at h1;have ea:a=ix V (gi L (q/2)):=Option.some.inj h1;obtain⟨i,hi,e⟩:=mY (vM.2 (hlvq q hq h2):q/2∈mL L (oE N root).lv);rw[show q=2*gi (mL L (oE N root).lv) i by omega,acA hSn hi (cV _)];show(i:Int)=a;rw[ea,←e,←anC (f:=gi L) aB aB,hA,atM hVs aB (by rw[hVl];omega)];have hge:=(hV.inv.rf q a ha).2.2.1 h2;have hlt2:a<V.length+((oE N root).nd.length:Int):=aB;obtain⟨i,rfl⟩:∃i:Nat,a=V.length+(i:Int):=⟨(a-V.length).toNat,aB⟩;have e:=hV.inv.inj _ _ _ ha (hplace i aB aB);rw[e,ab5 hNn aB hj,hSl,hVl];rfl
 have hndseen:∀j:Int,0≤j→j<(oE N root).nd.length→dQ (oE N root) (2*gi (oE N root).nd j+1):=λj h0 h1=>(hV.inv.rf _ _ (hplace j h0 h1)).1;refine⟨rfl,hA,λi h0 h1=> ?_,λj h0 h1=> ?_,hR.len,λj h0 h1=> ?_,?_⟩;exact hbd _ (vM.1 (qB h0 h1));have:=hseen _ (hndseen j h0 h1);have a:=this.1;have c:=this.2.2 aB;omega;have hs:=hndseen j h0 h1;have hodd:¬(sG L N (ix V) (oE N root)).lf (2*gi (oE N root).nd j+1):=by show¬(2*gi (oE N root).nd j+1)%2=0;omega
 obtain⟨a,c,n1,n2,n3,n4,n5⟩:=hV.inv.nd _ _ hodd (hplace j h0 h1);have e1:(sG L N (ix V) (oE N root)).nd (2*gi (oE N root).nd j+1)=fk N (gi (oE N root).nd j):=by
  show fk N ((2*gi (oE N root).nd j+1)/2)=_;rw[show(2*gi (oE N root).nd j+1)/2=gi (oE N root).nd j by omega]
 rw[e1]at n1 n2 n5;have c1:=(lF b hr hs).2 hodd;rw[show(2*gi (oE N root).nd j+1)/2=gi (oE N root).nd j by omega]at c1;rw[hnum j.toNat _ a aB c1.1 n1 aB,hnum j.toNat _ c aB c1.2 n2 aB,←n5];show fk T.1.1 j=C5 V.length T.1.1 (V.length+j);unfold C5 fk;rw[show((V.length:Int)+j-V.length).toNat=j.toNat by omega];have hp:=(hV.inv.rf _ _ hV.at_).2.1.2;rw[hR.len]at hp;exact hnum _ root T.2 (cV _) hO.at_ hV.at_ hp
theorem tki(h0:0≤i)(h1:i<l.length):l.take (i.toNat+1)=l.take i.toNat++ [gi l i]:=by
 rw[t7,dT aB];unfold gi;rw[bX,dT aB];rfl
theorem tkf{l:List Fk}(h0:0≤i)(h1:i<l.length):l.take (i.toNat+1)=l.take i.toNat++ [fk l i]:=by
 rw[t7,dT aB];unfold fk;rw[bX,dT aB];rfl
theorem apR(h0:0≤i):LC lvs (i.toNat+1)=cX (LC lvs i.toNat) (2*gi lvs i) i:=by
 show cX (LC lvs i.toNat) (2*gi lvs (i.toNat:Int)) (i.toNat:Int)=_;rw[show((i.toNat:Nat):Int)=i by omega]
theorem anQ{bN:List Int}{j:Int}(h0:0≤j):xL lvs bN (j.toNat+1)=cX (xL lvs bN j.toNat) (2*gi bN j+1) (lvs.length+j):=by
 show cX (xL lvs bN j.toNat) (2*gi bN (j.toNat:Int)+1) (lvs.length+(j.toNat:Int))=_;rw[show((j.toNat:Nat):Int)=j by omega]
theorem aEE{bN:List Int}(F:Fin vars L N root lvs bN D)(h0:0≤i)(h1:i<lvs.length):gi L (gi lvs i)=gi D.L i:=by
 rw[←F.lv,anC h0 h1]
theorem Fin.ll{bN:List Int}(F:Fin vars L N root lvs bN D):D.L.length=lvs.length:=by rw[←F.lv,fT]
abbrev zM:Mg:=⟨0,[],[],0⟩
def jY(V:HV)(v:Value)(D:Mg)(c:Int):Prop:=∃lv nv,v= .tuple #[.agg #[.int .i64 D.v,lv,nv,.int .i64 D.r],.int .i64 c]∧Mt V lv nv D
def tJ(D:Mg):Prop:=4096<D.L.length∨4096<D.N.length
def q9(L:List Int)(D:Mg):Int:=if wd L then 3 else if tJ D then 4 else 0
def TX(D:Mg)(c:Int):Mg:=if c=0 then D else zM
theorem ak2(h:wd L):q9 L D=3:=aK h
theorem amL(h:¬wd L)(h2:tJ D):q9 L D=4:=by unfold q9;rw[aC h,aK h2]
theorem WY(h:¬wd L)(h2:¬tJ D):q9 L D=0:=by unfold q9;rw[aC h,aC h2]
theorem JS:TX D 0=D:=aK rfl
theorem wJ(h:c≠0):TX D c=zM:=aC h
theorem jY.zero{V:HV}:jY V (.tuple #[.agg #[.int .i64 0,.slice none 0 0,.slice none 0 0,.int .i64 0],.int .i64 c]) zM c:=⟨_,_,rfl,Mt.nil⟩
abbrev bD(vars:Int)(L:List Int)(M:List Fk)(r:Int):Mg:=dg vars (dH vars λe=>cD (bV L M) e r)
end Go.Proofs.YtbchkopkgpfkgaaGreat.Dd
namespace Go.Proofs.YtbchkopkgpfkgaaGreat
open Go.Vc
theorem Tryz.mixed:Tryz.prog.follows .mixedOrders=true:=by kernel_rfl
theorem Tryz.ti3:TI Tryz.prog 3 (Value.int .i64 0) 1 8:=show(Tryz.prog.info? 3).map (λi=>(i.zero,i.size,i.bytes))=some (some (Value.int .i64 0),1,8) by kernel_rfl
theorem Tryz.size3:eF Tryz.prog 3 1:=Tryz.ti3.size
theorem Tryz.plain3:sK Tryz.prog 3:=⟨_,Tryz.underlying3,bK,bK⟩
theorem Tryz.ti4:TI Tryz.prog 4 (Value.bool false) 1 1:=show(Tryz.prog.info? 4).map (λi=>(i.zero,i.size,i.bytes))=some (some (Value.bool false),1,1) by kernel_rfl
theorem Tryz.ti45:TI Tryz.prog 45 (Value.agg #[(Value.slice none 0 0),(Value.int .i64 0)]) 2 32:=show(Tryz.prog.info? 45).map (λi=>(i.zero,i.size,i.bytes))=some (some (Value.agg #[(Value.slice none 0 0),(Value.int .i64 0)]),2,32) by kernel_rfl
theorem Tryz.size45:eF Tryz.prog 45 2:=Tryz.ti45.size
theorem Tryz.ti162:TI Tryz.prog 162 (Value.agg #[(Value.int .i64 0),(Value.int .i64 0)]) 2 16:=show(Tryz.prog.info? 162).map (λi=>(i.zero,i.size,i.bytes))=some (some (Value.agg #[(Value.int .i64 0),(Value.int .i64 0)]),2,16) by kernel_rfl
theorem Tryz.size162:eF Tryz.prog 162 2:=Tryz.ti162.size
theorem Tryz.eq162:vR Tryz.prog 162 [.i64,.i64]:=⟨eD,eD,eD,xY eD⟩
theorem Tryz.eq247:vR Tryz.prog 247 [.i64,.i64,.i64]:=⟨eD,eD,eD,xY eD⟩
theorem Tryz.field278_1:yV Tryz.prog 278 1 1:=⟨_,_,1,Tryz.underlying278,rfl,rfl,Tryz.size3,j_⟩
end Go.Proofs.YtbchkopkgpfkgaaGreat
namespace Go.Vc
open Go
variable{k:Nat}{q:Prop}{v:Value}
class Cat (a b:aY) (c:outParam aY):Prop where out:a++b=c
instance aKy {b:aY}:Cat [] b b:=⟨rfl⟩
instance aKs {x:fB} {a b c:aY} [h:Cat a b c]:Cat (x::a) b (x::c):=⟨by rw[←h.out];rfl⟩
class ER (a:aY) (k:Nat) (x:fB) (c:outParam aY):Prop where out:a.set k x=c
instance aK1  {x:fB}:ER [] k x []:=⟨rfl⟩
instance aK9 {y x:fB} {a:aY}:ER (y::a) 0 x (x::a):=⟨rfl⟩
instance aKt {y x:fB} {a c:aY}  [h:ER a k x c]:ER (y::a) (k+1) x (y::c):=⟨by rw[←h.out];rfl⟩
class Nz (a:aY) (c:outParam aY):Prop where out:a=c
instance (priority:=10) nzAny {a:aY}:Nz a a:=⟨rfl⟩
instance aLf {x:fB} {a c:aY} [h:Nz a c]:Nz (x::a) (x::c):=⟨by rw[←h.out]⟩
instance aLI {a b a' b' c:aY} [h:Nz a a'] [i:Nz b b'] [j:Cat a' b' c]:Nz (a++b) c:=⟨by rw[h.out,i.out,j.out]⟩
instance aLG {a a' c:aY}  {x:fB} [h:Nz a a'] [j:ER a' k x c]:Nz (a.set k x) c:=⟨by rw[h.out,j.out]⟩
class wG (σ:aY) (b:Nat) (k:outParam Nat) (T:outParam TypeId) (cs:outParam (List Value)):Prop where out:σ[k]? =some (aM T b cs)
instance aLk {σ:aY} {b:Nat} {T:TypeId} {cs:List Value}:wG (aM T b cs::σ) b 0 T cs:=⟨rfl⟩
instance (priority:=100) arrMiss {x:fB} {σ:aY} {b k:Nat} {T:TypeId} {cs:List Value} [h:wG σ b k T cs]:wG (x::σ) b (k+1) T cs:=⟨by simpa using h.out⟩
class ZX (σ:aY) (v:Value) (k:outParam Nat) (E:outParam TypeId) (s n:outParam Nat) (xs:outParam (List Value)):Prop where out:σ[k]? =some (Gr E s v n xs)
instance aLp {σ:aY}  {E:TypeId} {s n:Nat} {xs:List Value}:ZX (Gr E s v n xs::σ) v 0 E s n xs:=⟨rfl⟩
instance (priority:=100) grMiss {x:fB} {σ:aY} {v:Value} {k:Nat} {E:TypeId} {s n:Nat} {xs:List Value} [h:ZX σ v k E s n xs]:ZX (x::σ) v (k+1) E s n xs:=⟨by simpa using h.out⟩
class At (cs:List Value) (k:Nat) (v:outParam Value):Prop where out:cs[k]? =some v
instance aLz  {cs:List Value}:At (v::cs) 0 v:=⟨rfl⟩
instance (priority:=100) atMiss {v u:Value} {cs:List Value} {k:Nat} [h:At cs k v]:At (u::cs) (k+1) v:=⟨by simpa using h.out⟩
class Dp (cs:List Value) (k:Nat) (ds:outParam (List Value)):Prop where out:cs.drop k=ds
instance aLC {cs:List Value}:Dp cs 0 cs:=⟨rfl⟩
instance (priority:=100) dpMiss {u:Value} {cs ds:List Value} {k:Nat} [h:Dp cs k ds]:Dp (u::cs) (k+1) ds:=⟨by rw[←h.out];rfl⟩
class Tk (cs:List Value) (k:Nat) (ds:outParam (List Value)):Prop where
 out:cs.take k=ds
 len:ds.length=k
instance aLB {cs:List Value}:Tk cs 0 []:=⟨rfl,rfl⟩
instance (priority:=100) tkMiss {u:Value} {cs ds:List Value} {k:Nat} [h:Tk cs k ds]:Tk (u::cs) (k+1) (u::ds):=⟨by rw[←h.out];rfl,by rw[l4,h.len]⟩
class MX (P:Program):Prop where out:P.follows .mixedOrders=true
class UL (P:Program) (T:TypeId) (d:outParam TypeDesc):Prop where out:P.underlying T=some d
class SZ (P:Program) (T:TypeId) (s:outParam Nat):Prop where out:eF P T s
class PL (P:Program) (T:TypeId):Prop where out:sK P T
class AG (P:Program) (T:TypeId) (s:outParam Nat):Prop where out:r_ P T s
class TZ (P:Program) (T:TypeId) (z:outParam Value) (s y:outParam Nat):Prop where out:TI P T z s y
class FI (P:Program) (T f:Nat) (o:outParam Nat):Prop where out:yV P T f o
class BI (P:Program) (T:TypeId) (pl:outParam (List (Nat×Nat))) (z:outParam (List Value)):Prop where out:zH P T pl z
section
variable {P:Program} {C:Cx} {N:Nat} {K:K3} {Q:Ex→K3} {env:cR} {V:HV} {σ σ':aY} {ops:Array Oper} {rest:List Oper}
variable {dst:Option Nat} {d k s n m:Nat} {x y z:Operand} {t T T' E:TypeId} {pos:String} {af:Array Edge} {g:Option (Nat×Bool)} {v u:Value} {op:Op} {vs cs ds:List Value} {b off o:Nat}
theorem gC{q:Prop}(h:q:=by(with_reducible_and_instances (conv=>lhs;whnf)<;>fail)):q:=h
theorem aFO{l:List Value}{i:Nat}(hx:ev env x= .tuple l.toArray)[h:At l i v]:QV P C ⟨dst,.extract x i,t,pos,af,g⟩ env V σ v:=aAX v hx h.out
theorem eQ{q:Prop}(h:q:=by first|(with_reducible_and_instances (conv=>lhs;whnf)<;>fail)|rfl):q:=h
theorem rT{q:Prop}(h:q:=by((conv=>lhs;whnf)<;>fail)):q:=h
theorem aJz{f r:Nat}[h:FI P T f o](hx:ev env x= .pointer (some ⟨b,off,none⟩))(hr:off+o=r:=by exact rT):QV P C ⟨dst,.fieldAddr T x f,t,pos,af,g⟩ env V σ (.pointer (some ⟨b,r,none⟩)):=hr▸KA h.out hx
theorem ayA{a:Value}{p:Prop}{i:Decidable p}(hc:ev env z= .bool (decide p))(hp:p)(hx:ev env x=a):QV P C ⟨dst,.pick z x y,t,pos,af,g⟩ env V σ a:=al5 hp hc hx
theorem ayO{a:Value}{p:Prop}{i:Decidable p}(hc:ev env z= .bool (decide p))(hp:¬p)(hx:ev env y=a):QV P C ⟨dst,.pick z x y,t,pos,af,g⟩ env V σ a:=amP hp hc hx
theorem aFi{p:Prop}{i:Decidable p}(hx:ev env x= .bool (decide p)):QV P C ⟨dst,.unOp .not T x,t,pos,af,g⟩ env V σ (.bool (decide (¬p))):=aCC hx
theorem aCO(hx:ev env x= .bool true):QV P C ⟨dst,.unOp .not T x,t,pos,af,g⟩ env V σ (.bool false):=adR hx
theorem aBi(hx:ev env x= .bool false):QV P C ⟨dst,.unOp .not T x,t,pos,af,g⟩ env V σ (.bool true):=adR hx
theorem aDl{n c n2 c2:Nat}[hT:UL P T (.slice E)](hx:ev env x= .slice none n c)(hy:ev env y= .slice none n2 c2):QV P C ⟨dst,.binOp .eql T x y T',t,pos,af,g⟩ env V σ (.bool true):=XW hT.out hx hy
theorem aBP{n c n2 c2:Nat}{ad:Addr}[hT:UL P T (.slice E)](hx:ev env x= .slice (some ad) n c)(hy:ev env y= .slice none n2 c2):QV P C ⟨dst,.binOp .eql T x y T',t,pos,af,g⟩ env V σ (.bool false):=XW hT.out hx hy
theorem aAM{a:Value}(h:QV P C ⟨dst,.pick z x y,t,pos,af,g⟩ env V σ a):QV P C ⟨dst,.pick z x y,t,pos,af,g⟩ env V σ a:=h
theorem aD9{a:Value}(h:QV P C ⟨dst,.load T x,t,pos,af,g⟩ env V σ a):QV P C ⟨dst,.load T x,t,pos,af,g⟩ env V σ a:=h
theorem aHn{a:Value}{i:Nat}(h:QV P C ⟨dst,.extract x i,t,pos,af,g⟩ env V σ a):QV P C ⟨dst,.extract x i,t,pos,af,g⟩ env V σ a:=h
theorem aJg{a:Value}{f:Nat}(h:QV P C ⟨dst,.fieldAddr T x f,t,pos,af,g⟩ env V σ a):QV P C ⟨dst,.fieldAddr T x f,t,pos,af,g⟩ env V σ a:=h
theorem aF5[hP:PL P T](hx:ev env x= .pointer (some ⟨b,off,none⟩))[hn:Nz σ σ'][h:wG σ' b k E cs][ho:At cs off v]:QV P C ⟨dst,.load T x,t,pos,af,g⟩ env V σ v:=
 f7 hP.out hx (p_ (by rw[hn.out];exact h.out)) ho.out
theorem aBg[hP:PL P T](hx:ev env x= .pointer (some ⟨b,off,none⟩))(h:Cells V b cs)[ho:At cs off v]:QV P C ⟨dst,.load T x,t,pos,af,g⟩ env V σ v:=f7 hP.out hx (d7 h) ho.out
theorem aE6[hA:AG P T s](hx:ev env x= .pointer (some ⟨b,off,none⟩))[hn:Nz σ σ'][h:wG σ' b k E cs][hd:Dp cs off ds][ht:Tk ds s vs]:
 QV P C ⟨dst,.load T x,t,pos,af,g⟩ env V σ (.agg vs.toArray):=xG hA.out hx (p_ (by rw[hn.out];exact h.out)) (by rw[hd.out,ht.out]) ht.len
theorem aAp[hA:AG P T s](hx:ev env x= .pointer (some ⟨b,off,none⟩))(h:Cells V b cs)[hd:Dp cs off ds][ht:Tk ds s vs]:
 QV P C ⟨dst,.load T x,t,pos,af,g⟩ env V σ (.agg vs.toArray):=xG hA.out hx (d7 h) (by rw[hd.out,ht.out]) ht.len
end
theorem q_a(h:q:=by
 first
 |((with_reducible apply P7);exact gC)
 |((with_reducible apply aFC);exact gC)
 |((with_reducible apply aJg);exact aJz rfl)
 |((with_reducible apply aD9);first|exact aF5 rfl|exact aBg rfl (by assumption)|exact aE6 rfl|exact aAp rfl (by assumption))
 |((with_reducible apply aHn);exact aFO rfl)
 |((with_reducible apply aEr)<;>rfl)
 |((with_reducible apply ak7)<;>rfl)
 |((with_reducible apply aB1)<;>rfl)
 |((with_reducible apply akK)<;>rfl)
 |((with_reducible apply aCg)<;>rfl)
 |((with_reducible apply akB)<;>rfl)
 |((with_reducible apply aCx);rfl;rfl;omega)
 |((with_reducible apply aEN);rfl;rfl;omega)
 |((with_reducible apply ai2);rfl;rfl;omega)
 |((with_reducible apply aAM);first
  |((with_reducible apply ayA);(exact gC);assumption;exact gC)
  |((with_reducible apply ayO);(exact gC);assumption;exact gC)
  |((with_reducible apply ae9);(exact gC);exact gC)
  |((with_reducible apply aeB);(exact gC);exact gC))
 |((with_reducible apply aFi);exact gC)
 |((with_reducible apply aCO);exact gC)
 |((with_reducible apply aBi);exact gC)
 |((with_reducible apply aCy)<;>rfl)
 |((with_reducible apply aDl);(exact gC);exact gC)
 |((with_reducible apply aBP);(exact gC);exact gC)
 |((with_reducible apply aCF)<;>rfl)):q:=h
section
variable {d':Option Nat} {op:Op} {t:TypeId} {pos:String} {af:Array Edge} {ops:Array Oper} {env:cR} {j d:Nat} {b:Bool} {p:Prop} {i:Decidable p}
theorem aJ7(hd:(ops[j]?).bind (·.dst)=some d)(he:env d= .bool b):dE ⟨d',op,t,pos,af,some (j,b)⟩ ops env=true:=by
 cases b;exact azA rfl hd he;exact azR rfl hd he
theorem w_t(hd:(ops[j]?).bind (·.dst)=some d)(he:env d= .bool (decide p))(hp:p):dE ⟨d',op,t,pos,af,some (j,true)⟩ ops env=true:=iN hp rfl hd he
theorem w_f(hd:(ops[j]?).bind (·.dst)=some d)(he:env d= .bool (decide p))(hp:¬p):dE ⟨d',op,t,pos,af,some (j,false)⟩ ops env=true:=aEz hp rfl hd he
theorem w_u(hd:(ops[j]?).bind (·.dst)=some d)(he:env d=undef):dE ⟨d',op,t,pos,af,some (j,b)⟩ ops env=false:=aA0 rfl hd he
theorem aFx(hd:(ops[j]?).bind (·.dst)=some d)(he:env d= .bool false):dE ⟨d',op,t,pos,af,some (j,true)⟩ ops env=false:=aoH rfl hd he
theorem aFX(hd:(ops[j]?).bind (·.dst)=some d)(he:env d= .bool true):dE ⟨d',op,t,pos,af,some (j,false)⟩ ops env=false:=anT rfl hd he
theorem aKj(hd:(ops[j]?).bind (·.dst)=some d)(he:env d= .bool (decide p))(hp:¬p):dE ⟨d',op,t,pos,af,some (j,true)⟩ ops env=false:=KC hp rfl hd he
theorem aJD(hd:(ops[j]?).bind (·.dst)=some d)(he:env d= .bool (decide p))(hp:p):dE ⟨d',op,t,pos,af,some (j,false)⟩ ops env=false:=azX hp rfl hd he
end
theorem cZ(h:q:=by
 first
 |((with_reducible apply w_t);rfl;(exact gC);assumption)
 |((with_reducible apply w_f);rfl;(exact gC);assumption)
 |((with_reducible apply aJ7);rfl;exact gC)):q:=h
theorem w_n(h:q:=by
 first
 |((with_reducible apply aKj);rfl;(exact gC);assumption)
 |((with_reducible apply aJD);rfl;(exact gC);assumption)
 |((with_reducible apply w_u);rfl;exact gC)
 |((with_reducible apply aFx);rfl;exact gC)
 |((with_reducible apply aFX);rfl;exact gC)):q:=h
section
variable {P:Program} {C:Cx} {N:Nat} {K:K3} {Q:Ex→K3} {env:cR} {V:HV} {σ σ' σq:aY} {ops:Array Oper} {rest:List Oper} {ro:List (Nat×Bool)}
variable {d i:Nat} {x y z:Operand} {t:TypeId} {pos:String} {af:Array Edge} {g:Option (Nat×Bool)} {v:Value} {op:Op}
theorem vcN{id:Nat}{l:List Oper}[hn:Nz σ σ'](h:d6 P C N l.toArray K l env V σ'):VC P C N (.region id l.toArray false) K Q env V σ:=ajG (by rw[hn.out];exact h)
theorem aGV{id:Nat}{l:List Oper}[hm:MX P][hn:Nz σ σ'](hB:Region.lexB .any l.toArray=true)(h:vV P C N l.toArray V σ' (λe=>K e V σ') l env):VC P C N (.region id l.toArray true) K Q env V σ:=by
 rw[hn.out];exact U2 hm.out hB h
end
instance (priority:=90) szTz {P:Program} {T:TypeId} {z:Value} {s y:Nat} [h:TZ P T z s y]:SZ P T s:=⟨h.out.size⟩
section
variable {P:Program} {T E F:TypeId}
instance aLH {k:IntKind} [h:UL P T (.int k)]:PL P T:=⟨_,h.out,bK,bK⟩
instance aKB [h:UL P T .bool]:PL P T:=⟨_,h.out,bK,bK⟩
instance aKr [h:UL P T (.slice E)]:PL P T:=⟨_,h.out,bK,bK⟩
instance aLA [h:UL P T (.pointer E)]:PL P T:=⟨_,h.out,bK,bK⟩
instance aLo [h:UL P T (.map E F)]:PL P T:=⟨_,h.out,bK,bK⟩
instance aLq [h:UL P T .string]:PL P T:=⟨_,h.out,bK,bK⟩
instance aK3 {a b:Array TypeId} {c:Bool} [h:UL P T (.func a b c)]:PL P T:=⟨_,h.out,bK,bK⟩
instance aKq {a:Array (String×TypeId)} [h:UL P T (.interface a)]:PL P T:=⟨_,h.out,bK,bK⟩
instance aIk {s:Nat} {f:Array Field} [h:UL P T (.struct f)] [i:SZ P T s]:AG P T s:=⟨.struct h.out i.out⟩
instance aKl {s n:Nat} [h:UL P T (.array n E)] [i:SZ P T s]:AG P T s:=⟨.array h.out i.out⟩
class FAt (l:List Field) (f:Nat) (ty off:outParam Nat):Prop where out:∃fl:Field,l[f]? =some fl∧fl.type=ty∧fl.offset=off
instance aKz {a:String} {ty off:Nat} {e:Bool} {g p:String} {y:Nat} {l:List Field}:FAt (⟨a,ty,off,e,g,p,y⟩::l) 0 ty off:=⟨_,rfl,rfl,rfl⟩
instance (priority:=100) fatMiss {fl:Field} {l:List Field} {f ty off:Nat} [h:FAt l f ty off]:FAt (fl::l) (f+1) ty off:=⟨by obtain⟨x,h1,h2⟩:=h.out;exact⟨x,by simpa using h1,h2⟩⟩
class Ps (n:Nat):Prop where out:n≠0
instance aLl {n:Nat}:Ps (n+1):=⟨Nat.succ_ne_zero n⟩
instance aLN {l:List Field} {f off s:Nat} [h:UL P T (.struct l.toArray)] [i:FAt l f E off] [j:SZ P E s] [q:Ps s]:FI P T f off:=
 ⟨by obtain⟨x,h1,h2,h3⟩:=i.out;exact⟨_,x,s,h.out,by simpa using h1,h3,by rw[h2];exact j.out,q.out⟩⟩
end
end Go.Vc
namespace Go.Vc
open Classical Go Go.RowKit
section
variable {P:Program} {C:Cx} {env:cR} {V:HV} {σ:aY} {T t t2:TypeId} {x y:Operand} {dst:Option Nat} {pos:String} {af:Array Edge} {g:Option (Nat×Bool)} {q:Prop} [i:Decidable q]
end
theorem OS{H:HV}{b n c:Nat}{xs:List Int}{k:IntKind}(h:Cells H b (xs.map (Value.int k)))(hn:n=xs.length)(hc:n≤c)(hm:c≤9223372036854775807):aT k H (.slice (some ⟨b,0,none⟩) n c) xs:=by
 obtain⟨T,fz,h⟩:=h;refine⟨some ⟨b,0,none⟩,c,by simp[hn],by simp;omega,hm,λ_=>⟨b,0,_,T,fz,rfl,h,λi hi=> ?_⟩⟩;simp
theorem GT{A B:List Int}(hl:A.length=B.length)(h:∀x:Int,0≤x→x<A.length→gi A x=gi B x):A=B:=by
 refine R5 hl λi h1 h2=> ?_;have:=h i aB aB;simp only[gi,bX,iD,dT h1,dT h2,X8]at this;exact this
section
variable {P:Program} {C:Cx} {N:Nat} {K:K3} {Q:Ex→K3} {env:cR} {V:HV} {σ:aY} {ops:Array Oper} {rest:List Oper} {w:World}
variable {d k b s:Nat} {dst:Option Nat} {x y z:Operand} {t T T' E KT:TypeId} {pos:String} {af:Array Edge} {g:Option (Nat×Bool)} {κ α:Type} {ek:κ→Value} {vl:α→Value} {f:κ→Option α} {key:κ} {a0 a1:α}
end
end Go.Vc
namespace Go.Vc
open Go Go.RowKit
section
variable {P:Program} {C:Cx} {env:cR} {V:HV} {σ:aY} {x y z:Operand} {T E t:TypeId} {dst:Option Nat} {pos:String} {af:Array Edge} {g:Option (Nat×Bool)} {k n s:Nat} {xs:List Value} {u:Value}
theorem L7{kk:IntKind}{h:Int}{H:HV}{n2:Nat}{v:Value}(hT:P.underlying T=some (.slice E))(hS:eF P E s)(hx:ev env x=v)(hv:aR n2 H v n xs)(hy:ev env y= .int kk h)(h0:0≤h)(h1:h≤n):
  QV P C ⟨dst,.slice T x none (some y) none,t,pos,af,g⟩ env V σ (sO v h.toNat):=cS λw _=>by
 obtain⟨a,c,rfl,hc,_⟩:=hv;have r:=zX (P:=P) (a:=a) (n:=n) (c:=c) (h:=h.toNat) (kk:=kk) hT hS aB w;rw[show((h.toNat:Nat):Int)=h by omega]at r;simp[execOp,hx,hy,Instr.sliceAt,run_underlying hT,r,sO]
theorem aR.take{H:HV}{v:Value}(h:aR s H v n xs){m:Nat}(hm:m≤n):aR s H (sO v m) m (xs.take (m*s)):=by
 obtain⟨a,c,rfl,h1,h2,hl,h3⟩:=h;have hms:m*s≤n*s:=vG s hm;refine⟨a,c,rfl,aB,h2,by rw[jL,hl];omega,λhne=> ?_⟩;obtain⟨b,off,cs,T,fz,e1,e2,e3⟩:=h3 aB;refine⟨b,off,cs,T,fz,e1,e2,λi hi=> ?_⟩;rw[e3 i aB,iH,aK hi]
end
end Go.Vc
namespace Go.Proofs.YtbchkopkgpfkgaaGreat.Dd
open Classical Go Go.Vc
variable{A B:Mg}{C L R V t:List Int}{D Ds:List Mg}{F:Int→Int→Int→Int}{H:HV}{K i j k p r root v vars z:Int}{M N:List Fk}{X Y:List Bool}{b:Bool}{e:Int→Bool}{m:Nat}{α:Type}
def j6(vars:Int)(t:List Int):Int:=if∃z∈t,¬bF z then 3 else if tJ (dg vars t)then 4 else 0
def pE(vars:Int)(t:List Int):Mg:=TX (dg vars t) (j6 vars t)
theorem ajZ(h:wd L↔∃z∈t,¬bF z):q9 L (dg vars t)=j6 vars t:=by
 unfold q9 j6;by_cases q:wd L;rw[aK q,aK (h.1 q)];rw[aC q,aC λz=>q (h.2 z)]
theorem abR(b:hJ vars L N)(hr:(bV L N).ok root)(e:Int→Bool):cD (bV L N) e root∈L:=by
 obtain⟨i,hi,h⟩:=akI b hr e;rw[←h];have:=JN b hr hi;exact qB this.1 this.2
theorem am7{f:(Int→Bool)→Int}(hv:0≤vars)(b:hJ vars L N)(hr:(bV L N).ok root)(hf:∀e,cD (bV L N) e root=f e)(hd:dR vars f)(hrch:∀z∈L,(∃e,f e=z)∨bF z):wd L↔∃z∈dH vars f,¬bF z:=by
 constructor;rintro⟨z,hz,hn⟩;exact⟨z,(jB hv hd).2 ((hrch z hz).resolve_right hn),hn⟩;rintro⟨z,hz,hn⟩;obtain⟨e,rfl⟩:=(jB hv hd).1 hz;exact⟨f e,by rw[←hf];exact abR b hr e,hn⟩
theorem as1{f:(Int→Bool)→Int}(hf:∀e,cD (bV L N) e root=f e):bD vars L N root=dg vars (dH vars f):=by
 unfold bD;rw[show(λe=>cD (bV L N) e root)=f from funext hf]
theorem aBE{k:fH}(d:gQ vars Ds)(hk:j7 Ds k):dR vars (gF Ds F k):=λe e' h=>by
 have each:∀i:Nat,i<3→cD (mG (dm Ds i)) e (kg k i)=cD (mG (dm Ds i)) e' (kg k i):=λi hi=>tL (d.red i aB) d.v0 (hk i aB aB).1 e e' h;unfold gF;have e0:=each 0 aB;have e1:=each 1 aB;have e2:=each 2 aB;simp only[show((0:Nat):Int)=0 from rfl,show((1:Nat):Int)=1 from rfl,show((2:Nat):Int)=2 from rfl]at e0 e1 e2;rw[e0,e1,e2]
abbrev cT(vars:Int)(Ds:List Mg)(F:Int→Int→Int→Int):List Int:=dH vars (gF Ds F (rt Ds))
theorem abQ(d:gQ vars Ds)(hr:IF Ds)(b:hJ vars L M)(s:Std vars Ds F L M (rt Ds) p)(hrch:∀z∈L,z∈([]:List Int)∨∃e,gF Ds F (rt Ds) e=z):
  bD vars L M p=dg vars (cT vars Ds F)∧q9 L (bD vars L M p)=j6 vars (cT vars Ds F):=by
 have e:=as1 (vars:=vars) s.val;refine⟨e,?_⟩;rw[e];exact ajZ (am7 d.v0 b s.rf s.val (aBE d (VO hr)) λz hz=>.inl ((hrch z hz).resolve_left bK))
def P9(A:Mg)(j r:Int):Prop:=0≤r∧r<A.L.length+j∧(fk A.N j).v<tp A r
def GS(A:Mg)(j:Int):Prop:=
 0≤(fk A.N j).v∧(fk A.N j).l≠(fk A.N j).h∧(∀k:Int,0≤k→k<j→fk A.N k≠fk A.N j)∧P9 A j (fk A.N j).l∧P9 A j (fk A.N j).h
def Lok(A:Mg)(i:Int):Prop:=bF (gi A.L i)∧(0<i→gi A.L (i-1)<gi A.L i)
structure D8 (A:Mg):Prop where
 lf:∀i:Int,0≤i→i<A.L.length→Lok A i
 nd:∀j:Int,0≤j→j<A.N.length→GS A j
 rt:0≤A.r∧A.r<A.L.length+A.N.length
theorem D8.red(h:∀j:Int,0≤j→j<A.N.length→GS A j):GRed A.v (mG A):=by
 have key:∀r,(mG A).ok r→¬(mG A).lf r→0≤r-A.L.length∧r-A.L.length<A.N.length:=λr hr hl=>by
  have h1:=hr.2;have hl:¬r<A.L.length:=hl;omega
 have lvl:∀r,tp A r=bY A.v (mG A) r:=λr=>H6 rfl;have tple:∀(k:Nat) (r:Int),(mG A).ok r→(mG A).mu r≤k→tp A r≤A.v:=by
  intro k;induction k with
  |zero=>
   intro r hr hk;by_cases q:r<A.L.length;rw[FK q];omega;have hk:(r+1-A.L.length).toNat≤0:=hk;omega
  |succ k ih=>
   intro r hr hk;by_cases q:r<A.L.length;rw[FK q];omega;have hb:=key r hr q;obtain⟨_,_,_,c,_⟩:=h _ hb.1 hb.2;obtain⟨c1,c2,c3⟩:=c;have hk:(r+1-A.L.length).toNat≤k+1:=hk;have:=ih (fk A.N (r-A.L.length)).l ⟨c1,aB⟩ (by show((fk A.N (r-A.L.length)).l+1-A.L.length).toNat≤k;omega);rw[FN q];omega
 refine⟨λr hr hl=> ?_,λr hr hl=> ?_,λr hr hl=> ?_,λr hr hl=> ?_,λr s hr hl hs hl' e=> ?_⟩;have hb:=key r hr hl;obtain⟨a,_,_,c,_⟩:=h _ hb.1 hb.2;obtain⟨c1,c2,c3⟩:=c;have:=tple _ (fk A.N (r-A.L.length)).l ⟨c1,aB⟩ (cV _);exact⟨a,by show(fk A.N (r-A.L.length)).v<A.v;omega⟩;have hb:=key r hr hl;exact(h _ hb.1 hb.2).2.1;have hb:=key r hr hl;obtain⟨_,_,_,⟨c1,c2,c3⟩,_⟩:=h _ hb.1 hb.2;rw[lvl]at c3;exact⟨⟨c1,by show(fk A.N (r-A.L.length)).l<_;omega⟩,by show((fk A.N (r-A.L.length)).l+1-A.L.length).toNat<(r+1-A.L.length).toNat;omega,c3⟩;have hb:=key r hr hl;obtain⟨_,_,_,_,⟨c1,c2,c3⟩⟩:=h _ hb.1 hb.2;rw[lvl]at c3;exact⟨⟨c1,by show(fk A.N (r-A.L.length)).h<_;omega⟩,by show((fk A.N (r-A.L.length)).h+1-A.L.length).toNat<(r+1-A.L.length).toNat;omega,c3⟩;have hb:=key r hr hl;have hb':=key s hs hl';have e:fk A.N (r-A.L.length)=fk A.N (s-A.L.length):=e;by_cases q:r<s;exact bM e ((h _ hb'.1 hb'.2).2.2.1 _ hb.1 aB);by_cases q2:s<r;exact bM e.symm ((h _ hb.1 hb.2).2.2.1 _ hb'.1 aB);omega
abbrev vl(A:Mg)(e:Int→Bool):Int:=cD (mG A) e A.r
abbrev vT(A:Mg):List Int:=dH A.v (vl A)
def fm(A:Mg):Prop:=D8 A∧dg A.v (vT A)=A
def Ok(A:Mg):Prop:=(0≤A.v∧A.v≤40)∧(A.L.length≤4096∧A.N.length≤4096)∧fm A
def jK(A:Mg):Int:=if A.v<0∨40<A.v then 3 else if 4096<A.L.length∨4096<A.N.length then 4 else if fm A then 0 else 1
section
variable {A:Mg}
theorem J6(h:A.v<0∨40<A.v):jK A=3:=aK h
theorem OM(h:¬(A.v<0∨40<A.v))(h2:4096<A.L.length∨4096<A.N.length):jK A=4:=by unfold jK;rw[aC h,aK h2]
theorem VN(h:¬(A.v<0∨40<A.v))(h2:¬(4096<A.L.length∨4096<A.N.length))(h3:¬fm A):jK A=1:=by unfold jK;rw[aC h,aC h2,aC h3]
theorem BM(h:Ok A):jK A=0:=by
 have h1:=h.1;have h2:=h.2.1;unfold jK;rw[aC aB,aC aB,aK h.2.2]
theorem qF:jK A=0↔Ok A:=by
 refine⟨λh=> ?_,BM⟩;by_cases h1:A.v<0∨40<A.v;rw[J6 h1]at h;omega;by_cases h2:4096<A.L.length∨4096<A.N.length;rw[OM h1 h2]at h;omega;by_cases h3:fm A;exact⟨aB,aB,h3⟩;rw[VN h1 h2 h3]at h;omega
theorem Ok.red(h:Ok A):GRed A.v (mG A):=D8.red h.2.2.1.nd
theorem Ok.rt(h:Ok A):(mG A).ok A.r:=h.2.2.1.rt
theorem Ok.rng(h:Ok A):∀z∈A.L,bF z:=λz hz=>by
 obtain⟨i,hi,e⟩:=mY hz;rw[←e];exact(h.2.2.1.lf i aB aB).1
theorem amZ(hl:A.L.length≤4096∧A.N.length≤4096)(hloc:D8 A):(j6 A.v (vT A)=0∧A.L=(pE A.v (vT A)).L∧A.N=(pE A.v (vT A)).N∧A.r=(pE A.v (vT A)).r)↔fm A:=by
 constructor;rintro⟨h0,h1,h2,h3⟩;unfold pE at h1 h2 h3;rw[h0,JS]at h1 h2 h3;exact⟨hloc,amA rfl h1.symm h2.symm h3.symm⟩;rintro⟨_,h⟩;have hm:j6 A.v (vT A)=0:=by
  unfold j6;have h2:¬∃z∈vT A,¬bF z:=λ⟨z,hz,hn⟩=>by
   have hz2:z∈A.L:=by
    have e:A.L=kZ (vT A):=(congrArg Mg.L h).symm;rw[e];exact zB.2 hz
   obtain⟨i,hi,e⟩:=mY hz2;exact hn (by rw[←e];exact(hloc.lf i aB aB).1)
  rw[aC h2,aC];unfold tJ;rw[h];omega
 unfold pE;rw[hm,JS,h];exact⟨rfl,rfl,rfl,rfl⟩
end
theorem xD(hv:0≤A.v∧A.v≤40)(h:D8 A):gQ A.v [A]∧uB A.v [A]∧VZ [A]∧IF [A]:=by
 have one:∀i:Int,0≤i→i<([A]:List Mg).length→dm [A] i=A:=λi h0 h1=>by
  have h1:i<((1:Nat):Int):=h1;have:i=0:=aB;subst this;rfl
 refine⟨⟨hv.1,hv.2,by show 1≤3;omega,λi h0=> ?_⟩,λi h0 h1=>by rw[one i h0 h1],λi h0 h1 z hz=> ?_,λi h0 h1=>by rw[one i h0 h1];exact h.rt⟩;by_cases q:i<([A]:List Mg).length;rw[one i h0 q];exact D8.red h.nd;rw[AK h0 aB];exact ajC;rw[one i h0 h1]at hz;obtain⟨i,hi,e⟩:=mY hz;rw[←e];exact(h.lf i aB aB).1
def rN(D:List Mg):Prop:=∀i:Int,0≤i→i<D.length→Ok (dm D i)
def xE(D:List Mg):Prop:=∀i:Int,0≤i→i<D.length→(dm D i).v=(dm D 0).v
def vE(D:List Mg):Int:=if rN D then if xE D then 0 else 2 else 1
theorem QX(h:¬rN D):vE D=1:=aC h
theorem ad2(h:rN D)(h2:¬xE D):vE D=2:=by unfold vE;rw[aK h,aC h2]
theorem CR(h:rN D)(h2:xE D):vE D=0:=by unfold vE;rw[aK h,aK h2]
theorem rF:vE D=0↔rN D∧xE D:=by
 refine⟨λh=> ?_,λh=>CR h.1 h.2⟩;by_cases h1:rN D;by_cases h2:xE D;exact⟨h1,h2⟩;rw[ad2 h1 h2]at h;omega;rw[QX h1]at h;omega
theorem YR:rN [A]↔Ok A:=⟨λh=>h 0 aB QZ,λh i h0 h1=>by
 have h1:i<((1:Nat):Int):=h1;have:i=0:=aB;subst this;exact h⟩
theorem apW:xE [A]:=λi h0 h1=>by
 have h1:i<((1:Nat):Int):=h1;have:i=0:=aB;subst this;rfl
structure SW (Ds:List Mg):Prop where
 ok:gQ (dm Ds 0).v Ds
 sv:uB (dm Ds 0).v Ds
 rg:VZ Ds
 rt:IF Ds
theorem CZ(h:rN Ds)(hs:xE Ds)(h1:1≤Ds.length)(h3:Ds.length≤3):SW Ds:=by
 have o0:=h 0 aB aB;refine⟨⟨o0.1.1,o0.1.2,h3,λi h0=> ?_⟩,hs,λi h0 h1=>(h i h0 h1).rng,λi h0 h1=>(h i h0 h1).rt⟩;by_cases q:i<Ds.length;have:=(h i h0 q).red;rwa[hs i h0 q]at this;rw[AK h0 aB];exact ajC
theorem ae7:rN [A,B]↔Ok A∧Ok B:=⟨λh=>⟨h 0 aB ahN,h 1 aB Z2⟩,λh i h0 h1=>by
 have h1:i<((2:Nat):Int):=h1;rcases(show i=0∨i=1 by omega)with rfl|rfl
 exact h.1;exact h.2⟩
theorem aqE:xE [A,B]↔A.v=B.v:=⟨λh=>(h 1 aB Z2).symm,λh i h0 h1=>by
 have h1:i<((2:Nat):Int):=h1;rcases(show i=0∨i=1 by omega)with rfl|rfl
 rfl;exact h.symm⟩
def yL(N:List Fk)(i:Nat):Fk→Option Bool:=λn=>if n∈N.take i then some true else none
theorem adO(N:List Fk):yL N 0=λ_=>none:=funext λn=>by unfold yL;rw[aC bK]
theorem XX{n:Fk}{i:Nat}:n∈N.take i↔∃k:Int,0≤k∧k<i∧k<N.length∧fk N k=n:=by
 constructor;intro h;obtain⟨k,hk,e⟩:=H2 h;have hk2:k<i∧k<N.length:=by simp at hk;omega
 refine⟨k,aB,aB,aB,?_⟩;rw[List.getElem_take]at e;show N.getD _ _=_;rw[bX,show(k:Int).toNat=k by omega,dT hk2.2];exact e;rintro⟨k,h0,h1,h2,rfl⟩;have h3:k.toNat<N.length:=aB;have e:fk N k=(N.take i)[k.toNat]'(by simp;omega):=by
  rw[List.getElem_take];show N.getD _ _=_;rw[bX,dT h3];rfl
 rw[e];exact CP _
theorem BK{n:Fk}{i:Nat}:(yL N i n).getD false=true↔∃k:Int,0≤k∧k<i∧k<N.length∧fk N k=n:=by
 rw[←XX];unfold yL;by_cases h:n∈N.take i;rw[aK h];simp[h];rw[aC h];simp[h]
theorem NH(h0:0≤i)(h1:i<N.length):cX (yL N i.toNat) (fk N i) true=yL N (i+1).toNat:=by
 funext n;have key:n∈N.take (i+1).toNat↔n=fk N i∨n∈N.take i.toNat:=by
  rw[XX,XX];constructor;rintro⟨k,a,b,c,rfl⟩;by_cases q:k=i;subst q;exact Or.inl rfl;exact Or.inr ⟨k,a,aB,c,rfl⟩;rintro(rfl|⟨k,a,b,c,rfl⟩);exact⟨i,h0,aB,h1,rfl⟩;exact⟨k,a,aB,c,rfl⟩
 unfold yL;by_cases e:n=fk N i;subst e;rw[dG,aK (key.2 (Or.inl rfl))];rw[cP e];by_cases q:n∈N.take i.toNat;rw[aK q,aK (key.2 (Or.inr q))];rw[aC q,aC (λz=>(key.1 z).elim e q)]
abbrev mk(vars:Int)(V:List Int)(N:List Fk):Mg:=⟨vars,V,N,0⟩
def G6(vars:Int)(V:List Int)(N:List Fk):Prop:=∀j:Int,0≤j→j<N.length→GS (mk vars V N) j
section
variable {vars:Int} {V:List Int} {N:List Fk}
theorem IA{X:List Fk}{r:Int}(h:r<V.length+N.length):tp (mk vars V (N++X)) r=tp (mk vars V N) r:=by
 by_cases q:r<V.length;rw[FK (A:=mk vars V (N++X)) q,FK (A:=mk vars V N) q];rw[FN (A:=mk vars V (N++X)) q,FN (A:=mk vars V N) q];show(fk (N++X) (r-V.length)).v=(fk N (r-V.length)).v;rw[AJ aB aB]
theorem G6.red(h:G6 vars V N):GRed vars (mG (mk vars V N)):=D8.red (A:=mk vars V N) h
theorem ax1:G6 vars V []:=λj h0 h1=>by have h1:j<((0:Nat):Int):=h1;omega
theorem arK{v l h:Int}(f:G6 vars V N)(hv:0≤v)(hne:l≠h)(hn:∀k:Int,0≤k→k<N.length→fk N k≠⟨v,l,h⟩)
  (l0:0≤l) (l1:l<V.length+N.length) (ll:v<tp (mk vars V N) l) (h0:0≤h) (h1:h<V.length+N.length) (lh:v<tp (mk vars V N) h):G6 vars V (N++ [⟨v,l,h⟩]):=λj j0 j1=>by
 have hl:((N++ [(⟨v,l,h⟩:Fk)]).length:Int)=N.length+1:=bK;by_cases q:j<N.length;obtain⟨a,b,c,⟨d1,d2,d3⟩,⟨e1,e2,e3⟩⟩:=f j j0 q;have ej:fk (N++ [⟨v,l,h⟩]) j=fk N j:=AJ j0 q;have d2:(fk N j).l<V.length+j:=d2;have e2:(fk N j).h<V.length+j:=e2;unfold GS P9;show 0≤(fk (N++ [⟨v,l,h⟩]) j).v∧(fk (N++ [⟨v,l,h⟩]) j).l≠(fk (N++ [⟨v,l,h⟩]) j).h∧(∀k:Int,0≤k→k<j→fk (N++ [⟨v,l,h⟩]) k≠fk (N++ [⟨v,l,h⟩]) j)∧
  (0≤(fk (N++ [⟨v,l,h⟩]) j).l∧(fk (N++ [⟨v,l,h⟩]) j).l<V.length+j∧(fk (N++ [⟨v,l,h⟩]) j).v<tp (mk vars V (N++ [⟨v,l,h⟩])) (fk (N++ [⟨v,l,h⟩]) j).l)∧
  (0≤(fk (N++ [⟨v,l,h⟩]) j).h∧(fk (N++ [⟨v,l,h⟩]) j).h<V.length+j∧(fk (N++ [⟨v,l,h⟩]) j).v<tp (mk vars V (N++ [⟨v,l,h⟩])) (fk (N++ [⟨v,l,h⟩]) j).h)
 rw[ej,IA aB,IA aB];refine⟨a,b,λk k0 k1=> ?_,⟨d1,d2,d3⟩,⟨e1,e2,e3⟩⟩;rw[AJ k0 aB];exact c k k0 k1;have ej:j=N.length:=aB;subst ej;have e:fk (N++ [⟨v,l,h⟩]) N.length=⟨v,l,h⟩:=J5;unfold GS P9;show 0≤(fk (N++ [⟨v,l,h⟩]) N.length).v∧(fk (N++ [⟨v,l,h⟩]) N.length).l≠(fk (N++ [⟨v,l,h⟩]) N.length).h∧(∀k:Int,0≤k→k<N.length→fk (N++ [⟨v,l,h⟩]) k≠fk (N++ [⟨v,l,h⟩]) N.length)∧
  (0≤(fk (N++ [⟨v,l,h⟩]) N.length).l∧(fk (N++ [⟨v,l,h⟩]) N.length).l<V.length+N.length∧(fk (N++ [⟨v,l,h⟩]) N.length).v<tp (mk vars V (N++ [⟨v,l,h⟩])) (fk (N++ [⟨v,l,h⟩]) N.length).l)∧
  (0≤(fk (N++ [⟨v,l,h⟩]) N.length).h∧(fk (N++ [⟨v,l,h⟩]) N.length).h<V.length+N.length∧(fk (N++ [⟨v,l,h⟩]) N.length).v<tp (mk vars V (N++ [⟨v,l,h⟩])) (fk (N++ [⟨v,l,h⟩]) N.length).h)
 rw[e];show 0≤v∧l≠h∧_∧(0≤l∧_∧v<tp (mk vars V (N++ [⟨v,l,h⟩])) l)∧(0≤h∧_∧v<tp (mk vars V (N++ [⟨v,l,h⟩])) h);rw[IA l1,IA h1];refine⟨hv,hne,λk k0 k1=> ?_,⟨l0,l1,ll⟩,⟨h0,h1,lh⟩⟩;rw[AJ k0 k1];exact hn k k0 k1
theorem XK{X:List Fk}(f:G6 vars V N)(g:G6 vars V (N++X))(e:Int→Bool):∀(k:Nat) (r:Int),0≤r→r<V.length+N.length→(mG (mk vars V N)).mu r≤k→cD (mG (mk vars V (N++X))) e r=cD (mG (mk vars V N)) e r:=by
 intro k;induction k with
 |zero=>
  intro r r0 r1 hm;have hl:r<V.length:=by
   have hm:(r+1-V.length).toNat≤0:=hm;omega
  rw[fE (G:=mG (mk vars V N)) hl,fE (G:=mG (mk vars V (N++X))) hl];rfl
 |succ k ih=>
  intro r r0 r1 hm;by_cases hl:r<V.length;rw[fE (G:=mG (mk vars V N)) hl,fE (G:=mG (mk vars V (N++X))) hl];rfl;have ok1:(mG (mk vars V N)).ok r:=⟨r0,r1⟩;have ok2:(mG (mk vars V (N++X))).ok r:=⟨r0,by show r<V.length+((N++X).length:Nat);rw[dD];omega⟩;have hlo:=f.red.lo r ok1 hl;have hhi:=f.red.hi r ok1 hl;have en:(mG (mk vars V (N++X))).nd r=(mG (mk vars V N)).nd r:=by
   show fk (N++X) (r-V.length)=fk N (r-V.length);exact AJ aB aB
  rw[f8 f.red ok1 hl,f8 g.red ok2 hl,en];have c0:(mG (mk vars V N)).ok (if e ((mG (mk vars V N)).nd r).v then((mG (mk vars V N)).nd r).h else((mG (mk vars V N)).nd r).l):=by
   split;exact hhi.1;exact hlo.1
  refine ih _ c0.1 c0.2 ?_;split<;>omega
end
def ndK(K:Int)(N:List Fk)(v l h:Int):List Fk×Int:=if l=h then(N,l)else match fx ⟨v,l,h⟩ N with
 |some i=>(N,K+(i:Int))
 |none=>(N++ [⟨v,l,h⟩],K+(N.length:Int))
structure aIl (vars:Int) (V:List Int) (N:List Fk) (v l h:Int) (x:List Fk×Int):Prop where
 nk:G6 vars V x.1
 ext:∃X,x.1=N++X
 rf:0≤x.2∧x.2<V.length+x.1.length
 lv:v≤tp (mk vars V x.1) x.2
 vl:∀e,cD (mG (mk vars V x.1)) e x.2=if e v then cD (mG (mk vars V N)) e h else cD (mG (mk vars V N)) e l
theorem aDF{l h:Int}(f:G6 vars V N)(hv:0≤v)(l0:0≤l)(l1:l<V.length+N.length)(ll:v<tp (mk vars V N) l)(h0:0≤h)(h1:h<V.length+N.length)(lh:v<tp (mk vars V N) h):
  aIl vars V N v l h (ndK V.length N v l h):=by
 unfold ndK;by_cases e:l=h;rw[aK e];subst e;exact⟨f,⟨[],bK⟩,⟨l0,l1⟩,by show v≤tp (mk vars V N) l;omega,λe=>by show cD (mG (mk vars V N)) e l=_;split<;>rfl⟩;rw[aC e];cases q:fx ⟨v,l,h⟩ N with
 |some i=>
  obtain⟨q1,q2,q3⟩:=rG q;have hr:(mG (mk vars V N)).ok (V.length+(i:Int)):=⟨aB,by show(V.length:Int)+i<V.length+N.length;omega⟩;have hlf:¬(mG (mk vars V N)).lf (V.length+(i:Int)):=by show¬(V.length:Int)+i<V.length;omega
  have hi:(mG (mk vars V N)).nd (V.length+(i:Int))=⟨v,l,h⟩:=by
   show fk N ((V.length:Int)+i-V.length)=_;unfold fk;rw[show((V.length:Int)+i-V.length).toNat=i by omega];exact q2
  refine⟨f,⟨[],bK⟩,⟨by show 0≤(V.length:Int)+i;omega,hr.2⟩,?_,λe=> ?_⟩;show v≤tp (mk vars V N) ((V.length:Int)+i);rw[FN (A:=mk vars V N) hlf];have:fk N ((V.length:Int)+i-V.length)=⟨v,l,h⟩:=hi;show v≤(fk N ((V.length:Int)+i-V.length)).v;rw[this];exact eL _;show cD (mG (mk vars V N)) e ((V.length:Int)+i)=_;rw[f8 f.red hr hlf,hi];show cD _ e (if e v=true then h else l)=_;split<;>rfl
 |none=>
  have hn:∀k:Int,0≤k→k<N.length→fk N k≠⟨v,l,h⟩:=λk k0 k1=>zA q k.toNat aB;have g:=arK f hv e hn l0 l1 ll h0 h1 lh;have hlen:((N++ [(⟨v,l,h⟩:Fk)]).length:Int)=N.length+1:=bK;have hr:(mG (mk vars V (N++ [⟨v,l,h⟩]))).ok (V.length+(N.length:Int)):=⟨aB,by show(V.length:Int)+N.length<V.length+((N++ [(⟨v,l,h⟩:Fk)]).length:Int);omega⟩;have hlf:¬(mG (mk vars V (N++ [⟨v,l,h⟩]))).lf (V.length+(N.length:Int)):=by show¬(V.length:Int)+N.length<V.length;omega
  have hi:(mG (mk vars V (N++ [⟨v,l,h⟩]))).nd (V.length+(N.length:Int))=⟨v,l,h⟩:=by
   show fk (N++ [⟨v,l,h⟩]) ((V.length:Int)+N.length-V.length)=_;rw[show((V.length:Int)+N.length-V.length)=N.length by omega,J5]
  refine⟨g,⟨[⟨v,l,h⟩],rfl⟩,⟨by show 0≤(V.length:Int)+N.length;omega,hr.2⟩,?_,λe=> ?_⟩;show v≤tp (mk vars V (N++ [⟨v,l,h⟩])) ((V.length:Int)+N.length);rw[FN (A:=mk vars V (N++ [(⟨v,l,h⟩:Fk)])) hlf];have:fk (N++ [⟨v,l,h⟩]) ((V.length:Int)+N.length-V.length)=⟨v,l,h⟩:=hi;show v≤(fk (N++ [⟨v,l,h⟩]) ((V.length:Int)+N.length-V.length)).v;rw[this];exact eL _;show cD (mG (mk vars V (N++ [⟨v,l,h⟩]))) e ((V.length:Int)+N.length)=_;rw[f8 g.red hr hlf,hi];show cD _ e (if e v=true then h else l)=_;split;exact XK f g e _ h h0 h1 (cV _);exact XK f g e _ l l0 l1 (cV _)
theorem F4{O:List Fk}{t1 t2:List Int}(h1:t1.length=2^m):cK K (m+1) O v (t1++t2)=ndK K (cK K m (cK K m O (v+1) t1).1 (v+1) t2).1 v (cK K m O (v+1) t1).2 (cK K m (cK K m O (v+1) t1).1 (v+1) t2).2:=by
 rw[oO h1 (A:=(cK K m O (v+1) t1).1) (a:=(cK K m O (v+1) t1).2) rfl (B:=(cK K m (cK K m O (v+1) t1).1 (v+1) t2).1) (b:=(cK K m (cK K m O (v+1) t1).1 (v+1) t2).2) rfl];unfold ndK;by_cases e:(cK K m O (v+1) t1).2=(cK K m (cK K m O (v+1) t1).1 (v+1) t2).2;first|rw[aK e,aK e]|rw[aK e]
 first|(rw[aC e,aC e];done)|(rw[aC e];done)|(rw[aC e,aC e];rfl)|(rw[aC e];rfl)
structure OV (vars:Int) (V:List Int) (O:List Fk) (m:Nat) (v:Int) (t:List Int) (x:List Fk×Int):Prop where
 nk:G6 vars V x.1
 ext:∃X,x.1=O++X
 rf:0≤x.2∧x.2<V.length+x.1.length
 lv:v≤tp (mk vars V x.1) x.2
 tb:∀e,dF (λe=>cD (mG (mk vars V x.1)) e x.2) m v e=t.map (gi V)
theorem B0:∀(m:Nat) (O:List Fk) (v:Int) (t:List Int),G6 vars V O→v=vars-m→0≤v→t.length=2^m→(∀z∈t,0≤z∧z<V.length)→OV vars V O m v t (cK V.length m O v t)
 |0,O,v,t,f,hv,h0,ht,hz=>by
  match t,ht with
  | [z],_=>
   have hz:=hz z bK;have hlf:z<V.length:=hz.2;refine⟨f,⟨[],by simp[cK]⟩,⟨hz.1,by show z<V.length+(O.length:Int);omega⟩,?_,λe=> ?_⟩;show v≤tp (mk vars V O) z;rw[FK (A:=mk vars V O) hlf];show v≤vars;omega;show [cD (mG (mk vars V O)) e z]=[gi V z];rw[fE (G:=mG (mk vars V O)) hlf];rfl
 |m+1,O,v,t,f,hv,h0,ht,hz=>by
  have hp:2^(m+1)=2^m+2^m:=by rw[qE];omega
  have e:t=t.take (2^m)++t.drop (2^m):=(GP _ _).symm;have l1:(t.take (2^m)).length=2^m:=by rw[jL];omega
  have l2:(t.drop (2^m)).length=2^m:=by rw[mX];omega
  rw[e]at hz⊢;generalize t.take (2^m)=t1 at l1 hz;generalize t.drop (2^m)=t2 at l2 hz;rw[F4 l1];have A:=B0 m O (v+1) t1 f aB aB l1 λz h=>hz z (t5 _ h);have B:=B0 m (cK V.length m O (v+1) t1).1 (v+1) t2 A.nk aB aB l2 λz h=>hz z (FU _ h);generalize cK V.length m O (v+1) t1=x at A B;generalize cK V.length m x.1 (v+1) t2=y at B;obtain⟨X1,e1⟩:=A.ext;obtain⟨X2,e2⟩:=B.ext;have g2:G6 vars V (x.1++X2):=e2▸B.nk;have ra:x.2<V.length+(y.1.length:Int):=by rw[e2,dD];have:=A.rf.2;omega
  have la:tp (mk vars V y.1) x.2=tp (mk vars V x.1) x.2:=by rw[e2];exact IA A.rf.2
  have va:∀e,cD (mG (mk vars V y.1)) e x.2=cD (mG (mk vars V x.1)) e x.2:=λe=>by rw[e2];exact XK A.nk g2 e _ x.2 A.rf.1 A.rf.2 (cV _)
  have n:=aDF (v:=v) B.nk h0 A.rf.1 ra (by have:=A.lv;omega) B.rf.1 B.rf.2 (by have:=B.lv;omega);obtain⟨X3,e3⟩:=n.ext;refine⟨n.nk,⟨X1++X2++X3,by rw[e3,e2,e1];simp⟩,n.rf,n.lv,λe=> ?_⟩;show dF _ m (v+1) (up e v false)++dF _ m (v+1) (up e v true)=_;rw[f_,←A.tb (up e v false),←B.tb (up e v true)];congr 1;refine i8 m (v+1) (up e v false) λe' he=> ?_;have:e' v=false:=by rw[he v aB];exact aK rfl
  rw[n.vl,aC (by rw[this];simp),va];refine i8 m (v+1) (up e v true) λe' he=> ?_;have:e' v=true:=by rw[he v aB];exact aK rfl
  rw[n.vl,aK this]
section
variable {vars:Int} {t:List Int}
theorem ap_:(t.map (ix (kZ t))).map (gi (kZ t))=t:=by
 rw[List.map_map];conv=>rhs;rw[←List.map_id t]
 exact YH λz hz=>(DJ (zB.2 hz)).2.2
theorem ajV(hv:0≤vars)(hl:t.length=2^vars.toNat):OV vars (kZ t) [] vars.toNat 0 (t.map (ix (kZ t))) (cK (kZ t).length vars.toNat [] 0 (t.map (ix (kZ t)))):=
 B0 vars.toNat [] 0 _ ax1 aB (eL _) (by rw[fT];exact hl) λz hz=>by
  obtain⟨y,hy,rfl⟩:=HW.1 hz;have:=DJ (zB.2 hy);exact⟨this.1,this.2.1⟩
theorem ah6(hv:0≤vars)(hl:t.length=2^vars.toNat):vT (dg vars t)=t:=by
 have h:=(ajV hv hl).tb e0;rw[ap_]at h;exact h
theorem al_(hv:0≤vars)(hl:t.length=2^vars.toNat)(hin:∀z∈t,bF z):D8 (dg vars t):=by
 have p:=ajV hv hl;refine⟨λi h0 h1=> ?_,p.nk,p.rf⟩;have h1:i<((kZ t).length:Int):=h1;refine⟨hin _ (zB.1 (qB h0 h1)),λhi=> ?_⟩;have key:=AP.1 (X9 t) (i-1).toNat i.toNat aB aB aB;show gi (kZ t) (i-1)<gi (kZ t) i;unfold gi;rw[bX,bX,dT aB,dT aB];exact key
theorem auV(hv:0≤vars)(h40:vars≤40)(hl:t.length=2^vars.toNat)(hin:∀z∈t,bF z)(hb:¬tJ (dg vars t)):Ok (dg vars t):=by
 have hb2:(dg vars t).L.length≤4096∧(dg vars t).N.length≤4096:=by unfold tJ at hb;omega
 refine⟨⟨hv,h40⟩,hb2,al_ hv hl hin,?_⟩;rw[ah6 hv hl];rfl
theorem as4(h:j6 vars t=0):(∀z∈t,bF z)∧¬tJ (dg vars t):=by
 unfold j6 at h;by_cases q:∃z∈t,¬bF z;rw[aK q]at h;omega;rw[aC q]at h;by_cases b:tJ (dg vars t);rw[aK b]at h;omega;exact⟨λz hz=>kB λn=>q ⟨z,hz,n⟩,b⟩
theorem aAH(h:∀z∈t,bF z)(b:¬tJ (dg vars t)):j6 vars t=0:=by
 unfold j6;rw[aC λ⟨z,hz,n⟩=>n (h z hz),aC b]
theorem ag7(h:j6 vars t=0):pE vars t=dg vars t:=by unfold pE;rw[h,JS]
theorem aGW(hv:0≤vars)(h40:vars≤40)(hl:t.length=2^vars.toNat)(h:j6 vars t=0):Ok (pE vars t):=by
 rw[ag7 h];exact auV hv h40 hl (as4 h).1 (as4 h).2
theorem aj8:∀{l:List Int},(dd l).length≤l.length
 | []=>cV _
 |a::l=>by
  have ih:=aj8 (l:=l);unfold dd;cases h:dd l with
  |nil=>simp
  |cons b r=>
   rw[h]at ih;simp only[l4]at ih;show(if a=b then b::r else a::b::r).length≤_;split;simp only[l4];omega;simp only[l4];omega
theorem ayS(t:List Int):(kZ t).length≤t.length:=by
 have:=aj8 (l:=srt t);unfold kZ;rwa[List.length_mergeSort]at this
theorem aaA(h12:vars≤12)(hl:t.length=2^vars.toNat):¬tJ (dg vars t):=by
 have h1:=ayS t;have h2:=(vL (K:=(kZ t).length) vars.toNat [] 0 (t.map (ix (kZ t)))).2;have h3:2^vars.toNat≤2^12:=oB aB aB;unfold tJ;show¬(4096<(kZ t).length∨4096<(cK (kZ t).length vars.toNat [] 0 (t.map (ix (kZ t)))).1.length);have h4:([]:List Fk).length=0:=rfl;omega
end
theorem jT(f:(Int→Bool)→α):(dH vars f).length=2^vars.toNat:=gT _ _ _ _
theorem Ok.dg(h:Ok A):dg A.v (vT A)=A:=h.2.2.2
theorem Ok.dep(h:Ok A):dR A.v (vl A):=tL h.red h.1.1 h.rt
theorem awT(h:Ok A)(e:Int→Bool):bF (vl A e):=by
 have hm:vl A e∈vT A:=(jB h.1.1 h.dep).2 ⟨e,rfl⟩;have h2:vl A e∈kZ (vT A):=zB.2 hm;have e2:A.L=kZ (vT A):=(congrArg Mg.L h.dg).symm;exact h.rng _ (e2▸h2)
section
variable {P:Program} {C:Cx} {env:cR} {V:HV} {σ:aY} {dst:Option Nat} {x y:Operand} {t T T':TypeId} {pos:String} {af:Array Edge} {g:Option (Nat×Bool)} {m n:Int} {k2:IntKind}
theorem KD(hx:ev env x= .int .i64 m)(hy:ev env y= .int k2 n)(h0:0≤n)(h1:n≤64)(hm:0≤m*2^n.toNat∧m*2^n.toNat≤9223372036854775807):QV P C ⟨dst,.binOp .shl T x y T',t,pos,af,g⟩ env V σ (.int .i64 (m*2^n.toNat)):=cS λw _=>by
 have e:min n.toNat IntKind.i64.bits=n.toNat:=by show min n.toNat 64=n.toNat;omega
 have:=ayB (P:=P) (T:=T) (k:=.i64) (k2:=k2) (m:=m) (n:=n) (w:=w) h0;rw[e,IntWalk.i64_in _ aB]at this;simp[execOp,hx,hy,eqGuard,this]
theorem QE(hx:ev env x= .int .i64 m)(hy:ev env y= .int k2 n)(h0:0≤n)(h1:n≤64):QV P C ⟨dst,.binOp .shr T x y T',t,pos,af,g⟩ env V σ (.int .i64 (m/2^n.toNat)):=cS λw _=>by
 have e:min n.toNat IntKind.i64.bits=n.toNat:=by show min n.toNat 64=n.toNat;omega
 have:=ab9 (P:=P) (T:=T) (k:=.i64) (k2:=k2) (m:=m) (n:=n) (w:=w) h0;rw[e,Int.fdiv_eq_ediv_of_nonneg _ (Int.le_of_lt (Int.pow_pos aB))]at this;simp[execOp,hx,hy,eqGuard,this]
theorem azJ{m:Int}:((BitVec.ofInt 64 m&&&BitVec.ofInt 64 1).toNat:Int)=m%2:=by
 have e2:(BitVec.ofInt 64 1).toNat=2^1-1:=j_;have e1:((BitVec.ofInt 64 m).toNat:Int)=m%18446744073709551616:=by rw[BitVec.toNat_ofInt];simp;omega
 rw[BitVec.toNat_and,e2,Nat.and_two_pow_sub_one_eq_mod];omega
theorem PO(hx:ev env x= .int .i64 m)(hy:ev env y= .int .i64 1)(_h0:0≤m):QV P C ⟨dst,.binOp .and T x y T',t,pos,af,g⟩ env V σ (.int .i64 (m%2)):=cS λw _=>by
 have e:IntKind.i64.wrap ((BitVec.ofInt 64 m&&&BitVec.ofInt 64 1).toNat:Int)=m%2:=by
  rw[azJ];exact IntWalk.i64_in _ aB
 have e':(Op.intBits .and .i64 m 1).run P w= .ok (.int .i64 (m%2)) w:=by
  show(pure (Value.int .i64 (IntKind.i64.wrap ((BitVec.ofInt 64 m&&&BitVec.ofInt 64 1).toNat:Int))):Sem Value).run P w=_;rw[e];rfl
 simp[execOp,hx,hy,eqGuard,binOp,e']
end
def i9(vars k:Int):Int→Bool:=λi=>decide (0≤i∧i<vars∧k/2^(vars-1-i).toNat%2=1)
theorem kI(n:Nat):(0:Int)<2^n:=Int.pow_pos aB
theorem EX(_h0:0≤k)(hp:0<p)(h1:k<p+p):k/p%2=if k<p then 0 else 1:=by
 by_cases h:k<p;rw[aK h,Int.ediv_eq_zero_of_lt aB h];rfl;rw[aC h];have:k/p=1:=by
  rw[show k=k-p+1*p by omega,Int.add_mul_ediv_right _ _ aB,Int.ediv_eq_zero_of_lt aB aB];rfl
 rw[this];rfl
theorem aaU{j:Nat}(hj:j<m)(hp:p=2^m):(k-p)/2^j%2=k/2^j%2:=by
 obtain⟨d,rfl⟩:∃d,m=j+1+d:=⟨m-j-1,aB⟩;have e:p=(2*2^d)*2^j:=by
  rw[hp,Int.pow_add,Int.pow_succ,u6 (2^j) 2,Int.mul_assoc,u6 (2^j),Int.mul_assoc]
 rw[e,Int.sub_eq_add_neg,←Int.neg_mul,Int.add_mul_ediv_right _ _ (Int.ne_of_gt (kI j))];have:k/2^j+ -(2*2^d)=k/2^j+(-(2^d))*2:=by rw[Int.neg_mul,u6 (2^d) 2]
 rw[this,Int.add_mul_emod_self_right]
theorem wA(f:(Int→Bool)→α):∀(m:Nat) (v:Int) (e:Int→Bool) (k:Int),0≤k→k<2^m→
  (dF f m v e)[k.toNat]? =some (f (λi=>if v≤i∧i<v+m then decide (k/2^(v+m-1-i).toNat%2=1)else e i))
 |0,v,e,k,h0,h1=>by
  have hk:k=0:=by have h1:k<1:=h1;omega
  subst hk;show some (f e)=_;congr 2;funext i;rw[aC aB]
 |m+1,v,e,k,h0,h1=>by
  have hp:(2:Int)^(m+1)=2^m+2^m:=by rw[Int.pow_succ];omega
  have hp0:=kI m;have hl:=gT f m (v+1) (up e v false);have hl2:((dF f m (v+1) (up e v false)).length:Int)=2^m:=by rw[hl];simp
  show(dF f m (v+1) (up e v false)++dF f m (v+1) (up e v true))[k.toNat]? =_;by_cases hk:k<2^m;rw[oR aB,wA f m (v+1) _ k h0 hk];congr 2;funext i;by_cases hi:v≤i∧i<v+(m+1:Nat);rw[aK hi];by_cases hv:i=v;subst hv;rw[aC aB];unfold up;rw[aK rfl,show(i+((m+1:Nat):Int)-1-i).toNat=m by omega,EX h0 hp0 aB,aK hk];rfl;rw[aK aB,show(v+1+(m:Int)-1-i).toNat=(v+((m+1:Nat):Int)-1-i).toNat by omega];rw[aC hi,aC aB];unfold up;rw[aC aB];rw[qN aB,show k.toNat-(dF f m (v+1) (up e v false)).length=(k-2^m).toNat by omega,wA f m (v+1) _ (k-2^m) aB aB];congr 2;funext i;by_cases hi:v≤i∧i<v+(m+1:Nat);rw[aK hi];by_cases hv:i=v;subst hv;rw[aC aB];unfold up;rw[aK rfl,show(i+((m+1:Nat):Int)-1-i).toNat=m by omega,EX h0 hp0 aB,aC hk];rfl;rw[aK aB,show(v+1+(m:Int)-1-i).toNat=(v+((m+1:Nat):Int)-1-i).toNat by omega,aaU (m:=m) aB rfl];rw[aC hi,aC aB];unfold up;rw[aC aB]
def dU(vars:Int)(g:(Int→Bool)→α):List α:=(List.range (2^vars.toNat)).map (λk:Nat=>g (i9 vars (k:Int)))
theorem E4(vars:Int)(g:(Int→Bool)→α):(dU vars g).length=2^vars.toNat:=by simp[dU]
theorem vO(vars:Int)(g:(Int→Bool)→α):((dU vars g).length:Int)=2^vars.toNat:=by rw[E4];simp
theorem GY{g:(Int→Bool)→α}(h0:0≤k)(h1:k<2^vars.toNat):(dU vars g)[k.toNat]? =some (g (i9 vars k)):=by
 have h2:k<((2^vars.toNat:Nat):Int):=by simpa using h1
 unfold dU;rw[iZ,EF aB];show some (g (i9 vars (k.toNat:Int)))=_;rw[afZ h0]
theorem WM{g:(Int→Bool)→Int}(h0:0≤k)(h1:k<2^vars.toNat):gi (dU vars g) k=g (i9 vars k):=by
 unfold gi;rw[bX,GY h0 h1];rfl
theorem lW(h:0≤vars)(g:(Int→Bool)→α):dH vars g=dU vars g:=by
 refine List.ext_getElem? λi=> ?_;by_cases hi:i<2^vars.toNat;have h2:(i:Int)<2^vars.toNat:=by
  have:((2^vars.toNat:Nat):Int)=(2:Int)^vars.toNat:=bK;omega
 have a:=wA g vars.toNat 0 e0 (i:Int) aB h2;have b:=GY (vars:=vars) (g:=g) (k:=(i:Int)) aB h2;rw[iD]at a b;rw[a,b];congr 2;funext j;unfold i9;by_cases hj:0≤j∧j<0+(vars.toNat:Int);rw[aK hj];have:(0≤j∧j<vars∧(i:Int)/2^(vars-1-j).toNat%2=1)↔(i:Int)/2^(0+(vars.toNat:Int)-1-j).toNat%2=1:=by
  rw[show(0+(vars.toNat:Int)-1-j).toNat=(vars-1-j).toNat by omega];exact⟨λq=>q.2.2,λq=>⟨aB,aB,q⟩⟩
 exact(decide_eq_decide.2 this).symm;rw[aC hj];exact(decide_eq_false aB).symm;rw[CD (by rw[gT];omega),CD (by rw[E4];omega)]
theorem az5{β:Type}(h:α→β)(g:(Int→Bool)→α):(dU vars g).map h=dU vars (λe=>h (g e)):=by
 unfold dU;rw[List.map_map];rfl
theorem al9(h0:0≤i)(h1:i<vars):i9 vars k i=decide (k/2^(vars-1-i).toNat%2=1):=by
 unfold i9;exact decide_eq_decide.2 ⟨λq=>q.2.2,λq=>⟨h0,h1,q⟩⟩
theorem ayD(h:i<0∨vars≤i):i9 vars k i=false:=by
 unfold i9;exact decide_eq_false aB
def BO(L:List Bool):Nat→Int
 |0=>0
 |n+1=>2*BO L n+(if L.getD n false then 1 else 0)
theorem ah8(L:List Bool):∀n:Nat,0≤BO L n∧BO L n<2^n
 |0=>⟨eL _,by show(0:Int)<1;omega⟩
 |n+1=>by
  have:=ah8 L n;have hp:(2:Int)^(n+1)=2^n+2^n:=by rw[Int.pow_succ];omega
  show 0≤2*BO L n+(if L.getD n false then 1 else 0)∧2*BO L n+(if L.getD n false then 1 else 0)<2^(n+1);split<;>omega
theorem alC(L:List Bool):∀(n i:Nat),i<n→BO L n/2^(n-1-i)%2=if L.getD i false then 1 else 0
 |n+1,i,h=>by
  by_cases e:i=n;subst e;rw[show i+1-1-i=0 by omega,Int.pow_zero,Int.ediv_one];show(2*BO L i+(if L.getD i false then 1 else 0))%2=_;split<;>omega;have:=alC L n i aB;rw[show n+1-1-i=(n-1-i)+1 by omega,Int.pow_succ,u6,←Int.ediv_ediv_of_nonneg aB];have e2:BO L (n+1)/2=BO L n:=by
   show(2*BO L n+(if L.getD n false then 1 else 0))/2=_;split<;>omega
  rw[e2,this]
theorem ajU{L:List Bool}(hL:(L.length:Int)=vars):i9 vars (BO L L.length)=λi=>decide (0≤i∧i<vars∧gb L i=true):=by
 funext i;by_cases hi:0≤i∧i<vars;rw[al9 hi.1 hi.2];have:=alC L L.length i.toNat aB;rw[show(vars-1-i).toNat=L.length-1-i.toNat by omega,this];by_cases h:gb L i=true;rw[aK h];exact(decide_eq_true ⟨hi.1,hi.2,h⟩).symm;rw[aC h];exact(decide_eq_false λq=>h q.2.2).symm;rw[ayD aB];exact(decide_eq_false λq=>hi ⟨q.1,q.2.1⟩).symm
theorem TG{a b:Nat}(h:a≤b):(2:Int)^a≤2^b:=by
 have h1:=oB (n:=2) aB h;have h2:((2^a:Nat):Int)≤((2^b:Nat):Int):=aB;simpa using h2
theorem QQ{n:Nat}(h:n≤12):(1:Int)≤2^n∧(2:Int)^n≤4096:=⟨by have:=kI n;omega,TG h⟩
def OJ(vars k:Int):List Bool:=(List.range vars.toNat).map (λj:Nat=>i9 vars k (j:Int))
theorem azZ(vars k:Int):(OJ vars k).length=vars.toNat:=by simp[OJ]
theorem Z5(h0:0≤i)(h1:i<vars):gb (OJ vars k) i=i9 vars k i:=by
 unfold OJ;rw[tV _ _ _ h0 aB,afZ h0]
theorem ayH{g:(Int→Bool)→α}(h:dR vars g):g (λi=>gb (OJ vars k) i)=g (i9 vars k):=h _ _ λi h0 h1=>Z5 h0 h1
theorem axX{g g':(Int→Bool)→α}(h0:0≤vars)(hg:dR vars g)(hg':dR vars g')(h:dU vars g=dU vars g')(e:Int→Bool):g e=g' e:=by
 obtain⟨L,hL⟩:∃L:List Bool,L=(List.range vars.toNat).map (λj:Nat=>e (j:Int)):=⟨_,rfl⟩;have hl:(L.length:Int)=vars:=by rw[hL];simp;omega
 have hb:=ah8 L L.length;have hLn:L.length=vars.toNat:=aB;have he:∀i:Int,0≤i→i<vars→e i=i9 vars (BO L L.length) i:=λi i0 i1=>by
  rw[ajU hl];have hq:gb L i=e i:=by rw[hL,tV _ _ _ i0 aB,afZ i0]
  show _=decide (0≤i∧i<vars∧gb L i=true);rw[hq];cases h:e i;exact(decide_eq_false bK).symm;exact(decide_eq_true ⟨i0,i1,rfl⟩).symm
 have h1:BO L L.length<2^vars.toNat:=by rw[←hLn];exact hb.2
 have a:=GY (vars:=vars) (g:=g) hb.1 h1;have b:=GY (vars:=vars) (g:=g') hb.1 h1;rw[h,b]at a;have a:=Option.some.inj a;rw[hg e _ he,hg' e _ he,a]
theorem aj3{f:(Int→Bool)→Int}(hv:0≤vars)(b:hJ vars L M)(hr:(bV L M).ok root)(hf:∀e,cD (bV L M) e root=f e)(hrch:∀z∈L,(∃e,f e=z)∨bF z):
  bD vars L M root=dg vars (dH vars f)∧q9 L (bD vars L M root)=j6 vars (dH vars f):=by
 have hd:dR vars f:=by
  have:=tL b.red hv hr;rwa[show(λe=>cD (bV L M) e root)=f from funext hf]at this
 have e:=as1 (vars:=vars) hf;exact⟨e,by rw[e];exact ajZ (am7 hv b hr hf hd hrch)⟩
theorem aCv(hv:0≤vars)(b:hJ vars L M)(hr:(bV L M).ok root):(bD vars L M root).L.length≤L.length∧(bD vars L M root).N.length≤M.length:=by
 have F:=al1 hv b hr;have I:=(yX b.red (root.toNat+2) root DU hr (J7 hr) arX).inv.len;have I1:(oE M root).lv.length≤L.length∧(oE M root).nd.length≤M.length:=I;have h1:=F.ll;rw[D5]at h1;have h2:=F.len;exact⟨by rw[h1];exact I1.1,by rw[h2];exact I1.2⟩
theorem aGh{f:(Int→Bool)→Int}(hv:0≤vars)(b:hJ vars L M)(hr:(bV L M).ok root)(hf:∀e,cD (bV L M) e root=f e)(hin:∀z∈L,bF z)(h1:L.length≤4096)(h2:M.length≤4096):
  bD vars L M root=dg vars (dH vars f)∧q9 L (bD vars L M root)=0∧j6 vars (dH vars f)=0:=by
 have a:=aj3 hv b hr hf λz hz=>.inr (hin z hz);have l:=aCv hv b hr;have w:¬wd L:=λ⟨z,hz,n⟩=>n (hin z hz);have g:¬tJ (bD vars L M root):=by unfold tJ;omega
 exact⟨a.1,WY w g,by rw[←a.2];exact WY w g⟩
structure Rs (A:Mg) (i:Int) (b:Bool) (L:List Int) (M:List Fk) (r p:Int):Prop where
 rf:(bV L M).ok p
 lv:tp A r≤bY A.v (bV L M) p
 val:∀e,cD (bV L M) e p=cD (mG A) (up e i b) r
theorem Rs.up{X:List Int}{Y:List Fk}(s:Rs A i b L M r p)(f:GRed A.v (bV L M))(g:GRed A.v (bV (L++X) (M++Y))):Rs A i b (L++X) (M++Y) r p:=
 ⟨(wS s.rf).1,by rw[GB s.rf];exact s.lv,λe=>by rw[NQ f g s.rf e];exact s.val e⟩
structure lI (A:Mg) (i:Int) (b:Bool) (L:List Int) (M:List Fk) (R:List Int):Prop where
 ok:hJ A.v L M
 rs:∀r:Int,0≤r→r<R.length→Rs A i b L M r (gi R r)
 inr:∀z∈L,bF z
 ll:L.length≤A.L.length∧L.length≤R.length
 ml:(M.length:Int)≤A.N.length∧M.length≤R.length∧((M.length:Int)≤0∨M.length+(A.L.length:Int)≤R.length)
theorem at6:lI A i b [] [] []:=⟨yZ,λr h0 h1=>by have h1:r<((0:Nat):Int):=h1;omega,λz h=>by simp at h,bK,bK⟩
theorem TF(c:lI A i b L [] R)(hk:k=R.length)(h1:k<A.L.length)(hin:bF (gi A.L k)):lI A i b (eA L (gi A.L k)).1 [] (R++ [(eA L (gi A.L k)).2]):=by
 have o:=qY (z:=gi A.L k) c.ok;obtain⟨X,hX⟩:=o.ext;have hl:=tM (L:=L) (z:=gi A.L k);have e0:([]:List Fk)=[]++ []:=rfl;have hll:=c.ll;refine⟨o.ok,λr r0 r1=> ?_,λz hz=> ?_,?_,bK⟩;have hlen:((R++ [(eA L (gi A.L k)).2]).length:Int)=R.length+1:=bK;by_cases q:r<R.length;rw[qJ r0 q];have:=(c.rs r r0 q).up (X:=X) (Y:=[]) c.ok.red (by rw[←hX];exact o.ok.red);rw[←hX]at this;exact this;have:r=R.length:=aB;subst this;rw[DW];have hlf:(mG A).lf (R.length:Int):=by show(R.length:Int)<A.L.length;omega
 refine⟨o.rf,?_,λe=> ?_⟩;rw[mD (G:=bV (eA L (gi A.L k)).1 []) o.lf];rw[FK aB];exact eL _;rw[fE (G:=bV (eA L (gi A.L k)).1 []) o.lf,fE hlf];show id (gi (eA L (gi A.L k)).1 ((eA L (gi A.L k)).2/2))=gi A.L (R.length:Int);rw[←hk];exact o.vl;rcases RZ hz with h|h
 exact c.inr z h;subst h;exact hin;refine⟨?_,by rw[dD];show _≤R.length+1;omega⟩;have:R.length<A.L.length:=aB;omega
def BS(A:Mg)(i:Int)(b:Bool)(M:List Fk)(R:List Int)(j:Int):List Fk×Int:=
 if(fk A.N j).v≠i then kT M (fk A.N j).v (gi R (fk A.N j).l) (gi R (fk A.N j).h)else(M,if b=true then gi R (fk A.N j).h else gi R (fk A.N j).l)
theorem au2(h:(fk A.N j).v≠i):BS A i b M R j=kT M (fk A.N j).v (gi R (fk A.N j).l) (gi R (fk A.N j).h):=aK h
theorem aGo(h:¬(fk A.N j).v≠i)(hb:b=true):BS A i b M R j=(M,gi R (fk A.N j).h):=by unfold BS;rw[aC h,aK hb]
theorem aGa(h:¬(fk A.N j).v≠i)(hb:¬b=true):BS A i b M R j=(M,gi R (fk A.N j).l):=by unfold BS;rw[aC h,aC hb]
theorem amR(f:GRed A.v (mG A))(hb:∀j:Int,0≤j→j<A.N.length→(0≤(fk A.N j).l∧(fk A.N j).l<A.L.length+j)∧(0≤(fk A.N j).h∧(fk A.N j).h<A.L.length+j))(c:lI A i b L M R)(hk:(R.length:Int)=A.L.length+j)(j0:0≤j)(h1:j<A.N.length):
  lI A i b L (BS A i b M R j).1 (R++ [(BS A i b M R j).2]):=by
 have hbj:=hb j j0 h1;have hr:(mG A).ok (A.L.length+j):=⟨aB,by show(A.L.length:Int)+j<A.L.length+A.N.length;omega⟩;have hlf:¬(mG A).lf (A.L.length+j):=by show¬(A.L.length:Int)+j<A.L.length;omega
 have en:(mG A).nd (A.L.length+j)=fk A.N j:=by show fk A.N ((A.L.length:Int)+j-A.L.length)=_;rw[show(A.L.length:Int)+j-A.L.length=j by omega]
 have hlo:=f.lo _ hr hlf;have hhi:=f.hi _ hr hlf;have hvr:=f.vr _ hr hlf;rw[en]at hlo hhi hvr;have tl:∀r,tp A r=bY A.v (mG A) r:=λr=>H6 rfl;have sl:=c.rs (fk A.N j).l hbj.1.1 aB;have sh:=c.rs (fk A.N j).h hbj.2.1 aB;have hll:=c.ll;have hml:=c.ml;have tj:tp A (A.L.length+j)=(fk A.N j).v:=by rw[FN hlf];show(fk A.N ((A.L.length:Int)+j-A.L.length)).v=_;rw[show(A.L.length:Int)+j-A.L.length=j by omega]
 have lsl:=sl.lv;have lsh:=sh.lv;rw[tl]at lsl lsh;have hlen:∀p:Int,((R++ [p]).length:Int)=R.length+1:=λp=>bK;have key:hJ A.v L (BS A i b M R j).1∧(∃Y,(BS A i b M R j).1=M++Y)∧Rs A i b L (BS A i b M R j).1 (A.L.length+j) (BS A i b M R j).2∧(BS A i b M R j).1.length≤M.length+1:=by
  by_cases hi:(fk A.N j).v≠i;rw[au2 hi];have n:=zD c.ok hvr.1 hvr.2 sl.rf sh.rf aB aB;refine⟨n.ok,n.ext,⟨n.rf,?_,λe=> ?_⟩,QG.2⟩;rw[tj];exact n.lv;rw[n.vl,f8 f hr hlf,en];have:up e i b (fk A.N j).v=e (fk A.N j).v:=aC hi;rw[this];split;exact sh.val e;exact sl.val e;have hi2:(fk A.N j).v=i:=nC.1 hi;have hu:∀e:Int→Bool,up e i b (fk A.N j).v=b:=λe=>aK hi2;by_cases hb:b=true;rw[aGo hi hb];refine⟨c.ok,⟨[],bK⟩,⟨sh.rf,?_,λe=> ?_⟩,bK⟩;rw[tj];show(fk A.N j).v≤bY A.v (bV L M) (gi R (fk A.N j).h);omega;rw[f8 f hr hlf,en,hu,aK hb];exact sh.val e;rw[aGa hi hb];refine⟨c.ok,⟨[],bK⟩,⟨sl.rf,?_,λe=> ?_⟩,bK⟩;rw[tj];show(fk A.N j).v≤bY A.v (bV L M) (gi R (fk A.N j).l);omega;rw[f8 f hr hlf,en,hu,aC hb];exact sl.val e
 obtain⟨k1,⟨Y,hY⟩,k3,k4⟩:=key;generalize BS A i b M R j=x at k1 hY k3 k4;refine⟨k1,λr r0 r1=> ?_,c.inr,⟨hll.1,by rw[dD];omega⟩,?_⟩;have r1:r<((R++ [x.2]).length:Int):=r1;rw[hlen]at r1;by_cases q:r<R.length;rw[qJ r0 q];have:=(c.rs r r0 q).up (X:=[]) (Y:=Y) c.ok.red (by rw[kN,←hY];exact k1.red);rw[kN,←hY]at this;exact this;have e:r=R.length:=aB;rw[e,DW,hk];exact k3;have:=hlen x.2;omega
theorem lI.fin(c:lI A i b L M R)(hv:0≤A.v)(hl:A.L.length≤4096)(hn:A.N.length≤4096)(hR:(R.length:Int)=A.L.length+A.N.length)(hr:(mG A).ok A.r):
  (bV L M).ok (gi R A.r)∧bD A.v L M (gi R A.r)=dg A.v (dH A.v λe=>vl A (up e i b))∧q9 L (bD A.v L M (gi R A.r))=0∧j6 A.v (dH A.v λe=>vl A (up e i b))=0:=by
 have hr2:A.r<A.L.length+A.N.length:=hr.2;have s:=c.rs A.r hr.1 aB;have hll:=c.ll;have hml:=c.ml;exact⟨s.rf,aGh hv c.ok s.rf s.val c.inr aB aB⟩
theorem aiQ(e:Int→Bool):cD (mG m0) e 0=0:=by
 rw[fE (G:=mG m0) (show(0:Int)<((1:Nat):Int) by omega)];rfl
theorem cT1:cT vars [A] F=dH vars λe=>F (vl A e) 0 0:=by
 show dH vars (λe=>F (cD (mG A) e A.r) (cD (mG m0) e 0) (cD (mG m0) e 0))=_;simp only[aiQ]
theorem cT2:cT vars [A,B] F=dH vars λe=>F (vl A e) (vl B e) 0:=by
 show dH vars (λe=>F (cD (mG A) e A.r) (cD (mG B) e B.r) (cD (mG m0) e 0))=_;simp only[aiQ]
theorem cT3{C0:Mg}:cT vars [A,B,C0] F=dH vars λe=>F (vl A e) (vl B e) (vl C0 e):=rfl
theorem av3{f:(Int→Bool)→Int}(hv:0≤vars)(hd:dR vars f)(hin:∀e,bF (f e))(e:Int→Bool):vl (dg vars (dH vars f)) e=f e:=by
 have h:=ah6 (t:=dH vars f) hv (jT f);have hloc:=al_ (t:=dH vars f) hv (jT f) λz hz=>by
  obtain⟨e,rfl⟩:=(jB hv hd).1 hz;exact hin e
 have hdep:dR vars (vl (dg vars (dH vars f))):=tL (D8.red hloc.nd) hv hloc.rt;have h2:dH vars (vl (dg vars (dH vars f)))=dH vars f:=h;exact axX hv hdep hd ((lW hv _).symm.trans (h2.trans (lW hv _))) e
theorem ahG(h:Ok A):vE [A]=0:=CR (YR.2 h) apW
theorem arZ(h:¬Ok A):vE [A]=1:=QX λq=>h (YR.1 q)
theorem NJ:vE [A]=0↔Ok A:=⟨λh=>YR.1 (rF.1 h).1,ahG⟩
theorem UO(h:vE [A]≠0):¬Ok A∧vE [A]=1:=by
 by_cases q:Ok A;exact bM (ahG q) h;exact⟨q,arZ q⟩
theorem aEF:vE [A,B]=0↔(Ok A∧Ok B)∧A.v=B.v:=by rw[rF,ae7,aqE]
theorem D8.bd(h:D8 A):∀j:Int,0≤j→j<A.N.length→(0≤(fk A.N j).l∧(fk A.N j).l<A.L.length+j)∧(0≤(fk A.N j).h∧(fk A.N j).h<A.L.length+j):=λj h0 h1=>by
 obtain⟨_,_,_,⟨a,b,_⟩,⟨c,d,_⟩⟩:=h.nd j h0 h1;exact⟨⟨a,b⟩,⟨c,d⟩⟩
theorem Ok.loc(h:Ok A):D8 A:=h.2.2.1
def FX(vars v:Int):Int:=if(vars<0∨40<vars)∨¬bF v then 3 else 0
def HK(vars v:Int):Mg:=TX ⟨vars,[v],[],0⟩ (FX vars v)
theorem anI(h:(vars<0∨40<vars)∨¬bF v):FX vars v=3∧HK vars v=zM:=by
 have:FX vars v=3:=aK h;exact⟨this,wJ aB⟩
theorem CO(h:¬((vars<0∨40<vars)∨¬bF v)):FX vars v=0∧HK vars v=⟨vars,[v],[],0⟩:=by
 have:FX vars v=0:=aC h;exact⟨this,by unfold HK;rw[this,JS]⟩
theorem H8(a:α):∀(m:Nat) (v:Int) (e:Int→Bool),dF (λ_=>a) m v e=List.replicate (2^m) a
 |0,_,_=>rfl
 |m+1,v,e=>by
  show dF _ m (v+1) _++dF _ m (v+1) _=_;rw[H8 a m,H8 a m,List.replicate_append_replicate,qE];congr 1;omega
theorem HM:∀(m:Nat) (O:List Fk) (v:Int),cK K m O v (List.replicate (2^m) p)=(O,p)
 |0,_,_=>rfl
 |m+1,O,v=>by
  have e:List.replicate (2^(m+1)) p=List.replicate (2^m) p++List.replicate (2^m) p:=by
   rw[List.replicate_append_replicate,qE];congr 1;omega
  rw[e,F4 bK,HM m,HM m];unfold ndK;rw[aK rfl]
theorem akH{a:Int}{n:Nat}(h:0<n):kZ (List.replicate n a)=[a]:=
 (aiX bK λz=>by simp;omega).symm
theorem aEX:dg vars (dH vars λ_=>v)=⟨vars,[v],[],0⟩:=by
 have hp:0<2^vars.toNat:=Nat.two_pow_pos _;unfold dH dg;rw[H8,akH hp,List.map_replicate,HM];refine amA rfl rfl rfl ?_;have:=atM (V:=[v]) bK (i:=0) aB QZ;exact this
structure M5 (vars:Int) (L0:List Int) (M0:List Fk) (m:Nat) (v:Int) (t:List Int) (L:List Int) (M:List Fk) (p:Int):Prop where
 ok:hJ vars L M
 extL:∃X,L=L0++X
 extM:∃Y,M=M0++Y
 rf:(bV L M).ok p
 lv:v≤bY vars (bV L M) p
 tb:∀e,dF (λe=>cD (bV L M) e p) m v e=t
 mem:∀z∈L,z∈L0∨z∈t
 ll:L.length≤L0.length+2^m
 ml:M.length+1≤M0.length+2^m
theorem awY(b:hJ vars L M)(hv:v≤vars):M5 vars L M 0 v [z] (eA L z).1 M (eA L z).2:=by
 have o:=qY (z:=z) b;refine⟨o.ok,o.ext,⟨[],bK⟩,o.rf,?_,λe=> ?_,λy hy=> ?_,tM.2,bK⟩;rw[mD (G:=bV (eA L z).1 M) o.lf];exact hv;show [cD (bV (eA L z).1 M) e (eA L z).2]=[z];rw[fE (G:=bV (eA L z).1 M) o.lf];show [id (gi (eA L z).1 ((eA L z).2/2))]=[z];rw[show id (gi (eA L z).1 ((eA L z).2/2))=z from o.vl];exact(RZ hy).imp id λe=>by simp[e]
theorem azT{L0 L1 L2:List Int}{M0 M1 M2:List Fk}{t1 t2:List Int}{p1 p2:Int}(A:M5 vars L0 M0 m (v+1) t1 L1 M1 p1)(B:M5 vars L1 M1 m (v+1) t2 L2 M2 p2)(h0:0≤v)(h1:v<vars):
  M5 vars L0 M0 (m+1) v (t1++t2) L2 (kT M2 v p1 p2).1 (kT M2 v p1 p2).2:=by
 obtain⟨X,hX⟩:=B.extL;obtain⟨Y,hY⟩:=B.extM;have g2:GRed vars (bV (L1++X) (M1++Y)):=by rw[←hX,←hY];exact B.ok.red
 have ra:(bV L2 M2).ok p1:=by rw[hX,hY];exact(wS A.rf).1
 have la:bY vars (bV L2 M2) p1=bY vars (bV L1 M1) p1:=by rw[hX,hY];exact GB A.rf
 have va:∀e,cD (bV L2 M2) e p1=cD (bV L1 M1) e p1:=λe=>by rw[hX,hY];exact NQ A.ok.red g2 A.rf e
 have lA:=A.lv;have lB:=B.lv;have n:=zD (v:=v) B.ok h0 h1 ra B.rf aB aB;obtain⟨X1,hX1⟩:=A.extL;obtain⟨Y1,hY1⟩:=A.extM;obtain⟨Z,hZ⟩:=n.ext;have hp:2^(m+1)=2^m+2^m:=by rw[qE];omega
 have a1:=A.ll;have a2:=A.ml;have b1:=B.ll;have b2:=B.ml;have nl:=(QG (N:=M2) (v:=v) (l:=p1) (h:=p2)).2;refine⟨n.ok,⟨X1++X,by rw[hX,hX1];simp⟩,⟨Y1++Y++Z,by rw[hZ,hY,hY1];simp⟩,n.rf,n.lv,λe=> ?_,λz hz=> ?_,aB,aB⟩;show dF _ m (v+1) (up e v false)++dF _ m (v+1) (up e v true)=_;rw[←A.tb (up e v false),←B.tb (up e v true)];congr 1;refine i8 m (v+1) (up e v false) λe' he=> ?_;have q:e' v=false:=by rw[he v aB];exact aK rfl
 rw[n.vl,aC (by rw[q];simp),va];refine i8 m (v+1) (up e v true) λe' he=> ?_;have q:e' v=true:=by rw[he v aB];exact aK rfl
 rw[n.vl,aK q];rcases B.mem z hz with h|h
 rcases A.mem z h with h|h
 exact .inl h;exact .inr (t5 _ h);exact .inr (FU _ h)
theorem aEI(h0:0≤vars)(A:M5 vars [] [] vars.toNat 0 t L M p):bD vars L M p=dg vars t∧q9 L (bD vars L M p)=j6 vars t:=by
 have e:dH vars (λe=>cD (bV L M) e p)=t:=A.tb e0;have hd:dR vars λe=>cD (bV L M) e p:=tL A.ok.red h0 A.rf;have:=aj3 h0 A.ok A.rf (f:=λe=>cD (bV L M) e p) (λ_=>rfl) λz hz=>by
  rcases A.mem z hz with h|h
  simp at h;rw[←e]at h;exact .inl ((jB h0 hd).1 h)
 rw[e]at this;exact this
def s9(vars:Int)(t:List Int):Int:=if vars<0∨12<vars then 3 else if(t.length:Int)≠2^vars.toNat then 2 else j6 vars t
def D3(vars:Int)(t:List Int):Mg:=TX (dg vars t) (s9 vars t)
theorem an_(h:vars<0∨12<vars):s9 vars t=3∧D3 vars t=zM:=by
 have:s9 vars t=3:=aK h;exact⟨this,wJ aB⟩
theorem aAw(h:¬(vars<0∨12<vars))(h2:(t.length:Int)≠2^vars.toNat):s9 vars t=2∧D3 vars t=zM:=by
 have:s9 vars t=2:=by unfold s9;rw[aC h,aK h2]
 exact⟨this,wJ aB⟩
theorem aqY(h:¬(vars<0∨12<vars))(h2:(t.length:Int)=2^vars.toNat):s9 vars t=j6 vars t∧D3 vars t=pE vars t:=by
 have:s9 vars t=j6 vars t:=by unfold s9;rw[aC h,aC aB]
 exact⟨this,by unfold D3 pE;rw[this]⟩
def cT_(P:(Int→Bool)→Prop)(m:Nat)(v:Int)(e:Int→Bool):Nat:=(dF (λe=>decide (P e)) m v e).count true
def cA(vars:Int)(P:(Int→Bool)→Prop):Int:=(cT_ P vars.toNat 0 e0:Nat)
def fsD(A:Mg)(e:Int→Bool):Nat→Int
 |0=>A.r
 |d+1=>if fsD A e d=A.L.length+(A.N.length-(d+1))then(if e (fk A.N (A.N.length-(d+1))).v=true then(fk A.N (A.N.length-(d+1))).h else(fk A.N (A.N.length-(d+1))).l)else fsD A e d
section
variable {A:Mg} (h:Ok A)
include h
abbrev dJ(A:Mg)(d:Nat)(r:Int):Int:=cA A.v (λe=>fsD A e d=r)
end
structure avR (A:Mg) (d:Nat) (C:List Int):Prop where
 len:(C.length:Int)=A.L.length+A.N.length
 at_:∀r:Int,0≤r→r<A.L.length+(A.N.length-d)→gi C r=dJ A d r
theorem ak8(h0:0≤i)(h1:i<C.length)(hr:0≤r):gi (C.set i.toNat z) r=if r=i then z else gi C r:=by
 unfold gi;rw[bX,bX];by_cases e:r=i;subst e;rw[aK rfl,ML aB];rfl;rw[aC e,ad9 aB]
structure P2 where
 a:Int
 b:Int
abbrev p2(N:List P2)(i:Int):P2:=N.getD i.toNat ⟨0,0⟩
def OH(n:P2):List Value:=[.int .i64 n.a,.int .i64 n.b]
def q6(N:List P2):List Value:=N.flatMap OH
theorem aoL(N:List P2)(n:P2):q6 (N++ [n])=q6 N++ [.int .i64 n.a,.int .i64 n.b]:=by simp[q6,OH]
theorem QU:∀(N:List P2) (i:Nat),i<N.length→((q6 N).drop (i*2)).take 2=OH (N.getD i ⟨0,0⟩)
 |a::l,0,_=>rfl
 |a::l,i+1,h=>by
  show((OH a++q6 l).drop ((i+1)*2)).take 2=_;rw[show(i+1)*2=(OH a).length+i*2 by show _=2+i*2;omega,List.drop_length_add_append];exact QU l i vB
theorem OU{N:List P2}(_h0:0≤i)(h1:i<N.length):((q6 N).drop (i.toNat*2)).take 2=[.int .i64 (p2 N i).a,.int .i64 (p2 N i).b]:=QU N i.toNat aB
def s7(H:HV)(v:Value)(N:List P2):Prop:=aR 2 H v N.length (q6 N)
theorem s7.mono{H':HV}{v:Value}{N:List P2}(h:s7 H v N)(s:Vc.bR H H'):s7 H' v N:=aR.mono h s
theorem s7.nil:s7 H (.slice none 0 0) []:=aR.nil
theorem aIR{n:Nat}:(C.map (Value.int .i64)).set n (.int .i64 z)=(C.set n z).map (Value.int .i64):=by
 rw[I0]
theorem aT.dropI{kk:IntKind}{v:Value}{xs:List Int}(h:aT kk H v xs){n:Nat}(hn:n<xs.length):aT kk H (FP v n) (xs.drop n):=by
 have:=Sl.drop h (n:=n) QI;rwa[←List.map_drop]at this
theorem aGy(h:t.length=1):t=[gi t 0]:=by
 match t,h with
 | [a],_=>rfl
theorem PX{x:Int}{c:Bool}:up (up e x b) x c=up e x c:=by
 funext i;unfold up;by_cases h:i=x;rw[aK h,aK h];rw[aC h,aC h,aC h]
def mI(A:Mg):lG:={mG A with rk:=id}
section
variable {A:Mg}
def Rch(A:Mg)(q:Int):Prop:=∃e:Int→Bool,∀e':Int→Bool,(∀i,i<bY A.v (mI A) q→e' i=e i)→cD (mI A) e' A.r=cD (mI A) e' q
structure FiS (A:Mg) (done:List Int) (M:List Bool) (s:Ly):Prop where
 len:done.length=s.1.length
 at_:∀k:Int,0≤k→k<done.length→s.2 (gi done k+A.L.length)=some (A.L.length+k)
 ml:M.length=A.L.length
 cl:∀r p:Int,¬(mI A).lf r→s.2 r=some p→∀c:Int,(c=((mI A).nd r).l∨c=((mI A).nd r).h)→c<A.L.length→gb M c=true
 rc:∀c:Int,0≤c→c<A.L.length→gb M c=true→Rch A c
theorem aER{M:List Bool}{i r:Int}{z:Bool}(h0:0≤i)(h1:i<M.length)(hr:0≤r):gb (M.set i.toNat z) r=if r=i then z else gb M r:=by
 unfold gb;rw[bX,bX];by_cases e:r=i;subst e;rw[aK rfl,ML aB];rfl;rw[aC e,ad9 aB]
end
theorem azU{M:List Bool}{n:Nat}{z:Bool}:(gH M).set n (.bool z)=gH (M.set n z):=by
 unfold gH;rw[I0]
theorem az3{n:Nat}:List.replicate n (Value.bool false)=gH (List.replicate n false):=by
 unfold gH;rw[List.map_replicate]
theorem M_{G:lG}{k:Nat}{s:Ly}{x y:Ly×Int}(hs:s.2 r=none)(hx:x=bU K G k (G.nd r).l s)(hy:y=bU K G k (G.nd r).h x.1):
  bU K G (k+1) r s=((y.1.1++ [⟨(G.nd r).v,x.2,y.2⟩],cX y.1.2 r (K+(y.1.1.length:Int))),K+(y.1.1.length:Int)):=by
 subst hx;subst hy;rw[ZF hs]
section
variable {A:Mg} {d:List Int} {M:List Bool}
end
structure VSt (A:Mg) (e:Int→Bool) (r q:Int):Prop where
 ok:(mG A).ok q
 lt:q<r
 vl:cD (mG A) e q=cD (mG A) e r
theorem atW(h:Ok A)(hr:(mG A).ok r)(hl:¬r<A.L.length):(0≤(fk A.N (r-A.L.length)).v∧(fk A.N (r-A.L.length)).v<A.v)∧tp A r=(fk A.N (r-A.L.length)).v:=
 ⟨h.red.vr r hr hl,FN hl⟩
theorem awG(h:Ok A)(hr:(mG A).ok r)(hl:¬r<A.L.length)(b:Bool)(hb:e (fk A.N (r-A.L.length)).v=b):VSt A e r (if b=true then(fk A.N (r-A.L.length)).h else(fk A.N (r-A.L.length)).l):=by
 have hr1:r<A.L.length+A.N.length:=hr.2;have hbd:=h.loc.bd (r-A.L.length) aB aB;have hs:=f8 h.red (e:=e) hr hl;have en:(mG A).nd r=fk A.N (r-A.L.length):=rfl;rw[en,hb]at hs;refine⟨?_,?_,hs.symm⟩;by_cases q:b=true;rw[aK q];exact⟨hbd.2.1,by show _<(A.L.length:Int)+A.N.length;omega⟩;rw[aC q];exact⟨hbd.1.1,by show _<(A.L.length:Int)+A.N.length;omega⟩;by_cases q:b=true;rw[aK q];omega;rw[aC q];omega
theorem aGY(h:Ok A)(hr:(mG A).ok r)(hl:¬r<A.L.length)(hb:e (fk A.N (r-A.L.length)).v=true):VSt A e r (fk A.N (r-A.L.length)).h:=by
 have:=awG h hr hl true hb;rwa[aK rfl]at this
theorem aFz(h:Ok A)(hr:(mG A).ok r)(hl:¬r<A.L.length)(hb:¬e (fk A.N (r-A.L.length)).v=true):VSt A e r (fk A.N (r-A.L.length)).l:=by
 have:=awG h hr hl false (by simpa using hb);rwa[aC bK]at this
theorem aGN(h:Ok A)(hr:(mG A).ok r)(hl:¬r<A.L.length):VSt A e r (tN A r (tp A r) (e (tp A r)=true)):=by
 have ht:=(atW h hr hl).2;by_cases c:e (tp A r)=true;rw[UJ rfl c];exact aGY h hr hl (by rw[←ht];exact c);rw[UC rfl c];exact aFz h hr hl (by rw[←ht];exact c)
abbrev eb(X:List Bool):Int→Bool:=λi=>gb X i
def qA(A:Mg):Int:=if Ok A then if 12<A.v then 4 else 0 else 1
def tbL(A:Mg):List Int:=if qA A=0 then vT A else []
theorem apJ(h:¬Ok A):qA A=1∧tbL A=[]:=by
 have:qA A=1:=aC h;exact⟨this,aC aB⟩
theorem apQ(h:Ok A)(q:12<A.v):qA A=4∧tbL A=[]:=by
 have:qA A=4:=by unfold qA;rw[aK h,aK q]
 exact⟨this,aC aB⟩
theorem ZZ(h:Ok A)(q:¬12<A.v):qA A=0∧tbL A=vT A:=by
 have:qA A=0:=by unfold qA;rw[aK h,aC q]
 exact⟨this,aK this⟩
def SJ(vars:Int)(g:(Int→Bool)→Int)(n:Nat):List Int:=(dU vars g).take n
theorem az9{g:(Int→Bool)→Int}(h0:0≤k)(h:k≤2^vars.toNat):((SJ vars g k.toNat).length:Int)=k:=by
 have:=vO vars g;unfold SJ;rw[jL];omega
theorem aoD{g:(Int→Bool)→Int}(h0:0≤k)(h1:k<2^vars.toNat):SJ vars g k.toNat++ [g (i9 vars k)]=SJ vars g (k+1).toNat:=by
 unfold SJ;rw[show(k+1).toNat=k.toNat+1 by omega,t7,GY h0 h1];rfl
theorem ayX{g:(Int→Bool)→Int}(h0:0≤vars)(h:2^vars.toNat≤k):SJ vars g k.toNat=dH vars g:=by
 have:=vO vars g;rw[lW h0];exact lJ aB
theorem aEP(hl:Y.length=vars.toNat)(h:∀x:Int,0≤x→x<vars→gb Y x=i9 vars k x):Y=OJ vars k:=
 aiJ (by rw[azZ];exact hl) λx a b=>by rw[h x a aB,Z5 a aB]
theorem aiI(h:Ok A)(k:Int):vl A (eb (OJ A.v k))=vl A (i9 A.v k):=ayH h.dep
theorem azO(hl:(Y.length:Int)=vars)(h0:0≤j)(h1:j<vars)(h:∀x:Int,0≤x→x<j→gb Y x=i9 vars k x):∀x:Int,0≤x→x<j+1→gb (Y.set j.toNat (decide (k/2^(vars-1-j).toNat%2=1))) x=i9 vars k x:=λx a b=>by
 rw[aER h0 aB a];by_cases e:x=j;rw[aK e,e,al9 h0 h1];rw[aC e];exact h x a aB
end Go.Proofs.YtbchkopkgpfkgaaGreat.Dd
end
