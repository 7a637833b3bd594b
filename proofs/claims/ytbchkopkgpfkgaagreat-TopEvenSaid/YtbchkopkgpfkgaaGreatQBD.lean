import Derived.Test.YtbchkopkgpfkgaaGreatQAV
import Derived.Test.YtbchkopkgpfkgaaGreatQAZ
set_option linter.unusedVariables false
set_option linter.unusedSimpArgs false
noncomputable section
namespace Go.Proofs.YtbchkopkgpfkgaaGreat.Dd
open Classical Go Go.Vc
variable{A B:Mg}{F:Int→Int→Int→Int}{L:List Int}{M:List Fk}{P S:List P2}{T':List Pr}{i p x y z:Int}
def px(n:P2):List P2→Option Nat
 | []=>none
 |a::r=>if a=n then some 0 else(px n r).map (·+1)
theorem QT{n:P2}:∀{O:List P2} {i:Nat},px n O=some i→i<O.length∧O.getD i ⟨0,0⟩=n
 | [],_,h=>by cases h
 |a::r,i,h=>by
  unfold px at h;by_cases e:a=n;rw[aK e]at h;simp at h;subst h;exact⟨by simp,by simpa using e⟩;rw[aC e]at h;cases hr:px n r with
  |none=>rw[hr]at h;cases h
  |some j=>
   rw[hr]at h;simp at h;subst h;obtain⟨h1,h2⟩:=QT hr;exact⟨by simpa using h1,by simpa using h2⟩
theorem WQ{n:P2}:∀{O:List P2},n∈O→∃i,px n O=some i
 | [],h=>by cases h
 |a::r,h=>by
  unfold px;by_cases e:a=n;rw[aK e];exact⟨0,rfl⟩;rw[aC e];obtain⟨i,hi⟩:=WQ (List.mem_of_ne_of_mem (λq=>e q.symm) h);exact⟨i+1,by rw[hi];rfl⟩
theorem ab2{n q:P2}:∀(M:List P2),px q (M++ [n])=match px q M with|some i=>some i|none=>if n=q then some M.length else none
 | []=>by
  show(if n=q then some 0 else(px q []).map (·+1))=_;by_cases h:n=q;rw[aK h];show some 0=if n=q then some 0 else none;rw[aK h]
  rw[aC h];show none=if n=q then some 0 else none;rw[aC h]
 |a::M=>by
  show(if a=q then some 0 else(px q (M++ [n])).map (·+1))=match (if a=q then some 0 else(px q M).map (·+1))with|some i=>some i|none=>if n=q then some (a::M).length else none
  by_cases h:a=q;rw[aK h,aK h];rw[aC h,aC h,ab2 M];cases px q M with
  |some i=>rfl
  |none=>
   show(if n=q then some M.length else none).map (·+1)=if n=q then some (M.length+1)else none
   by_cases h2:n=q;rw[aK h2,aK h2];rfl;rw[aC h2,aC h2];rfl
theorem ZI{n:P2}:∀{O:List P2} {i:Nat},px n O=some i→∀j:Nat,j<i→O.getD j ⟨0,0⟩≠n
 | [],_,h=>by cases h
 |a::r,i,h=>by
  unfold px at h;by_cases e:a=n;rw[aK e]at h;simp at h;subst h;exact λj hj=>aB;rw[aC e]at h;cases hr:px n r with
  |none=>rw[hr]at h;cases h
  |some j=>
   rw[hr]at h;simp at h;subst h;intro k hk;cases k with
   |zero=>simpa using e
   |succ k=>simpa using ZI hr k aB
def pF(P:List P2):Int×Int→Option Int:=λk=>(px ⟨k.1,k.2⟩ P).map λi:Nat=>(i:Int)
theorem axB{M:List P2}{k:Int×Int}(h:pF M k=none):cX (pF M) k (M.length:Int)=pF (M++ [⟨k.1,k.2⟩]):=by
 funext q;have hn:px ⟨k.1,k.2⟩ M=none:=by unfold pF at h;simpa using h
 unfold pF;rw[ab2];by_cases e:q=k;subst e;rw[dG,hn];show _=Option.map _ (if(⟨q.1,q.2⟩:P2)=⟨q.1,q.2⟩then some M.length else none);rw[aK rfl];rfl;rw[cP e];cases px ⟨q.1,q.2⟩ M with
 |some i=>rfl
 |none=>
  show none=Option.map _ (if(⟨k.1,k.2⟩:P2)=⟨q.1,q.2⟩then some M.length else none);rw[aC λz=>e (Prod.ext (congrArg P2.a z).symm (congrArg P2.b z).symm)];rfl
theorem qZ(h:pF P (x,y)=some i):(0≤i∧i<P.length)∧p2 P i=⟨x,y⟩:=by
 unfold pF at h;cases hx:px ⟨x,y⟩ P with
 |none=>rw[show px ⟨(x,y).1,(x,y).2⟩ P=none from hx]at h;cases h
 |some j=>
  rw[show px ⟨(x,y).1,(x,y).2⟩ P=some j from hx]at h;obtain⟨a,b⟩:=QT hx;have e:(j:Int)=i:=Option.some.inj h;subst e;exact⟨⟨aB,aB⟩,b⟩
theorem aaR(h:(⟨x,y⟩:P2)∈P):∃i,pF P (x,y)=some i:=by
 obtain⟨i,hi⟩:=WQ h;exact⟨i,by unfold pF;rw[show px ⟨(x,y).1,(x,y).2⟩ P=some i from hi];rfl⟩
theorem XC(h0:0≤i)(h1:i<P.length):p2 P i∈P:=by
 unfold p2;rw[bX,dT aB];exact CP _
theorem aEx{q:P2}(h:q∈P):∃i:Int,0≤i∧i<P.length∧p2 P i=q:=by
 obtain⟨n,hn,e⟩:=H2 h;exact⟨n,aB,aB,by unfold p2;rw[iD,bX,dT hn];exact e⟩
theorem aG1(P:List P2)(k:Int×Int):0≤(pF P k).getD 0∧(pF P k).getD 0≤P.length:=by
 cases h:pF P k with
 |none=>simp
 |some i=>
  have:=qZ (P:=P) (x:=k.1) (y:=k.2) h;show 0≤i∧i≤_;omega
def iF(S:List P2)(x y:Int):Int:=(pF S (x,y)).getD (-1)
abbrev gL(S:List P2):Int→Int→Int→Int:=λx y _=>iF S x y
theorem aDk(h0:0≤i)(h1:i<S.length)(h:x=(p2 S i).a∧y=(p2 S i).b)(hn:∀z:Int,0≤z→z<i→¬p2 S z=⟨x,y⟩):iF S x y=i:=by
 have he:p2 S i=⟨x,y⟩:=by cases hq:p2 S i;rw[hq]at h;rw[h.1,h.2]
 obtain⟨j,hj⟩:=WQ (n:=⟨x,y⟩) (O:=S) (by rw[←he];exact XC h0 h1);have e:iF S x y=(j:Int):=by unfold iF pF;rw[show px ⟨(x,y).1,(x,y).2⟩ S=some j from hj];rfl
 rw[e];by_cases q:(j:Int)<i;exact bM (QT hj).2 (by have:=hn j aB q;unfold p2 at this;rwa[iD]at this);by_cases q2:i<(j:Int);exact bM he (ZI hj i.toNat aB);omega
theorem aqO(h:∀z:Int,0≤z→z<S.length→¬p2 S z=⟨x,y⟩):iF S x y= -1:=by
 unfold iF;cases e:pF S (x,y)with
 |none=>rfl
 |some i=>
  have:=qZ e;exact bM this.2 (h i this.1.1 this.1.2)
theorem an6{L1:List Int}{f:Int→Int}(h0:0≤i)(h1:i<L.length)(hz:z=f (gi L1 i))(h:∀x:Int,0≤x→x<i→gi L x=f (gi L1 x)):∀x:Int,0≤x→x<i+1→gi (L.set i.toNat z) x=f (gi L1 x):=λx a b=>by
 rw[ak8 h0 h1 a];by_cases e:x=i;rw[aK e,hz,e];rw[aC e];exact h x a aB
theorem aqN{L1:List Int}{n:Int}(h0:0≤i)(h1:i<L.length)(h:∀x:Int,i≤x→x<n→gi L x=gi L1 x):∀x:Int,i+1≤x→x<n→gi (L.set i.toNat z) x=gi L1 x:=λx a b=>by
 rw[ak8 h0 h1 aB,aC aB];exact h x aB b
abbrev mO:={T:List Pr//(bQ T).Nodup}
def DE(T:mO)(F:Int→Int→Int→Int):Prop:=∀x y z i,pF (bQ T.1) (x,y)=some i→F x y z=i
theorem YN(T:mO):DE T (gL (bQ T.1)):=λx y z i h=>by show(pF _ _).getD (-1)=i;rw[h];rfl
abbrev NK(n:Nat):List Int:=(List.range n).map λi:Nat=>(i:Int)
def B_(T:mO)(L:List Int):Prop:=L=NK T.1.length
theorem acV(n:Nat):(NK n).length=n:=by simp[NK]
theorem alT{n:Nat}(h0:0≤i)(h1:i<n):gi (NK n) i=i:=by
 unfold gi NK;rw[bX,iZ,EF aB];show((i.toNat:Nat):Int)=i;omega
theorem E5{n:Nat}:z∈NK n↔0≤z∧z<n:=by
 unfold NK;rw[HW];constructor;rintro⟨i,hi,rfl⟩;have:=CM.1 hi;omega;intro h;exact⟨z.toNat,CM.2 aB,aB⟩
theorem axG{T:mO}(h:B_ T L)(h0:0≤i)(h1:i<T.1.length):B_ T (eA L i).1:=by
 have hs:(gE L i).isSome=true:=by
  cases e:gx i L with
  |some j=>unfold gE;rw[e];rfl
  |none=>
   have hm:i∈L:=by rw[h];exact E5.2 ⟨h0,h1⟩
   obtain⟨j,hj,ej⟩:=mY hm;exact bM ej (by have:=K4 e j hj;unfold gi;rw[iD];exact this)
 rw[ajH hs];exact h
theorem ayK{T T':mO}(h:B_ T L)(hl:T'.1.length=T.1.length+1):B_ T' (eA L T.1.length).1:=by
 have hs:¬(gE L T.1.length).isSome=true:=λq=>by
  obtain⟨j,hj⟩:=ZA.1 q;unfold gE at hj;cases e:gx (T.1.length:Int) L with
  |none=>rw[e]at hj;cases hj
  |some m=>
   obtain⟨a,b,_⟩:=DP e;have hm:gi L m∈L:=qB aB aB;rw[h]at hm;have:=E5.1 hm;have b2:gi L m=T.1.length:=by unfold gi;rw[iD];exact b
   rw[h]at b2;omega
 rw[(aaB hs).2];show L++ [(T.1.length:Int)]=NK T'.1.length;rw[hl,h];unfold NK;rw[sP,f_];rfl
def adZ(T:mO)(x y:Int)(hx:bF x)(hy:bF y)(hn:pF (bQ T.1) (x,y)=none):mO:=⟨T.1++ [⟨⟨x,y⟩,hx,hy⟩],by
 unfold bQ;rw[f_,List.nodup_append];refine⟨T.2,by simp,λa ha b hb e=> ?_⟩;have hb:b=⟨x,y⟩:=by simpa using hb
 rw[e,hb]at ha;obtain⟨i,hi⟩:=aaR ha;rw[hi]at hn;cases hn⟩
theorem SF{T:mO}{hx:bF x}{hy:bF y}{hn:pF (bQ T.1) (x,y)=none}:bQ (adZ T x y hx hy hn).1=bQ T.1++ [⟨x,y⟩]:=by
 show(T.1++ [_]).map _=_;rw[f_];rfl
theorem abO{T:mO}{hx:bF x}{hy:bF y}{hn:pF (bQ T.1) (x,y)=none}:pF (bQ (adZ T x y hx hy hn).1)=cX (pF (bQ T.1)) (x,y) (T.1.length:Int):=by
 rw[SF,←axB hn];unfold bQ;rw[fT]
theorem adC{T:mO}{hx:bF x}{hy:bF y}{hn:pF (bQ T.1) (x,y)=none}(h:DE (adZ T x y hx hy hn) F):DE T F∧∀z,F x y z=T.1.length:=by
 unfold DE at h;rw[abO]at h;refine⟨λa b z i e=>h a b z i ?_,λz=>h x y z _ dG⟩;by_cases q:(a,b)=(x,y);rw[q,hn]at e;cases e;rw[cP q];exact e
theorem acS(x y:P2):oK x y∨x=y∨oK y x:=by
 unfold oK;by_cases h:x=y;exact .inr (.inl h);have:x.a≠y.a∨x.b≠y.b:=by
  by_cases q:x.a=y.a;right;intro r;exact h (by cases x;cases y;simp at q r;rw[q,r]);exact .inl q
 omega
structure HD (A B:Mg) (S:List P2):Prop where
 ord:S.Pairwise oK
 mem:∀q,q∈S↔∃e,q=⟨vl A e,vl B e⟩
theorem anA(hn:(bQ T').Nodup)(hs:∀i j:Nat,i<j→j<T'.length→¬oK (T'[j]!).1 (T'[i]!).1):(bQ T').Pairwise oK:=by
 rw[AP];intro i j hi hj hij;have hi':i<T'.length:=by simpa using hi
 have hj':j<T'.length:=by simpa using hj
 have h:=hs i j hij hj';rw[getElem!_pos T' i hi',getElem!_pos T' j hj']at h;have ei:(bQ T')[i]=(T'[i]).1:=by simp[bQ]
 have ej:(bQ T')[j]=(T'[j]).1:=by simp[bQ]
 rw[ei,ej];have hne:(T'[i]).1≠(T'[j]).1:=by
  have:=(AP.1 hn) i j hi hj hij;rwa[ei,ej]at this
 rcases acS (T'[i]).1 (T'[j]).1 with q|q|q
 exact q;exact bM q hne;exact bM q h
theorem SB{β:Type}:∀{l m:List β},l.Nodup→(∀x∈l,x∈m)→l.length≤m.length
 | [],_,_,_=>kE _
 |a::l,m,hn,h=>by
  have hn:=List.nodup_cons.1 hn;have ha:=h a (mZ ..);have ih:=SB (l:=l) (m:=m.erase a) hn.2 λx hx=>(List.mem_erase_of_ne (λe=>hn.1 (by rw[←e];exact hx))).2 (h x (uC _ hx));have:=List.length_erase_of_mem ha;have:=List.length_pos_of_mem ha;show l.length+1≤_;omega
theorem WK{T:mO}(hI:B_ T L)(b:hJ A.v L M)(s:Std A.v [A,B] (gL (bQ T.1)) L M (rt [A,B]) p)(hr:∀z∈L,z∈([]:List Int)∨∃e,gF [A,B] (gL (bQ T.1)) (rt [A,B]) e=z):
  (∀e,∃i,pF (bQ T.1) (vl A e,vl B e)=some i)∧(∀i:Int,0≤i→i<T.1.length→∃e,p2 (bQ T.1) i=⟨vl A e,vl B e⟩∧pF (bQ T.1) (vl A e,vl B e)=some i)∧∀q,q∈bQ T.1↔∃e,q=⟨vl A e,vl B e⟩:=by
 have gf:∀F e,gF [A,B] F (rt [A,B]) e=F (vl A e) (vl B e) (cD (mG (dm [A,B] 2)) e (kg (rt [A,B]) 2)):=λ_ _=>rfl;have hlen:(bQ T.1).length=T.1.length:=by simp[bQ]
 have dQ:∀e,∃i,pF (bQ T.1) (vl A e,vl B e)=some i:=λe=>by
  have hm:=abR b s.rf e;rw[s.val e,gf]at hm;have hm:iF (bQ T.1) (vl A e) (vl B e)∈L:=hm;rw[hI]at hm;have:=(E5.1 hm).1;cases h:pF (bQ T.1) (vl A e,vl B e)with
  |some i=>exact⟨i,rfl⟩
  |none=>unfold iF at this;rw[h]at this;exact bM this j_
 have all:∀i:Int,0≤i→i<T.1.length→∃e,p2 (bQ T.1) i=⟨vl A e,vl B e⟩∧pF (bQ T.1) (vl A e,vl B e)=some i:=λi h0 h1=>by
  obtain⟨e,he⟩:=(hr i (by rw[hI];exact E5.2 ⟨h0,h1⟩)).resolve_left bK;rw[gf]at he;have he:iF (bQ T.1) (vl A e) (vl B e)=i:=he;obtain⟨j,hj⟩:=dQ e;unfold iF at he;rw[hj]at he;have he:j=i:=he;subst he;exact⟨e,(qZ hj).2,hj⟩
 refine⟨dQ,all,λq=>⟨λhq=> ?_,?_⟩⟩;obtain⟨i,h0,h1,e⟩:=aEx hq;obtain⟨x,hx,_⟩:=all i h0 aB;exact⟨x,by rw[←e,hx]⟩;rintro⟨e,rfl⟩;obtain⟨i,hi⟩:=dQ e;obtain⟨h0,h1⟩:=qZ hi;rw[←h1];exact XC h0.1 h0.2
theorem X4{T:mO}(hA:Ok A)(hB:Ok B)(hv:A.v=B.v)(hI:B_ T L)
  (hall:∀F,DE T F→hJ A.v L M∧Std A.v [A,B] F L M (rt [A,B]) p∧∀z∈L,z∈([]:List Int)∨∃e,gF [A,B] F (rt [A,B]) e=z):T.1.length≤2^A.v.toNat:=by
 obtain⟨b,s,hr⟩:=hall _ (YN T);have memP:=(WK hI b s hr).2.2;have hlen:(bQ T.1).length=T.1.length:=by simp[bQ]
 rw[←hlen,←jT (vars:=A.v) λe=>(⟨vl A e,vl B e⟩:P2)];refine SB T.2 λq hq=> ?_;obtain⟨e,rfl⟩:=(memP q).1 hq;exact(jB hA.1.1 λe e' h=>by rw[hA.dep e e' h,hB.dep e e' (λi a c=>h i a aB)]).2 ⟨e,rfl⟩
theorem arG{T:mO}(hA:Ok A)(hB:Ok B)(hv:A.v=B.v)(hI:B_ T L)
  (hall:∀F,DE T F→hJ A.v L M∧Std A.v [A,B] F L M (rt [A,B]) p∧∀z∈L,z∈([]:List Int)∨∃e,gF [A,B] F (rt [A,B]) e=z)
  (hp:T'.Perm T.1) (hs:∀i j:Nat,i<j→j<T'.length→¬oK (T'[j]!).1 (T'[i]!).1):
  HD A B (bQ T')∧T.1.length≤2^A.v.toNat∧(∀z∈L,bF z∨¬A.v≤12)∧
   ∀L2:List Int,L2.length=L.length→(∀i:Int,0≤i→i<L.length→gi L2 i=iF (bQ T') (p2 (bQ T.1) (gi L i)).a (p2 (bQ T.1) (gi L i)).b)→
    hJ A.v L2 M∧Std A.v [A,B] (gL (bQ T')) L2 M (rt [A,B]) p∧∀z∈L2,z∈([]:List Int)∨∃e,gF [A,B] (gL (bQ T')) (rt [A,B]) e=z:=by
 obtain⟨b,s,hr⟩:=hall _ (YN T);have gf:∀F e,gF [A,B] F (rt [A,B]) e=F (vl A e) (vl B e) (cD (mG (dm [A,B] 2)) e (kg (rt [A,B]) 2)):=λ_ _=>rfl;have hlen:(bQ T.1).length=T.1.length:=by simp[bQ]
 obtain⟨dQ,all,memP⟩:=WK hI b s hr;have hpv:(bQ T').Perm (bQ T.1):=hp.map _;have memS:∀q,q∈bQ T'↔∃e,q=⟨vl A e,vl B e⟩:=λq=>by rw[hpv.mem_iff];exact memP q
 have hnS:(bQ T').Nodup:=(hpv.nodup_iff).2 T.2;have inS:∀e,∃i,pF (bQ T') (vl A e,vl B e)=some i:=λe=>aaR ((memS _).2 ⟨e,rfl⟩);have hcnt:=X4 hA hB hv hI hall;refine⟨⟨anA hnS hs,memS⟩,hcnt,λz hz=> ?_,λL2 hl h2=> ?_⟩;by_cases h12:A.v≤12;rw[hI]at hz;have:=E5.1 hz;have p12:2^A.v.toNat≤2^12:=oB aB aB;have:(2:Nat)^12=4096:=j_;left;unfold bF;omega;exact .inr h12;have hLl:L.length=T.1.length:=by rw[hI];exact acV _
 have at_:∀i:Int,0≤i→i<L.length→gi L i=i:=λi h0 h1=>by rw[hI];exact alT h0 aB
 have okI:∀r,(bV L M).ok r→(bV L2 M).ok r:=λr h=>by
  obtain⟨h1,h2,h3⟩:=h;exact⟨h1,λq=>by rw[hl];exact h2 q,h3⟩
 have okI':∀r,(bV L2 M).ok r→(bV L M).ok r:=λr h=>by
  obtain⟨h1,h2,h3⟩:=h;exact⟨h1,λq=>by rw[←hl];exact h2 q,h3⟩
 have red2:GRed A.v (bV L2 M):=by
  have f:=b.red;exact⟨λr h=>f.vr r (okI' r h),λr h=>f.ne r (okI' r h),λr h q=>by obtain⟨x,y,z⟩:=f.lo r (okI' r h) q;exact⟨okI _ x,y,z⟩,λr h q=>by obtain⟨x,y,z⟩:=f.hi r (okI' r h) q;exact⟨okI _ x,y,z⟩,λr s h h1 h2 h3=>f.uq r s (okI' r h) h1 (okI' s h2) h3⟩
 have val2:∀e,cD (bV L2 M) e p=gF [A,B] (gL (bQ T')) (rt [A,B]) e:=λe=>by
  have g:=HJ b.red red2 (λr h=>⟨okI r h,Iff.rfl,rfl⟩) (λk=>iF (bQ T') (p2 (bQ T.1) k).a (p2 (bQ T.1) k).b) (λr h q=>by
   have q:r%2=0:=q;have hb:=h.2.1 q;exact h2 (r/2) (by have:=h.1;omega) hb) e _ p s.rf (cV _)
  rw[g,s.val e,gf,gf];obtain⟨i,hi⟩:=dQ e;show iF _ (p2 _ (iF (bQ T.1) (vl A e) (vl B e))).a (p2 _ (iF (bQ T.1) (vl A e) (vl B e))).b=iF _ (vl A e) (vl B e);have:iF (bQ T.1) (vl A e) (vl B e)=i:=by unfold iF;rw[hi];rfl
  rw[this,(qZ hi).2]
 refine⟨⟨red2,λi j i0 i1 j0 j1 e=> ?_⟩,⟨okI p s.rf,s.lv,val2⟩,λz hz=>.inr ?_⟩;rw[h2 i i0 aB,h2 j j0 aB,at_ i i0 aB,at_ j j0 aB]at e;obtain⟨x,hx,hx2⟩:=all i i0 aB;obtain⟨y,hy,hy2⟩:=all j j0 aB;rw[hx,hy]at e;obtain⟨a,ha⟩:=inS x;obtain⟨c,hc⟩:=inS y;have e:iF (bQ T') (vl A x) (vl B x)=iF (bQ T') (vl A y) (vl B y):=e;unfold iF at e;rw[ha,hc]at e;have e:a=c:=e;subst e;have e2:=(qZ ha).2;rw[(qZ hc).2]at e2;have e3:vl A y=vl A x∧vl B y=vl B x:=by injection e2 with u w;exact⟨u,w⟩
 rw[←e3.1,←e3.2,hy2]at hx2;exact(Option.some.inj hx2).symm;obtain⟨i,hi,e⟩:=mY hz;rw[h2 i aB aB,at_ i aB aB]at e;obtain⟨x,hx,_⟩:=all i aB aB;rw[hx]at e;exact⟨x,e⟩
abbrev PG(A B:Mg)(S:List P2):List Int:=dH A.v λe=>iF S (vl A e) (vl B e)
def T3(A B:Mg)(S:List P2):Mg:=if vE [A,B]=0 then pE A.v (PG A B S)else zM
theorem ahR(h:vE [A,B]=0):T3 A B S=pE A.v (PG A B S):=aK h
theorem awM(h:vE [A,B]≠0):T3 A B S=zM:=aC h
theorem alB(h:HD A B S)(e:Int→Bool):(0≤iF S (vl A e) (vl B e)∧iF S (vl A e) (vl B e)<S.length)∧p2 S (iF S (vl A e) (vl B e))=⟨vl A e,vl B e⟩:=by
 obtain⟨i,hi⟩:=aaR ((h.mem ⟨vl A e,vl B e⟩).2 ⟨e,rfl⟩);have q:iF S (vl A e) (vl B e)=i:=by unfold iF;rw[hi];rfl
 rw[q];exact qZ hi
theorem X5(hA:Ok A)(hB:Ok B)(hv:A.v=B.v)(h:HD A B S):S.length≤2^A.v.toNat:=by
 have hn:S.Nodup:=h.ord.imp λ{x y} q e=>by subst e;unfold oK at q;omega
 rw[←jT (vars:=A.v) λe=>(⟨vl A e,vl B e⟩:P2)];refine SB hn λq hq=> ?_;obtain⟨e,rfl⟩:=(h.mem q).1 hq;exact(jB hA.1.1 λe e' h=>by rw[hA.dep e e' h,hB.dep e e' (λi a c=>h i a aB)]).2 ⟨e,rfl⟩
theorem ajR(hA:Ok A)(hB:Ok B)(hv:A.v=B.v)(h:HD A B S)(h12:A.v≤12):(∀z∈PG A B S,bF z)∧j6 A.v (PG A B S)=0:=by
 have hl:=X5 hA hB hv h;have p12:2^A.v.toNat≤2^12:=oB aB aB;have:(2:Nat)^12=4096:=j_;have hin:∀z∈PG A B S,bF z:=λz hz=>by
  have hd:dR A.v λe=>iF S (vl A e) (vl B e):=λe e' q=>by show iF S (vl A e) (vl B e)=iF S (vl A e') (vl B e');rw[hA.dep e e' q,hB.dep e e' (λi a c=>q i a aB)]
  obtain⟨e,rfl⟩:=(jB hA.1.1 hd).1 hz;have:=(alB h e).1;unfold bF;omega
 exact⟨hin,(AZ h12 (jT _) hin).1⟩
def aqA(g:(Int→Bool)→Int):List Int→(Int→Bool)→Int
 | [],e=>g e
 |i::R,e=>aqA g R (up e i false)+aqA g R (up e i true)
def sm(i:Int)(g:(Int→Bool)→Int):(Int→Bool)→Int:=λe=>g (up e i false)+g (up e i true)
structure aLK (n total:Int) (R:List Int) (A:Mg):Prop where
 ok:Ok A
 v:A.v=n
 n12:n≤12
 nod:R.Nodup
 rg:∀i∈R,0≤i∧i<n
 sum:∀e,aqA (vl A) R e=total
 bd:∀e,(-67108864≤vl A e*2^R.length)∧vl A e*2^R.length≤67108864
section
variable {n:Int} {T:List Int}
end
theorem aAk(hA:Ok A)(hB:Ok B)(hv:A.v=B.v):vE [A,B]=0:=CR (ae7.2 ⟨hA,hB⟩) (aqE.2 hv)
end Go.Proofs.YtbchkopkgpfkgaaGreat.Dd
namespace Go.Proofs.YtbchkopkgpfkgaaGreat.Dd
open Go Go.RowKit Go.Vc
theorem P_{N:List P2}{i:Int}(h0:0≤i)(h1:i<N.length):p2 N i=N[i.toNat]'(by omega):=by
 unfold p2;rw[bX,dT aB];rfl
end Go.Proofs.YtbchkopkgpfkgaaGreat.Dd
namespace Go.Proofs.YtbchkopkgpfkgaaGreat.Dd
open Go Go.Lib Go.Proofs Go.RowKit Go.Shelf Go.Sort Go.Vc
def aIp(X:List P2):Prop:=∀i j:Int,0≤i→i<j→j<X.length→¬oK (p2 X j) (p2 X i)
def CpI(X:List P2)(m:Int)(R:List P2):Prop:=
 (∀z,z∈R↔∃i:Int,0≤i∧i<m∧p2 X i=z)∧(aIp X→R.Pairwise oK∧∀z∈R,z=p2 X (m-1)∨oK z (p2 X (m-1)))
structure Cp2 (X Y:List P2) (k m:Int):Prop where
 len:Y.length=X.length
 ci:CpI X m (Y.take k.toNat)
 same:∀j:Int,m-1≤j→j<X.length→p2 Y j=p2 X j
end Go.Proofs.YtbchkopkgpfkgaaGreat.Dd
namespace Go.Proofs.YtbchkopkgpfkgaaGreat.Dd
open Go Go.RowKit Go.Vc
theorem aFR{A B:Mg}{S:List P2}(hA:Ok A)(hB:Ok B)(hv:A.v=B.v)(h12:A.v≤12)(h:HD A B S):vE [A,B]=0∧T3 A B S=dg A.v (PG A B S):=by
 have hz:=aAk hA hB hv;exact⟨hz,by rw[ahR hz];exact ag7 (ajR hA hB hv h h12).2⟩
end Go.Proofs.YtbchkopkgpfkgaaGreat.Dd
end
