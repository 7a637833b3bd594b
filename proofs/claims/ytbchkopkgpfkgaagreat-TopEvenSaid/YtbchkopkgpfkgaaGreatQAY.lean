import Derived.Sort.Statements
import Derived.Test.YtbchkopkgpfkgaaGreatQAI
set_option linter.unusedVariables false
set_option linter.unusedSimpArgs false
namespace Go.Proofs.YtbchkopkgpfkgaaGreat
open Go Go.Vc
def uI(a b:Int):Int:=if a<b then-1 else if b<a then 1 else 0
def k_:List Int→List Int→Int
 | [],[]=>0
 | [],_::_=>-1
 |_::_,[]=>1
 |a::r,b::s=>if uI a b≠0 then uI a b else k_ r s
def j9(a b:List Int×Int):Int:=if k_ a.1 b.1≠0 then k_ a.1 b.1 else uI a.2 b.2
theorem o7(a b:Int):(uI a b= -1∧a<b)∨(uI a b=0∧a=b)∨(uI a b=1∧b<a):=by unfold uI;(repeat' split)<;>omega
theorem O6:∀a b,k_ a b= -1∨k_ a b=0∨k_ a b=1
 | [],[]=>.inr (.inl rfl)
 | [],_::_=>.inl rfl
 |_::_,[]=>.inr (.inr rfl)
 |a::r,b::s=>by
  have h:=o7 a b;have:=O6 r s;unfold k_;split<;>omega
section
variable {A B:List Int} {i:Int}
theorem aAK(h:i=A.length)(hb:i≤B.length):k_ (A.drop i.toNat) (B.drop i.toNat)=if(A.length:Int)<B.length then-1 else 0:=by
 rw[EP (show A.length≤i.toNat by omega)];by_cases q:i<B.length;rw[kU (d:=(0:Int)) aB q,aK aB];rfl;rw[EP (show B.length≤i.toNat by omega),aC aB];rfl
theorem aD1(h0:0≤i)(ha:i<A.length)(hb:(B.length:Int)≤i):k_ (A.drop i.toNat) (B.drop i.toNat)=1:=by
 rw[EP (show B.length≤i.toNat by omega),kU (d:=(0:Int)) h0 ha];rfl
theorem aCM(h0:0≤i)(ha:i<A.length)(hb:i<B.length)(h:uI (gi A i) (gi B i)≠0):k_ (A.drop i.toNat) (B.drop i.toNat)=uI (gi A i) (gi B i):=by
 rw[kU (d:=(0:Int)) h0 ha,kU (d:=(0:Int)) h0 hb];exact aK h
theorem aE_(h0:0≤i)(ha:i<A.length)(hb:i<B.length)(h:¬uI (gi A i) (gi B i)≠0):k_ (A.drop i.toNat) (B.drop i.toNat)=k_ (A.drop (i+1).toNat) (B.drop (i+1).toNat):=by
 rw[kU (d:=(0:Int)) h0 ha,kU (d:=(0:Int)) h0 hb];exact aC h
end
theorem xM:∀a b c,k_ a b≤0→k_ b c≤0→k_ a c≤0∧((k_ a b<0∨k_ b c<0)→k_ a c<0)
 | [],[],c,_,h2=>⟨h2,λh=>h.elim (λq=>bM q (by show¬((0:Int)<0);omega)) id⟩
 | [],_::_,[],_,h2=>bM h2 (by show¬((1:Int)≤0);omega)
 | [],_::_,_::_,_,_=>⟨by show(-1:Int)≤0;omega,λ_=>by show(-1:Int)<0;omega⟩
 |_::_,[],_,h1,_=>bM h1 (by show¬((1:Int)≤0);omega)
 |_::_,_::_,[],_,h2=>bM h2 (by show¬((1:Int)≤0);omega)
 |a::r,b::s,c::t,h1,h2=>by
  have ih:=xM r s t;have x:=o7 a b;have y:=o7 b c;have z:=o7 a c;unfold k_ at h1 h2⊢;by_cases e1:uI a b≠0;rw[aK e1]at h1⊢;have hz:uI a c<0:=by
   by_cases e2:uI b c≠0;rw[aK e2]at h2;omega;omega
  rw[aK aB];exact⟨aB,λ_=>hz⟩;rw[aC e1]at h1⊢;by_cases e2:uI b c≠0;rw[aK e2]at h2⊢;rw[aK aB];exact⟨aB,λ_=>aB⟩;rw[aC e2]at h2⊢;rw[aC aB];exact ih h1 h2
theorem A7:∀a b,k_ b a= -k_ a b
 | [],[]=>rfl
 | [],_::_=>rfl
 |_::_,[]=>rfl
 |a::r,b::s=>by
  have ih:=A7 r s;have x:=o7 a b;have y:=o7 b a;unfold k_;by_cases e:uI a b≠0;rw[aK e,aK aB];omega;rw[aC e,aC aB];exact ih
theorem HG(a b c:List Int×Int)(h1:j9 a b≤0)(h2:j9 b c≤0):j9 a c≤0∧((j9 a b<0∨j9 b c<0)→j9 a c<0):=by
 have l1:=O6 a.1 b.1;have l2:=O6 b.1 c.1;have l3:=O6 a.1 c.1;have x:=o7 a.2 b.2;have y:=o7 b.2 c.2;have z:=o7 a.2 c.2;unfold j9 at h1 h2⊢;by_cases e1:k_ a.1 b.1≠0;rw[aK e1]at h1⊢;have t:=xM a.1 b.1 c.1 h1;by_cases e2:k_ b.1 c.1≠0;rw[aK e2]at h2⊢;have t:=t h2;rw[aK aB];exact⟨aB,λ_=>aB⟩;rw[aC e2]at h2⊢;have t:=t aB;rw[aK aB];exact⟨aB,λ_=>aB⟩;rw[aC e1]at h1⊢;by_cases e2:k_ b.1 c.1≠0;rw[aK e2]at h2⊢;have t:=xM a.1 b.1 c.1 aB h2;rw[aK aB];exact⟨aB,λ_=>aB⟩;rw[aC e2]at h2⊢;have t:=xM a.1 b.1 c.1 aB aB;have t2:=xM c.1 b.1 a.1 (by rw[A7];omega) (by rw[A7];omega);rw[A7 a.1 c.1]at t2;rw[aC aB];omega
theorem zT(a b:List Int×Int):j9 b a= -j9 a b:=by
 have l:=A7 a.1 b.1;have x:=o7 a.2 b.2;have y:=o7 b.2 a.2;unfold j9;by_cases e:k_ a.1 b.1≠0;rw[aK e,aK aB];omega;rw[aC e,aC aB];omega
theorem AC(a:List Int×Int):j9 a a=0:=by have:=zT a a;omega
theorem aCd{α:Type}(f:α→List Int×Int):Sort.SWO (λx y:α=>decide (j9 (f x) (f y)<0)) where
 irrefl:=λx=>decide_eq_false (by rw[AC];omega)
 trans:=λx y z h1 h2=>by
  have h1:=of_decide_eq_true h1;have h2:=of_decide_eq_true h2;have:=HG (f x) (f y) (f z) aB aB;exact decide_eq_true (this.2 (.inl h1))
 ntrans:=λx y z h1 h2=>by
  have h1:=of_decide_eq_false h1;have h2:=of_decide_eq_false h2;have a1:=zT (f x) (f y);have a2:=zT (f y) (f z);have a3:=zT (f x) (f z);have:=HG (f z) (f y) (f x) aB aB;exact decide_eq_false aB
end Go.Proofs.YtbchkopkgpfkgaaGreat
namespace Go.Proofs.YtbchkopkgpfkgaaGreat
open Classical Go Go.Vc
variable{V:HV}{i j:Int}{w:Value}
abbrev Ob:=List Int×Int
abbrev WO:=Value×Ob
abbrev wo(T:List WO)(i:Int):WO:=T.getD i.toNat (.slice none 0 0,([],0))
def yF(p:WO):List Value:=[p.1,.int .i64 p.2.2]
def eN(T:List WO):List Value:=T.flatMap yF
theorem lU(T:List WO):(eN T).length=T.length*2:=by
 induction T with
 |nil=>rfl
 |cons a l ih=>show(yF a++eN l).length=_;rw[dD,ih];show 2+_=(l.length+1)*2;omega
theorem IX(A B:List WO):eN (A++B)=eN A++eN B:=by simp[eN]
theorem XV(T:List WO)(w:Value)(q:Ob):eN (T++ [(w,q)])=eN T++ [w,.int .i64 q.2]:=by rw[IX];rfl
theorem adM:∀(T:List WO) (i:Nat),i<T.length→((eN T).drop (i*2)).take 2=yF (T.getD i (.slice none 0 0,([],0)))
 |a::l,0,_=>rfl
 |a::l,i+1,h=>by
  show((yF a++eN l).drop ((i+1)*2)).take 2=_;rw[show(i+1)*2=(yF a).length+i*2 by show _=2+i*2;omega,List.drop_length_add_append];exact adM l i vB
theorem AU{T:List WO}(_h0:0≤i)(h1:i<T.length):((eN T).drop (i.toNat*2)).take 2=[(wo T i).1,.int .i64 (wo T i).2.2]:=adM T i.toNat aB
theorem I3{T:List WO}{o:Nat}{u:Value}(h0:0≤i)(h1:i<T.length)(ho:o<2)(hu:[(wo T i).1,Value.int .i64 (wo T i).2.2][o]? =some u):(eN T)[i.toNat*2+o]? =some u:=by
 rw[←hu,←AU h0 h1,iH,aK ho,kO]
theorem XB(T:List WO)(n:Nat):(eN T).take (n*2)=eN (T.take n):=by
 induction T generalizing n with
 |nil=>simp[eN]
 |cons a l ih=>
  cases n with
  |zero=>simp[eN]
  |succ n=>
   show(yF a++eN l).take ((n+1)*2)=yF a++eN (l.take n);rw[←ih,show(n+1)*2=(yF a).length+n*2 by show _=2+n*2;omega,List.take_length_add_append]
theorem anS(T:List WO)(n:Nat):(eN T).drop (n*2)=eN (T.drop n):=by
 induction T generalizing n with
 |nil=>simp[eN]
 |cons a l ih=>
  cases n with
  |zero=>simp[eN]
  |succ n=>
   show(yF a++eN l).drop ((n+1)*2)=eN (l.drop n);rw[←ih,show(n+1)*2=(yF a).length+n*2 by show _=2+n*2;omega,List.drop_length_add_append]
theorem adS{α:Type}{N:List α}{n:Nat}{q:α}(h:n<N.length):N.set n q=N.take n++q::N.drop (n+1):=by
 rw[List.set_eq_take_append_cons_drop,aK h]
theorem IU{T:List WO}{rs:List Value}(h0:0≤i)(h1:i<T.length):((eN T++rs).drop (i.toNat*2)).take 2=[(wo T i).1,.int .i64 (wo T i).2.2]:=by
 have hl:=lU T;rw[←AU h0 h1,S5 aB,N4 HY]
theorem adP{T:List WO}{rs:List Value}{q:Ob}(h0:0≤i)(h1:i<T.length):
  (eN T++rs).take (i.toNat*2)++ [w,.int .i64 q.2]++(eN T++rs).drop (i.toNat*2+ [w,Value.int .i64 q.2].length)=eN (T.set i.toNat (w,q))++rs:=by
 have hl:=lU T;rw[show i.toNat*2+ [w,Value.int .i64 q.2].length=(i.toNat+1)*2 by show i.toNat*2+2=_;omega,N4 aB,S5 aB,XB,anS,adS aB,IX];show eN (T.take i.toNat)++yF (w,q)++(eN (T.drop (i.toNat+1))++rs)=(eN (T.take i.toNat)++(yF (w,q)++eN (T.drop (i.toNat+1))))++rs;simp[EJ]
theorem aDG{T:List WO}{rs:List Value}{v:Value}(h0:0≤i)(h1:i<T.length):i.toNat*2+ [w,v].length≤(eN T++rs).length:=by
 have hl:=lU T;rw[dD];show i.toNat*2+2≤_;omega
theorem ao2{T:List WO}(h0:0≤i)(h1:i<T.length):(eN T).set (i.toNat*2+0) w=eN (T.set i.toNat (w,(wo T i).2)):=by
 have hl:=lU T;have:=adP (T:=T) (rs:=[]) (w:=w) (q:=(wo T i).2) h0 h1;rw[kN,kN]at this;rw[←this,adS aB];have e1:(eN T).drop (i.toNat*2+0+1)= .int .i64 (wo T i).2.2::(eN T).drop (i.toNat*2+2):=by
  have e0:(eN T)[i.toNat*2+1]? =some (.int .i64 (wo T i).2.2):=I3 (o:=1) h0 h1 aB rfl;have hb:i.toNat*2+1<(eN T).length:=aB;rw[dT hb]at e0;rw[show i.toNat*2+0+1=i.toNat*2+1 by omega,List.drop_eq_getElem_cons hb,Option.some.inj e0]
 rw[e1];show _=(eN T).take (i.toNat*2)++ [w,.int .i64 (wo T i).2.2]++(eN T).drop (i.toNat*2+2);simp
theorem tU{T:List WO}(h0:0≤i)(h1:i<T.length):wo T i=T[i.toNat]'(by omega):=by
 unfold wo;rw[bX,dT aB];rfl
theorem D6{T:List WO}(h0:0≤i)(h1:i<T.length):wo T i∈T:=by rw[tU h0 h1];exact CP _
theorem Z8{T:List WO}{q:WO}(h:q∈T):∃i:Int,0≤i∧i<T.length∧wo T i=q:=by
 obtain⟨i,hi,e⟩:=H2 h;exact⟨i,aB,aB,by rw[tU aB aB];simpa using e⟩
theorem am9{T:List WO}{q:WO}(h0:0≤i)(h1:i<T.length)(h2:0≤j):wo (T.set i.toNat q) j=if i=j then q else wo T j:=by
 unfold wo;rw[bX,bX];by_cases e:i=j;subst e;rw[aK rfl,ML aB];rfl;rw[aC e,ad9 aB]
theorem aJH{T:List WO}{q:WO}(h0:0≤j)(h1:j<T.length):wo (T++ [q]) j=wo T j:=by
 unfold wo;rw[bX,oR aB,←bX]
theorem aJI{T:List WO}{q:WO}(h:j=T.length):wo (T++ [q]) j=q:=by
 subst h;unfold wo;rw[bX,qN aB];simp
def mS(V:HV)(T:List WO):Prop:=∀p∈T,aT .i64 V p.1 p.2.1
theorem mS.mono{W:HV}{T:List WO}(h:mS V T)(s:Vc.bR V W):mS W T:=λp hp=>(h p hp).mono s
theorem mS.nil:mS V []:=λ_ h=>by cases h
theorem mS.snoc{T:List WO}{q:Ob}(h:mS V T)(hw:aT .i64 V w q.1):mS V (T++ [(w,q)]):=λp hp=>by
 rcases jW.1 hp with hp|hp
 exact h p hp;rw[gY.1 hp];exact hw
theorem mS.at_{T:List WO}(h:mS V T)(h0:0≤i)(h1:i<T.length):aT .i64 V (wo T i).1 (wo T i).2.1:=h _ (D6 h0 h1)
theorem mS.sub{T R:List WO}(h:mS V T)(s:∀p∈R,p∈T):mS V R:=λp hp=>h p (s p hp)
theorem mS.put{T:List WO}{q:WO}(h:mS V T)(hq:aT .i64 V q.1 q.2.1):mS V (T.set i.toNat q):=λp hp=>by
 rcases List.mem_or_eq_of_mem_set hp with h1|h1
 exact h p h1;rw[h1];exact hq
structure KK (V:HV) (v:Value) (T:List WO):Prop where
 sl:aR 2 V v T.length (eN T)
 ok:mS V T
theorem KK.mono{W:HV}{v:Value}{T:List WO}(h:KK V v T)(s:Vc.bR V W):KK W v T:=⟨h.sl.mono s,h.ok.mono s⟩
theorem aj1:∀{a b:List Int},k_ a b=0→a=b
 | [],[],_=>rfl
 | [],_::_,h=>by unfold k_ at h;omega
 |_::_,[],h=>by unfold k_ at h;omega
 |a::r,b::s,h=>by
  have x:=o7 a b;unfold k_ at h;by_cases e:uI a b≠0;rw[aK e]at h;omega;rw[aC e]at h;rw[aj1 h,show a=b by omega]
theorem am_{a b:Ob}(h:j9 a b=0):a=b:=by
 have x:=o7 a.2 b.2;unfold j9 at h;by_cases e:k_ a.1 b.1≠0;rw[aK e]at h;omega;rw[aC e]at h;obtain⟨a1,a2⟩:=a;obtain⟨b1,b2⟩:=b;dsimp only at*;rw[aj1 (a:=a1) (b:=b1) aB,show a2=b2 by omega]
theorem CW{a b:Ob}:j9 a b=0↔a=b:=⟨am_,λh=>by rw[h,AC]⟩
def oF(x y:Ob):Prop:=j9 x y<0
theorem axU(x y:Ob):oF x y∨x=y∨oF y x:=by
 unfold oF;have a:=zT x y;by_cases h:j9 x y<0;exact .inl h;by_cases h2:0<j9 x y;exact .inr (.inr aB);exact .inr (.inl (am_ aB))
theorem IG{x y z:Ob}(h1:oF x y)(h2:oF y z):oF x z:=by
 unfold oF at*;exact(HG x y z aB aB).2 (.inl h1)
theorem acI{x:Ob}:¬oF x x:=by unfold oF;rw[AC];omega
def ag6(X:List WO):Prop:=∀i j:Int,0≤i→i<j→j<X.length→¬oF (wo X j).2 (wo X i).2
structure G0 (X:List WO) (m:Int) (R:List WO):Prop where
 src:∀z∈R,∃i:Int,0≤i∧i<m∧wo X i=z
 cov:∀i:Int,0≤i→i<m→∃z∈R,z.2=(wo X i).2
 ord:ag6 X→R.Pairwise (λx y=>oF x.2 y.2)∧∀z∈R,z.2=(wo X (m-1)).2∨oF z.2 (wo X (m-1)).2
section
variable {X Y R:List WO} {m k:Int}
theorem XJ(h:G0 X m R)(h1:1≤m)(e:(wo X m).2=(wo X (m-1)).2):G0 X (m+1) R:=by
 refine⟨λz hz=> ?_,λi a b=> ?_,λs=> ?_⟩;obtain⟨i,a,b,c⟩:=h.src z hz;exact⟨i,a,aB,c⟩;by_cases hi:i<m;exact h.cov i a hi;obtain⟨z,hz,q⟩:=h.cov (m-1) aB aB;exact⟨z,hz,by rw[show i=m by omega,e];exact q⟩;rw[show m+1-1=m by omega,e];exact h.ord s
theorem abJ(h:G0 X m R)(h1:1≤m)(h2:m<X.length)(e:¬(wo X m).2=(wo X (m-1)).2):G0 X (m+1) (R++ [wo X m]):=by
 refine⟨λz hz=> ?_,λi a b=> ?_,λs=> ?_⟩;rcases jW.1 hz with hz|hz
 obtain⟨i,a,b,c⟩:=h.src z hz;exact⟨i,a,aB,c⟩;exact⟨m,aB,aB,(gY.1 hz).symm⟩;by_cases hi:i<m;obtain⟨z,hz,q⟩:=h.cov i a hi;exact⟨z,jW.2 (.inl hz),q⟩;exact⟨wo X m,jW.2 (.inr (gY.2 rfl)),by rw[show i=m by omega]⟩;obtain⟨p,q⟩:=h.ord s;have hlt:oF (wo X (m-1)).2 (wo X m).2:=by
  rcases axU (wo X (m-1)).2 (wo X m).2 with t|t|t
  exact t;exact bM t.symm e;exact bM t (s (m-1) m aB aB h2)
 have hall:∀z∈R,oF z.2 (wo X m).2:=λz hz=>by
  rcases q z hz with t|t
  rw[t];exact hlt;exact IG t hlt
 rw[show m+1-1=m by omega];refine⟨xZ.2 ⟨p,GA _ _,λa ha b hb=>by rw[gY]at hb;rw[hb];exact hall a ha⟩,λz hz=> ?_⟩;rcases jW.1 hz with t|t
 exact .inr (hall z t);exact .inl (by rw[gY.1 t])
theorem aGj(h:0<X.length):G0 X 1 (X.take 1):=by
 obtain⟨a,l,rfl⟩:=List.exists_cons_of_length_pos h;show G0 (a::l) 1 [a];refine⟨λz hz=>⟨0,aB,aB,(gY.1 hz).symm⟩,λi p q=>⟨a,gY.2 rfl,by rw[show i=0 by omega];rfl⟩,λ_=>⟨GA _ _,λz hz=>.inl (by rw[gY.1 hz];rfl)⟩⟩
theorem azC(h0:0≤m)(h1:m<X.length):X.take m.toNat++ [wo X m]=X.take (m+1).toNat:=by
 rw[show(m+1).toNat=m.toNat+1 by omega,t7,dT aB,tU h0 h1];rfl
theorem ay6(h:G0 X k (X.take k.toNat))(h1:1≤k)(h2:k<X.length)(e:¬(wo X k).2=(wo X (k-1)).2):G0 X (k+1) (X.take (k+1).toNat):=by
 rw[←azC aB h2];exact abJ h h1 h2 e
structure CoF (X R:List WO):Prop where
 src:∀z∈R,z∈X
 cov:∀x∈X,∃z∈R,z.2=x.2
 ord:ag6 X→R.Pairwise (λx y=>oF x.2 y.2)
 len:R.length≤X.length
theorem anE(h:G0 X X.length R)(hl:R.length≤X.length):CoF X R:=
 ⟨λz hz=>by obtain⟨i,a,b,c⟩:=h.src z hz;rw[←c];exact D6 a b,λx hx=>by obtain⟨i,a,b,c⟩:=Z8 hx;obtain⟨z,hz,q⟩:=h.cov i a b;exact⟨z,hz,by rw[q,c]⟩,λs=>(h.ord s).1,hl⟩
theorem ai1(h:X.length<2):CoF X X:=by
 refine⟨λ_ h=>h,λx hx=>⟨x,hx,rfl⟩,λ_=> ?_,cV _⟩;match X,h with
 | [],_=>exact .nil
 | [a],_=>exact GA _ _
 |_::_::_,h=>simp at h;omega
structure TT (X Y:List WO) (k m:Int):Prop where
 len:Y.length=X.length
 ci:G0 X m (Y.take k.toNat)
 same:∀j:Int,m-1≤j→j<X.length→wo Y j=wo X j
 mem:∀z∈Y,z∈X
theorem aFH(h:G0 X k (X.take k.toNat))(h1:1≤k)(e:(wo X k).2=(wo X (k-1)).2):TT X X k (k+1):=⟨rfl,XJ h h1 e,λ_ _ _=>rfl,λ_ h=>h⟩
theorem TT.keep(h:TT X Y k m)(h1:1≤m)(h2:m<X.length)(e:(wo Y m).2=(wo Y (m-1)).2):TT X Y k (m+1):=by
 refine⟨h.len,XJ h.ci h1 ?_,λj a b=>h.same j aB b,h.mem⟩;rw[h.same m aB h2,h.same (m-1) aB aB]at e;exact e
theorem TT.new(h:TT X Y k m)(h1:1≤m)(h2:m<X.length)(k0:0≤k)(k1:k≤m-1)(e:¬(wo Y m).2=(wo Y (m-1)).2):TT X (Y.set k.toNat (wo Y m)) (k+1) (m+1):=by
 have hl:=h.len;have hm:=h.same m aB h2;rw[hm,h.same (m-1) aB aB]at e;refine⟨by rw[uM];exact hl,?_,λj a b=> ?_,λz hz=> ?_⟩;have:(Y.set k.toNat (wo Y m)).take (k+1).toNat=Y.take k.toNat++ [wo X m]:=by
  rw[show(k+1).toNat=k.toNat+1 by omega,t7,List.getElem?_set,aK rfl,aK aB,List.take_set_of_le (cV _),hm];rfl
 rw[this];exact abJ h.ci h1 h2 e;rw[am9 k0 aB aB,aC aB];exact h.same j aB b;rcases List.mem_or_eq_of_mem_set hz with q|q
 exact h.mem z q;rw[q,hm];exact D6 aB h2
end
theorem ajY{cs:List Value}{X:List WO}{n:Nat}(_:n=X.length)(h:cs.take (n*2)=eN X):∃rs,cs=eN X++rs:=⟨cs.drop (n*2),by rw[←h];simp⟩
theorem al7{Y:List WO}{rs nw D:List Value}{n:Nat}(h:n≤Y.length):((eN Y++rs).take (n*2)++nw++D).take (n*2)=eN (Y.take n):=by
 have hl:=lU Y;have e:(eN Y++rs).take (n*2)=eN (Y.take n):=by rw[N4 aB,XB]
 rw[e,EJ,List.take_left' (by rw[lU,jL];omega)]
theorem anM{cs nw:List Value}{o m:Nat}(h:o+m≤cs.length)(hw:nw.length=m):(cs.take o++nw++cs.drop (o+m)).length=cs.length:=by
 rw[dD,dD,jL,mX];omega
theorem ayR{Y X:List WO}{rs:List Value}(h:Y.length=X.length):(eN Y++rs).length=(eN X++rs).length:=by
 rw[dD,dD,lU,lU,h]
end Go.Proofs.YtbchkopkgpfkgaaGreat
