import Derived.Test.YtbchkopkgpfkgaaGreatQAH
set_option linter.unusedVariables false
set_option linter.unusedSimpArgs false
namespace Go.Proofs.YtbchkopkgpfkgaaGreat
open Go Go.Vc
structure Mc where
 vals:List Int
 outs:List Int
 time:Int
def xN(F:Fl)(xs:List Int)(v n:Int):List Int:=xs.set v.toNat (lM n (vr F.vs v).lo (vr F.vs v).hi)
def sX(t:Int)(s:Int×Bool)(b:Int):Int×Bool:=if t≤b∧(¬s.2=true∨b<s.1)then(b,true)else s
def n_(t:Int)(bs:List Int):Int×Bool:=bs.foldl (sX t) (t,false)
def stl(bs:List Int)(t:Int):Int:=(n_ t bs).1
theorem alZ{t L:Int}(h:t≤L):∀(bs:List Int) (s:Int×Bool),t≤s.1→s.1≤L→(∀b∈bs,b≤L)→t≤(bs.foldl (sX t) s).1∧(bs.foldl (sX t) s).1≤L
 | [],s,h1,h2,_=>⟨h1,h2⟩
 |b::r,s,h1,h2,h3=>by
  have q:=h3 b (mZ ..);have go:t≤(sX t s b).1∧(sX t s b).1≤L:=by
   unfold sX;by_cases e:t≤b∧(¬s.2=true∨b<s.1);rw[aK e];exact⟨e.1,q⟩;rw[aC e];exact⟨h1,h2⟩
  exact alZ h r _ go.1 go.2 λx hx=>h3 x (uC _ hx)
def mJ(f:Mc→Mc)(c:Int)(t:Tm):Nat→Mc→Mc
 |0,m=>m
 |k+1,m=>if val m.vals t=0 then⟨m.vals,m.outs,m.time+c⟩else mJ f c t k (f ⟨m.vals,m.outs,m.time+c⟩)
def tT(F:Fl)(H:List Int)(dk v n:Int)(t:Tm)(bd:List Int)(fa fb:Mc→Mc)(m:Mc):Mc:=
 if dk=0 then⟨xN F m.vals v (val m.vals t),m.outs,m.time⟩else if dk=1 then⟨m.vals,m.outs++ [val m.vals t],m.time⟩
 else if dk=3 then(if val m.vals t≠0 then fa m else fb m)else if dk=5 then⟨xN F m.vals v (gi H n),m.outs,m.time⟩else if dk=6 then⟨m.vals,m.outs,stl bd m.time⟩else m
mutual
def f9(F:Fl)(H:List Int):St→Mc→Mc
 | .mk dk c v n t a b bd,m=>if dk=4 then mJ (fX F H a) c t n.toNat m else tT F H dk v n t bd (fX F H a) (fX F H b) ⟨m.vals,m.outs,m.time+c⟩
def fX(F:Fl)(H:List Int):List St→Mc→Mc
 | [],m=>m
 |s::r,m=>fX F H r (f9 F H s m)
end
theorem tI{F:Fl}{H:List Int}(s:St)(m:Mc):f9 F H s m=if s.dk=4 then mJ (fX F H s.thn) s.cost s.tm s.n.toNat m else tT F H s.dk s.var s.n s.tm s.bds (fX F H s.thn) (fX F H s.els) ⟨m.vals,m.outs,m.time+s.cost⟩:=by cases s;rfl
structure i_ (F:Fl) (m:Mc) (a b:Int):Prop where
 len:m.vals.length=F.vs.length
 inr:bF F.vs m.vals
 o1:(m.outs.length:Int)+a≤8
 t0:0≤m.time
 t1:m.time+b≤67108864
 ob:∀x∈m.outs,-1048576≤x∧x≤1048576
theorem i_.le{F:Fl}{m:Mc}{a b a' b':Int}(h:i_ F m a b)(ha:a'≤a)(hb:b'≤b):i_ F m a' b':=⟨h.len,h.inr,by have:=h.o1;omega,h.t0,by have:=h.t1;omega,h.ob⟩
theorem i_.tick{F:Fl}{m:Mc}{a b c:Int}(h:i_ F m a (c+b))(hc:0≤c):i_ F ⟨m.vals,m.outs,m.time+c⟩ a b:=⟨h.len,h.inr,h.o1,by have:=h.t0;show 0≤m.time+c;omega,by have:=h.t1;show m.time+c+b≤_;omega,h.ob⟩
theorem aj6{n lo hi:Int}(h:lo≤hi):lo≤lM n lo hi∧lM n lo hi≤hi:=by unfold lM aX bJ;(repeat' split)<;>omega
theorem aq8(F:Fl)(xs:List Int)(v n:Int):(xN F xs v n).length=xs.length:=uM ..
theorem azN{F:Fl}{xs:List Int}{v n:Int}(hV:dO F.vs)(hl:xs.length=F.vs.length)(h:bF F.vs xs)(v0:0≤v)(v1:v<F.vs.length):bF F.vs (xN F xs v n):=λi a b=>by
 have ho:=hV.ord _ (pA v0 v1);unfold xN gi;by_cases e:i=v;subst e;rw[bX,ML aB];exact aj6 ho.1;have:=h i a b;unfold gi at this;rw[bX]at this;rw[bX,ad9 aB];exact this
theorem i_.set{F:Fl}{m:Mc}{a b v n:Int}(h:i_ F m a b)(hV:dO F.vs)(v0:0≤v)(v1:v<F.vs.length):i_ F ⟨xN F m.vals v n,m.outs,m.time⟩ a b:=
 ⟨by show(xN F m.vals v n).length=_;rw[aq8];exact h.len,azN hV h.len h.inr v0 v1,h.o1,h.t0,h.t1,h.ob⟩
theorem i_.out{F:Fl}{m:Mc}{a b x:Int}(h:i_ F m (1+a) b)(hx:-1048576≤x∧x≤1048576):i_ F ⟨m.vals,m.outs++ [x],m.time⟩ a b:=
 ⟨h.len,h.inr,by have:=h.o1;show((m.outs++ [x]).length:Int)+a≤8;rw[dD];simp only[sS];omega,h.t0,h.t1,λy hy=>(jW.1 hy).elim (h.ob y) λq=>by rw[gY.1 q];exact hx⟩
theorem X7{l:List Int}(h:∀i:Int,1≤i→i<l.length→¬gi l i≤gi l (i-1)):∀(d:Nat) (i:Int),0≤i→i+d<l.length→gi l i≤gi l (i+d)
 |0,i,_,_=>by rw[show i+((0:Nat):Int)=i by omega];omega
 |d+1,i,h0,h1=>by
  have a:=X7 h d i h0 aB;have b:=h (i+d+1) aB aB;rw[show i+((d+1:Nat):Int)=i+d+1 by omega];rw[show i+(d:Int)+1-1=i+d by omega]at b;omega
theorem alL{s:St}(h:rsg s.bds)(hb:¬oZ s):∀b∈s.bds,b≤67108864:=λb hm=>by
 obtain⟨i,hi,e⟩:=List.mem_iff_getElem.1 hm;have a:=X7 h.2 (s.bds.length-1-i) i aB aB;have e1:gi s.bds (i:Int)=b:=by unfold gi;rw[bX,iD,dT hi,←e];rfl
 have c:¬67108864<gi s.bds ((s.bds.length:Int)-1):=λq=>hb ⟨aB,q⟩;rw[e1,show(i:Int)+((s.bds.length-1-i:Nat):Int)=(s.bds.length:Int)-1 by omega]at a;omega
theorem Z7{F:Fl}{f:Mc→Mc}{c:Int}{t:Tm}{o u:Int}(hc:0≤c)(ho:0≤o)(hu:0≤u)(hf:∀(a b:Int) (m:Mc),0≤a→0≤b→i_ F m (o+a) (u+b)→i_ F (f m) a b):
  ∀(n:Nat) (a b:Int) (m:Mc),0≤a→0≤b→i_ F m (n*o+a) (n*(c+u)+b)→i_ F (mJ f c t n m) a b
 |0,a,b,m,_,_,h=>h.le (by omega) (by omega)
 |n+1,a,b,m,ha,hb,h=>by
  have e1:((n+1:Nat):Int)*o=n*o+o:=by rw[show((n+1:Nat):Int)=n+1 by omega,Int.add_mul,LK]
  have e2:((n+1:Nat):Int)*(c+u)=n*(c+u)+(c+u):=by rw[show((n+1:Nat):Int)=n+1 by omega,Int.add_mul,LK]
  have p1:=oN (show(0:Int)≤n by omega) ho;have p2:=oN (show(0:Int)≤n by omega) (show 0≤c+u by omega);have h2:i_ F ⟨m.vals,m.outs,m.time+c⟩ (o+(n*o+a)) (u+(n*(c+u)+b)):=(h.le (a':=o+(n*o+a)) (b':=c+(u+(n*(c+u)+b))) aB aB).tick hc;unfold mJ;by_cases q:val m.vals t=0;rw[aK q];exact h2.le aB aB;rw[aC q];exact Z7 hc ho hu hf n a b _ ha hb (hf _ _ _ aB aB h2)
mutual
theorem ZW{F:Fl}{H:List Int}(hV:dO F.vs){last:Prop}:∀{s:St},o_ F last s→∀(a b:Int) (m:Mc),(last→b=0)→0≤a→0≤b→i_ F m (s.uO+a) (s.uT+b)→i_ F (f9 F H s m) a b
 | .mk dk c v n t x y bd,h,a,b,m,hl,ha,hb,hr=>by
  have hnn:=h.nn;have hn:=(lL _).1 hnn;obtain⟨n1,n2,n3,n4⟩:=hn;have n1:0≤c:=n1;have n2:0≤n:=n2;have ux:=eB x n3;have uy:=eB y n4;have ok1:ae5 F last (.mk dk c v n t x y bd):=h.1;have okx:fJ F False x:=h.2.1;have oky:fJ F False y:=h.2.2;have uo:(St.mk dk c v n t x y bd).uO=if dk=1 then 1 else if dk=4 then n*cJ x else bJ (cJ x) (cJ y):=wH _
  have ut:(St.mk dk c v n t x y bd).uT=if dk=4 then n*(c+cG x)else c+bJ (cG x) (cG y):=B4 _
  rw[uo,ut]at hr;show i_ F (if dk=4 then mJ (fX F H x) c t n.toNat m else tT F H dk v n t bd (fX F H x) (fX F H y) ⟨m.vals,m.outs,m.time+c⟩) a b;by_cases e4:dk=4;rw[aK e4];rw[aC aB,aK e4,aK e4]at hr;have en:((n.toNat:Nat):Int)=n:=aB;exact Z7 n1 ux.2.1 ux.2.2 (λa b m ha hb h=>vQ hV okx a b m (λq=>q.elim) ha hb h) n.toNat a b m ha hb (by rw[en];exact hr);rw[aC e4];rw[aC e4,aC e4]at hr;have hx:0≤bJ (cG x) (cG y)∧cG x≤bJ (cG x) (cG y)∧cG y≤bJ (cG x) (cG y):=by unfold bJ;split<;>omega
  have hw:∀w,i_ F m w (c+bJ (cG x) (cG y)+b)→i_ F ⟨m.vals,m.outs,m.time+c⟩ w (bJ (cG x) (cG y)+b):=λw h=>(h.le (b':=c+(bJ (cG x) (cG y)+b)) (eL _) aB).tick n1;have hr:=hw _ hr;unfold tT;by_cases e0:dk=0;rw[aK e0];rw[aC aB]at hr;have sh:=(NG (s:=.mk dk c v n t x y bd) e0).1 ok1.shp;have z:0≤bJ (cJ x) (cJ y):=by unfold bJ;split<;>omega
  exact(hr.le aB aB).set hV sh.1.1.2.1.1 sh.1.1.2.1.2;rw[aC e0];by_cases e1:dk=1;rw[aK e1];rw[aK e1]at hr;exact(hr.le (b':=b) (eL _) aB).out (H3 (xs:=m.vals) hr.inr ok1.ct.1 ok1.ct.2);rw[aC e1];rw[aC e1]at hr;have hy:0≤bJ (cJ x) (cJ y)∧cJ x≤bJ (cJ x) (cJ y)∧cJ y≤bJ (cJ x) (cJ y):=by unfold bJ;split<;>omega
  by_cases e3:dk=3;rw[aK e3];split;exact vQ hV okx a b _ (λq=>q.elim) ha hb (hr.le aB aB);exact vQ hV oky a b _ (λq=>q.elim) ha hb (hr.le aB aB);rw[aC e3];by_cases e5:dk=5;rw[aK e5];have sh:=(J4 (s:=.mk dk c v n t x y bd) e5).1 ok1.shp;exact(hr.le aB aB).set hV sh.1.1.1.1.2.1.1 sh.1.1.1.1.2.1.2;rw[aC e5];by_cases e6:dk=6;rw[aK e6];have sh:=(JH (s:=.mk dk c v n t x y bd) e6).1 ok1.shp;have b0:=hl sh.1.1.1.1.2;have hr:=hr.le (a':=a) (b':=0) aB aB;have q:=alZ (t:=m.time+c) (L:=67108864) (by have:=hr.t1;have e:(Mc.mk m.vals m.outs (m.time+c)).time=m.time+c:=rfl;omega) bd (m.time+c,false) (eL _) (by have:=hr.t1;have e:(Mc.mk m.vals m.outs (m.time+c)).time=m.time+c:=rfl;show m.time+c≤_;omega) (alL (s:=.mk dk c v n t x y bd) sh.2 ok1.bd);have t0:0≤m.time+c:=hr.t0;refine⟨hr.len,hr.inr,hr.o1,?_,?_,hr.ob⟩;show 0≤(n_ (m.time+c) bd).1;unfold n_;omega;show(n_ (m.time+c) bd).1+b≤_;unfold n_;omega;rw[aC e6];exact hr.le aB aB
theorem vQ{F:Fl}{H:List Int}(hV:dO F.vs){top:Prop}:∀{l:List St},fJ F top l→∀(a b:Int) (m:Mc),(top→b=0)→0≤a→0≤b→i_ F m (cJ l+a) (cG l+b)→i_ F (fX F H l m) a b
 | [],_,a,b,m,_,_,_,hr=>hr.le (by show a≤0+a;omega) (by show b≤0+b;omega)
 |s::r,h,a,b,m,ht,ha,hb,hr=>by
  have u:=eB r (fJ.nns h.2);have e1:cJ (s::r)=s.uO+cJ r:=rfl;have e2:cG (s::r)=s.uT+cG r:=rfl;rw[e1,e2]at hr;refine vQ hV h.2 a b _ ht ha hb (ZW hV h.1 (cJ r+a) (cG r+b) m (λq=> ?_) aB aB (hr.le aB aB));obtain⟨q1,q2⟩:=q;subst q2;have:=ht q1;show 0+b=0;omega
end
theorem yT{F:Fl}{top:Prop}:∀{l:List St} (n:Nat),fJ F top l→fJ F top (l.drop n)
 |l,0,h=>by rw[List.drop_zero];exact h
 | [],n+1,_=>by rw[List.drop_nil];trivial
 |s::r,n+1,h=>yT n h.2
section
variable {F:Fl} {H:List Int} {top:Prop} {l:List St} {i:Int} {m:Mc}
theorem aaW(hO:fJ F top l)(i0:0≤i)(i1:i<l.length)(hr:i_ F m (cJ (l.drop i.toNat)) (cG (l.drop i.toNat))):i_ F m (st l i).uO (st l i).uT:=by
 have u:=eB _ (yT (i+1).toNat hO).nns;rw[zG i0 i1]at hr;have e1:cJ (st l i::l.drop (i+1).toNat)=(st l i).uO+cJ (l.drop (i+1).toNat):=rfl;have e2:cG (st l i::l.drop (i+1).toNat)=(st l i).uT+cG (l.drop (i+1).toNat):=rfl;exact hr.le aB aB
theorem M8(hV:dO F.vs)(hO:fJ F top l)(i0:0≤i)(i1:i<l.length)(hr:i_ F m (cJ (l.drop i.toNat)) (cG (l.drop i.toNat))):
  fX F H (l.drop i.toNat) m=fX F H (l.drop (i+1).toNat) (f9 F H (st l i) m)∧i_ F (f9 F H (st l i) m) (cJ (l.drop (i+1).toNat)) (cG (l.drop (i+1).toNat)):=by
 have hd:=yT i.toNat hO;rw[zG i0 i1]at hr hd⊢;have u:=eB _ (fJ.nns hd.2);refine⟨rfl,ZW hV hd.1 _ _ _ (λq=> ?_) u.2.1 u.2.2 hr⟩;rw[q.2];rfl
end
section
variable {F:Fl} {H:List Int} {s:St} {m:Mc}
theorem ak4(h:s.dk=4):f9 F H s m=mJ (fX F H s.thn) s.cost s.tm s.n.toNat m:=by rw[tI,aK h]
theorem uK(h:s.dk=0):f9 F H s m=⟨xN F m.vals s.var (val m.vals s.tm),m.outs,m.time+s.cost⟩:=by rw[tI,aC aB];unfold tT;rw[aK h]
theorem tP(h:s.dk=1):f9 F H s m=⟨m.vals,m.outs++ [val m.vals s.tm],m.time+s.cost⟩:=by rw[tI,aC aB];unfold tT;rw[aC aB,aK h]
theorem rD(h:s.dk=3)(q:val m.vals s.tm≠0):f9 F H s m=fX F H s.thn ⟨m.vals,m.outs,m.time+s.cost⟩:=by rw[tI,aC aB];unfold tT;rw[aC aB,aC aB,aK h,aK q]
theorem rK(h:s.dk=3)(q:¬val m.vals s.tm≠0):f9 F H s m=fX F H s.els ⟨m.vals,m.outs,m.time+s.cost⟩:=by rw[tI,aC aB];unfold tT;rw[aC aB,aC aB,aK h,aC q]
theorem u4(h:s.dk=5):f9 F H s m=⟨xN F m.vals s.var (gi H s.n),m.outs,m.time+s.cost⟩:=by rw[tI,aC aB];unfold tT;rw[aC aB,aC aB,aC aB,aK h]
theorem uD(h:s.dk=6):f9 F H s m=⟨m.vals,m.outs,stl s.bds (m.time+s.cost)⟩:=by rw[tI,aC aB];unfold tT;rw[aC aB,aC aB,aC aB,aC aB,aK h]
theorem uA(h:¬(s.dk=4∨s.dk=0∨s.dk=1∨s.dk=3∨s.dk=5∨s.dk=6)):f9 F H s m=⟨m.vals,m.outs,m.time+s.cost⟩:=by
 rw[tI,aC aB];unfold tT;rw[aC aB,aC aB,aC aB,aC aB,aC aB]
end
section
variable {F:Fl} {H:List Int} {s:St} {i:Int} {m:Mc}
theorem ajM{f:Mc→Mc}{c:Int}{t:Tm}{n:Nat}(h:0<n)(q:val m.vals t=0):mJ f c t n m=⟨m.vals,m.outs,m.time+c⟩:=by
 obtain⟨k,rfl⟩:∃k,n=k+1:=⟨n-1,aB⟩;exact aK q
theorem am2{f:Mc→Mc}{c:Int}{t:Tm}{n:Nat}(h:0<n)(q:¬val m.vals t=0):mJ f c t n m=mJ f c t (n-1) (f ⟨m.vals,m.outs,m.time+c⟩):=by
 obtain⟨k,rfl⟩:∃k,n=k+1:=⟨n-1,aB⟩;exact aC q
theorem HR(hV:dO F.vs){last:Prop}(hs:o_ F last s)(h0:0≤i)(h1:i<s.n)(hr:i_ F m ((s.n-i)*cJ s.thn) ((s.n-i)*(s.cost+cG s.thn))):
  i_ F ⟨m.vals,m.outs,m.time+s.cost⟩ (cJ s.thn) (cG s.thn)∧i_ F (fX F H s.thn ⟨m.vals,m.outs,m.time+s.cost⟩) ((s.n-(i+1))*cJ s.thn) ((s.n-(i+1))*(s.cost+cG s.thn)):=by
 have hn:=(lL _).1 hs.nn;obtain⟨n1,n2,n3,n4⟩:=hn;have u:=eB _ n3;have e1:(s.n-i)*cJ s.thn=(s.n-(i+1))*cJ s.thn+cJ s.thn:=by rw[show s.n-i=s.n-(i+1)+1 by omega,Int.add_mul,LK]
 have e2:(s.n-i)*(s.cost+cG s.thn)=(s.n-(i+1))*(s.cost+cG s.thn)+(s.cost+cG s.thn):=by rw[show s.n-i=s.n-(i+1)+1 by omega,Int.add_mul,LK]
 have p1:=oN (show 0≤s.n-(i+1) by omega) u.2.1;have p2:=oN (show 0≤s.n-(i+1) by omega) (show 0≤s.cost+cG s.thn by omega);have h2:i_ F ⟨m.vals,m.outs,m.time+s.cost⟩ (cJ s.thn+(s.n-(i+1))*cJ s.thn) (cG s.thn+(s.n-(i+1))*(s.cost+cG s.thn)):=(hr.le (b':=s.cost+(cG s.thn+(s.n-(i+1))*(s.cost+cG s.thn))) aB aB).tick n1;exact⟨h2.le aB aB,vQ hV (iM.1 hs).2.1 _ _ _ (λq=>q.elim) p1 p2 h2⟩
end
def pck(k:Int)(A B C:List Int):List Int:=if k=1 then A else if k=2 then B else C
def pT(vs:List Vr)(A B C:List Int)(i:Int):Int:=if(vr vs i).kd=0 then(vr vs i).ini else gi (pck (vr vs i).kd A B C) ((dZ (vs.take i.toNat) (vr vs i).kd).length:Int)
def kD(vs:List Vr)(A B C:List Int):List Int:=(List.range vs.length).map λi:Nat=>pT vs A B C i
def yC(F:Fl)(xs:List Int):List Int:=F.hs.map λh=>lM (val xs h.tm) h.lo h.hi
def qC(F:Fl)(A B C:List Int):Mc:=fX F (yC F (kD F.vs A B C)) F.bd ⟨kD F.vs A B C,[],0⟩
def yM(timed:Bool)(t:Int):Int:=if timed=true then t else 0
theorem DX{f:Nat→List Value}{s:Nat}(hs:∀i,(f i).length=s):∀n,((List.range n).flatMap f).length=n*s
 |0=>bK
 |n+1=>by rw[sP,sV,dD,DX hs n];simp[hs];rw[o5,CK]
theorem abX{f g:Nat→List Value}{s m n:Nat}(hs:∀i,(f i).length=s)(h:m≤n)(hg:∀i,i<m→g i=f i):(List.range m).flatMap g=((List.range n).flatMap f).take (m*s):=by
 obtain⟨d,rfl⟩:∃d,n=m+d:=⟨n-m,aB⟩;rw[List.range_add,sV,List.take_left' (DX hs m),WU,WU];congr 1;exact YH λi hi=>hg i (CM.1 hi)
theorem BD{α:Type}{l:List α}{d:α}{m i:Nat}(h:i<m):(l.take m).getD i d=l.getD i d:=by
 rw[bX,bX,iH,aK h]
theorem aeP{α:Type}{l:List α}{m:Nat}{x:Int}(h:x<(l.take m).length):x<m:=by rw[jL]at h;omega
theorem au0{l:List Vr}{m:Nat}{i:Int}(h0:0≤i)(h:i<m):vr (l.take m) i=vr l i:=BD aB
theorem afX{l:List Ht}{m:Nat}{i:Int}(h0:0≤i)(h:i<m):ht (l.take m) i=ht l i:=BD aB
theorem k5.take{H:HV}{v:Value}{l:List Vr}(h:k5 H v l){m:Nat}(hm:m≤l.length):k5 H (sO v m) (l.take m):=by
 have:=aR.take h hm;unfold k5;rw[jL,QJ hm];unfold xU;rw[jL,QJ hm,abX (f:=KG l) (s:=5) (λ_=>rfl) hm (λi hi=>by unfold KG;rw[au0 aB aB])];exact this
theorem CL.take{H:HV}{v:Value}{l:List Ht}{kv:List Value}(h:CL H v l kv){m:Nat}(hm:m≤l.length):CL H (sO v m) (l.take m) kv:=by
 have:=aR.take h.sl hm;refine⟨?_,λi a b=> ?_⟩;rw[jL,QJ hm];unfold F0;rw[jL,QJ hm,abX (f:=TD kv l) (s:=6) (λ_=>rfl) hm (λi hi=>by unfold TD;rw[afX aB aB])];exact this;rw[jL]at b;rw[afX a aB];exact h.hk i a aB
theorem CL.mono{H H':HV}{v:Value}{l:List Ht}{kv:List Value}(h:CL H v l kv)(s:Vc.bR H H'):CL H' v l kv:=⟨h.sl.mono s,λi a b=>(h.hk i a b).mono s⟩
theorem JV{k:Int}(h:¬tX k):k=0∨k=1∨k=2∨k=3:=by unfold tX at h;omega
theorem aaF{v:Vr}(h:¬uH v):(v.kd=0→v.lo≤v.ini∧v.ini≤v.hi)∧(v.kd≠0→v.ini=0):=by unfold uH at h;omega
theorem aIs{j:Int}(h0:0≤j)(h1:j<3):gi [1,2,3] j=1∨gi [1,2,3] j=2∨gi [1,2,3] j=3:=by
 have:j=0∨j=1∨j=2:=aB;rcases this with rfl|rfl|rfl
 exact .inl rfl;exact .inr (.inl rfl);exact .inr (.inr rfl)
section
variable {xs:List Int} {t:Tm}
theorem UB(h:t.op=0):val xs t=t.n:=by rw[xF];exact aK h
theorem VY(h:t.op=24):val xs t=gi xs t.n:=by rw[xF];unfold FY;rw[aC aB,aK h]
theorem ag0(h:t.op=6)(k:1≤(t.kids.length:Int)):val xs t= -(val xs (tm t.kids 0)):=by
 rw[xF];unfold FY;rw[aC aB,aC aB,aK h,pK aB aB]
theorem aeX(h:t.op=7)(k:1≤(t.kids.length:Int)):val xs t=if val xs (tm t.kids 0)=0 then 1 else 0:=by
 rw[xF];unfold FY;rw[aC aB,aC aB,aC aB,aK h,pK aB aB]
theorem ab_(h:t.op=23)(k:3≤(t.kids.length:Int))(q:val xs (tm t.kids 0)≠0):val xs t=val xs (tm t.kids 1):=by
 rw[xF];unfold FY;rw[aC aB,aC aB,aC aB,aC aB,aK h,pK aB aB,pK aB aB,aK q]
theorem abM(h:t.op=23)(k:3≤(t.kids.length:Int))(q:¬val xs (tm t.kids 0)≠0):val xs t=val xs (tm t.kids 2):=by
 rw[xF];unfold FY;rw[aC aB,aC aB,aC aB,aC aB,aK h,pK aB aB,aC q,pK aB aB]
theorem NN{n m:Int}(h:0≤m):0≤lM n 0 m∧lM n 0 m≤m:=aj6 h
theorem akT(h:t.op=25)(k:2≤(t.kids.length:Int)):val xs t=val xs (tm t.kids (1+lM (val xs (tm t.kids 0)) 0 ((t.kids.length:Int)-2))):=by
 have hb:=NN (n:=val xs (tm t.kids 0)) (show 0≤(t.kids.length:Int)-2 by omega);rw[xF];unfold FY;rw[aC aB,aC aB,aC aB,aC aB,aC aB,aK h,pK (i:=0) aB aB,EO,pK aB aB]
theorem RR(h:¬(t.op=0∨t.op=24∨t.op=6∨t.op=7∨t.op=23∨t.op=25))(k:2≤(t.kids.length:Int)):val xs t=fP t.op (val xs (tm t.kids 0)) (val xs (tm t.kids 1)):=by
 rw[xF];unfold FY;rw[aC aB,aC aB,aC aB,aC aB,aC aB,aC aB,pK aB aB,pK aB aB]
end
theorem afK{op k:Int}(h:¬kF op k)(e:¬(op=0∨op=24∨op=6∨op=7∨op=23∨op=25)):k=2:=by
 unfold kF jI at h;rw[aC aB,aC aB]at h;by_cases z:8≤op∧op≤22;rw[aK z]at h;omega;rw[aC z,aC aB,aC aB]at h;omega
theorem atG{a b:Int}(h1:-1048576≤a∧a≤1048576)(h2:-1048576≤b∧b≤1048576):(-1048576≤vA a b∧vA a b≤1048576)∧(-1099511627776≤b*vA a b∧b*vA a b≤1099511627776):=by
 have h:=(aiN (x:=a) (y:=b)).1;have q:-1048576≤vA a b∧vA a b≤1048576:=aB;exact⟨q,wE h2.1 h2.2 q.1 q.2⟩
section
variable {t:Int} {bs:List Int} {i:Int}
end
section
variable {F:Fl} {s:St} {m:Mc} {last:Prop}
theorem P3(hs:o_ F last s)(e:s.dk=3)(hr:i_ F m s.uO s.uT):i_ F ⟨m.vals,m.outs,m.time+s.cost⟩ (cJ s.thn) (cG s.thn)∧i_ F ⟨m.vals,m.outs,m.time+s.cost⟩ (cJ s.els) (cG s.els):=by
 obtain⟨h1,h2,h3,h4⟩:=(lL s).1 hs.nn;have u:=eB _ h3;have w:=eB _ h4;rw[wH,B4,aC aB,aC aB,aC aB]at hr;have a:cJ s.thn≤bJ (cJ s.thn) (cJ s.els)∧cJ s.els≤bJ (cJ s.thn) (cJ s.els):=by unfold bJ;split<;>omega
 have b:cG s.thn≤bJ (cG s.thn) (cG s.els)∧cG s.els≤bJ (cG s.thn) (cG s.els):=by unfold bJ;split<;>omega
 have h:=hr.tick h1;exact⟨h.le aB aB,h.le aB aB⟩
theorem acG(e:s.dk=1)(hr:i_ F m s.uO s.uT):(m.outs.length:Int)<8:=by
 have h:=hr.o1;rw[wH,aK e]at h;omega
theorem SM(e:s.dk=4)(hr:i_ F m s.uO s.uT):i_ F m ((s.n-0)*cJ s.thn) ((s.n-0)*(s.cost+cG s.thn)):=by
 rw[wH,B4,aC aB,aK e,aK e]at hr;rw[show s.n-0=s.n by omega];exact hr
theorem adG{H:List Int}{l:List St}{i:Int}(h:(l.length:Int)≤i):fX F H (l.drop i.toNat) m=m:=by rw[EP aB];rfl
end
end Go.Proofs.YtbchkopkgpfkgaaGreat
namespace Go.Vc
open Go Go.RowKit
variable{H:HV}{k:IntKind}{v:Value}{xs:List Int}
theorem aT.toS(h:aT k H v xs):aR 1 H v xs.length (xs.map (Value.int k)):=by
 obtain⟨a,cap,h1,h2,h3,h4⟩:=h;rw[fT]at h1 h2 h4;refine⟨a,cap,h1,h2,h3,by rw[fT,C_],λhn=> ?_⟩;obtain⟨b,off,cs,T,fz,e1,e2,e3⟩:=h4 (λe=>hn (by simpa using congrArg List.length e));exact⟨b,off,cs,T,fz,e1,e2,λi hi=>e3 i aB⟩
theorem aR.toI{n:Nat}(h:aR 1 H v n (xs.map (Value.int k))):aT k H v xs:=by
 obtain⟨a,cap,h1,h2,h3,h4,h5⟩:=h;rw[fT,C_]at h4;subst h4;refine⟨a,cap,by rw[fT];exact h1,by rw[fT];exact h2,h3,λhn=> ?_⟩;obtain⟨b,off,cs,T,fz,e1,e2,e3⟩:=h5 (λe=>hn (by rw[List.length_eq_zero_iff.1 e];rfl));exact⟨b,off,cs,T,fz,e1,e2,λi hi=>e3 i (by rw[fT]at hi;omega)⟩
theorem aT.dropR(h:aT k H v xs){m:Nat}(hm:m≤xs.length):aT k H (Go.Vc.dropR v m 1) (xs.drop m):=by
 have:=aR.dropR h.toS hm;rw[C_,←List.map_drop]at this;exact this.toI
section
variable {P:Program} {C:Cx} {env:cR} {V:HV} {σ:aY} {x y z:Operand} {T E t:TypeId} {dst:Option Nat} {pos:String} {af:Array Edge} {g:Option (Nat×Bool)}
theorem lT{n s b off r:Nat}{i j:Int}{kk:IntKind}(hu:P.underlying T=some (.array n E))(hS:eF P E s)(hx:ev env x= .pointer (some ⟨b,off,none⟩))(hy:ev env y= .int kk j)(e:j=i)(h0:0≤i)(h1:i<n)(hr:off+i.toNat*s=r):
 QV P C ⟨dst,.indexAddr T x y,t,pos,af,g⟩ env V σ (.pointer (some ⟨b,r,none⟩)):=by subst e;exact GC hu hS hx hy h0 h1 hr
end
end Go.Vc
namespace Go.Proofs.YtbchkopkgpfkgaaGreat
open Go Go.Vc
variable{A X:List Int}{F:Fl}{V:HV}{a:Value}{vs:List Vr}
def cn(vs:List Vr)(k i:Int):Nat:=(dZ (vs.take i.toNat) k).length
section
variable {vs:List Vr} {k i:Int}
theorem ae2(h0:0≤i)(h1:i<vs.length)(h:(vr vs i).kd=k):cn vs k (i+1)=cn vs k i+1:=by unfold cn;rw[NI h0 h1 h,dD];rfl
theorem HX(h0:0≤i)(h1:i<vs.length)(h:¬(vr vs i).kd=k):cn vs k (i+1)=cn vs k i:=by unfold cn;rw[OX h0 h1 h]
theorem CO:cn vs k 0=0:=rfl
theorem H9(h:(vs.length:Int)≤i):cn vs k i=(dZ vs k).length:=by unfold cn;rw[lJ aB]
theorem SX(h0:0≤i)(h1:i<vs.length)(h:(vr vs i).kd=k):dZ vs k=dZ (vs.take i.toNat) k++vr vs i::dZ (vs.drop (i+1).toNat) k:=by
 have e:vs=vs.take i.toNat++vr vs i::vs.drop (i+1).toNat:=by rw[←JE h0 h1,GP]
 have:=congrArg (λl=>dZ l k) e;unfold dZ at this⊢;simp only[List.filter_append]at this;rw[List.filter_cons_of_pos vB]at this;exact this
theorem PD(h0:0≤i)(h1:i<vs.length)(h:(vr vs i).kd=k):cn vs k i<(dZ vs k).length:=by
 rw[SX h0 h1 h];unfold cn;simp
theorem avI(h0:0≤i)(h1:i<vs.length)(h:(vr vs i).kd=k):vr (dZ vs k) (cn vs k i)=vr vs i:=by
 unfold vr at*;rw[bX,iD,SX h0 h1 h];unfold cn;rw[qN (cV _),ED];rfl
end
theorem nY{c:Nat}{x:Int}(h:0≤x):gi (A.drop c) x=gi A (c+x):=by
 unfold gi;rw[bX,bX,kO,show((c:Int)+x).toNat=c+x.toNat by omega]
structure rW (vs:List Vr) (A B C:List Int):Prop where
 l1:A.length=(dZ vs 1).length
 l2:B.length=(dZ vs 2).length
 l3:C.length=(dZ vs 3).length
 r1:bF (dZ vs 1) A
 r2:bF (dZ vs 2) B
 r3:bF (dZ vs 3) C
section
variable {vs:List Vr} {A B C:List Int} {i:Int}
theorem AD:(kD vs A B C).length=vs.length:=by simp[kD]
theorem S9(h0:0≤i)(h1:i<vs.length):gi (kD vs A B C) i=pT vs A B C i:=by
 unfold kD gi;rw[bX,iZ,EF aB];show pT vs A B C (i.toNat:Nat)=_;rw[show((i.toNat:Nat):Int)=i by omega]
theorem UY(h:(vr vs i).kd=0):pT vs A B C i=(vr vs i).ini:=aK h
theorem E_(h:(vr vs i).kd=1):pT vs A B C i=gi (A.drop (cn vs 1 i)) 0:=by unfold pT;rw[aC aB,h,nY aB];rfl
theorem FG(h:(vr vs i).kd=2):pT vs A B C i=gi (B.drop (cn vs 2 i)) 0:=by unfold pT;rw[aC aB,h,nY aB];rfl
theorem F2(h:(vr vs i).kd=3):pT vs A B C i=gi (C.drop (cn vs 3 i)) 0:=by unfold pT;rw[aC aB,h,nY aB];rfl
theorem W_{k:Int}{X:List Int}(hl:X.length=(dZ vs k).length)(hr:bF (dZ vs k) X)(h0:0≤i)(h1:i<vs.length)(h:(vr vs i).kd=k):
  cn vs k i<X.length∧(vr vs i).lo≤gi (X.drop (cn vs k i)) 0∧gi (X.drop (cn vs k i)) 0≤(vr vs i).hi:=by
 have a:=PD h0 h1 h;have b:=hr (cn vs k i) aB aB;rw[avI h0 h1 h]at b;rw[nY aB,show(cn vs k i:Int)+0=cn vs k i by omega];exact⟨aB,b⟩
theorem RC(hV:dO vs)(hI:rW vs A B C):bF vs (kD vs A B C):=λi h0 h1=>by
 rw[S9 h0 h1];have hk:=JV (hV.each i h0 h1).2.2.1;rcases hk with e|e|e|e
 rw[UY e];exact(aaF (hV.each i h0 h1).2.2.2.2).1 e;rw[E_ e];exact(W_ hI.l1 hI.r1 h0 h1 e).2;rw[FG e];exact(W_ hI.l2 hI.r2 h0 h1 e).2;rw[F2 e];exact(W_ hI.l3 hI.r3 h0 h1 e).2
end
theorem aT.lstep{k i:Int}(h:aT .i64 V a (X.drop (cn vs k i)))(hlt:cn vs k i<X.length)(h0:0≤i)(h1:i<vs.length)(e:(vr vs i).kd=k):aT .i64 V (dropR a (1:Int).toNat 1) (X.drop (cn vs k (i+1))):=by
 have:=aT.dropR h (m:=1) HY;rw[List.drop_drop]at this;rw[ae2 h0 h1 e];exact this
theorem aT.lsame{k i:Int}(h:aT .i64 V a (X.drop (cn vs k i)))(h0:0≤i)(h1:i<vs.length)(e:¬(vr vs i).kd=k):aT .i64 V a (X.drop (cn vs k (i+1))):=by rw[HX h0 h1 e];exact h
section
variable {F:Fl} {xs:List Int} {i:Int}
end
theorem HP{B C:List Int}(hV:gI F)(hI:rW F.vs A B C):i_ F ⟨kD F.vs A B C,[],0⟩ (cJ F.bd) (cG F.bd):=
 ⟨AD,RC hV.vs hI,by have:=hV.uO;show((0:Nat):Int)+_≤8;omega,eL _,by have:=hV.uT;show(0:Int)+_≤_;omega,λ_ h=>by cases h⟩
theorem axT{B C:List Int}(hV:gI F)(hI:rW F.vs A B C):i_ F (qC F A B C) 0 0:=
 vQ hV.vs hV.bd 0 0 _ (λ_=>rfl) (eL _) (eL _) (by rw[Int.add_zero,Int.add_zero];exact HP hV hI)
end Go.Proofs.YtbchkopkgpfkgaaGreat
