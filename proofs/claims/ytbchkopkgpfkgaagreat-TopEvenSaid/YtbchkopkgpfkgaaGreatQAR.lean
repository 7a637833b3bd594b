import Derived.WalkKit
import Derived.TacticsInMore
import Derived.LoopNIn
import Derived.LoopIn
import Derived.Test.YtbchkopkgpfkgaaGreatQAQ
set_option linter.unusedVariables false
set_option linter.unusedSimpArgs false
set_option maxRecDepth 100000
set_option maxHeartbeats 4000000
namespace Go.Proofs.YtbchkopkgpfkgaaGreat
open Go Go.RowKit Go.Vc
variable{Bs b cap:Nat}{V0:HV}{c:Nat→Nat→Value}{e:Nat→Array Value}{p:Option Addr}{v:Value}{w:World}{xs:List Int}
attribute [local go_sem] Oper.semAt_some
def RdI(Bs b off n cap:Nat)(xs:List Int)(W:World):Prop:=
 W.cell? ⟨Bs,0,none⟩=some (.slice (some ⟨b,off,none⟩) n cap)∧∀j,j<n→W.cell? ⟨b,off+j,none⟩=some (.int .i64 (xs[j]?.getD 0))
def ao1(n:Nat)(xs:List Int)(k:Nat):Array Value:= #[.int .i64 ((n:Int)-1-k),.int .i64 (xs[n-1-k]?.getD 0)]
theorem aF0{off n:Nat}(hreach:n*8≤140737488351232):BR Tryz.prog 208 #[.pointer (some ⟨Bs,0,none⟩)] n (ao1 n xs) (RdI Bs b off n cap xs):=by
 intro l J W hRd hAl hY h0;refine callsIn_of_wp Tryz.func208 rfl trivial ?_ rfl;simp only[Tryz.ntmps208,A_,l4,xP,Nat.reduceAdd,Nat.reduceSub,XU,YS,X_,XQ,xR,GO];obtain⟨hBs,hc⟩:=hRd 0 W h0
 gi_wp2
 gi_loopw [3] (λi wr=>∃k:Nat,k≤n∧i= .int .i64 ((n:Int)-1-k)∧J k wr) (λi _=>(intOf i+1).toNat)
 case atStart=>exact⟨0,kE _,bK,h0⟩
 case round=>
  obtain⟨k,hk,rfl,hJs⟩:=hrel;obtain⟨hBs,hc⟩:=hRd k _ hJs;by_cases hlt:k<n
  ·obtain⟨m,hm⟩:∃m:Nat,(n:Int)-1-k=m:=⟨n-1-k,aB⟩
   have hmn:m<n:=aB;have hmi:(m:Int)<(n:Int):=aB;have hc1:=hc m hmn;obtain⟨fn,tmps,assign,body,hy,hR⟩:=hY k _ hlt hJs;rw[ao1,show n-1-k=m by omega,hm]at hy;rw[hm]
   gi_wp2
   refine hR.mono ?_;rintro e W3 ⟨rfl,hJ3⟩
   gi_wp2
   go_roundw
   case rel=>exact⟨k+1,aB,by rw[show(n:Int)-1-((k+1:Nat):Int)=(m:Int)-1 by omega],hJ3⟩
   case measure=>(simp[intOf]<;>omega)
  ·obtain rfl:k=n:=aB
   gi_wp2
   go_end0
   exact⟨⟨_,rfl⟩,hJs⟩
theorem akA:BR Tryz.prog 208 #[.pointer (some ⟨Bs,0,none⟩)] 0 e (λW=>W.cell? ⟨Bs,0,none⟩=some (.slice p 0 cap)):=by
 intro l J W hRd hAl hY h0;refine callsIn_of_wp Tryz.func208 rfl trivial ?_ rfl;simp only[Tryz.ntmps208,A_,l4,xP,Nat.reduceAdd,Nat.reduceSub,XU,YS,X_,XQ,xR,GO];have hBs:=hRd 0 W h0
 gi_wp2
 gi_loopw [3] (λi wr=>i= .int .i64 (-1)∧J 0 wr) (λi _=>(intOf i+1).toNat)
 case atStart=>exact⟨rfl,h0⟩
 case round=>
  obtain⟨rfl,hJs⟩:=hrel
  gi_wp2
  go_end0
  exact⟨⟨_,rfl⟩,hJs⟩
def RdE(Bs b off n cap:Nat)(c:Nat→Nat→Value)(W:World):Prop:=
 W.cell? ⟨Bs,0,none⟩=some (.slice (some ⟨b,off,none⟩) n cap)∧∀j,j<n→∀q,q<13→W.cell? ⟨b,off+j*13+q,none⟩=some (c j q)
def aq5(n:Nat)(c:Nat→Nat→Value)(k:Nat):Array Value:= #[.int .i64 ((n:Int)-1-k),.agg #[c (n-1-k) 0,c (n-1-k) 1,c (n-1-k) 2,c (n-1-k) 3,c (n-1-k) 4,c (n-1-k) 5,c (n-1-k) 6,c (n-1-k) 7,c (n-1-k) 8,c (n-1-k) 9,c (n-1-k) 10,c (n-1-k) 11,c (n-1-k) 12]]
theorem aFu{off n:Nat}(hreach:n*104≤140737488351232):BR Tryz.prog 205 #[.pointer (some ⟨Bs,0,none⟩)] n (aq5 n c) (RdE Bs b off n cap c):=by
 intro l J W hRd hAl hY h0;refine callsIn_of_wp Tryz.func205 rfl trivial ?_ rfl;simp only[Tryz.ntmps205,A_,l4,xP,Nat.reduceAdd,Nat.reduceSub,XU,YS,X_,XQ,xR,GO];obtain⟨hBs,hc⟩:=hRd 0 W h0
 gi_wp2
 gi_loopw [3] (λi wr=>∃k:Nat,k≤n∧i= .int .i64 ((n:Int)-1-k)∧J k wr) (λi _=>(intOf i+1).toNat)
 case atStart=>exact⟨0,kE _,bK,h0⟩
 case round=>
  obtain⟨k,hk,rfl,hJs⟩:=hrel;obtain⟨hBs,hc⟩:=hRd k _ hJs;by_cases hlt:k<n
  ·obtain⟨m,hm⟩:∃m:Nat,(n:Int)-1-k=m:=⟨n-1-k,aB⟩
   have hmn:m<n:=aB;have hmi:(m:Int)<(n:Int):=aB;have c0:=hc m hmn 0 aB;have c1:=hc m hmn 1 aB;have c2:=hc m hmn 2 aB;have c3:=hc m hmn 3 aB;have c4:=hc m hmn 4 aB;have c5:=hc m hmn 5 aB;have c6:=hc m hmn 6 aB;have c7:=hc m hmn 7 aB;have c8:=hc m hmn 8 aB;have c9:=hc m hmn 9 aB;have c10:=hc m hmn 10 aB;have c11:=hc m hmn 11 aB;have c12:=hc m hmn 12 aB;rw[Nat.add_zero]at c0;clear hc;obtain⟨fn,tmps,assign,body,hy,hR⟩:=hY k _ hlt hJs;rw[aq5,show n-1-k=m by omega,hm]at hy;rw[hm]
   gi_wp2
   refine hR.mono ?_;rintro e W3 ⟨rfl,hJ3⟩
   gi_wp2
   go_roundw
   case rel=>exact⟨k+1,aB,by rw[show(n:Int)-1-((k+1:Nat):Int)=(m:Int)-1 by omega],hJ3⟩
   case measure=>(simp[intOf]<;>omega)
  ·obtain rfl:k=n:=aB
   gi_wp2
   go_end0
   exact⟨⟨_,rfl⟩,hJs⟩
theorem amE:BR Tryz.prog 205 #[.pointer (some ⟨Bs,0,none⟩)] 0 e (λW=>W.cell? ⟨Bs,0,none⟩=some (.slice p 0 cap)):=by
 intro l J W hRd hAl hY h0;refine callsIn_of_wp Tryz.func205 rfl trivial ?_ rfl;simp only[Tryz.ntmps205,A_,l4,xP,Nat.reduceAdd,Nat.reduceSub,XU,YS,X_,XQ,xR,GO];have hBs:=hRd 0 W h0
 gi_wp2
 gi_loopw [3] (λi wr=>i= .int .i64 (-1)∧J 0 wr) (λi _=>(intOf i+1).toNat)
 case atStart=>exact⟨rfl,h0⟩
 case round=>
  obtain⟨rfl,hJs⟩:=hrel
  gi_wp2
  go_end0
  exact⟨⟨_,rfl⟩,hJs⟩
theorem sT{P:Program}{g n:Nat}{lb:Array Value}{R R':World→Prop}(h:BR P g lb n e R)(hr:∀w,R' w→R w):BR P g lb n e R':=
 λl J W h1 h2 h3 h4=>h l J W (λi W hj=>hr _ (h1 i W hj)) h2 h3 h4
theorem MU{T:Nat}{fz:Nat×Nat}(h:w.heap[b]? =some (.cells [v].toArray T fz)):w.cell? ⟨b,0,none⟩=some v:=by simp[World.cell?,h]
theorem ZV{V:HV}(h:Cells V b [v])(hs:Vc.bR V (hv w)):w.cell? ⟨b,0,none⟩=some v:=by
 obtain⟨T,fz,e⟩:=h;have hh:w.heap[b]? =some (.cells [v].toArray T fz):=hs _ _ e;simp[World.cell?,hh]
theorem itI(h:aT .i64 V0 v xs)(hb:xs.length*8≤140737488351232):
  BR Tryz.prog 208 #[.pointer (some ⟨Bs,0,none⟩)] xs.length (ao1 xs.length xs) (λw=>∃V,aT .i64 V v xs∧w.cell? ⟨Bs,0,none⟩=some v∧Vc.bR V (hv w)):=by
 obtain⟨a,cap,e,h1,h2,h3⟩:=h;rw[fT]at e;by_cases hn:xs=[];subst hn;subst e;exact sT akA λw ⟨V,_,hB,hs⟩=>hB;obtain⟨b,off,cs,T,fz,rfl,_,_⟩:=h3 QI;subst e;refine sT (aF0 (xs:=xs) hb) λw ⟨V,hI,hB,hs⟩=>⟨hB,λj hj=> ?_⟩;obtain⟨a,cap,e,_,_,h3⟩:=hI;obtain⟨b',off',cs',T',fz',e',hV,hc⟩:=h3 QI;rw[e']at e;obtain⟨e1,-⟩:(⟨b,off,none⟩:Addr)=⟨b',off',none⟩∧True:=by injection e with e;exact⟨by injection e,i_⟩
 cases e1;have hh:w.heap[b]? =some (.cells cs' T' fz'):=hs _ _ hV;have:=hc j (by simpa using hj);simp only[World.cell?,hh];rw[this,iZ];simp[hj]
def cE(xs:List Value)(i q:Nat):Value:=xs[i*13+q]?.getD undef
theorem itE{xs:List Value}{m:Nat}(h:aR 13 V0 v m xs)(hb:m*104≤140737488351232):
  BR Tryz.prog 205 #[.pointer (some ⟨Bs,0,none⟩)] m (aq5 m (cE xs)) (λw=>∃V,aR 13 V v m xs∧w.cell? ⟨Bs,0,none⟩=some v∧Vc.bR V (hv w)):=by
 obtain⟨a,cap,e,h1,h2,hl,h3⟩:=h;by_cases hn:m=0;subst hn;subst e;exact sT amE λw ⟨V,_,hB,hs⟩=>hB;obtain⟨b,off,cs,T,fz,rfl,_,_⟩:=h3 hn;subst e;refine sT (aFu (c:=cE xs) hb) λw ⟨V,hI,hB,hs⟩=>⟨hB,λj hj q hq=> ?_⟩;obtain⟨a,cap,e,_,_,_,h3⟩:=hI;obtain⟨b',off',cs',T',fz',e',hV,hc⟩:=h3 hn;rw[e']at e;obtain⟨e1,-⟩:(⟨b,off,none⟩:Addr)=⟨b',off',none⟩∧True:=by injection e with e;exact⟨by injection e,i_⟩
 cases e1;have hh:w.heap[b]? =some (.cells cs' T' fz'):=hs _ _ hV;have hlt:j*13+q<m*13:=aB;have:=hc (j*13+q) hlt;simp only[World.cell?,hh];rw[show off+j*13+q=off+(j*13+q) by omega,this];unfold cE;rw[dT aB];rfl
end Go.Proofs.YtbchkopkgpfkgaaGreat
namespace Go.Proofs.YtbchkopkgpfkgaaGreat.Dd
open Go Go.RowKit Go.Vc
variable{Bs:Nat}{e:Nat→Array Value}{v:Value}{xs:List P2}
attribute [local go_sem] Oper.semAt_some
def anO(xs:List P2)(k:Nat):Array Value:= #[.agg #[.int .i64 (xs[k]?.getD ⟨0,0⟩).a,.int .i64 (xs[k]?.getD ⟨0,0⟩).b]]
def RdP(Bs b off n cap:Nat)(xs:List P2)(W:World):Prop:=
 W.cell? ⟨Bs,0,none⟩=some (.slice (some ⟨b,off,none⟩) n cap)∧∀j,j<n→W.cell? ⟨b,off+j*2,none⟩=some (.int .i64 (xs[j]?.getD ⟨0,0⟩).a)∧W.cell? ⟨b,off+j*2+1,none⟩=some (.int .i64 (xs[j]?.getD ⟨0,0⟩).b)
theorem aGM{b off n cap:Nat}(hreach:n*16≤140737488351232):BR Tryz.prog 204 #[.pointer (some ⟨Bs,0,none⟩)] n (anO xs) (RdP Bs b off n cap xs):=by
 intro l J W hRd hAl hY h0;refine callsIn_of_wp Tryz.func204 rfl trivial ?_ rfl;simp only[Tryz.ntmps204,A_,l4,xP,Nat.reduceAdd,Nat.reduceSub,XU,YS,X_,XQ,xR,GO];obtain⟨hBs,hc⟩:=hRd 0 W h0
 gi_wp2
 gi_loopw [7] (λi wr=>∃k:Nat,k≤n∧i= .int .i64 k∧J k wr) (λi _=>n-(intOf i).toNat)
 case atStart=>exact⟨0,kE _,rfl,h0⟩
 case round=>
  obtain⟨k,hk,rfl,hJs⟩:=hrel;obtain⟨hBs,hc⟩:=hRd k _ hJs;by_cases hlt:k<n
  ·have hc1:=(hc k hlt).1
   have hc2:=(hc k hlt).2;clear hc;obtain⟨o,ho⟩:∃o:Obj,o= .cells #[.int .i64 (xs[k]?.getD ⟨0,0⟩).a,.int .i64 (xs[k]?.getD ⟨0,0⟩).b] 162:=⟨_,rfl⟩;have hJ2:J k (wr.alloc o):=by rw[ho];exact hAl _ _ _ _ hJs
   obtain⟨fn,tmps,assign,body,hy,hR⟩:=hY k _ hlt hJ2;rw[anO]at hy;rw[ho]at hy hR
   gi_wp2
   refine hR.mono ?_;rintro e W3 ⟨rfl,hJ3⟩
   gi_wp2
   go_roundw
   case rel=>exact⟨k+1,aB,bK,hJ3⟩
   case measure=>(simp[intOf]<;>omega)
  ·obtain rfl:k=n:=aB
   gi_wp2
   go_end0
   exact⟨⟨_,rfl⟩,hJs⟩
theorem aj9{cap:Nat}{p:Option Addr}:BR Tryz.prog 204 #[.pointer (some ⟨Bs,0,none⟩)] 0 e (λW=>W.cell? ⟨Bs,0,none⟩=some (.slice p 0 cap)):=by
 intro l J W hRd hAl hY h0;refine callsIn_of_wp Tryz.func204 rfl trivial ?_ rfl;simp only[Tryz.ntmps204,A_,l4,xP,Nat.reduceAdd,Nat.reduceSub,XU,YS,X_,XQ,xR,GO];have hBs:=hRd 0 W h0
 gi_wp2
 gi_loopw [7] (λi wr=>i= .int .i64 0∧J 0 wr) (λi _=>0-(intOf i).toNat)
 case atStart=>exact⟨rfl,h0⟩
 case round=>
  obtain⟨rfl,hJs⟩:=hrel
  gi_wp2
  go_end0
  exact⟨⟨_,rfl⟩,hJs⟩
theorem sT{P:Program}{g n:Nat}{lb:Array Value}{R R':World→Prop}(h:BR P g lb n e R)(hr:∀w,R' w→R w):BR P g lb n e R':=
 λl J W h1 h2 h3 h4=>h l J W (λi W hj=>hr _ (h1 i W hj)) h2 h3 h4
theorem ZV{V:HV}{w:World}{b:Nat}(h:Cells V b [v])(hs:Vc.bR V (hv w)):w.cell? ⟨b,0,none⟩=some v:=by
 obtain⟨T,fz,e⟩:=h;have hh:w.heap[b]? =some (.cells [v].toArray T fz):=hs _ _ e;simp[World.cell?,hh]
theorem itP{V0:HV}(h:s7 V0 v xs)(hb:xs.length*16≤140737488351232):
  BR Tryz.prog 204 #[.pointer (some ⟨Bs,0,none⟩)] xs.length (anO xs) (λw=>∃V,s7 V v xs∧Cells V Bs [v]∧Vc.bR V (hv w)):=by
 obtain⟨a,cap,e,h1,h2,h3,h4⟩:=h;by_cases hn:xs.length=0;have hz:=rS hn;subst hz;subst e;exact sT aj9 λw ⟨V,_,hB,hs⟩=>ZV hB hs;obtain⟨b,off,cs,T,fz,rfl,_,_⟩:=h4 hn;subst e;refine sT (aGM (xs:=xs) hb) λw ⟨V,hI,hB,hs⟩=>⟨ZV hB hs,λj hj=> ?_⟩;obtain⟨a,cap,e,_,_,_,h3⟩:=hI;obtain⟨b',off',cs',T',fz',e',hV,hc⟩:=h3 hn;rw[e']at e;obtain⟨e1,-⟩:(⟨b,off,none⟩:Addr)=⟨b',off',none⟩∧True:=by injection e with e;exact⟨by injection e,i_⟩
 cases e1;have hh:w.heap[b]? =some (.cells cs' T' fz'):=hs _ _ hV;have g:=QU xs j hj;have c0:=congrArg (λl=>l[0]?) g;have c1:=congrArg (λl=>l[1]?) g;simp only[iH,kO]at c0 c1;rw[aK aB]at c0 c1;have d0:=hc (j*2+0) aB;have d1:=hc (j*2+1) aB;rw[c0]at d0;rw[c1]at d1;have e:xs[j]?.getD ⟨0,0⟩=xs.getD j ⟨0,0⟩:=(bX ..).symm;rw[e];constructor;simp only[World.cell?,hh];exact d0;simp only[World.cell?,hh];exact d1
theorem ax3{j:Nat}(hj:j<xs.length):q6 (xs.take j)++ [.int .i64 (xs[j]?.getD ⟨0,0⟩).a,.int .i64 (xs[j]?.getD ⟨0,0⟩).b]=q6 (xs.take (j+1)):=by
 rw[t7,dT hj];show _=q6 (xs.take j++ [xs[j]]);unfold q6;rw[sV];simp[OH]
end Go.Proofs.YtbchkopkgpfkgaaGreat.Dd
