import Derived.Laws.Strings
import Derived.Test.YtbchkopkgpfkgaaGreatQAG
set_option linter.unusedVariables false
set_option linter.unusedSimpArgs false
set_option maxHeartbeats 2000000
noncomputable section
namespace Go.Vc
open Go Go.RowKit
variable{f:Nat→List Value}{s:Nat}
theorem aEd{a b:ByteArray}(h:a.data.toList=b.data.toList):a=b:=by
 obtain⟨⟨x⟩⟩:=a;obtain⟨⟨y⟩⟩:=b;simp at h;rw[h]
theorem DX(hf:∀i,(f i).length=s):∀n,((List.range n).flatMap f).length=n*s
 |0=>bK
 |n+1=>by rw[sP,sV,dD,DX hf n];simp[hf];rw[o5];omega
theorem amI(hf:∀i,(f i).length=s):∀(n i j:Nat),i<n→j<s→((List.range n).flatMap f)[i*s+j]? =(f i)[j]?
 |0,i,j,hi,_=>by omega
 |n+1,i,j,hi,hj=>by
  have hl:=DX hf n;rw[sP,sV];by_cases e:i<n;have hlt:(i+1)*s≤n*s:=vG s e;rw[o5,CK]at hlt;rw[oR aB];exact amI hf n i j e hj;have:i=n:=aB
  subst this;rw[qN aB,hl,show i*s+j-i*s=j by omega];simp
theorem Z_(hf:∀i,(f i).length=s){n i o m:Nat}(hi:i<n)(ho:o+m≤s):(((List.range n).flatMap f).drop (i*s+o)).take m=((f i).drop o).take m:=by
 apply List.ext_getElem?;intro j;rw[iH,iH];split;rw[kO,kO,HI,amI hf n i (o+j) hi aB];rfl
theorem N7(hf:∀i,(f i).length=s){n i:Nat}(hi:i<n):(((List.range n).flatMap f).drop (i*s)).take s=f i:=by
 have:=Z_ hf (o:=0) (m:=s) hi aB;have h2:(f i).take s=f i:=lJ (by rw[hf];exact cV _);rw[Nat.add_zero,List.drop_zero,h2]at this;exact this
section
variable {P:Program} {C:Cx} {N:Nat} {K:K3} {Q:Ex→K3} {env:cR} {V:HV} {σ:aY} {ops:Array Oper} {rest:List Oper} {w:World}
variable {d k b n s:Nat} {dst:Option Nat} {x y z:Operand} {t T T' T2 E:TypeId} {pos:String} {af:Array Edge} {g:Option (Nat×Bool)} {v:Value} {xs:List Value}
theorem JU{i:Int}{o m:Nat}{vs:List Value}(hA:r_ P T m)(hx:ev env x=C8 v i s o)(hv:aR s V v n xs)(h0:0≤i)(h1:i<n)(ho:o+m≤s)(hs:(xs.drop (i.toNat*s+o)).take m=vs):QV P C ⟨dst,.load T x,t,pos,af,g⟩ env V σ (.agg vs.toArray):=ldX hA hx (λ_ m=>hv.mono m.view) h0 h1 ho hs
theorem A8{a c:ByteArray}{t2:TypeId}(hx:ev env x= .string a)(hy:ev env y= .string c):QV P C ⟨dst,.binOp .eql T x y t2,t,pos,af,g⟩ env V σ (.bool (decide (a=c))):=cS λw _=>by
 have e:(a.toList==c.toList)=decide (a=c):=by
  by_cases h:a=c;subst h;simp;rw[decide_eq_false h];exact beq_eq_false_iff_ne.2 λq=>h (by rw[ByteArray.toList_eq,ByteArray.toList_eq]at q;exact aEd q)
 simp[execOp,hx,hy,eqGuard,binOp,Op.stringOp,e]
theorem wV{a:ByteArray}{at_:TypeId}(hT:P.underlying at_=some .string)(hx:ev env x= .string a):QV P C ⟨dst,.call {callee:=.builtin .len,args:= #[x],argTypes:= #[at_]},t,pos,af,g⟩ env V σ (.int .i64 a.size):=cS λw _=>by
 simp[execOp,resolve,invoke,builtin,Builtin.len_,hx,underlying,hT,goInt]
end
end Go.Vc
namespace Go.Proofs.YtbchkopkgpfkgaaGreat
open Go Go.Vc
variable{H H':HV}{i:Int}{o:Nat}{u v:Value}
inductive Tm where
 |mk (op n:Int) (kids:List Tm)
def Tm.op:Tm→Int| .mk o _ _=>o
def Tm.n:Tm→Int| .mk _ n _=>n
def Tm.kids:Tm→List Tm| .mk _ _ k=>k
abbrev tm0:Tm:=.mk 0 0 []
abbrev tm(l:List Tm)(i:Int):Tm:=l.getD i.toNat tm0
inductive St where
 |mk (dk cost var n:Int) (tm:Tm) (thn els:List St) (bds:List Int)
def St.dk:St→Int| .mk d _ _ _ _ _ _ _=>d
def St.cost:St→Int| .mk _ c _ _ _ _ _ _=>c
def St.var:St→Int| .mk _ _ v _ _ _ _ _=>v
def St.n:St→Int| .mk _ _ _ n _ _ _ _=>n
def St.tm:St→Tm| .mk _ _ _ _ t _ _ _=>t
def St.thn:St→List St| .mk _ _ _ _ _ l _ _=>l
def St.els:St→List St| .mk _ _ _ _ _ _ l _=>l
def St.bds:St→List Int| .mk _ _ _ _ _ _ _ b=>b
abbrev st0:St:=.mk 0 0 0 0 tm0 [] [] []
abbrev st(l:List St)(i:Int):St:=l.getD i.toNat st0
structure Vr where
 nm:ByteArray
 kd:Int
 lo:Int
 hi:Int
 ini:Int
abbrev vr0:Vr:=⟨⟨#[]⟩,0,0,0,0⟩
abbrev vr(l:List Vr)(i:Int):Vr:=l.getD i.toNat vr0
structure Ht where
 nm:ByteArray
 lo:Int
 hi:Int
 tm:Tm
abbrev L3:Ht:=⟨⟨#[]⟩,0,0,tm0⟩
abbrev ht(l:List Ht)(i:Int):Ht:=l.getD i.toNat L3
structure Fl where
 vs:List Vr
 hs:List Ht
 bd:List St
def tmc(kv:List Value)(l:List Tm)(i:Nat):List Value:=[.int .i64 (tm l i).op,.int .i64 (tm l i).n,gv kv i]
def Z9(kv:List Value)(l:List Tm):List Value:=(List.range l.length).flatMap (tmc kv l)
inductive eJ (H:HV):Value→List Tm→Prop
 |mk {v:Value} {l:List Tm} (kv:List Value) (sl:aR 3 H v l.length (Z9 kv l)) (at_:∀i:Int,0≤i→i<l.length→eJ H (gv kv i) (tm l i).kids):eJ H v l
theorem eJ.mono(s:Vc.bR H H'){l:List Tm}(h:eJ H v l):eJ H' v l:=by
 induction h with
 |mk kv sl _ ih=>exact .mk kv (sl.mono s) ih
theorem eJ.one{l:List Tm}(h:eJ H v l):v.oneCell'=true:=by cases h with|mk kv sl _=>exact aR.one sl
theorem eJ.cells{l:List Tm}(h:eJ H v l):v.cells=[v].toArray:=by cases h with|mk kv sl _=>exact aR.cells sl
theorem DZ{kv:List Value}{l:List Tm}(h0:0≤i)(h1:i<l.length):((Z9 kv l).drop (i.toNat*3)).take 3=[.int .i64 (tm l i).op,.int .i64 (tm l i).n,gv kv i]:=by
 have:=N7 (s:=3) (f:=tmc kv l) (λ_=>rfl) (n:=l.length) (i:=i.toNat) aB;rw[Z9,this,tmc,show((i.toNat:Nat):Int)=i by omega]
def stc(kv tv ev bv:List Value)(l:List St)(i:Nat):List Value:=[.int .i64 (st l i).dk,.int .i64 (st l i).cost,.int .i64 (st l i).var,.int .i64 (st l i).n,.int .i64 (st l i).tm.op,.int .i64 (st l i).tm.n,gv kv i,gv tv i,gv ev i,gv bv i]
def FD(kv tv ev bv:List Value)(l:List St):List Value:=(List.range l.length).flatMap (stc kv tv ev bv l)
inductive eO (H:HV):Value→List St→Prop
 |mk {v:Value} {l:List St} (kv tv ev bv:List Value) (sl:aR 10 H v l.length (FD kv tv ev bv l)) (hk:∀i:Int,0≤i→i<l.length→eJ H (gv kv i) (st l i).tm.kids) (ht:∀i:Int,0≤i→i<l.length→eO H (gv tv i) (st l i).thn)
  (he:∀i:Int,0≤i→i<l.length→eO H (gv ev i) (st l i).els) (hb:∀i:Int,0≤i→i<l.length→aT .i64 H (gv bv i) (st l i).bds):eO H v l
theorem eO.mono(s:Vc.bR H H'){l:List St}(h:eO H v l):eO H' v l:=by
 induction h with
 |mk kv tv ev bv sl hk _ _ hb ih1 ih2=>exact .mk kv tv ev bv (sl.mono s) (λi a b=>(hk i a b).mono s) ih1 ih2 (λi a b=>(hb i a b).mono s)
theorem eO.sl{l:List St}(h:eO H v l):∃xs,aR 10 H v l.length xs:=by cases h with|mk kv tv ev bv sl _ _ _ _=>exact⟨_,sl⟩
theorem eO.one{l:List St}(h:eO H v l):v.oneCell'=true:=by cases h with|mk kv tv ev bv sl _ _ _ _=>exact aR.one sl
theorem eO.cells{l:List St}(h:eO H v l):v.cells=[v].toArray:=by cases h with|mk kv tv ev bv sl _ _ _ _=>exact aR.cells sl
abbrev an8(kv tv ev bv:List Value)(l:List St)(i:Int):List Value:=[.int .i64 (st l i).dk,.int .i64 (st l i).cost,.int .i64 (st l i).var,.int .i64 (st l i).n,.int .i64 (st l i).tm.op,.int .i64 (st l i).tm.n,gv kv i,gv tv i,gv ev i,gv bv i]
theorem SD{kv tv ev bv:List Value}{l:List St}(h0:0≤i)(h1:i<l.length):((FD kv tv ev bv l).drop (i.toNat*10)).take 10=an8 kv tv ev bv l i:=by
 have:=N7 (s:=10) (f:=stc kv tv ev bv l) (λ_=>rfl) (n:=l.length) (i:=i.toNat) aB;rw[FD,this,stc,show((i.toNat:Nat):Int)=i by omega]
theorem pJ{kv tv ev bv:List Value}{l:List St}(h0:0≤i)(h1:i<l.length)(ho:o<10)(hu:(an8 kv tv ev bv l i)[o]? =some u):(FD kv tv ev bv l)[i.toNat*10+o]? =some u:=by
 rw[←hu,←SD h0 h1,iH,aK ho,kO]
theorem MR{kv tv ev bv:List Value}{l:List St}{m:Nat}(h0:0≤i)(h1:i<l.length)(ho:o+m≤10):((FD kv tv ev bv l).drop (i.toNat*10+o)).take m=((an8 kv tv ev bv l i).drop o).take m:=by
 have:=Z_ (s:=10) (f:=stc kv tv ev bv l) (λ_=>rfl) (n:=l.length) (i:=i.toNat) (o:=o) (m:=m) aB ho;rw[FD,this,stc,show((i.toNat:Nat):Int)=i by omega]
def KG(l:List Vr)(i:Nat):List Value:=[.string (vr l i).nm,.int .i64 (vr l i).kd,.int .i64 (vr l i).lo,.int .i64 (vr l i).hi,.int .i64 (vr l i).ini]
def xU(l:List Vr):List Value:=(List.range l.length).flatMap (KG l)
def k5(H:HV)(v:Value)(l:List Vr):Prop:=aR 5 H v l.length (xU l)
theorem k5.mono{l:List Vr}(h:k5 H v l)(s:Vc.bR H H'):k5 H' v l:=aR.mono h s
abbrev aBu(l:List Vr)(i:Int):List Value:=[.string (vr l i).nm,.int .i64 (vr l i).kd,.int .i64 (vr l i).lo,.int .i64 (vr l i).hi,.int .i64 (vr l i).ini]
theorem E6{l:List Vr}(h0:0≤i)(h1:i<l.length):((xU l).drop (i.toNat*5)).take 5=aBu l i:=by
 have:=N7 (s:=5) (f:=KG l) (λ_=>rfl) (n:=l.length) (i:=i.toNat) aB;rw[xU,this,KG,show((i.toNat:Nat):Int)=i by omega]
theorem gU{l:List Vr}(h0:0≤i)(h1:i<l.length)(ho:o<5)(hu:(aBu l i)[o]? =some u):(xU l)[i.toNat*5+o]? =some u:=by
 rw[←hu,←E6 h0 h1,iH,aK ho,kO]
def TD(kv:List Value)(l:List Ht)(i:Nat):List Value:=[.string (ht l i).nm,.int .i64 (ht l i).lo,.int .i64 (ht l i).hi,.int .i64 (ht l i).tm.op,.int .i64 (ht l i).tm.n,gv kv i]
def F0(kv:List Value)(l:List Ht):List Value:=(List.range l.length).flatMap (TD kv l)
structure CL (H:HV) (v:Value) (l:List Ht) (kv:List Value):Prop where
 sl:aR 6 H v l.length (F0 kv l)
 hk:∀i:Int,0≤i→i<l.length→eJ H (gv kv i) (ht l i).tm.kids
def Hts(H:HV)(v:Value)(l:List Ht):Prop:=∃kv,CL H v l kv
theorem Hts.mono{l:List Ht}(h:Hts H v l)(s:Vc.bR H H'):Hts H' v l:=by
 obtain⟨kv,h⟩:=h;exact⟨kv,h.sl.mono s,λi a b=>(h.hk i a b).mono s⟩
abbrev aqU(kv:List Value)(l:List Ht)(i:Int):List Value:=[.string (ht l i).nm,.int .i64 (ht l i).lo,.int .i64 (ht l i).hi,.int .i64 (ht l i).tm.op,.int .i64 (ht l i).tm.n,gv kv i]
theorem S6{kv:List Value}{l:List Ht}(h0:0≤i)(h1:i<l.length):((F0 kv l).drop (i.toNat*6)).take 6=aqU kv l i:=by
 have:=N7 (s:=6) (f:=TD kv l) (λ_=>rfl) (n:=l.length) (i:=i.toNat) aB;rw[F0,this,TD,show((i.toNat:Nat):Int)=i by omega]
theorem axS{kv:List Value}{l:List Ht}(h0:0≤i)(h1:i<l.length)(ho:o<6)(hu:(aqU kv l i)[o]? =some u):(F0 kv l)[i.toNat*6+o]? =some u:=by
 rw[←hu,←S6 h0 h1,iH,aK ho,kO]
theorem apA{kv:List Value}{l:List Ht}{m:Nat}(h0:0≤i)(h1:i<l.length)(ho:o+m≤6):((F0 kv l).drop (i.toNat*6+o)).take m=((aqU kv l i).drop o).take m:=by
 have:=Z_ (s:=6) (f:=TD kv l) (λ_=>rfl) (n:=l.length) (i:=i.toNat) (o:=o) (m:=m) aB ho;rw[F0,this,TD,show((i.toNat:Nat):Int)=i by omega]
structure fV (H:HV) (a b c:Value) (F:Fl):Prop where
 v:k5 H a F.vs
 h:Hts H b F.hs
 b:eO H c F.bd
theorem fV.mono{a b c:Value}{F:Fl}(h:fV H a b c F)(s:Vc.bR H H'):fV H' a b c F:=⟨h.v.mono s,h.h.mono s,h.b.mono s⟩
mutual
def Tm.sz:Tm→Int
 | .mk _ _ k=>1+oD k
def oD:List Tm→Int
 | []=>0
 |t::r=>t.sz+oD r
end
mutual
def Tm.dp:Tm→Int
 | .mk _ _ k=>lN k+1
def lN:List Tm→Int
 | []=>0
 |t::r=>if t.dp<lN r then lN r else t.dp
end
mutual
theorem Tm.sz_pos:∀t:Tm,1≤t.sz
 | .mk _ _ k=>by have:=jA k;unfold Tm.sz;omega
theorem jA:∀l:List Tm,0≤oD l
 | []=>eL _
 |t::r=>by have:=t.sz_pos;have:=jA r;unfold oD;omega
end
theorem nT(t:Tm):t.sz=1+oD t.kids:=by cases t;rfl
theorem RX(t:Tm):t.dp=lN t.kids+1:=by cases t;rfl
theorem PW{l:List Tm}{i:Int}(h0:0≤i)(h1:i<l.length):l.take (i.toNat+1)=l.take i.toNat++ [tm l i]:=by
 rw[t7,dT aB];show _=_++ [l.getD i.toNat tm0];rw[bX,dT aB];rfl
theorem Q7:∀a b:List Tm,oD (a++b)=oD a+oD b
 | [],b=>by show oD b=0+_;omega
 |t::r,b=>by show t.sz+oD (r++b)=t.sz+oD r+oD b;rw[Q7 r b];omega
theorem MF{l:List Tm}{i:Int}(h0:0≤i)(h1:i<l.length):oD (l.take (i.toNat+1))=oD (l.take i.toNat)+(tm l i).sz:=by
 rw[PW h0 h1,Q7];show _+((tm l i).sz+0)=_;omega
theorem aa8(l:List Tm)(n:Nat):oD (l.take n)≤oD l:=by
 have:=Q7 (l.take n) (l.drop n);rw[GP]at this;have:=jA (l.drop n);omega
theorem mR{l:List Tm}{i:Int}(h0:0≤i)(h1:i<l.length):oD (l.take i.toNat)+(tm l i).sz≤oD l:=by
 rw[←MF h0 h1];exact aa8 l _
theorem ajP:∀{l:List Tm} {i:Nat},i<l.length→(l.getD i tm0).dp≤lN l
 |t::r,0,_=>by show t.dp≤if t.dp<lN r then lN r else t.dp;split<;>omega
 |t::r,i+1,h=>by
  have:=ajP (l:=r) (i:=i) vB;show(r.getD i tm0).dp≤if t.dp<lN r then lN r else t.dp
  split<;>omega
theorem N_:∀l:List Tm,0≤lN l
 | []=>eL _
 |t::r=>by have:=N_ r;show 0≤if t.dp<lN r then lN r else t.dp;split<;>omega
theorem XN:∀(l:List Tm) (t:Tm),lN (l++ [t])=if lN l<t.dp then t.dp else lN l
 | [],t=>by
  have:1≤t.dp:=by rw[RX];have:=N_ t.kids;omega
  show(if t.dp<0 then 0 else t.dp)=if 0<t.dp then t.dp else 0
  rw[aC aB,aK aB]
 |a::r,t=>by
  show(if a.dp<lN (r++ [t])then lN (r++ [t])else a.dp)=if(if a.dp<lN r then lN r else a.dp)<t.dp then t.dp else(if a.dp<lN r then lN r else a.dp)
  rw[XN r t];repeat' split
  all_goals omega
theorem apF{l:List Tm}{i:Int}(h0:0≤i)(h1:i<l.length):lN (l.take (i.toNat+1))=if lN (l.take i.toNat)<(tm l i).dp then(tm l i).dp else lN (l.take i.toNat):=by
 rw[PW h0 h1,XN]
section
variable {α:Type} {F:List α→Int} {f:α→Int} {d:α}
theorem mK{l:List α}{i:Int}(h0:0≤i)(h1:i<l.length):l.take (i.toNat+1)=l.take i.toNat++ [l.getD i.toNat d]:=by
 rw[t7,dT aB,bX,dT aB];rfl
theorem R_(h0:F []=0)(hc:∀a r,F (a::r)=f a+F r):∀a b:List α,F (a++b)=F a+F b
 | [],b=>by rw[h0];show F b=0+_;omega
 |t::r,b=>by show F (t::(r++b))=_;rw[hc,hc,R_ h0 hc r b];omega
theorem zL(h0:F []=0)(hc:∀a r,F (a::r)=f a+F r){l:List α}{i:Int}(i0:0≤i)(i1:i<l.length):F (l.take (i.toNat+1))=F (l.take i.toNat)+f (l.getD i.toNat d):=by
 rw[mK (d:=d) i0 i1,R_ h0 hc,hc,h0];omega
theorem alQ(h0:F []=0)(hc:∀a r,F (a::r)=f a+F r)(hf:∀a,0≤f a):∀l:List α,0≤F l
 | []=>by rw[h0];omega
 |t::r=>by rw[hc];have:=hf t;have:=alQ h0 hc hf r;omega
theorem KH(h0:F []=0)(hc:∀a r,F (a::r)=f a+F r)(hf:∀a,0≤f a)(l:List α)(n:Nat):F (l.take n)≤F l:=by
 have:=R_ h0 hc (l.take n) (l.drop n);rw[GP]at this;have:=alQ h0 hc hf (l.drop n);omega
theorem aaG(h0:F []=0)(hc:∀a r,F (a::r)=if f a<F r then F r else f a)(hf:∀a,0≤f a):∀(l:List α) (t:α),F (l++ [t])=if F l<f t then f t else F l
 | [],t=>by
  show F (t::[])=_;rw[hc,h0];have:=hf t;rw[aC aB];split<;>omega
 |a::r,t=>by
  show F (a::(r++ [t]))=_;rw[hc,hc,aaG h0 hc hf r t];repeat' split
  all_goals omega
theorem arJ(h0:F []=0)(hc:∀a r,F (a::r)=if f a<F r then F r else f a)(hf:∀a,0≤f a){l:List α}{i:Int}(i0:0≤i)(i1:i<l.length):
 F (l.take (i.toNat+1))=if F (l.take i.toNat)<f (l.getD i.toNat d)then f (l.getD i.toNat d)else F (l.take i.toNat):=by rw[mK (d:=d) i0 i1,aaG h0 hc hf]
theorem aiT(hc:∀a r,F (a::r)=if f a<F r then F r else f a):∀{l:List α} {i:Nat},i<l.length→f (l.getD i d)≤F l
 |t::r,0,_=>by rw[hc];show f t≤_;split<;>omega
 |t::r,i+1,h=>by
  have:=aiT hc (l:=r) (i:=i) vB;rw[hc];show f (r.getD i d)≤_;split<;>omega
end
mutual
def St.nd:St→Int
 | .mk _ _ _ _ t a b _=>1+t.sz+bN a+bN b
def bN:List St→Int
 | []=>0
 |s::r=>s.nd+bN r
end
theorem mC(s:St):s.nd=1+s.tm.sz+bN s.thn+bN s.els:=by cases s;rfl
mutual
theorem St.nd_pos:∀s:St,2≤s.nd
 | .mk _ _ _ _ t a b _=>by have:=t.sz_pos;have:=dK a;have:=dK b;unfold St.nd;omega
theorem dK:∀l:List St,0≤bN l
 | []=>eL _
 |s::r=>by have:=s.nd_pos;have:=dK r;unfold bN;omega
end
theorem MV{l:List St}{i:Int}(h0:0≤i)(h1:i<l.length):bN (l.take (i.toNat+1))=bN (l.take i.toNat)+(st l i).nd:=zL (f:=St.nd) rfl (λ_ _=>rfl) h0 h1
theorem abB(l:List St)(n:Nat):bN (l.take n)≤bN l:=KH (f:=St.nd) rfl (λ_ _=>rfl) (λs=>by have:=s.nd_pos;omega) l n
theorem qO{l:List St}{i:Int}(h0:0≤i)(h1:i<l.length):bN (l.take i.toNat)+(st l i).nd≤bN l:=by rw[←MV h0 h1];exact abB l _
abbrev bJ(a b:Int):Int:=if a<b then b else a
mutual
def St.dp:St→Int
 | .mk _ _ _ _ _ a b _=>bJ (o6 a) (o6 b)+1
def o6:List St→Int
 | []=>0
 |s::r=>if s.dp<o6 r then o6 r else s.dp
end
theorem avB(s:St):s.dp=bJ (o6 s.thn) (o6 s.els)+1:=by cases s;rfl
mutual
theorem St.dp_pos:∀s:St,1≤s.dp
 | .mk _ _ _ _ _ a b _=>by have:=E0 a;have:=E0 b;unfold St.dp bJ;split<;>omega
theorem E0:∀l:List St,0≤o6 l
 | []=>eL _
 |s::r=>by have:=s.dp_pos;have:=E0 r;unfold o6;split<;>omega
end
theorem anJ{l:List St}{i:Int}(h0:0≤i)(h1:i<l.length):o6 (l.take (i.toNat+1))=if o6 (l.take i.toNat)<(st l i).dp then(st l i).dp else o6 (l.take i.toNat):=
 arJ (f:=St.dp) rfl (λ_ _=>rfl) (λs=>by have:=s.dp_pos;omega) h0 h1
theorem aDb{l:List St}{i:Int}(h0:0≤i)(h1:i<l.length):(st l i).dp≤o6 l:=aiT (f:=St.dp) (λ_ _=>rfl) aB
theorem ay9{l:List Tm}{i:Int}(h0:0≤i)(h1:i<l.length):(tm l i).dp≤lN l:=ajP aB
mutual
def St.td:St→Prop
 | .mk _ _ _ _ t a b _=>t.dp≤12∧C1 a∧C1 b
def C1:List St→Prop
 | []=>True
 |s::r=>s.td∧C1 r
end
theorem ahK(s:St):s.td↔s.tm.dp≤12∧C1 s.thn∧C1 s.els:=by cases s;exact Iff.rfl
theorem IQ{α:Type}{F:List α→Prop}{f:α→Prop}{d:α}(h0:F [])(hc:∀a r,F (a::r)↔f a∧F r):∀{l:List α},F l↔∀i:Int,0≤i→i<l.length→f (l.getD i.toNat d)
 | []=>⟨λ_ i a b=>bM b (by simp;omega),λ_=>h0⟩
 |t::r=>by
  rw[hc,IQ h0 hc (l:=r) (d:=d)];constructor;rintro⟨a,b⟩ i i0 i1;by_cases e:i=0;subst e;exact a;have:=b (i-1) aB (by simp at i1;omega);rwa[show i.toNat=(i-1).toNat+1 by omega];intro h;refine⟨h 0 aB bK,λi i0 i1=> ?_⟩;have:=h (i+1) aB k6;rwa[show(i+1).toNat=i.toNat+1 by omega]at this
theorem Q4{l:List St}:C1 l↔∀i:Int,0≤i→i<l.length→(st l i).td:=IQ (f:=St.td) trivial (λ_ _=>Iff.rfl)
abbrev aX(a b:Int):Int:=if a<b then a else b
mutual
def St.uS:St→Int
 | .mk dk _ _ n _ a b _=>if dk=4 then 1+n*(1+dX a)else 1+bJ (dX a) (dX b)
def dX:List St→Int
 | []=>0
 |s::r=>s.uS+dX r
end
mutual
def St.uO:St→Int
 | .mk dk _ _ n _ a b _=>if dk=1 then 1 else if dk=4 then n*cJ a else bJ (cJ a) (cJ b)
def cJ:List St→Int
 | []=>0
 |s::r=>s.uO+cJ r
end
mutual
def St.uT:St→Int
 | .mk dk c _ n _ a b _=>if dk=4 then n*(c+cG a)else c+bJ (cG a) (cG b)
def cG:List St→Int
 | []=>0
 |s::r=>s.uT+cG r
end
theorem PB(s:St):s.uS=if s.dk=4 then 1+s.n*(1+dX s.thn)else 1+bJ (dX s.thn) (dX s.els):=by cases s;rfl
theorem wH(s:St):s.uO=if s.dk=1 then 1 else if s.dk=4 then s.n*cJ s.thn else bJ (cJ s.thn) (cJ s.els):=by cases s;rfl
theorem B4(s:St):s.uT=if s.dk=4 then s.n*(s.cost+cG s.thn)else s.cost+bJ (cG s.thn) (cG s.els):=by cases s;rfl
mutual
def St.nn:St→Prop
 | .mk _ c _ n _ a b _=>0≤c∧0≤n∧nns a∧nns b
def nns:List St→Prop
 | []=>True
 |s::r=>s.nn∧nns r
end
theorem lL(s:St):s.nn↔0≤s.cost∧0≤s.n∧nns s.thn∧nns s.els:=by cases s;exact Iff.rfl
theorem acN{l:List St}:nns l↔∀i:Int,0≤i→i<l.length→(st l i).nn:=IQ (f:=St.nn) trivial (λ_ _=>Iff.rfl)
mutual
theorem St.ub_nn:∀s:St,s.nn→1≤s.uS∧0≤s.uO∧0≤s.uT
 | .mk dk c _ n _ a b _=>λh=>by
  obtain⟨h1,h2,h3,h4⟩:=h;have x:=eB a h3;have y:=eB b h4;have p:=oN h2 (show 0≤1+dX a by omega);have q:=oN h2 x.2.1;have r:=oN h2 (show 0≤c+cG a by omega);unfold St.uS St.uO St.uT bJ;refine⟨?_,?_,?_⟩;split;omega;split<;>omega;split;omega;split;exact q;split<;>omega;split;exact r;split<;>omega
theorem eB:∀l:List St,nns l→0≤dX l∧0≤cJ l∧0≤cG l
 | [],_=>⟨eL _,eL _,eL _⟩
 |s::r,h=>by
  have x:=St.ub_nn s h.1;have y:=eB r h.2;unfold dX cJ cG;exact⟨aB,aB,aB⟩
end
mutual
def qH:Tm→Int→Int
 | .mk _ _ k,x=>D_ k (x-1)
def D_:List Tm→Int→Int
 | [],x=>x
 |t::r,x=>if 0≤x then D_ r (qH t x)else x
end
theorem aBT(t:Tm)(x:Int):qH t x=D_ t.kids (x-1):=by cases t;rfl
theorem af4{t:Tm}{r:List Tm}{x:Int}:D_ (t::r) x=if 0≤x then D_ r (qH t x)else x:=rfl
theorem aAb{l:List Tm}{x:Int}(h:x<0):D_ l x=x:=by
 cases l with
 |nil=>rfl
 |cons t r=>rw[af4,aC aB]
theorem kU{α:Type}{l:List α}{d:α}{i:Int}(h0:0≤i)(h1:i<l.length):l.drop i.toNat=l.getD i.toNat d::l.drop (i+1).toNat:=by
 rw[show(i+1).toNat=i.toNat+1 by omega,List.drop_eq_getElem_cons aB,bX,dT aB];rfl
theorem ay4{l:List Tm}{i:Int}(h0:0≤i)(h1:i<l.length):l.drop i.toNat=tm l i::l.drop (i+1).toNat:=kU h0 h1
theorem zG{l:List St}{i:Int}(h0:0≤i)(h1:i<l.length):l.drop i.toNat=st l i::l.drop (i+1).toNat:=kU h0 h1
mutual
theorem JC:∀(t:Tm) (x:Int),(-2≤qH t x∨x-1≤qH t x)∧qH t x≤x∧(0≤qH t x→qH t x=x-t.sz)
 | .mk _ _ k,x=>by
  have:=ak_ k (x-1);unfold qH Tm.sz;omega
theorem ak_:∀(l:List Tm) (x:Int),(-2≤D_ l x∨x≤D_ l x)∧D_ l x≤x∧(0≤D_ l x→D_ l x=x-oD l)
 | [],x=>by show(-2≤x∨x≤x)∧x≤x∧(0≤x→x=x-0);omega
 |t::r,x=>by
  rw[af4];split;have a:=JC t x;have b:=ak_ r (qH t x);show _∧_∧(_→_=x-(t.sz+oD r));omega;exact⟨.inr (eL _),eL _,λq=>aB⟩
end
mutual
def L6:St→Int→Int
 | .mk _ _ _ _ t a b bd,x=>if qH t (x-1)<bd.length then-1 else s6 b (s6 a (qH t (x-1)-bd.length))
def s6:List St→Int→Int
 | [],x=>x
 |s::r,x=>if 0≤x then s6 r (L6 s x)else x
end
theorem alX(s:St)(x:Int):L6 s x=if qH s.tm (x-1)<s.bds.length then-1 else s6 s.els (s6 s.thn (qH s.tm (x-1)-s.bds.length)):=by cases s;rfl
theorem VG{s:St}{r:List St}{x:Int}:s6 (s::r) x=if 0≤x then s6 r (L6 s x)else x:=rfl
theorem acZ{l:List St}{x:Int}(h:x<0):s6 l x=x:=by
 cases l with
 |nil=>rfl
 |cons t r=>rw[VG,aC aB]
mutual
theorem asG:∀(s:St) {x:Int},0≤x→-2≤L6 s x∧L6 s x≤x∧(0≤L6 s x→L6 s x≤x-s.nd)
 | .mk _ _ _ _ t a b bd,x,h=>by
  have y:=JC t (x-1);unfold L6 St.nd;split;refine⟨aB,aB,λq=>aB⟩;have p:=DQ a (x:=qH t (x-1)-bd.length) aB;have q:=DQ b (x:=s6 a (qH t (x-1)-bd.length)) aB;omega
theorem DQ:∀(l:List St) {x:Int},-2≤x→-2≤s6 l x∧s6 l x≤x∧(0≤s6 l x→s6 l x≤x-bN l)
 | [],x,h=>by show-2≤x∧x≤x∧(0≤x→x≤x-0);omega
 |s::r,x,h=>by
  rw[VG];split;have a:=asG s (x:=x) aB;have b:=DQ r (x:=L6 s x) aB;show _∧_∧(_→_≤x-(s.nd+bN r));omega;exact⟨h,eL _,λq=>aB⟩
end
def KR:List Ht→Int→Int
 | [],x=>x
 |h::r,x=>KR r (qH h.tm x)
def eV:List Ht→Int
 | []=>0
 |h::r=>h.tm.sz+eV r
theorem CY:∀l:List Ht,0≤eV l
 | []=>eL _
 |h::r=>by have:=h.tm.sz_pos;have:=CY r;unfold eV;omega
theorem ai7:∀(l:List Ht) (x:Int),KR l x≤x∧(0≤KR l x→KR l x=x-eV l)
 | [],x=>⟨eL _,λ_=>by show x=x-0;omega⟩
 |h::r,x=>by
  have a:=JC h.tm x;have b:=ai7 r (qH h.tm x);show KR r _≤x∧(0≤KR r _→KR r _=x-(h.tm.sz+eV r));omega
theorem aw0{l:List Ht}{i:Int}(h0:0≤i)(h1:i<l.length):l.drop i.toNat=ht l i::l.drop (i+1).toNat:=kU h0 h1
theorem M3{l:List Ht}{i:Int}(h0:0≤i)(h1:i<l.length):eV (l.take (i.toNat+1))=eV (l.take i.toNat)+(ht l i).tm.sz:=zL (f:=λh:Ht=>h.tm.sz) rfl (λ_ _=>rfl) h0 h1
theorem aa9(l:List Ht)(n:Nat):eV (l.take n)≤eV l:=KH (f:=λh:Ht=>h.tm.sz) rfl (λ_ _=>rfl) (λs=>by have:=s.tm.sz_pos;omega) l n
theorem alK{l:List Ht}{i:Int}(h0:0≤i)(h1:i<l.length):eV (l.take i.toNat)+(ht l i).tm.sz≤eV l:=by rw[←M3 h0 h1];exact aa9 l _
def C9(F:Fl)(v n:Int):Prop:=¬(v<F.vs.length∨v<F.hs.length)∧0≤KR F.hs (s6 F.bd n)
theorem aAJ{F:Fl}{v n:Int}(h:C9 F v n)(hn:0≤n):F.vs.length≤v∧F.hs.length≤v∧bN F.bd+eV F.hs≤n:=by
 obtain⟨a,b⟩:=h;have x:=ai7 F.hs (s6 F.bd n);have y:=DQ F.bd (x:=n) aB;have z:=CY F.hs;omega
mutual
theorem auB:∀t:Tm,t.dp≤t.sz
 | .mk _ _ k=>by have:=abK k;unfold Tm.dp Tm.sz;omega
theorem abK:∀l:List Tm,lN l≤oD l
 | []=>eL _
 |t::r=>by
  have:=auB t;have:=abK r;have:=t.sz_pos;have:=jA r;unfold lN oD;split<;>omega
end
mutual
theorem aCZ:∀s:St,s.dp≤s.nd
 | .mk _ _ _ _ t a b _=>by
  have:=D7 a;have:=D7 b;have:=t.sz_pos;have:=dK a;have:=dK b;unfold St.dp St.nd bJ;split<;>omega
theorem D7:∀l:List St,o6 l≤bN l
 | []=>eL _
 |s::r=>by
  have:=aCZ s;have:=D7 r;have:=s.nd_pos;have:=dK r;unfold o6 bN;split<;>omega
end
def YA(F:Fl):Prop:=¬((64:Int)<F.vs.length∨(8:Int)<F.hs.length)∧(∀i:Int,0≤i→i<F.hs.length→¬12<(ht F.hs i).tm.dp)∧bN F.bd+eV F.hs≤1024∧o6 F.bd≤12∧C1 F.bd
def uV(e:Int→Int):Nat→Int
 |0=>0
 |n+1=>if uV e n≠0 then uV e n else e n
theorem J3{e:Int→Int}:∀{n:Nat},(∀x:Int,0≤x→x<n→e x=0)→uV e n=0
 |0,_=>rfl
 |n+1,h=>by
  have:=J3 (e:=e) (n:=n) λx a b=>h x a aB;unfold uV;rw[aC (λq=>q this)];exact h n aB aB
theorem ag_{e:Int→Int}:∀{n:Nat},uV e n=0→∀x:Int,0≤x→x<n→e x=0
 |0,_,x,a,b=>aB
 |n+1,h,x,a,b=>by
  unfold uV at h;by_cases q:uV e n=0;rw[aC (λz=>z q)]at h;by_cases w:x=n;subst w;exact h;exact ag_ q x a aB;rw[aK q]at h;exact bM h q
theorem qW{e:Int→Int}{i:Int}(h0:∀x:Int,0≤x→x<i→e x=0)(h1:e i≠0)(i0:0≤i):∀{n:Nat},i<n→uV e n=e i
 |0,h=>by omega
 |n+1,h=>by
  unfold uV;by_cases w:i=n;have z:uV e n=0:=J3 λx a b=>h0 x a aB;rw[aC (λq=>q z),w];have:=qW h0 h1 i0 (n:=n) aB;rw[this,aK h1]
def S8(c:Int):Prop:=97≤c∧c≤122
def YK(c:Int):Prop:=(48≤c∧c≤57)∨c=46∨c=95
def MB(s:ByteArray)(i:Int):Prop:=S8 (jH s i)∨(i≠0∧YK (jH s i))
def jP(s:ByteArray):Prop:=¬((s.size:Int)<1∨(40:Int)<s.size)∧∀i:Int,0≤i→i<s.size→MB s i
def qU(lo hi:Int):Prop:=lo≤hi∧-1048576≤lo∧hi≤1048576
def tX(k:Int):Prop:=k≠0∧k≠1∧k≠2∧k≠3
def uH(v:Vr):Prop:=(v.kd=0∧(v.ini<v.lo∨v.hi<v.ini))∨(v.kd≠0∧v.ini≠0)
open Classical in
def BB(vs:List Vr)(i:Int):Int:=
 if¬jP (vr vs i).nm then 7 else if∃j:Int,0≤j∧j<i∧(vr vs j).nm=(vr vs i).nm then 8 else if tX (vr vs i).kd then 1 else if¬qU (vr vs i).lo (vr vs i).hi then 3 else if uH (vr vs i)then 3 else 0
section
variable {vs:List Vr} {i:Int}
theorem aCo(h:¬jP (vr vs i).nm):BB vs i=7:=aK h
theorem aDj(h:jP (vr vs i).nm){j:Int}(j0:0≤j)(j1:j<i)(e:(vr vs j).nm=(vr vs i).nm):BB vs i=8:=by unfold BB;rw[aC (λq=>q h),aK ⟨j,j0,j1,e⟩]
theorem aCE(h:jP (vr vs i).nm)(h2:∀j:Int,0≤j→j<i→¬(vr vs j).nm=(vr vs i).nm)(h3:tX (vr vs i).kd):BB vs i=1:=by
 unfold BB;rw[aC (λq=>q h),aC (λ⟨j,a,b,c⟩=>h2 j a b c),aK h3]
theorem aCp(h:jP (vr vs i).nm)(h2:∀j:Int,0≤j→j<i→¬(vr vs j).nm=(vr vs i).nm)(h3:¬tX (vr vs i).kd)(h4:¬qU (vr vs i).lo (vr vs i).hi∨uH (vr vs i)):BB vs i=3:=by
 unfold BB;rw[aC (λq=>q h),aC (λ⟨j,a,b,c⟩=>h2 j a b c),aC h3];split;rfl;exact aK (h4.resolve_left aO)
theorem apH:BB vs i=0↔jP (vr vs i).nm∧(∀j:Int,0≤j→j<i→¬(vr vs j).nm=(vr vs i).nm)∧¬tX (vr vs i).kd∧qU (vr vs i).lo (vr vs i).hi∧¬uH (vr vs i):=by
 constructor;intro h;by_cases a:jP (vr vs i).nm;by_cases b:∃j:Int,0≤j∧j<i∧(vr vs j).nm=(vr vs i).nm;obtain⟨j,b1,b2,b3⟩:=b;rw[aDj a b1 b2 b3]at h;omega;have b':∀j:Int,0≤j→j<i→¬(vr vs j).nm=(vr vs i).nm:=λj x y z=>b ⟨j,x,y,z⟩;by_cases c:tX (vr vs i).kd;rw[aCE a b' c]at h;omega;by_cases d:¬qU (vr vs i).lo (vr vs i).hi∨uH (vr vs i);rw[aCp a b' c d]at h;omega;exact⟨a,b',c,kB λq=>d (.inl q),λq=>d (.inr q)⟩;rw[aCo a]at h;omega;rintro⟨a,b,c,d,e⟩;unfold BB;rw[aC (λq=>q a),aC (λ⟨j,x,y,z⟩=>b j x y z),aC c,aC (λq=>q d),aC e]
end
def jR:List Vr→Int→Int
 | [],_=>1
 |v::r,k=>if v.kd=k then(v.hi-v.lo+1)*jR r k else jR r k
def rO:List Vr→Int→Int→Int
 | [],_,n=>n
 |v::r,k,n=>if v.kd≠k then rO r k n else if 4096<n*(v.hi-v.lo+1)then 4097 else rO r k (n*(v.hi-v.lo+1))
theorem JE{l:List Vr}{i:Int}(h0:0≤i)(h1:i<l.length):l.drop i.toNat=vr l i::l.drop (i+1).toNat:=kU h0 h1
theorem abL:∀{l:List Vr} {k:Int},(∀v∈l,v.lo≤v.hi)→1≤jR l k
 | [],_,_=>eL _
 |v::r,k,h=>by
  have a:=abL (l:=r) (k:=k) λw q=>h w (uC _ q);have b:=h v (mZ ..);unfold jR;split;have:=Int.mul_le_mul (show(1:Int)≤v.hi-v.lo+1 by omega) a aB aB;omega;exact a
theorem XI:∀{l:List Vr} {k n:Int},(∀v∈l,v.lo≤v.hi)→1≤n→n≤4096→rO l k n=if 4096<n*jR l k then 4097 else n*jR l k
 | [],k,n,_,_,h=>by show n=if 4096<n*1 then 4097 else n*1;rw[Int.mul_one,aC (by omega)]
 |v::r,k,n,h,n1,n2=>by
  have hr:∀w∈r,w.lo≤w.hi:=λw q=>h w (uC _ q);have b:=h v (mZ ..);unfold rO jR;by_cases e:v.kd=k;rw[aC (λq=>q e),aK e,←Int.mul_assoc];have p1:=abL (k:=k) hr;have p2:n*1≤n*(v.hi-v.lo+1):=aqJ aB aB;by_cases c:4096<n*(v.hi-v.lo+1);rw[aK c];have p3:n*(v.hi-v.lo+1)*1≤n*(v.hi-v.lo+1)*jR r k:=aqJ p1 aB;rw[aK aB];rw[aC c,XI hr aB aB];rw[aK e,aC e,XI hr n1 n2]
def G5(vs:List Vr):Int:=if uV (BB vs) vs.length≠0 then uV (BB vs) vs.length else if 4096<rO vs 1 1∨4096<rO vs 2 1∨256<rO vs 3 1 then 4 else 0
structure dO (vs:List Vr):Prop where
 each:∀i:Int,0≤i→i<vs.length→jP (vr vs i).nm∧(∀j:Int,0≤j→j<i→¬(vr vs j).nm=(vr vs i).nm)∧¬tX (vr vs i).kd∧qU (vr vs i).lo (vr vs i).hi∧¬uH (vr vs i)
 s1:jR vs 1≤4096
 s2:jR vs 2≤4096
 s3:jR vs 3≤256
theorem YX{l:List Vr}{v:Vr}(h:v∈l):∃i:Int,0≤i∧i<l.length∧vr l i=v:=by
 obtain⟨i,hi,e⟩:=List.mem_iff_getElem.1 h;exact⟨i,aB,aB,by unfold vr;rw[bX,iD,dT hi,←e];rfl⟩
theorem pA{l:List Vr}{i:Int}(h0:0≤i)(h1:i<l.length):vr l i∈l:=by
 unfold vr;rw[bX,dT aB];exact CP _
theorem dO.ord{vs:List Vr}(h:dO vs):∀v∈vs,v.lo≤v.hi∧-1048576≤v.lo∧v.hi≤1048576:=λv hv=>by
 obtain⟨i,a,b,rfl⟩:=YX hv;exact(h.each i a b).2.2.2.1
theorem avE{vs:List Vr}(h:G5 vs=0):dO vs:=by
 unfold G5 at h;by_cases q:uV (BB vs) vs.length=0;rw[aC (λz=>z q)]at h;have e:=λi a b=>apH.1 (ag_ q i a b);by_cases w:4096<rO vs 1 1∨4096<rO vs 2 1∨256<rO vs 3 1;rw[aK w]at h;omega;have ho:∀v∈vs,v.lo≤v.hi:=λv hv=>by
  obtain⟨i,a,b,rfl⟩:=YX hv;exact(e i a b).2.2.2.1.1
 have k:∀k:Int,rO vs k 1=if 4096<jR vs k then 4097 else jR vs k:=λk=>by
  have:=XI (k:=k) ho (eL 1) aB;rwa[LK]at this
 have k1:=k 1;have k2:=k 2;have k3:=k 3;refine⟨e,?_,?_,?_⟩;split at k1<;>omega;split at k2<;>omega;split at k3<;>omega;rw[aK q]at h;exact bM h q
def jI(op:Int):Int:=if op=0∨op=24 then 0 else if op=6∨op=7 then 1 else if 8≤op∧op≤22 then 2 else if op=23 then 3 else if op=25 then-2 else-1
def kF(op k:Int):Prop:=jI op= -1∨(0≤jI op∧k≠jI op)∨(jI op= -2∧(k<2∨33<k))
def H0(vs:List Vr)(inp:Bool)(op n:Int):Prop:=(op=24∧((n<0∨vs.length≤n)∨(inp=true∧(vr vs n).kd=0)))∨(¬op=24∧op≠0∧n≠0)
theorem N9{op k:Int}(h:¬kF op k)(e:op=6∨op=7):k=1:=by unfold kF jI at h;rw[aC aB,aK e]at h;omega
theorem AQ{op k:Int}(h:¬kF op k)(e:8≤op∧op≤22):k=2:=by unfold kF jI at h;rw[aC aB,aC aB,aK e]at h;omega
theorem L5{op k:Int}(h:¬kF op k)(e:op=23):k=3:=by unfold kF jI at h;rw[aC aB,aC aB,aC aB,aK e]at h;omega
theorem KY{op k:Int}(h:¬kF op k)(e:op=25):2≤k∧k≤33:=by unfold kF jI at h;rw[aC aB,aC aB,aC aB,aC aB,aK e]at h;omega
theorem O5{op k:Int}(h:¬kF op k):k≤33:=by unfold kF jI at h;omega
mutual
def lO(vs:List Vr)(inp:Bool):Tm→Prop
 | .mk op n k=>¬kF op k.length∧¬H0 vs inp op n∧Q9 vs inp k
def Q9(vs:List Vr)(inp:Bool):List Tm→Prop
 | []=>True
 |t::r=>lO vs inp t∧Q9 vs inp r
end
theorem u0{vs:List Vr}{inp:Bool}(t:Tm):lO vs inp t↔¬kF t.op t.kids.length∧¬H0 vs inp t.op t.n∧Q9 vs inp t.kids:=by cases t;exact Iff.rfl
theorem oV{vs:List Vr}{inp:Bool}{l:List Tm}:Q9 vs inp l↔∀i:Int,0≤i→i<l.length→lO vs inp (tm l i):=IQ (f:=lO vs inp) trivial (λ_ _=>Iff.rfl)
abbrev gG:=Int×Int
def j5(a:gG)(l:List gG):gG:=l.foldl (λa r=>(aX a.1 r.1,bJ a.2 r.2)) a
abbrev pg(l:List gG)(i:Int):gG:=l.getD i.toNat (0,0)
def pH(vs:List Vr)(op n:Int)(k:List gG):gG:=
 if op=0 then(if n< -1048576∨1048576<n then(-1048577,1048577)else(n,n))
 else if op=24 then((vr vs n).lo,(vr vs n).hi)
 else if op=6 then(-(pg k 0).2,-(pg k 0).1)
 else if op=8 then((pg k 0).1+(pg k 1).1,(pg k 0).2+(pg k 1).2)
 else if op=9 then((pg k 0).1-(pg k 1).2,(pg k 0).2-(pg k 1).1)
 else if op=10 then(aX (aX ((pg k 0).1*(pg k 1).1) ((pg k 0).1*(pg k 1).2)) (aX ((pg k 0).2*(pg k 1).1) ((pg k 0).2*(pg k 1).2)),bJ (bJ ((pg k 0).1*(pg k 1).1) ((pg k 0).1*(pg k 1).2)) (bJ ((pg k 0).2*(pg k 1).1) ((pg k 0).2*(pg k 1).2)))
 else if op=11 then(if 0≤(pg k 0).1∧0≤(pg k 1).1 then(0,bJ (bJ (pg k 0).1 (-(pg k 0).1)) (bJ (pg k 0).2 (-(pg k 0).2)))else(-bJ (bJ (pg k 0).1 (-(pg k 0).1)) (bJ (pg k 0).2 (-(pg k 0).2)),bJ (bJ (pg k 0).1 (-(pg k 0).1)) (bJ (pg k 0).2 (-(pg k 0).2))))
 else if op=12 then((if(pg k 1).1<0 then aX 0 ((pg k 1).1+1)else 0),(if 0<(pg k 1).2 then bJ 0 ((pg k 1).2-1)else 0))
 else if op=21 then(aX (pg k 0).1 (pg k 1).1,aX (pg k 0).2 (pg k 1).2)
 else if op=22 then(bJ (pg k 0).1 (pg k 1).1,bJ (pg k 0).2 (pg k 1).2)
 else if op=23∨op=25 then j5 (pg k 1) (k.drop 2)
 else(0,1)
def OL(r:gG):Prop:=-1048576≤r.1∧r.2≤1048576
mutual
def rg(vs:List Vr):Tm→gG
 | .mk op n k=>pH vs op n (nN vs k)
def nN(vs:List Vr):List Tm→List gG
 | []=> []
 |t::r=>rg vs t::nN vs r
end
mutual
def oI(vs:List Vr):Tm→Prop
 | .mk op n k=>tA vs k∧OL (pH vs op n (nN vs k))
def tA(vs:List Vr):List Tm→Prop
 | []=>True
 |t::r=>oI vs t∧tA vs r
end
theorem B9{vs:List Vr}(t:Tm):rg vs t=pH vs t.op t.n (nN vs t.kids):=by cases t;rfl
theorem pC{vs:List Vr}(t:Tm):oI vs t↔tA vs t.kids∧OL (rg vs t):=by cases t;exact Iff.rfl
theorem qG{vs:List Vr}{l:List Tm}:tA vs l↔∀i:Int,0≤i→i<l.length→oI vs (tm l i):=IQ (f:=oI vs) trivial (λ_ _=>Iff.rfl)
theorem IY(vs:List Vr):∀l:List Tm,nN vs l=l.map (rg vs)
 | []=>rfl
 |t::r=>by show rg vs t::nN vs r=_;rw[IY vs r];rfl
theorem JJ(vs:List Vr)(l:List Tm):(nN vs l).length=l.length:=by rw[IY,fT]
def SR(r:gG):Prop:=-1048576≤r.1∧r.1≤r.2∧r.2≤1048576
theorem ajF:∀(l:List gG) (a:gG),(j5 a l).1≤a.1∧a.2≤(j5 a l).2
 | [],a=>⟨eL _,eL _⟩
 |r::l,a=>by
  have:=ajF l (aX a.1 r.1,bJ a.2 r.2);show(j5 (aX a.1 r.1,bJ a.2 r.2) l).1≤_∧_≤(j5 (aX a.1 r.1,bJ a.2 r.2) l).2;have h1:aX a.1 r.1≤a.1:=by unfold aX;split<;>omega
  have h2:a.2≤bJ a.2 r.2:=by unfold bJ;split<;>omega
  exact⟨Int.le_trans this.1 h1,Int.le_trans h2 this.2⟩
theorem apG{a b c d:Int}:aX (aX a b) (aX c d)≤bJ (bJ a b) (bJ c d):=by
 have h1:aX (aX a b) (aX c d)≤a:=by
  unfold aX;repeat' split
  all_goals omega
 have h2:a≤bJ (bJ a b) (bJ c d):=by
  unfold bJ;repeat' split
  all_goals omega
 omega
theorem J1{vs:List Vr}{op n:Int}{k:List gG}(h:¬(op=0∨op=24∨op=6∨op=8∨op=9∨op=10∨op=11∨op=12∨op=21∨op=22∨op=23∨op=25)):pH vs op n k=(0,1):=by
 unfold pH;rw[aC aB,aC aB,aC aB,aC aB,aC aB,aC aB,aC aB,aC aB,aC aB,aC aB,aC aB]
theorem aBh{a b:Int}(h1:-1048576≤a)(h2:a≤b)(h3:b≤1048576):0≤bJ (bJ a (-a)) (bJ b (-b))∧bJ (bJ a (-a)) (bJ b (-b))≤1048576:=by unfold bJ;constructor<;>(repeat' split)<;>omega
theorem aj4{vs:List Vr}{n:Int}{k:List gG}(h:n< -1048576∨1048576<n):pH vs 0 n k=(-1048577,1048577):=aK h
theorem WR{vs:List Vr}{n:Int}{k:List gG}(h:¬(n< -1048576∨1048576<n)):pH vs 0 n k=(n,n):=aC h
theorem JZ{vs:List Vr}{n:Int}{k:List gG}(h:0≤(pg k 0).1∧0≤(pg k 1).1):pH vs 11 n k=(0,bJ (bJ (pg k 0).1 (-(pg k 0).1)) (bJ (pg k 0).2 (-(pg k 0).2))):=aK h
theorem J2{vs:List Vr}{n:Int}{k:List gG}(h:¬(0≤(pg k 0).1∧0≤(pg k 1).1)):pH vs 11 n k=(-bJ (bJ (pg k 0).1 (-(pg k 0).1)) (bJ (pg k 0).2 (-(pg k 0).2)),bJ (bJ (pg k 0).1 (-(pg k 0).1)) (bJ (pg k 0).2 (-(pg k 0).2))):=aC h
theorem aEq{vs:List Vr}{op n:Int}{k:List gG}(h:∀j:Int,SR (pg k j))(hv:op=24→(vr vs n).lo≤(vr vs n).hi):(pH vs op n k).1≤(pH vs op n k).2:=by
 have h0:=h 0;have h1:=h 1;by_cases e:op=0;subst e;show(if n< -1048576∨1048576<n then((-1048577,1048577):gG)else(n,n)).1≤(if n< -1048576∨1048576<n then((-1048577,1048577):gG)else(n,n)).2;split;show(-1048577:Int)≤1048577;omega;exact eL _;by_cases e:op=24;have:=hv e;subst e;exact this;by_cases e:op=6;subst e;show-(pg k 0).2≤-(pg k 0).1;have:=h0.2.1;omega;by_cases e:op=8;subst e;show(pg k 0).1+(pg k 1).1≤(pg k 0).2+(pg k 1).2;have:=h0.2.1;have:=h1.2.1;omega;by_cases e:op=9;subst e;show(pg k 0).1-(pg k 1).2≤(pg k 0).2-(pg k 1).1;have:=h0.2.1;have:=h1.2.1;omega;by_cases e:op=10;subst e;exact apG;by_cases e:op=11;subst e;obtain⟨M,hM⟩:∃M,M=bJ (bJ (pg k 0).1 (-(pg k 0).1)) (bJ (pg k 0).2 (-(pg k 0).2)):=⟨_,rfl⟩;have hp:0≤M:=by rw[hM];unfold bJ;(repeat' split)<;>omega
 show(if 0≤(pg k 0).1∧0≤(pg k 1).1 then((0,bJ (bJ (pg k 0).1 (-(pg k 0).1)) (bJ (pg k 0).2 (-(pg k 0).2))):gG)else(-bJ (bJ (pg k 0).1 (-(pg k 0).1)) (bJ (pg k 0).2 (-(pg k 0).2)),bJ (bJ (pg k 0).1 (-(pg k 0).1)) (bJ (pg k 0).2 (-(pg k 0).2)))).1≤(if 0≤(pg k 0).1∧0≤(pg k 1).1 then((0,bJ (bJ (pg k 0).1 (-(pg k 0).1)) (bJ (pg k 0).2 (-(pg k 0).2))):gG)else(-bJ (bJ (pg k 0).1 (-(pg k 0).1)) (bJ (pg k 0).2 (-(pg k 0).2)),bJ (bJ (pg k 0).1 (-(pg k 0).1)) (bJ (pg k 0).2 (-(pg k 0).2)))).2;rw[←hM];split;exact hp;show-M≤M;omega;by_cases e:op=12;subst e;show(if(pg k 1).1<0 then aX 0 ((pg k 1).1+1)else 0)≤if 0<(pg k 1).2 then bJ 0 ((pg k 1).2-1)else 0
 unfold aX bJ
 (repeat' split)<;>omega
 by_cases e:op=21;subst e;show aX (pg k 0).1 (pg k 1).1≤aX (pg k 0).2 (pg k 1).2;have:=h0.2.1;have:=h1.2.1;unfold aX;(repeat' split)<;>omega;by_cases e:op=22;subst e;show bJ (pg k 0).1 (pg k 1).1≤bJ (pg k 0).2 (pg k 1).2;have:=h0.2.1;have:=h1.2.1;unfold bJ;(repeat' split)<;>omega;have hh:=ajF (k.drop 2) (pg k 1);by_cases e:op=23;subst e;show(j5 (pg k 1) (k.drop 2)).1≤(j5 (pg k 1) (k.drop 2)).2;have:=h1.2.1;omega;by_cases e:op=25;subst e;show(j5 (pg k 1) (k.drop 2)).1≤(j5 (pg k 1) (k.drop 2)).2;have:=h1.2.1;omega;rw[J1 aB];show(0:Int)≤1;omega
mutual
theorem aF6{vs:List Vr}{inp:Bool}(h:dO vs):∀t:Tm,lO vs inp t→oI vs t→SR (rg vs t)
 | .mk op n k,hf,hr=>by
  have hk:=P1 h k hf.2.2 hr.1;have hle:(pH vs op n (nN vs k)).1≤(pH vs op n (nN vs k)).2:=aEq hk λe=>by
   by_cases q:0≤n∧n<vs.length;exact(h.ord _ (pA q.1 q.2)).1;exact bM (.inl ⟨e,.inl aB⟩) hf.2.1
  exact⟨hr.2.1,hle,hr.2.2⟩
theorem P1{vs:List Vr}{inp:Bool}(h:dO vs):∀l:List Tm,Q9 vs inp l→tA vs l→∀j:Int,SR (pg (nN vs l) j)
 | [],_,_,j=>by
  show SR (([]:List gG).getD j.toNat (0,0));simp[SR]
 |t::r,hf,hr,j=>by
  have a:=aF6 h t hf.1 hr.1;have b:=P1 h r hf.2 hr.2;show SR ((rg vs t::nN vs r).getD j.toNat (0,0));cases e:j.toNat with
  |zero=>exact a
  |succ m=>exact b (m:Int)
end
theorem wE{a b:Int}(h1:-1048576≤a)(h2:a≤1048576)(h3:-1048576≤b)(h4:b≤1048576):-1099511627776≤a*b∧a*b≤1099511627776:=by
 have h:(a*b).natAbs≤1048576*1048576:=by
  rw[Int.natAbs_mul];exact Nat.mul_le_mul aB aB
 omega
theorem jC{k:List gG}{i:Int}(h0:0≤i)(h1:i<k.length):gi (k.map Prod.fst) i=(pg k i).1∧gi (k.map Prod.snd) i=(pg k i).2:=by
 have e:k[i.toNat]? =some (k[i.toNat]'(by omega)):=dT aB;have e2:pg k i=k[i.toNat]'(by omega):=by unfold pg;rw[bX,e];rfl
 rw[e2];constructor;unfold gi;rw[bX,iZ,e];rfl;unfold gi;rw[bX,iZ,e];rfl
theorem aaK{k:List gG}{i:Int}(h0:2≤i)(h1:i<k.length):j5 (pg k 1) ((k.take (i.toNat+1)).drop 2)=(aX (j5 (pg k 1) ((k.take i.toNat).drop 2)).1 (pg k i).1,bJ (j5 (pg k 1) ((k.take i.toNat).drop 2)).2 (pg k i).2):=by
 rw[mK (d:=((0,0):gG)) aB h1,S5 W1];unfold j5;rw[List.foldl_append];rfl
theorem aaN{vs:List Vr}{l:List Tm}{i:Int}(h0:0≤i)(h1:i<l.length):nN vs (l.take (i.toNat+1))=nN vs (l.take i.toNat)++ [rg vs (tm l i)]:=by
 rw[IY,IY,PW h0 h1,f_];rfl
open Classical in
def E8(vs:List Vr)(t:Tm)(inp:Bool):Int:=if¬lO vs inp t then 1 else if¬oI vs t then 3 else 0
theorem avC{vs:List Vr}{t:Tm}{inp:Bool}(h:E8 vs t inp=0):lO vs inp t∧oI vs t:=by
 unfold E8 at h;by_cases a:lO vs inp t;rw[aC (λq=>q a)]at h;by_cases b:oI vs t;exact⟨a,b⟩;rw[aK b]at h;omega;rw[aK a]at h;omega
end Go.Proofs.YtbchkopkgpfkgaaGreat
namespace Go.Proofs.YtbchkopkgpfkgaaGreat
open Classical Go Go.Vc
def rsg(l:List Int):Prop:=¬((((l.length:Int)<1)∨(32:Int)<l.length)∨gi l 0<0)∧∀i:Int,1≤i→i<l.length→¬gi l i≤gi l (i-1)
def BF(t:Tm):Prop:=(t.op=0∧t.n=0)∧(t.kids.length:Int)=0
def zP(s:St):Prop:=(s.thn.length:Int)=0∧(s.els.length:Int)=0
def lcP(F:Fl)(s:St):Prop:=(0≤s.var∧s.var<(F.vs.length:Int))∧(vr F.vs s.var).kd=0
def uX(s:St):Prop:=(s.bds.length:Int)=0
def iT(F:Fl)(s:St)(last:Prop):Prop:=
 if s.dk=0 then((zP s∧lcP F s)∧s.n=0)∧uX s
 else if s.dk=1 then((zP s∧s.var=0)∧s.n=0)∧uX s
 else if s.dk=2 then(((zP s∧s.var=0)∧s.n=0)∧uX s)∧BF s.tm
 else if s.dk=3 then(s.var=0∧s.n=0)∧uX s
 else if s.dk=4 then(s.var=0∧(s.els.length:Int)=0)∧uX s
 else if s.dk=5 then((((zP s∧lcP F s)∧0≤s.n)∧s.n<(F.hs.length:Int))∧uX s)∧BF s.tm
 else if s.dk=6 then((((zP s∧last)∧s.var=0)∧s.n=0)∧BF s.tm)∧rsg s.bds
 else False
section
variable {F:Fl} {s:St} {last:Prop}
theorem NG(h:s.dk=0):iT F s last↔((zP s∧lcP F s)∧s.n=0)∧uX s:=by unfold iT;rw[aK h]
theorem auE(h:s.dk=1):iT F s last↔((zP s∧s.var=0)∧s.n=0)∧uX s:=by unfold iT;rw[aC aB,aK h]
theorem aeN(h:s.dk=2):iT F s last↔(((zP s∧s.var=0)∧s.n=0)∧uX s)∧BF s.tm:=by unfold iT;rw[aC aB,aC aB,aK h]
theorem auF(h:s.dk=3):iT F s last↔(s.var=0∧s.n=0)∧uX s:=by unfold iT;rw[aC aB,aC aB,aC aB,aK h]
theorem asO(h:s.dk=4):iT F s last↔(s.var=0∧(s.els.length:Int)=0)∧uX s:=by unfold iT;rw[aC aB,aC aB,aC aB,aC aB,aK h]
theorem J4(h:s.dk=5):iT F s last↔((((zP s∧lcP F s)∧0≤s.n)∧s.n<(F.hs.length:Int))∧uX s)∧BF s.tm:=by unfold iT;rw[aC aB,aC aB,aC aB,aC aB,aC aB,aK h]
theorem JH(h:s.dk=6):iT F s last↔((((zP s∧last)∧s.var=0)∧s.n=0)∧BF s.tm)∧rsg s.bds:=by unfold iT;rw[aC aB,aC aB,aC aB,aC aB,aC aB,aC aB,aK h]
theorem auR(h:¬(s.dk=0∨s.dk=1∨s.dk=2∨s.dk=3∨s.dk=4∨s.dk=5∨s.dk=6)):¬iT F s last:=by unfold iT;rw[aC aB,aC aB,aC aB,aC aB,aC aB,aC aB,aC aB];exact id
end
def LQ(s:St):Int:=if s.dk=2 then 67108864 else 10000
def mT(s:St):Prop:=((s.cost<0∨LQ s<s.cost)∨s.n<0)∨(s.dk=4∧4096<s.n)
def oZ(s:St):Prop:=0<(s.bds.length:Int)∧67108864<gi s.bds ((s.bds.length:Int)-1)
def L9(F:Fl)(last:Prop)(s:St)(x y:Int):Int:=
 if¬iT F s last then 1 else if mT s then 3 else if oZ s then 3 else if E8 F.vs s.tm false≠0 then E8 F.vs s.tm false else if x≠0 then x else y
mutual
def KI(F:Fl)(last:Prop):St→Int
 | .mk dk c v n t a b bd=>L9 F last (.mk dk c v n t a b bd) (jV F False a) (jV F False b)
def jV(F:Fl)(top:Prop):List St→Int
 | []=>0
 |s::r=>if KI F (top∧r=[]) s≠0 then KI F (top∧r=[]) s else jV F top r
end
theorem WG(F:Fl)(last:Prop)(s:St):KI F last s=L9 F last s (jV F False s.thn) (jV F False s.els):=by cases s;rfl
theorem ahC{F:Fl}{top:Prop}{s:St}{r:List St}:jV F top (s::r)=if KI F (top∧r=[]) s≠0 then KI F (top∧r=[]) s else jV F top r:=rfl
section
variable {F:Fl} {last top:Prop} {s:St} {x y:Int}
theorem aBW(h:¬iT F s last):L9 F last s x y=1:=aK h
theorem apB(h:iT F s last)(q:mT s∨oZ s):L9 F last s x y=3:=by
 unfold L9;rw[aC (λz=>z h)];by_cases a:mT s;rw[aK a];rw[aC a,aK (q.resolve_left a)]
theorem aqB(h:iT F s last)(q:¬mT s)(q2:¬oZ s):L9 F last s x y=if E8 F.vs s.tm false≠0 then E8 F.vs s.tm false else if x≠0 then x else y:=by
 unfold L9;rw[aC (λz=>z h),aC q,aC q2]
theorem aCf{l:List St}{i:Int}(i0:0≤i)(i1:i<l.length)(h:jV F top l=jV F top (l.drop i.toNat))(q:KI F (top∧l.drop (i+1).toNat=[]) (st l i)≠0):jV F top l=KI F (top∧l.drop (i+1).toNat=[]) (st l i):=by
 rw[h,zG i0 i1,ahC,aK q]
theorem aE2{l:List St}{i:Int}(i0:0≤i)(i1:i<l.length)(h:jV F top l=jV F top (l.drop i.toNat))(q:KI F (top∧l.drop (i+1).toNat=[]) (st l i)=0):jV F top l=jV F top (l.drop (i+1).toNat):=by
 rw[h,zG i0 i1,ahC,aC (λz=>z q)]
end
theorem TJ{l:List St}{i:Int}(i0:0≤i)(i1:i<l.length):(l.drop (i+1).toNat=[])↔i=(l.length:Int)-1:=by
 rw[List.drop_eq_nil_iff];omega
structure ae5 (F:Fl) (last:Prop) (s:St):Prop where
 shp:iT F s last
 nm:¬mT s
 bd:¬oZ s
 ct:lO F.vs false s.tm∧oI F.vs s.tm
mutual
def o_(F:Fl)(last:Prop):St→Prop
 | .mk dk c v n t a b bd=>ae5 F last (.mk dk c v n t a b bd)∧fJ F False a∧fJ F False b
def fJ(F:Fl)(top:Prop):List St→Prop
 | []=>True
 |s::r=>o_ F (top∧r=[]) s∧fJ F top r
end
theorem iM{F:Fl}{last:Prop}{s:St}:o_ F last s↔ae5 F last s∧fJ F False s.thn∧fJ F False s.els:=by cases s;exact Iff.rfl
mutual
theorem aFn{F:Fl}{last:Prop}:∀{s:St},KI F last s=0→o_ F last s
 | .mk dk c v n t a b bd,h=>by
  have h:L9 F last (.mk dk c v n t a b bd) (jV F False a) (jV F False b)=0:=h;by_cases h1:iT F (.mk dk c v n t a b bd) last;by_cases h2:mT (.mk dk c v n t a b bd);rw[apB h1 (.inl h2)]at h;omega;by_cases h3:oZ (.mk dk c v n t a b bd);rw[apB h1 (.inr h3)]at h;omega;rw[aqB h1 h2 h3]at h;by_cases h4:E8 F.vs (St.mk dk c v n t a b bd).tm false=0;rw[aC (λz=>z h4)]at h;by_cases h5:jV F False a=0;rw[aC (λz=>z h5)]at h;exact⟨⟨h1,h2,h3,avC h4⟩,OC h5,OC h⟩;rw[aK h5]at h;exact bM h h5;rw[aK h4]at h;exact bM h h4;rw[aBW h1]at h;omega
theorem OC{F:Fl}{top:Prop}:∀{l:List St},jV F top l=0→fJ F top l
 | [],_=>trivial
 |s::r,h=>by
  rw[ahC]at h;by_cases q:KI F (top∧r=[]) s=0;rw[aC (λz=>z q)]at h;exact⟨aFn q,OC h⟩;rw[aK q]at h;exact bM h q
end
theorem vI{F:Fl}{top:Prop}:∀{l:List St} {i:Int},fJ F top l→0≤i→i<l.length→o_ F (top∧i=(l.length:Int)-1) (st l i)
 | [],i,_,a,b=>bM b (by simp;omega)
 |s::r,i,h,a,b=>by
  have hl:(((s::r).length:Nat):Int)=r.length+1:=by simp
  by_cases e:i=0;subst e;have h1:=h.1;have e2:(top∧r=[])=(top∧(0:Int)=((s::r).length:Nat)-1):=by
   rw[hl];apply propext;constructor;rintro⟨p,q⟩;subst q;exact⟨p,bK⟩;rintro⟨p,q⟩;exact⟨p,rS aB⟩
  rw[e2]at h1;exact h1;have:=vI h.2 (i:=i-1) aB aB;have e3:st (s::r) i=st r (i-1):=by
   unfold st;rw[show i.toNat=(i-1).toNat+1 by omega];rfl
  rw[e3,hl];rwa[show(i-1=(r.length:Int)-1)=(i=(r.length:Int)+1-1)from propext ⟨λq=>aB,λq=>aB⟩]at this
mutual
theorem o_.nn{F:Fl}{last:Prop}:∀{s:St},o_ F last s→s.nn
 | .mk dk c v n t a b bd,h=>by
  have h1:¬mT (.mk dk c v n t a b bd):=h.1.nm;unfold mT at h1;refine⟨?_,?_,fJ.nns h.2.1,fJ.nns h.2.2⟩;exact kB λq=>h1 (.inl (.inl (.inl (by show c<0;omega))));exact kB λq=>h1 (.inl (.inr (by show n<0;omega)))
theorem fJ.nns{F:Fl}{top:Prop}:∀{l:List St},fJ F top l→nns l
 | [],_=>trivial
 |s::r,h=>⟨o_.nn h.1,fJ.nns h.2⟩
end
theorem jF{X Y y L:Int}(hX:0≤X)(hY:0≤Y)(hy:0≤y)(hL:0≤L)(h:aX y L=aX Y L):aX (aX X L+y) L=aX (X+Y) L:=by
 unfold aX at*;by_cases a:X<L;rw[aK a];by_cases b:y<L;rw[aK b]at h;by_cases c:Y<L;rw[aK c]at h;rw[h];rw[aC c]at h;omega;rw[aC b]at h;by_cases c:Y<L;rw[aK c]at h;omega;rw[aC aB,aC aB];rw[aC a];rw[aC (by omega:¬X+Y<L)];split<;>omega
theorem zI{n x U L:Int}(hn:0≤n)(hx:0≤x)(hU:0≤U)(hL:0≤L):aX (n*(x+aX U L)) L=aX (n*(x+U)) L:=by
 by_cases a:U<L;rw[show aX U L=U from aK a];rw[show aX U L=L from aC a];by_cases z:n=0;subst z;simp;have h1:x+L≤n*(x+L):=by
  have:=aa0 (show 1≤n by omega) (show 0≤x+L by omega);omega
 have h2:x+U≤n*(x+U):=by
  have:=aa0 (show 1≤n by omega) (show 0≤x+U by omega);omega
 unfold aX;rw[aC aB,aC aB]
theorem yW{x U W L:Int}(hx:0≤x)(hU:0≤U)(hW:0≤W)(hL:0≤L):aX (x+bJ (aX U L) (aX W L)) L=aX (x+bJ U W) L:=by
 unfold aX bJ
 (repeat' split)<;>omega
theorem RM{a b A B:Int}(a0:0≤a)(aA:a≤A)(b0:0≤b)(bB:b≤B):0≤a*b∧a*b≤A*B:=⟨oN a0 b0,Int.mul_le_mul aA bB b0 aB⟩
theorem vH{l:List St}{i:Int}(h0:0≤i)(h1:i<l.length):dX (l.take (i.toNat+1))=dX (l.take i.toNat)+(st l i).uS:=zL (f:=St.uS) rfl (λ_ _=>rfl) h0 h1
theorem tB{l:List St}{i:Int}(h0:0≤i)(h1:i<l.length):cJ (l.take (i.toNat+1))=cJ (l.take i.toNat)+(st l i).uO:=zL (f:=St.uO) rfl (λ_ _=>rfl) h0 h1
theorem wD{l:List St}{i:Int}(h0:0≤i)(h1:i<l.length):cG (l.take (i.toNat+1))=cG (l.take i.toNat)+(st l i).uT:=zL (f:=St.uT) rfl (λ_ _=>rfl) h0 h1
theorem ZG{l:List St}(h:nns l)(n:Nat):nns (l.take n):=acN.2 λi a b=>by
 have hl:=List.length_take_le' n l;have:=acN.1 h i a aB;rw[show st (l.take n) i=st l i from ?_];exact this;rw[jL]at b;unfold st;rw[bX,bX,iH,aK aB]
def wW(F:Fl)(i:Int):Int:=
 if¬jP (ht F.hs i).nm then 7 else if∃j:Int,0≤j∧j<i∧(ht F.hs j).nm=(ht F.hs i).nm then 8 else if¬qU (ht F.hs i).lo (ht F.hs i).hi then 3 else E8 F.vs (ht F.hs i).tm true
section
variable {F:Fl} {i:Int}
theorem aAt(h:¬jP (ht F.hs i).nm):wW F i=7:=aK h
theorem aB3(h:jP (ht F.hs i).nm){j:Int}(j0:0≤j)(j1:j<i)(e:(ht F.hs j).nm=(ht F.hs i).nm):wW F i=8:=by unfold wW;rw[aC (λq=>q h),aK ⟨j,j0,j1,e⟩]
theorem aCY(h:jP (ht F.hs i).nm)(h2:∀j:Int,0≤j→j<i→¬(ht F.hs j).nm=(ht F.hs i).nm)(h3:¬qU (ht F.hs i).lo (ht F.hs i).hi):wW F i=3:=by
 unfold wW;rw[aC (λq=>q h),aC (λ⟨j,a,b,c⟩=>h2 j a b c),aK h3]
theorem aq0(h:jP (ht F.hs i).nm)(h2:∀j:Int,0≤j→j<i→¬(ht F.hs j).nm=(ht F.hs i).nm)(h3:qU (ht F.hs i).lo (ht F.hs i).hi):wW F i=E8 F.vs (ht F.hs i).tm true:=by
 unfold wW;rw[aC (λq=>q h),aC (λ⟨j,a,b,c⟩=>h2 j a b c),aC (λq=>q h3)]
structure ao4 (F:Fl) (i:Int):Prop where
 nm:jP (ht F.hs i).nm
 du:∀j:Int,0≤j→j<i→¬(ht F.hs j).nm=(ht F.hs i).nm
 bd:qU (ht F.hs i).lo (ht F.hs i).hi
 ct:lO F.vs true (ht F.hs i).tm∧oI F.vs (ht F.hs i).tm
theorem aET(h:wW F i=0):ao4 F i:=by
 by_cases a:jP (ht F.hs i).nm;by_cases b:∃j:Int,0≤j∧j<i∧(ht F.hs j).nm=(ht F.hs i).nm;obtain⟨j,b1,b2,b3⟩:=b;rw[aB3 a b1 b2 b3]at h;omega;have b':∀j:Int,0≤j→j<i→¬(ht F.hs j).nm=(ht F.hs i).nm:=λj x y z=>b ⟨j,x,y,z⟩;by_cases c:qU (ht F.hs i).lo (ht F.hs i).hi;rw[aq0 a b' c]at h;exact⟨a,b',c,avC h⟩;rw[aCY a b' c]at h;omega;rw[aAt a]at h;omega
end
def rY(F:Fl):Int:=
 if¬YA F then 4 else if G5 F.vs≠0 then G5 F.vs else if uV (wW F) F.hs.length≠0 then uV (wW F) F.hs.length else if jV F True F.bd≠0 then jV F True F.bd
 else if(4096<aX (dX F.bd) 4097∨8<aX (cJ F.bd) 9)∨67108864<aX (cG F.bd) 67108865 then 4 else 0
structure gI (F:Fl):Prop where
 sz:YA F
 vs:dO F.vs
 hs:∀i:Int,0≤i→i<F.hs.length→ao4 F i
 bd:fJ F True F.bd
 uS:dX F.bd≤4096
 uO:cJ F.bd≤8
 uT:cG F.bd≤67108864
theorem Y5{F:Fl}(h:rY F=0):gI F:=by
 unfold rY at h;by_cases a:YA F;rw[aC (λz=>z a)]at h;by_cases b:G5 F.vs=0;rw[aC (λz=>z b)]at h;by_cases c:uV (wW F) F.hs.length=0;rw[aC (λz=>z c)]at h;by_cases d:jV F True F.bd=0;rw[aC (λz=>z d)]at h;by_cases e:(4096<aX (dX F.bd) 4097∨8<aX (cJ F.bd) 9)∨67108864<aX (cG F.bd) 67108865;rw[aK e]at h;omega;refine⟨a,avE b,λi x y=>aET (ag_ c i x y),OC d,?_,?_,?_⟩<;>(unfold aX at e;split at e<;>omega);rw[aK d]at h;exact bM h d;rw[aK c]at h;exact bM h c;rw[aK b]at h;exact bM h b;rw[aK a]at h;omega
end Go.Proofs.YtbchkopkgpfkgaaGreat
namespace Go.Proofs.YtbchkopkgpfkgaaGreat
open Classical Go Go.Vc
theorem fG{U L:Int}(h:0≤U)(hL:0≤L):0≤aX U L∧aX U L≤L:=by unfold aX;split<;>omega
theorem rH{a b L:Int}(h:0≤a∧a≤L)(h2:0≤b∧b≤L):0≤bJ a b∧bJ a b≤L:=by unfold bJ;split<;>omega
theorem o_.num{F:Fl}{last:Prop}{s:St}(h:o_ F last s):(0≤s.cost∧s.cost≤67108864)∧0≤s.n∧(s.dk=4→s.n≤4096):=by
 have h1:=(iM.1 h).1.nm;unfold mT LQ at h1;have h2:¬s.cost<0:=λq=>h1 (.inl (.inl (.inl q)));have h3:¬(if s.dk=2 then 67108864 else 10000)<s.cost:=λq=>h1 (.inl (.inl (.inr q)));have h4:¬s.n<0:=λq=>h1 (.inl (.inr q));refine⟨⟨aB,?_⟩,aB,λe=> ?_⟩;split at h3<;>omega;exact kB λq=>h1 (.inr ⟨e,aB⟩)
section
variable {s:St} {X:Int}
theorem bS4(h:s.nn)(hX:0≤X)(e:s.dk=4):aX (aX X 4097+(1+s.n*(1+aX (dX s.thn) 4097))) 4097=aX (X+s.uS) 4097:=by
 obtain⟨_,h2,h3,_⟩:=(lL s).1 h;have u:=(eB _ h3).1;have m:=fG (U:=dX s.thn) (L:=4097) u aB;have p:=oN h2 (show 0≤1+dX s.thn by omega);have p':=oN h2 (show 0≤1+aX (dX s.thn) 4097 by omega);rw[PB,aK e];apply jF hX aB aB aB;have c:=zI (n:=s.n) (x:=1) (U:=dX s.thn) (L:=4097) h2 aB u aB;have:=jF (X:=1) (Y:=s.n*(1+dX s.thn)) (y:=s.n*(1+aX (dX s.thn) 4097)) (L:=4097) aB p p' aB c;exact this
theorem bS0(h:s.nn)(hX:0≤X)(e:¬s.dk=4):aX (aX X 4097+(1+bJ (aX (dX s.thn) 4097) (aX (dX s.els) 4097))) 4097=aX (X+s.uS) 4097:=by
 obtain⟨_,h2,h3,h4⟩:=(lL s).1 h;have u:=(eB _ h3).1;have w:=(eB _ h4).1;have m:=rH (fG (U:=dX s.thn) (L:=4097) u aB) (fG (U:=dX s.els) (L:=4097) w aB);have m2:0≤bJ (dX s.thn) (dX s.els):=by unfold bJ;split<;>omega
 rw[PB,aC e];exact jF hX aB aB aB (yW (x:=1) aB u w aB)
theorem bO4(h:s.nn)(hX:0≤X)(e:s.dk=4):aX (aX X 9+s.n*aX (cJ s.thn) 9) 9=aX (X+s.uO) 9:=by
 obtain⟨_,h2,h3,_⟩:=(lL s).1 h;have u:=(eB _ h3).2.1;have m:=fG (U:=cJ s.thn) (L:=9) u aB;have p:=oN h2 u;have p':=oN h2 m.1;rw[wH,aC aB,aK e];have c:=zI (n:=s.n) (x:=0) (U:=cJ s.thn) (L:=9) h2 aB u aB;rw[LS,LS]at c;exact jF hX p p' aB c
theorem bO1(hX:0≤X)(e:s.dk=1):aX (aX X 9+1) 9=aX (X+s.uO) 9:=by
 rw[wH,aK e];exact jF hX aB aB aB rfl
theorem bO0(h:s.nn)(hX:0≤X)(e:¬s.dk=4)(e1:¬s.dk=1):aX (aX X 9+bJ (aX (cJ s.thn) 9) (aX (cJ s.els) 9)) 9=aX (X+s.uO) 9:=by
 obtain⟨_,h2,h3,h4⟩:=(lL s).1 h;have u:=(eB _ h3).2.1;have w:=(eB _ h4).2.1;have m:=rH (fG (U:=cJ s.thn) (L:=9) u aB) (fG (U:=cJ s.els) (L:=9) w aB);have m2:0≤bJ (cJ s.thn) (cJ s.els):=by unfold bJ;split<;>omega
 rw[wH,aC e1,aC e];have c:=yW (x:=0) (U:=cJ s.thn) (W:=cJ s.els) (L:=9) aB u w aB;rw[LS,LS]at c;exact jF hX aB aB aB c
theorem bT4(h:s.nn)(hX:0≤X)(e:s.dk=4):aX (aX X 67108865+s.n*(s.cost+aX (cG s.thn) 67108865)) 67108865=aX (X+s.uT) 67108865:=by
 obtain⟨h1,h2,h3,_⟩:=(lL s).1 h;have u:=(eB _ h3).2.2;have m:=fG (U:=cG s.thn) (L:=67108865) u aB;have p:=oN h2 (show 0≤s.cost+cG s.thn by omega);have p':=oN h2 (show 0≤s.cost+aX (cG s.thn) 67108865 by omega);rw[B4,aK e];exact jF hX p p' aB (zI h2 h1 u aB)
theorem bT0(h:s.nn)(hX:0≤X)(e:¬s.dk=4):aX (aX X 67108865+(s.cost+bJ (aX (cG s.thn) 67108865) (aX (cG s.els) 67108865))) 67108865=aX (X+s.uT) 67108865:=by
 obtain⟨h1,h2,h3,h4⟩:=(lL s).1 h;have u:=(eB _ h3).2.2;have w:=(eB _ h4).2.2;have m:=rH (fG (U:=cG s.thn) (L:=67108865) u aB) (fG (U:=cG s.els) (L:=67108865) w aB);have m2:0≤bJ (cG s.thn) (cG s.els):=by unfold bJ;split<;>omega
 rw[B4,aC e];exact jF hX aB aB aB (yW h1 u w aB)
end
section
variable {F:Fl} {top:Prop} {l:List St} {i:Int}
theorem QW(i0:0≤i)(i1:i<l.length)(h:jV F top l=jV F top (l.drop i.toNat)){c:Int}(e:L9 F (top∧i=(l.length:Int)-1) (st l i) (jV F False (st l i).thn) (jV F False (st l i).els)=c)(q:c≠0):c=jV F top l:=by
 have d:(top∧l.drop (i+1).toNat=[])=(top∧i=(l.length:Int)-1):=by rw[TJ i0 i1]
 rw[aCf i0 i1 h (by rw[WG,d,e];exact q),WG,d,e]
theorem aj7(i0:0≤i)(i1:i<l.length)(h:jV F top l=jV F top (l.drop i.toNat))(e:L9 F (top∧i=(l.length:Int)-1) (st l i) (jV F False (st l i).thn) (jV F False (st l i).els)=0):jV F top l=jV F top (l.drop (i+1).toNat):=by
 have d:(top∧l.drop (i+1).toNat=[])=(top∧i=(l.length:Int)-1):=by rw[TJ i0 i1]
 exact aE2 i0 i1 h (by rw[WG,d,e])
end
end Go.Proofs.YtbchkopkgpfkgaaGreat
namespace Go.Vc
open Go
variable{P:Program}
theorem aP.drop{f:FuncId}{args:List Value}{V0:HV}{σ0:aY}{Φ:Value→HV→aY→Prop}(h:aP P f args V0 σ0 (λv V' σ'=>∃σ1 τ,σ'.Perm (σ1++τ)∧Φ v V' σ1)):aP P f args V0 σ0 Φ:=
 ⟨h.ok,λw0 hs0 h1 h2 h3 h4=>(h.run w0 hs0 h1 h2 h3 h4).mono λ_ _ ⟨v,V',σ',h5,⟨σ1,τ,hp,hΦ⟩,h7⟩=>⟨v,V',σ1,h5,hΦ,h7.drop hp⟩⟩
theorem zR{C:Cx}{N:Nat}{K:K3}{Q:Ex→K3}{env:cR}{V:HV}{σ:aY}{c:Code}{k E:Nat}{b n cap:Nat}{cs:Array Value}(s:Nat)(xs:List Value)(hk:σ[k]? =some (gV b (.cells cs E (0,0))))(hx:xs.length=n*s)(hn:n≤cap)(hm':cap≤maxLen)(hc:cs.size=cap*s)
 (ht:cs.toList.take (n*s)=xs) (h:VC P C N c K Q env V (σ.set k (Gr E s (.slice (some ⟨b,0,none⟩) n cap) n xs))):VC P C N c K Q env V σ:=λa w hf hm=>h a w hf (hm.to_gr hk hx hn hm' hc ht)
theorem B5{σ:aY}(n:Nat):σ.Perm (σ.take n++σ.drop n):=by rw[GP]
end Go.Vc
namespace Go.Proofs.YtbchkopkgpfkgaaGreat
open Go Go.Vc
variable{F:Fl}{i:Int}{l vs:List Vr}
def vrk(v:Vr):List Value:=[.string v.nm,.int .i64 v.kd,.int .i64 v.lo,.int .i64 v.hi,.int .i64 v.ini]
theorem BA(l:List Vr)(v:Vr):xU (l++ [v])=xU l++vrk v:=by
 unfold xU;rw[dD,sS,sP,sV];congr 1;have:∀i∈List.range l.length,KG (l++ [v]) i=KG l i:=λi hi=>by
  have:=CM.1 hi;unfold KG vr;simp only[bX];rw[oR aB]
 rw[WU,WU,YH this];simp[KG,vrk,vr]
def dZ(vs:List Vr)(k:Int):List Vr:=vs.filter λv=>decide (v.kd=k)
theorem PN(h0:0≤i)(h1:i<l.length):l.take (i.toNat+1)=l.take i.toNat++ [vr l i]:=by
 rw[t7,dT aB];show _=_++ [l.getD i.toNat vr0];rw[bX,dT aB];rfl
section
variable {vs:List Vr} {k i:Int}
theorem NI(h0:0≤i)(h1:i<vs.length)(h:(vr vs i).kd=k):dZ (vs.take (i+1).toNat) k=dZ (vs.take i.toNat) k++ [vr vs i]:=by
 rw[show(i+1).toNat=i.toNat+1 by omega,PN h0 h1];unfold dZ;rw[List.filter_append];simp;rw[←bX];exact h
theorem OX(h0:0≤i)(h1:i<vs.length)(h:¬(vr vs i).kd=k):dZ (vs.take (i+1).toNat) k=dZ (vs.take i.toNat) k:=by
 rw[show(i+1).toNat=i.toNat+1 by omega,PN h0 h1];unfold dZ;rw[List.filter_append];simp;rw[←bX];exact h
theorem WA:(dZ vs k).length≤vs.length:=List.length_filter_le ..
theorem aCS:(dZ (vs.take i.toNat) k).length≤i.toNat:=EU WA W1
end
def pB:List Vr→Int
 | []=>1
 |v::r=>(v.hi-v.lo+1)*pB r
theorem WN(v:Vr):∀l:List Vr,pB (l++ [v])=pB l*(v.hi-v.lo+1)
 | []=>by show(v.hi-v.lo+1)*1=1*(v.hi-v.lo+1);rw[Int.mul_one,LK]
 |w::r=>by show(w.hi-w.lo+1)*pB (r++ [v])=(w.hi-w.lo+1)*pB r*(v.hi-v.lo+1);rw[WN v r,Int.mul_assoc]
theorem ET(h0:0≤i)(h1:i<l.length):pB (l.take (i+1).toNat)=pB (l.take i.toNat)*((vr l i).hi-(vr l i).lo+1):=by
 rw[show(i+1).toNat=i.toNat+1 by omega,PN h0 h1,WN]
theorem zC:∀(vs:List Vr) (k:Int),jR vs k=pB (dZ vs k)
 | [],_=>rfl
 |v::r,k=>by
  unfold jR dZ;by_cases h:v.kd=k;rw[aK h,List.filter_cons_of_pos vB,zC r k];rfl;rw[aC h,List.filter_cons_of_neg vB,zC r k];rfl
theorem SE:∀{l:List Vr},(∀v∈l,v.lo≤v.hi)→1≤pB l
 | [],_=>eL _
 |v::r,h=>by
  have a:=SE (l:=r) λw q=>h w (uC _ q);have b:=h v (mZ ..);have:=Int.mul_le_mul (show(1:Int)≤v.hi-v.lo+1 by omega) a aB aB;unfold pB;omega
theorem ayP(a b:List Vr):pB (a++b)=pB a*pB b:=by
 induction a with
 |nil=>show pB b=1*pB b;rw[LK]
 |cons v r ih=>show(v.hi-v.lo+1)*pB (r++b)=(v.hi-v.lo+1)*pB r*pB b;rw[ih,Int.mul_assoc]
theorem ak5(h:∀v∈l,v.lo≤v.hi)(n:Nat):1≤pB (l.take n)∧pB (l.take n)≤pB l:=by
 have a:=SE (l:=l.take n) λw q=>h w (List.mem_of_mem_take q);have b:=SE (l:=l.drop n) λw q=>h w (List.mem_of_mem_drop q);have e:=ayP (l.take n) (l.drop n);rw[GP]at e;have:=aqJ b (show 0≤pB (l.take n) by omega);omega
theorem aw_{k:Int}{v:Vr}(h:v∈dZ vs k):v∈vs:=(List.mem_filter.1 h).1
theorem dO.fl(h:dO vs)(k:Int):∀v∈dZ vs k,v.lo≤v.hi∧-1048576≤v.lo∧v.hi≤1048576:=λv q=>h.ord v (aw_ q)
def bF(vs:List Vr)(xs:List Int):Prop:=∀i:Int,0≤i→i<vs.length→(vr vs i).lo≤gi xs i∧gi xs i≤(vr vs i).hi
open Classical in
open Classical in
def afH(F:Fl)(a b c:Int):Prop:=C9 F 10 80∧rY F=0∧jR F.vs 1≤a∧jR F.vs 2≤b∧jR F.vs 3≤c∧dX F.bd≤400
theorem axI{a b c:Int}(h1:C9 F 10 80)(h2:rY F=0):(((jR F.vs 1≤a∧jR F.vs 2≤b)∧jR F.vs 3≤c)∧aX (dX F.bd) 4097≤400)↔afH F a b c:=by
 have:aX (dX F.bd) 4097≤400↔dX F.bd≤400:=by unfold aX;split<;>omega
 rw[this];exact⟨λ⟨⟨⟨x,y⟩,z⟩,w⟩=>⟨h1,h2,x,y,z,w⟩,λ⟨_,_,x,y,z,w⟩=>⟨⟨⟨x,y⟩,z⟩,w⟩⟩
theorem aBt(h:C9 F 10 80):bN F.bd+eV F.hs≤1000000:=by have:=aAJ h;omega
end Go.Proofs.YtbchkopkgpfkgaaGreat
namespace Go.Vc
open Go Go.RowKit
open Classical
variable{V:HV}{v:Value}{xs:List Value}
def rI(V:HV)(σ:aY):Prop:=∃hs,nO σ hs∧∀h∈hs,bR h V
theorem aP.lend{P:Program}{f:FuncId}{args:List Value}{V0:HV}{σ0 σb:aY}{Φ:Value→aY→Prop}(hok:ZP P f)
  (hF:∀V',bR V0 V'→rI V' σb→aP P f args V' σ0 (λv _ σ'=>Φ v σ')):aP P f args V0 (σ0++σb) (λv _ σ'=>∃σ1,σ'=σ1++σb∧Φ v σ1):=by
 refine⟨hok,λw0 hs0 h1 h2 h3 h4=> ?_⟩;obtain⟨ha,hb,rfl,sa,sb⟩:=h1.split;obtain⟨p1,p2,p3⟩:=xZ.1 h2;let VV:HV:=λb=>if iR hb b then hv w0 b else V0 b
 have inb:∀h∈hb,∀b o,h b=some o→iR hb b:=λh hh b o e=>⟨h,hh,by rw[e];simp⟩;have v0:∀b o,V0 b=some o→¬iR hb b:=λb o e ⟨h,hh,hn⟩=>by
  rcases(h4 h (FU _ hh)).2 b with q|q
  exact hn q;rw[e]at q;cases q
 have s0:bR V0 VV:=λb o e=>by show(if iR hb b then _ else _)=_;rw[aC (v0 b o e)];exact e
 have sb':∀h∈hb,bR h VV:=λh hh b o e=>by show(if iR hb b then _ else _)=_;rw[aK (inb h hh b o e)];exact(h4 h (FU _ hh)).1 b o e
 have sv:bR VV (hv w0):=λb o e=>by
  have e:(if iR hb b then hv w0 b else V0 b)=some o:=e;split at e;exact e;exact h3 b o e
 refine((hF VV s0 ⟨hb,sb,sb'⟩).run w0 ha sa p1 sv λh hh=>⟨(h4 h (t5 _ hh)).1,λb=> ?_⟩).mono ?_;cases e:h b with
 |none=>exact .inl rfl
 |some o=>
  right;have hnd:¬iR hb b:=λ⟨x,hx,hn⟩=>by
   rcases p3 h hh x hx b with q|q
   rw[e]at q;cases q;exact hn q
  show(if iR hb b then _ else _)=_;rw[aC hnd];rcases(h4 h (t5 _ hh)).2 b with q|q
  rw[e]at q;cases q;exact q
 rintro e w' ⟨v,V1,σ1,rfl,hΦ,m⟩;obtain⟨hs1,t1,t2,t3⟩:=m.own;let V2:HV:=λb=>if iR hb b then none else V1 b
 have v21:bR V2 V1:=λb o e=>by
  have e:(if iR hb b then none else V1 b)=some o:=e;split at e;cases e;exact e
 have dapp:∀b,¬iR (ha++hb) b→¬iR ha b∧¬iR hb b:=λb hn=>⟨λ⟨h,hh,q⟩=>hn ⟨h,t5 _ hh,q⟩,λ⟨h,hh,q⟩=>hn ⟨h,FU _ hh,q⟩⟩;refine⟨v,V2,σ1++σb,rfl,⟨σ1,rfl,hΦ⟩,m.os,m.tape,m.output,m.dr,m.size,λb hb' hd=>m.frame b hb' (dapp b hd).1,λb o e=> ?_,v21.trans m.view,λb hb' hd=> ?_,hs1++hb,t1.append sb,?_,?_⟩;show(if iR hb b then none else V1 b)=some o;rw[aC (v0 b o e)];exact m.sub b o (s0 b o e);show(if iR hb b then none else V1 b)=V0 b;rw[aC (dapp b hd).2,m.vold b hb' (dapp b hd).1];show(if iR hb b then _ else V0 b)=V0 b;rw[aC (dapp b hd).2];refine xZ.2 ⟨t2,p2,λx hx h hh b=> ?_⟩;cases e:h b with
 |none=>exact .inr rfl
 |some o=>
  left;have:=m.sub b o (sb' h hh b o e);rcases(t3 x hx).2.1 b with q|q
  exact q;rw[this]at q;cases q
 intro h hh;rcases jW.1 hh with hh|hh
 refine⟨(t3 h hh).1,λb=> ?_,λb hb' hn=> ?_⟩;rcases(t3 h hh).2.1 b with q|q
 exact .inl q;right;show(if iR hb b then none else V1 b)=none;split;rfl;exact q;obtain⟨x,hx,q⟩:=(t3 h hh).2.2 b hb' hn;exact⟨x,t5 _ hx,q⟩;refine⟨(sb' h hh).trans (m.sub.trans m.view),λb=> ?_,λb _ hn=>⟨h,FU _ hh,hn⟩⟩;cases e:h b with
 |none=>exact .inl rfl
 |some o=>
  right;show(if iR hb b then none else V1 b)=none;rw[aK (inb h hh b o e)]
theorem rI.cons{A:fB}{σ:aY}(h:rI V (A::σ)):(∃x,A x∧bR x V)∧rI V σ:=by
 obtain⟨hs,h1,h2⟩:=h;match hs,h1 with
 |x::hs,h1=>exact⟨⟨x,h1.1,h2 x (mZ ..)⟩,hs,h1.2,λy hy=>h2 y (uC _ hy)⟩
theorem rI.arr{T b:Nat}{cs:List Value}{σ:aY}(h:rI V (aM T b cs::σ)):Cells V b cs∧rI V σ:=by
 obtain⟨⟨x,hx,hs⟩,h2⟩:=h.cons;have hx:x=one b (.cells cs.toArray T (0,0)):=hx;subst hx;exact⟨⟨T,(0,0),hs b _ JR⟩,h2⟩
theorem rI.gr{E n:Nat}{σ:aY}(h:rI V (Gr E 1 v n xs::σ)):Sl V v xs∧rI V σ:=by
 obtain⟨⟨x,hx,hs⟩,h2⟩:=h.cons;exact⟨hx.sl.mono hs,h2⟩
theorem rI.grs{E s n:Nat}{σ:aY}(h:rI V (Gr E s v n xs::σ)):aR s V v n xs∧rI V σ:=by
 obtain⟨⟨x,hx,hs⟩,h2⟩:=h.cons;exact⟨hx.sls.mono hs,h2⟩
end Go.Vc
namespace Go.Proofs.YtbchkopkgpfkgaaGreat.Dd
open Go Go.Vc
theorem GN{V0:HV}{hs0:List HV}{w0:World}{σ0:aY}(h1:nO σ0 hs0)(h2:hs0.Pairwise kP)(h3:Vc.bR V0 (hv w0))(h4:∀h∈hs0,Vc.bR h (hv w0)∧kP h V0):bZ ⟨w0,V0,iR hs0⟩ V0 σ0 w0:=
 ⟨rfl,rfl,rfl,cV _,cV _,λ_ _ _=>rfl,.refl _,h3,λ_ _ _=>rfl,hs0,h1,h2,λh hh=>⟨(h4 h hh).1,(h4 h hh).2,λb _ hne=>⟨h,hh,hne⟩⟩⟩
end Go.Proofs.YtbchkopkgpfkgaaGreat.Dd
namespace Go.Proofs.YtbchkopkgpfkgaaGreat
open Go Go.Vc
theorem ajO{s:ByteArray}:(s=⟨#[]⟩∨(40:Int)<s.size)↔((s.size:Int)<1∨(40:Int)<s.size):=by
 have:s=⟨#[]⟩↔(s.size:Int)<1:=by
  constructor;intro h;subst h;show(((#[]:Array UInt8).size:Nat):Int)<1;simp;intro h;obtain⟨a⟩:=s;have:a.size=0:=by have:(⟨a⟩:ByteArray).size=a.size:=rfl;omega
  rw[Array.eq_empty_of_size_eq_zero this]
 rw[this]
def Y9(o:Int):Int:=if jI o= -2 then 2 else jI o
def kdh(o:Int):Int:=if jI o= -2 then 33 else jI o
theorem aGf{o k:Int}(h:¬kF o k):0≤Y9 o∧Y9 o≤k∧k≤kdh o:=by
 have hk:jI o=0∨jI o=1∨jI o=2∨jI o=3∨jI o= -2∨jI o= -1:=by unfold jI;(repeat' split)<;>omega
 unfold kF at h;unfold Y9 kdh;split<;>omega
def LX(a:gG)(L:List Int):gG:=L.foldl (λa n=>(aX a.1 n,bJ a.2 n)) a
theorem alP{a:gG}{L:List Int}{i:Int}(h0:0≤i)(h1:i<L.length):LX a (L.take (i+1).toNat)=(aX (LX a (L.take i.toNat)).1 (gi L i),bJ (LX a (L.take i.toNat)).2 (gi L i)):=by
 rw[show(i+1).toNat=i.toNat+1 by omega,t7,dT aB];unfold LX gi;rw[List.foldl_append,bX,dT aB];rfl
theorem aEo{a b c d:Int}:LX (a,a) [b,c,d]=(aX (aX a b) (aX c d),bJ (bJ a b) (bJ c d)):=by
 show(aX (aX (aX a b) c) d,bJ (bJ (bJ a b) c) d)=_;unfold aX bJ;refine Prod.ext ?_ ?_<;>((repeat' split)<;>first|rfl|omega)
end Go.Proofs.YtbchkopkgpfkgaaGreat
namespace Go.Vc
open Go Go.RowKit
section
variable {P:Program} {C:Cx} {N:Nat} {K:K3} {Q:Ex→K3} {env:cR} {V:HV} {σ:aY} {ops:Array Oper} {rest:List Oper} {w:World}
variable {d k b s:Nat} {dst:Option Nat} {x y z:Operand} {t T T' T2 E:TypeId} {pos:String} {af:Array Edge} {g:Option (Nat×Bool)} {v:Value} {c:Code}
theorem bZ.of_gr{n:Nat}{xs:List Value}(hm:bZ C V σ w)(hn:0<n)(hk:σ[k]? =some (Gr E s v n xs)):
  ∃b cap cs,v= .slice (some ⟨b,0,none⟩) n cap∧n≤cap∧cap≤maxLen∧cs.length=cap*s∧cs.take (n*s)=xs∧bZ C V (σ.set k (aM E b cs)) w:=by
 obtain⟨hs,s1,s2,s3⟩:=hm.own;obtain⟨hh,e,hl,hg⟩:=s1.get hk;rcases hg with⟨_,hn',_⟩|⟨b,cap,cur,e1,e2,q1,q2,q3,q4⟩
 omega;have hb:w.heap[b]? =some (.cells cur E (0,0)):=(s3 _ (List.mem_of_getElem? e)).1 b _ (by rw[e2];simp[one]);refine⟨b,cap,cur.toList,e1,q1,q2,by simpa using q3,q4,hm.upd hk λh hA hs hd=> ?_⟩;rcases hA.2 with⟨f1,_⟩|⟨b',cap',cur',f1,f2,_⟩
 rw[e1]at f1;cases f1;rw[e1]at f1;simp only[Value.slice.injEq,Option.some.injEq,Addr.mk.injEq,and_true,true_and]at f1;obtain⟨rfl,rfl⟩:=f1;have hb2:w.heap[b]? =some (.cells cur' E (0,0)):=hs b _ (by rw[f2];simp[one]);rw[hb]at hb2;have hcc:cur=cur':=by injection hb2 with q;injection q
 subst hcc;have hA2:aM E b cur.toList h:=by show h=one b _;rw[f2]
 exact bZ.single rfl rfl rfl (cV _) (λ_ _ _=>rfl) hm.view hd hs hA2 (λ_ _ q=>q)
theorem aqX{n:Nat}{xs:List Value}(hn:0<n)(hk:σ[k]? =some (Gr E s v n xs))
  (h:∀b cap cs,v= .slice (some ⟨b,0,none⟩) n cap→n≤cap→cap≤maxLen→cs.length=cap*s→cs.take (n*s)=xs→VC P C N c K Q env V (σ.set k (aM E b cs))):VC P C N c K Q env V σ:=λa w hf hm=>by
 obtain⟨b,cap,cs,h1,h2,h3,h4,h5,h6⟩:=hm.of_gr hn hk;exact h b cap cs h1 h2 h3 h4 h5 a w hf h6
theorem NL{n:Nat}{xs:List Value}(hn:0<n)(hk:σ[k]? =some (Gr E s v n xs))(h:(∃b c,v= .slice (some ⟨b,0,none⟩) n c)→VC P C N c K Q env V σ):VC P C N c K Q env V σ:=λa w hf hm=>by
 obtain⟨b,cap,cs,h1,_⟩:=hm.of_gr hn hk;exact h ⟨b,cap,h1⟩ a w hf hm
theorem Q5{n:Nat}{i:Int}{kk:IntKind}(hT:P.underlying T=some (.slice E))(hS:eF P E s)(hx:ev env x=v)(hv:∃b c,v= .slice (some ⟨b,0,none⟩) n c)(hy:ev env y= .int kk i)(h0:0≤i)(h1:i<n):QV P C ⟨dst,.indexAddr T x y,t,pos,af,g⟩ env V σ (iG v i s):=cS λw hm=>by
 obtain⟨b,c,rfl⟩:=hv;simp only[execOp,hx,hy,Instr.indexAt,asIntOf,underlying,iG];simp[hT,eT hS,h0,h1]
theorem amV{b n cap:Nat}{cs:List Value}(s:Nat)(xs:List Value)(hk:σ[k]? =some (aM E b cs))(hx:xs.length=n*s)(hn:n≤cap)(hm':cap≤maxLen)(hc:cs.length=cap*s)
  (ht:cs.take (n*s)=xs) (h:VC P C N c K Q env V (σ.set k (Gr E s (.slice (some ⟨b,0,none⟩) n cap) n xs))):VC P C N c K Q env V σ:=λa w hf hm=>
 h a w hf (hm.to_gr (cs:=cs.toArray) hk hx hn hm' (by simpa using hc) (by simpa using ht))
theorem DB{off n cp o:Nat}{i:Int}{kk:IntKind}(hT:P.underlying T=some (.slice E))(hS:eF P E s)(hx:ev env x= .slice (some ⟨b,off,none⟩) n cp)(hy:ev env y= .int kk i)(h0:0≤i)(h1:i<n)(ho:off+i.toNat*s=o):
  QV P C ⟨dst,.indexAddr T x y,t,pos,af,g⟩ env V σ (.pointer (some ⟨b,o,none⟩)):=cS λw hm=>by
 subst ho;have e:(⟨b,off,none⟩:Addr).add (i.toNat*s)=⟨b,off+i.toNat*s,none⟩:=by
  unfold Addr.add;split<;>simp_all
 simp only[execOp,hx,hy,Instr.indexAt,asIntOf,underlying];simp[hT,eT hS,h0,h1,e]
theorem KX{n cp:Nat}{kk:IntKind}{lo:Int}(hT:P.underlying T=some (.slice E))(hS:eF P E s)(hx:ev env x= .slice (some ⟨b,0,none⟩) n cp)(hy:ev env y= .int kk lo)(h0:0≤lo)(h1:lo<n)(hc:n≤cp):
  QV P C ⟨dst,.slice T x (some y) none none,t,pos,af,g⟩ env V σ (.slice (some ⟨b,lo.toNat*s,none⟩) (n-lo.toNat) (cp-lo.toNat)):=cS λw _=>by
 obtain⟨q,rfl⟩:∃q:Nat,lo=q:=⟨lo.toNat,aB⟩;have h3:(⟨b,0,none⟩:Addr).add (q*s)=⟨b,q*s,none⟩:=by
  unfold Addr.add;split<;>simp_all
 have h6:q≤n:=aB;have h7:¬cp=q:=aB;have h8:q≤cp:=aB;simp only[iD];simp[execOp,hx,hy,Instr.sliceAt,Instr.slice,run_underlying hT,Instr.sliceBounds,Instr.sliceBound,asIntOf,eT hS,h3,h6,h7,hc]
theorem aa3{n cp:Nat}{kk:IntKind}{hi:Int}(hT:P.underlying T=some (.slice E))(hS:eF P E s)(hx:ev env x= .slice (some ⟨b,0,none⟩) n cp)(hy:ev env y= .int kk hi)(h0:0≤hi)(h1:hi≤cp):
  QV P C ⟨dst,.slice T x none (some y) none,t,pos,af,g⟩ env V σ (.slice (some ⟨b,0,none⟩) hi.toNat cp):=cS λw _=>by
 have r:=zX (P:=P) (a:=some ⟨b,0,none⟩) (n:=n) (c:=cp) (h:=hi.toNat) (kk:=kk) hT hS aB w;rw[show((hi.toNat:Nat):Int)=hi by omega]at r;simp[execOp,hx,hy,Instr.sliceAt,run_underlying hT,r]
theorem ajN{off n cp:Nat}{cs:List Value}{z0:Value}{yy:Nat}(hT:P.underlying T=some (.slice E))(hi:TI P E z0 s yy)(hz:z0.cells.size=s)(h1:z0.cells.toList.all (·.oneCell')=true)(hx:ev env x= .slice (some ⟨b,off,none⟩) n cp)(hn:0<n)(hk:σ[k]? =some (aM T' b cs))
  (hfit:off+n*s≤cs.length)
  (h:∀news:List Value,news.length=n*s→d6 P C N ops K rest env V (σ.set k (aM T' b (cs.take off++news++cs.drop (off+n*s))))):
  d6 P C N ops K (⟨none,.call {callee:=.builtin .clear,args:= #[x],argTypes:= #[T]},t,pos,af,none⟩::rest) env V σ:=λa w hf hm=>by
 refine wpList_plain rfl λK' hK'=> ?_;unfold Oper.wp;have hb:=(hm.blk hk).1;have hb:w.heap[b]? =some (.cells cs.toArray T' (0,0)):=hb;obtain⟨i,i1,i2,i3,i4⟩:=hi.out;obtain⟨news,hnews⟩:∃l,l=(Builtin.zeroCells z0.cells n).toList:=⟨_,rfl⟩;have hln:news.length=n*s:=by rw[hnews];simp[Builtin.zeroCells,hz]
 have hone:∀u∈news,u.oneCell'=true:=λu hu=>by
  rw[hnews]at hu;simp only[Builtin.zeroCells,Array.toList_map,HW]at hu;obtain⟨j,hj,rfl⟩:=hu;have hj2:j<n*z0.cells.size:=by simpa using hj
  have hpos:0<z0.cells.size:=by
   rcases Nat.eq_zero_or_pos z0.cells.size with q|q
   rw[q]at hj2;omega;exact q
  have hlt:j%z0.cells.size<z0.cells.size:=Nat.mod_lt _ hpos;have hmem:z0.cells[j%z0.cells.size]!∈z0.cells.toList:=by
   rw[getElem!_pos z0.cells _ hlt];simp
  exact List.all_eq_true.1 h1 _ hmem
 have hst:=run_storeCells_at P b off T' news 0 cs.toArray w hb k6 hone;simp only[Nat.add_zero,hln]at hst;have hrow:w.setRow b (cs.take off++news++cs.drop (off+n*s)).toArray={w with heap:=w.heap.setIfInBounds b (.cells (cs.take off++news++cs.drop (off+n*s)).toArray T' (0,0))}:=by
  unfold World.setRow;congr 1;have hlt:b<w.heap.size:=jD (w:=w) hb;apply Array.ext;simp;intro i q1 q2;simp only[Z4];by_cases hi:b=i;subst hi;have:w.heap[b]= .cells cs.toArray T' (0,0):=by rw[wC hlt]at hb;exact Option.some.inj hb
  simp[this];rw[aC hi,adX _ hi]
 have hcl:(Builtin.clear_ #[T] t #[.slice (some ⟨b,off,none⟩) n cp]).run P w= .ok (.tuple #[]) (w.setRow b (cs.take off++news++cs.drop (off+n*s)).toArray):=by
  obtain⟨m,rfl⟩:∃m,n=m+1:=⟨n-1,aB⟩;simp[Builtin.clear_,run_underlying hT,zeroValue,typeInfo,i1,i2,←hnews,hst]
 have e:(execOp (ev env) ⟨none,.call {callee:=.builtin .clear,args:= #[x],argTypes:= #[T]},t,pos,af,none⟩).run P w= .ok (.value (.tuple #[])) {w with heap:=w.heap.setIfInBounds b (.cells (cs.take off++news++cs.drop (off+n*s)).toArray T' (0,0))}:=by
  rw[←hrow];simp only[execOp,resolve,invoke,builtin,Sem.run_bind,Sem.run_pure,Result.andThen_ok,List.map_toArray,lQ,y_,hx,hcl]
 rw[hf.eval,e];exact hK' _ _ (h news hln _ _ (hf.put none _) (hm.setBlk hk _ _ rfl))
theorem ay3{i:Int}{f o m:Nat}{E2:TypeId}{xs:List Value}(hF:yV P T f o)(hx:ev env x=iG v i s)(hk:σ[k]? =some (Gr E2 s v m xs))(h0:0≤i)(h1:i<m):QV P C ⟨dst,.fieldAddr T x f,t,pos,af,g⟩ env V σ (C8 v i s o):=λw hm=>by
 obtain⟨b,off,cs,T',fz,c,e,_,_,e3,e4,_⟩:=(hm.grSls hk).at h0 h1;rw[e4 o,←HI];exact KA hF (hx.trans e3) w hm
theorem aIf{n o m:Nat}{i:Int}{u:Value}{vs xs xs':List Value}(hS:eF P T m)(hx:ev env x=C8 v i s o)(hy:ev env y=u)(hv:u.cells=vs.toArray)(hl:vs.length=m)(h1:vs.all (·.oneCell')=true)(hk:σ[k]? =some (Gr E s v n xs))(h0:0≤i)(hi:i<n)(ho:o+m≤s)
  (hc:xs.take (i.toNat*s+o)++vs++xs.drop (i.toNat*s+o+m)=xs') (h:d6 P C N ops K rest env V (σ.set k (Gr E s v n xs'))):d6 P C N ops K (⟨none,.store T x y,t,pos,af,none⟩::rest) env V σ:=λa w hf hm=>by
 obtain⟨b,cap,cs,rfl,q2,q3,q4,q5,h6⟩:=hm.of_gr aB hk;have hle:(i.toNat+1)*s≤n*s:=vG s aB;have hle2:n*s≤cap*s:=vG s q2;rw[o5,CK]at hle;generalize ep:i.toNat*s+o=p at*;have hlt:k<σ.length:=(EG.1 hk).1;have hk2:(σ.set k (aM E b cs))[k]? =some (aM E b cs):=by rw[ML hlt]
 have hxp:ev env x= .pointer (some ⟨b,p,none⟩):=by rw[hx,←ep];simp only[C8];rw[add_none,Nat.zero_add]
 have hxl:xs.length=n*s:=by rw[←q5,jL];omega
 refine kX (σ:=σ.set k (aM E b cs)) (k:=k) (cs':=cs.take p++vs++cs.drop (p+vs.length)) hS hxp hy hv hl h1 hk2 aB rfl (λa' w' hf' hm'=>h a' w' hf' ?_) a w hf h6;rw[List.set_set]at hm';have hk3:(σ.set k (aM E b (cs.take p++vs++cs.drop (p+vs.length))))[k]? =some (aM E b (cs.take p++vs++cs.drop (p+vs.length))):=by rw[ML hlt]
 have e1:(cs.take p++vs++cs.drop (p+vs.length)).length=cap*s:=by simp;omega
 have e2:(cs.take p++vs++cs.drop (p+vs.length)).take (n*s)=xs':=by
  rw[←hc,←q5,hl];apply List.ext_getElem?;intro j;rw[iH];by_cases hp:j<n*s;rw[aK hp];simp only[List.getElem?_append,dD,jL,iH,kO,hl];have a1:min p cs.length=p:=aB;have a2:min p (min (n*s) cs.length)=p:=aB;rw[a1,a2];by_cases c1:j<p+m;rw[aK c1,aK c1];by_cases c2:j<p;rw[aK c2,aK c2,aK c2,aK c2,aK aB];rw[aC c2,aC c2];rw[aC c1,aC c1,aK aB];rw[aC hp];symm;apply CD;simp only[dD,jL,mX];omega
 have hm2:=hm'.to_gr (cs:=(cs.take p++vs++cs.drop (p+vs.length)).toArray) (n:=n) (cap:=cap) (s:=s) (xs:=xs') hk3 (by rw[←e2,jL];omega) q2 q3 (by simpa using e1) (by simpa using e2);rw[List.set_set]at hm2;exact hm2
theorem ap3{n o:Nat}{i:Int}{u:Value}{xs xs':List Value}(hS:eF P T 1)(hx:ev env x=C8 v i s o)(hy:ev env y=u)(hv1:u.oneCell'=true)(hk:σ[k]? =some (Gr E s v n xs))(h0:0≤i)(h1:i<n)(ho:o<s)(hxs:xs.set (i.toNat*s+o) u=xs')
  (h:d6 P C N ops K rest env V (σ.set k (Gr E s v n xs'))):d6 P C N ops K (⟨none,.store T x y,t,pos,af,none⟩::rest) env V σ:=λa w hf hm=>by
 obtain⟨b,cap,cs,_,q2,_,q4,q5,_⟩:=hm.of_gr aB hk;have hle:(i.toNat+1)*s≤n*s:=vG s aB;have hle2:n*s≤cap*s:=vG s q2;rw[o5,CK]at hle;have hxl:xs.length=n*s:=by rw[←q5,jL];omega
 exact aIf (m:=1) (vs:=[u]) hS hx hy (by cases u<;>first|rfl|cases hv1) rfl (by simpa using hv1) hk h0 h1 aB (by rw[←hxs,List.set_eq_take_append_cons_drop,aK aB];simp) h a w hf hm
end
end Go.Vc
namespace Go.Vc
open Go.RowKit
variable{C:Cx}{V k:HV}{b:Nat}{w:World}{α:Type}
def qX:List HV→HV
 | []=>λ_=>none
 |h::hs=>pQ h (qX hs)
def Pk(σ:aY):fB:=λh=>∃hs,nO σ hs∧hs.Pairwise kP∧h=qX hs
def ExA(A:α→fB):fB:=λh=>∃a,A a h
theorem aiF{g h:HV}:pQ g h b=none↔g b=none∧h b=none:=by
 unfold pQ;cases g b with
 |some o=>simp
 |none=>simp
theorem kM:∀{hs:List HV},qX hs b=none↔∀h∈hs,h b=none
 | []=>by simp[qX]
 |h::hs=>by
  show pQ h (qX hs) b=none↔_;rw[aiF,kM (hs:=hs)];simp
theorem FL{hs:List HV}(h:∀x∈hs,kP x k):kP (qX hs) k:=λb=>by
 by_cases q:k b=none;exact .inr q;exact .inl (kM.2 λx hx=>(h x hx b).resolve_right q)
theorem HZ:∀{hs:List HV},hs.Pairwise kP→∀h∈hs,bR h (qX hs)
 | [],_,_,hm=>by cases hm
 |x::hs,hp,h,hm=>by
  have hp:=EW.1 hp;rcases uL.1 hm with e|e
  rw[e];exact iP _ _;have hd:kP x (qX hs):=(FL λy hy=>(hp.1 y hy).symm).symm;exact(HZ hp.2 h e).trans (jU hd)
theorem SG:∀{hs:List HV},(∀h∈hs,bR h k)→bR (qX hs) k
 | [],_=>λb o h=>by cases h
 |x::hs,h=>aaS (h x (mZ ..)) (SG λy hy=>h y (uC _ hy))
theorem bZ.unpack{σ τ:aY}(m:bZ C V (Pk σ::τ) w):bZ C V (σ++τ) w:=by
 obtain⟨hs,h1,h2,h3⟩:=m.own;match hs,h1,h2,h3 with
 |x::ht,h1,h2,h3=>
  obtain⟨ks,k1,k2,rfl⟩:=h1.1;have h2:=EW.1 h2;have hx:=h3 _ (mZ ..);refine⟨m.os,m.tape,m.output,m.dr,m.size,m.frame,m.sub,m.view,m.vold,ks++ht,k1.append h1.2,?_,?_⟩;rw[xZ];exact⟨k2,h2.2,λa ha b hb c=>(h2.1 b hb c).imp (λq=>kM.1 q a ha) id⟩;intro h hh;rcases jW.1 hh with q|q
  have s:=HZ k2 h q;refine⟨s.trans hx.1,λb=>(hx.2.1 b).imp (λz=>kM.1 z h q) id,λb hb hne=>hx.2.2 b hb λz=>hne (kM.1 z h q)⟩;exact h3 h (uC _ q)
theorem bZ.pack{σ τ:aY}(m:bZ C V (σ++τ) w):bZ C V (Pk σ::τ) w:=by
 obtain⟨hs,h1,h2,h3⟩:=m.own;obtain⟨ks,ht,rfl,k1,k2⟩:=h1.split;have h2:=xZ.1 h2;refine⟨m.os,m.tape,m.output,m.dr,m.size,m.frame,m.sub,m.view,m.vold,qX ks::ht,⟨⟨ks,k1,h2.1,rfl⟩,k2⟩,EW.2 ⟨λy hy=>FL λx hx=>h2.2.2 x hx y hy,h2.2.1⟩,?_⟩;intro h hh;rcases uL.1 hh with q|q
 rw[q];refine⟨SG λx hx=>(h3 x (t5 _ hx)).1,FL λx hx=>(h3 x (t5 _ hx)).2.1,λb hb hne=> ?_⟩;apply kB;intro z;exact hne (kM.2 λx hx=>kB λy=>z ((h3 x (t5 _ hx)).2.2 b hb y));exact h3 h (FU _ q)
theorem bZ.ex{A:α→fB}{τ:aY}(m:bZ C V (ExA A::τ) w):∃a,bZ C V (A a::τ) w:=by
 obtain⟨hs,h1,h2,h3⟩:=m.own;match hs,h1,h2,h3 with
 |x::ht,h1,h2,h3=>
  obtain⟨a,ha⟩:=h1.1;exact⟨a,m.os,m.tape,m.output,m.dr,m.size,m.frame,m.sub,m.view,m.vold,x::ht,⟨ha,h1.2⟩,h2,h3⟩
theorem bZ.exI{A:α→fB}{a:α}{τ:aY}(m:bZ C V (A a::τ) w):bZ C V (ExA A::τ) w:=by
 obtain⟨hs,h1,h2,h3⟩:=m.own;match hs,h1,h2,h3 with
 |x::ht,h1,h2,h3=>exact⟨m.os,m.tape,m.output,m.dr,m.size,m.frame,m.sub,m.view,m.vold,x::ht,⟨⟨a,h1.1⟩,h1.2⟩,h2,h3⟩
abbrev PkE(σ:α→aY):fB:=ExA λa=>Pk (σ a)
section
variable {P:Program} {C:Cx} {N:Nat} {K:K3} {Q:Ex→K3} {env:cR} {V:HV} {τ τ':aY} {c:Code} {α:Type}
theorem alV(σ:α→aY)(hp:τ'.Perm (PkE σ::τ))(h:∀a,VC P C N c K Q env V (σ a++τ)):VC P C N c K Q env V τ':=λa w hf hm=>by
 obtain⟨x,hx⟩:=(hm.perm hp).ex;exact h x a w hf hx.unpack
theorem ay8(σ:α→aY)(x:α)(hp:τ'.Perm (σ x++τ))(h:VC P C N c K Q env V (PkE σ::τ)):VC P C N c K Q env V τ':=λa w hf hm=>
 h a w hf (bZ.exI (a:=x) (hm.perm hp).pack)
end
theorem abN(hs:List HV):iR [qX hs]=iR hs:=by
 funext b;apply propext;constructor;rintro⟨h,hm,hne⟩;rw[gY.1 hm]at hne;exact kB λz=>hne (kM.2 λx hx=>kB λy=>z ⟨x,hx,y⟩);rintro⟨h,hm,hne⟩;exact⟨_,gY.2 rfl,λz=>hne (kM.1 z h hm)⟩
section
variable {P:Program} {f:FuncId} {args:List Value} {V:HV}
theorem aP.packed{α β γ:Type}{σ:α→aY}{τ:γ→β→aY}{Ψ:Value→HV→γ→Prop}(a0:α)(h:∀a,aP P f args V (σ a) (λv V' σ'=>∃g b,σ'=τ g b∧Ψ v V' g)):aP P f args V [PkE σ] (λv V' σ'=>∃g,σ'=[PkE (τ g)]∧Ψ v V' g):=by
 refine⟨(h a0).ok,λw0 hs0 h1 h2 h3 h4=> ?_⟩;match hs0,h1,h2,h4 with
 | [x],h1,h2,h4=>
  obtain⟨a,ks,k1,k2,rfl⟩:=h1.1;have hx:=h4 _ (mZ ..);refine((h a).run w0 ks k1 k2 h3 λy hy=>⟨(HZ k2 y hy).trans hx.1,λb=>(hx.2 b).imp (λz=>kM.1 z y hy) id⟩).mono ?_;rintro e w' ⟨v,V',σ',he,⟨g,b,rfl,hψ⟩,hm⟩;refine⟨v,V',_,he,⟨g,rfl,hψ⟩,?_⟩;rw[abN];exact bZ.exI (a:=b) (bZ.pack (τ:=[]) (by rw[kN];exact hm))
theorem ah3(ks:List HV):iR (ks++ [qX []])=iR ks:=by
 funext b;apply propext;constructor;rintro⟨h,hm,hne⟩;rcases jW.1 hm with q|q
 exact⟨h,q,hne⟩;rw[gY.1 q]at hne;exact bM rfl hne;rintro⟨h,hm,hne⟩;exact⟨h,t5 _ hm,hne⟩
theorem aP.pk_in{Φ:Value→HV→aY→Prop}(h:aP P f args V [] Φ):aP P f args V [Pk []] (λv V' σ'=>σ'=[Pk []]∧∃σ1,Φ v V' σ1):=by
 refine⟨h.ok,λw0 hs0 h1 h2 h3 h4=> ?_⟩;match hs0,h1,h2,h4 with
 | [x],h1,h2,h4=>
  obtain⟨ks,k1,k2,rfl⟩:=h1.1;match ks,k1 with
  | [],_=>
  refine(h.run w0 [] trivial .nil h3 λy hy=>by cases hy).mono ?_;rintro e w' ⟨v,V',σ',he,hφ,hm⟩;refine⟨v,V',_,he,⟨rfl,σ',hφ⟩,?_⟩;rw[abN];exact bZ.pack (σ:=[]) (τ:=[]) (hm.drop (σq:=[]) (.refl _))
theorem aP.pk_out{σ:aY}{Φ:Value→HV→aY→Prop}(h:aP P f args V (σ++ [Pk []]) (λv V' σ'=>∃σ1,σ'=σ1++ [Pk []]∧Φ v V' σ1)):aP P f args V σ Φ:=by
 refine⟨h.ok,λw0 hs0 h1 h2 h3 h4=> ?_⟩;refine(h.run w0 (hs0++ [qX []]) (h1.append ⟨⟨[],trivial,.nil,rfl⟩,i_⟩) (xZ.2 ⟨h2,bK,λa _ b hb c=>.inr (by rw[gY.1 hb];rfl)⟩) h3 λy hy=> ?_).mono ?_;rcases jW.1 hy with q|q
 exact h4 y q;rw[gY.1 q];exact⟨λb o z=>(by cases z),λb=>Or.inl rfl⟩;rintro e w' ⟨v,V',σ',he,⟨σ1,rfl,hφ⟩,hm⟩;rw[ah3]at hm;have hm:=(hm.perm (List.perm_append_comm (l₁:=σ1))).unpack;exact⟨v,V',σ1,he,hφ,hm⟩
end
end Go.Vc
namespace Go.Vc
open Go Go.RowKit
def dropR(v:Value)(lo s:Nat):Value:=match v with| .slice a n c=>.slice (if c=lo then a else a.map (·.add (lo*s))) (n-lo) (c-lo)|_=>v
section
variable {P:Program} {C:Cx} {env:cR} {V:HV} {σ:aY} {x y z:Operand} {T E t:TypeId} {dst:Option Nat} {pos:String} {af:Array Edge} {g:Option (Nat×Bool)} {n s:Nat} {xs:List Value} {v:Value}
theorem aR.dropR{H:HV}(h:aR s H v n xs){m:Nat}(hm:m≤n):aR s H (Go.Vc.dropR v m s) (n-m) (xs.drop (m*s)):=by
 obtain⟨a,c,rfl,h1,h2,hl,h3⟩:=h;have e:n=m+(n-m):=aB;have hms:n*s=m*s+(n-m)*s:=by rw[←o5,←e]
 refine⟨_,_,rfl,aB,aB,by rw[mX,hl];omega,λhne=> ?_⟩;obtain⟨b,off,cs,T,fz,e1,e2,e3⟩:=h3 aB;subst e1;refine⟨b,off+m*s,cs,T,fz,?_,e2,λi hi=> ?_⟩;rw[aC aB];simp[add_none];rw[HI,e3 _ aB,kO]
theorem rZ{H:HV}{kk:IntKind}{lo:Int}(hT:P.underlying T=some (.slice E))(hS:eF P E s)(hx:ev env x=v)(hv:aR s H v n xs)(hy:ev env y= .int kk lo)(h0:0≤lo)(h1:lo≤n):
  QV P C ⟨dst,.slice T x (some y) none none,t,pos,af,g⟩ env V σ (Go.Vc.dropR v lo.toNat s):=cS λw _=>by
 obtain⟨a,c,rfl,hc,_,_,h3⟩:=hv;obtain⟨q,rfl⟩:∃q:Nat,lo=q:=⟨lo.toNat,aB⟩;have h6:q≤n:=aB;by_cases h7:c=q;subst h7;simp only[iD,Go.Vc.dropR];simp[execOp,hx,hy,Instr.sliceAt,Instr.slice,run_underlying hT,Instr.sliceBounds,Instr.sliceBound,asIntOf,eT hS,h6];simp only[iD,Go.Vc.dropR];cases a with
 |none=>simp[execOp,hx,hy,Instr.sliceAt,Instr.slice,run_underlying hT,Instr.sliceBounds,Instr.sliceBound,asIntOf,eT hS,h6,h7]
 |some a=>simp[execOp,hx,hy,Instr.sliceAt,Instr.slice,run_underlying hT,Instr.sliceBounds,Instr.sliceBound,asIntOf,eT hS,h6,h7]
end
end Go.Vc
namespace Go.Proofs.YtbchkopkgpfkgaaGreat
open Go Go.Vc
variable{i:Int}
def OT(r:gG):List Value:=[.int .i64 r.1,.int .i64 r.2]
def uN(K:List gG):List Value:=K.flatMap OT
theorem amB(K:List gG)(r:gG):uN (K++ [r])=uN K++OT r:=by simp[uN]
theorem XE:∀(K:List gG) (i:Nat),i<K.length→((uN K).drop (i*2)).take 2=OT (K.getD i (0,0))
 |a::K,0,_=>rfl
 |a::K,i+1,h=>by
  have:=XE K i vB;show((OT a++uN K).drop ((i+1)*2)).take 2=_;rw[show(i+1)*2=(OT a).length+i*2 by simp[OT];omega,List.drop_append,List.drop_of_length_le aB];simp;exact this
theorem vY{K:List gG}(_h0:0≤i)(h1:i<K.length):((uN K).drop (i.toNat*2)).take 2=[.int .i64 (pg K i).1,.int .i64 (pg K i).2]:=XE K i.toNat aB
theorem w_{K:List gG}{o:Nat}{u:Value}(h0:0≤i)(h1:i<K.length)(ho:o<2)(hu:[Value.int .i64 (pg K i).1,.int .i64 (pg K i).2][o]? =some u):(uN K)[i.toNat*2+o]? =some u:=by
 rw[←hu,←vY h0 h1,iH,aK ho,kO]
theorem SY:∀(K:List gG) (m:Nat),(uN K).drop (m*2)=uN (K.drop m)
 |K,0=>rfl
 | [],m+1=>by simp[uN]
 |a::K,m+1=>by
  show(OT a++uN K).drop ((m+1)*2)=uN (K.drop m);rw[←SY K m,show(m+1)*2=(OT a).length+m*2 by simp[OT];omega,List.drop_append,List.drop_of_length_le aB];simp
def G1(H:HV)(v:Value)(K:List gG):Prop:=aR 2 H v K.length (uN K)
theorem G1.drop{H:HV}{v:Value}{K:List gG}(h:G1 H v K){m:Nat}(hm:m≤K.length):G1 H (dropR v m 2) (K.drop m):=by
 have:=aR.dropR h hm;rw[SY]at this;unfold G1;rw[mX];exact this
theorem TE{a:gG}{L:List gG}(h0:0≤i)(h1:i<L.length):j5 a (L.take (i+1).toNat)=(aX (j5 a (L.take i.toNat)).1 (pg L i).1,bJ (j5 a (L.take i.toNat)).2 (pg L i).2):=by
 rw[show(i+1).toNat=i.toNat+1 by omega,t7,dT aB];unfold j5 pg;rw[List.foldl_append,bX,dT aB];rfl
theorem aiG{vs:List Vr}{n:Int}{K:List gG}(h:OL (pH vs 0 n K)):¬(n< -1048576∨1048576<n):=by
 intro q;rw[aj4 q]at h;unfold OL at h;have:=h.1;have e:((-1048577:Int),(1048577:Int)).1= -1048577:=rfl;rw[e]at this;omega
end Go.Proofs.YtbchkopkgpfkgaaGreat
namespace Go.Proofs.YtbchkopkgpfkgaaGreat
open Classical Go Go.Vc
def PJ(l:List Int):Prop:=∀i:Int,1≤i→i<l.length→¬gi l i≤gi l (i-1)
section
variable {F:Fl} {s:St} {p:Prop}
theorem K8(h:iT F s p):
  (s.dk=0∧s.thn.length=0∧s.els.length=0∧0≤s.var∧s.var<(F.vs.length:Int)∧(vr F.vs s.var).kd=0∧s.n=0∧s.bds.length=0)∨
  (s.dk=1∧s.thn.length=0∧s.els.length=0∧s.var=0∧s.n=0∧s.bds.length=0)∨
  (s.dk=2∧s.thn.length=0∧s.els.length=0∧s.var=0∧s.n=0∧s.bds.length=0)∨
  (s.dk=3∧s.var=0∧s.n=0∧s.bds.length=0)∨(s.dk=4∧s.var=0∧s.els.length=0∧s.bds.length=0)∨
  (s.dk=5∧s.thn.length=0∧s.els.length=0∧0≤s.var∧s.var<(F.vs.length:Int)∧(vr F.vs s.var).kd=0∧0≤s.n∧s.n<(F.hs.length:Int)∧s.bds.length=0)∨
  (s.dk=6∧s.thn.length=0∧s.els.length=0∧s.var=0∧s.n=0∧1≤s.bds.length∧s.bds.length≤32∧0≤gi s.bds 0):=by
 by_cases e:s.dk=0∨s.dk=1∨s.dk=2∨s.dk=3∨s.dk=4∨s.dk=5∨s.dk=6;rcases e with e|e|e|e|e|e|e
 rw[NG e]at h;unfold zP lcP uX at h;omega;rw[auE e]at h;unfold zP uX at h;omega;rw[aeN e]at h;have h:=h.1;unfold zP uX at h;omega;rw[auF e]at h;unfold uX at h;omega;rw[asO e]at h;unfold uX at h;omega;rw[J4 e]at h;have h:=h.1;unfold zP lcP uX at h;omega;rw[JH e]at h;obtain⟨⟨⟨⟨⟨h1,_⟩,h2⟩,h3⟩,_⟩,h4⟩:=h;have h5:=h4.1;unfold zP at h1;omega;exact bM h (auR e)
theorem ay0(h:iT F s p)(e:¬(s.dk=0∨s.dk=1∨s.dk=3∨s.dk=4)):BF s.tm:=by
 have:=K8 h;by_cases e2:s.dk=2;rw[aeN e2]at h;exact h.2;by_cases e5:s.dk=5;rw[J4 e5]at h;exact h.2;rw[JH aB]at h;exact h.1.2
theorem aF4(h:iT F s p)(e:s.dk=6):p∧PJ s.bds:=by
 rw[JH e]at h;exact⟨h.1.1.1.1.2,h.2.2⟩
end
section
variable {s:St} {X:Int}
theorem cS4(h:s.nn)(hX:0≤X)(e:s.dk=4):aX (aX X 1099511627776+(1+s.n*(1+aX (dX s.thn) 1099511627776))) 1099511627776=aX (X+s.uS) 1099511627776:=by
 obtain⟨_,h2,h3,_⟩:=(lL s).1 h;have u:=(eB _ h3).1;have m:=fG (U:=dX s.thn) (L:=1099511627776) u aB;have p:=oN h2 (show 0≤1+dX s.thn by omega);have p':=oN h2 (show 0≤1+aX (dX s.thn) 1099511627776 by omega);rw[PB,aK e];apply jF hX aB aB aB;have c:=zI (n:=s.n) (x:=1) (U:=dX s.thn) (L:=1099511627776) h2 aB u aB;have:=jF (X:=1) (Y:=s.n*(1+dX s.thn)) (y:=s.n*(1+aX (dX s.thn) 1099511627776)) (L:=1099511627776) aB p p' aB c;exact this
theorem cS0(h:s.nn)(hX:0≤X)(e:¬s.dk=4):aX (aX X 1099511627776+(1+bJ (aX (dX s.thn) 1099511627776) (aX (dX s.els) 1099511627776))) 1099511627776=aX (X+s.uS) 1099511627776:=by
 obtain⟨_,h2,h3,h4⟩:=(lL s).1 h;have u:=(eB _ h3).1;have w:=(eB _ h4).1;have m:=rH (fG (U:=dX s.thn) (L:=1099511627776) u aB) (fG (U:=dX s.els) (L:=1099511627776) w aB);have m2:0≤bJ (dX s.thn) (dX s.els):=by unfold bJ;split<;>omega
 rw[PB,aC e];exact jF hX aB aB aB (yW (x:=1) aB u w aB)
theorem cO4(h:s.nn)(hX:0≤X)(e:s.dk=4):aX (aX X 1099511627776+s.n*aX (cJ s.thn) 1099511627776) 1099511627776=aX (X+s.uO) 1099511627776:=by
 obtain⟨_,h2,h3,_⟩:=(lL s).1 h;have u:=(eB _ h3).2.1;have m:=fG (U:=cJ s.thn) (L:=1099511627776) u aB;have p:=oN h2 u;have p':=oN h2 m.1;rw[wH,aC aB,aK e];have c:=zI (n:=s.n) (x:=0) (U:=cJ s.thn) (L:=1099511627776) h2 aB u aB;rw[LS,LS]at c;exact jF hX p p' aB c
theorem cO0(h:s.nn)(hX:0≤X)(e:¬s.dk=4)(e1:¬s.dk=1):aX (aX X 1099511627776+bJ (aX (cJ s.thn) 1099511627776) (aX (cJ s.els) 1099511627776)) 1099511627776=aX (X+s.uO) 1099511627776:=by
 obtain⟨_,h2,h3,h4⟩:=(lL s).1 h;have u:=(eB _ h3).2.1;have w:=(eB _ h4).2.1;have m:=rH (fG (U:=cJ s.thn) (L:=1099511627776) u aB) (fG (U:=cJ s.els) (L:=1099511627776) w aB);have m2:0≤bJ (cJ s.thn) (cJ s.els):=by unfold bJ;split<;>omega
 rw[wH,aC e1,aC e];have c:=yW (x:=0) (U:=cJ s.thn) (W:=cJ s.els) (L:=1099511627776) aB u w aB;rw[LS,LS]at c;exact jF hX aB aB aB c
theorem cT4(h:s.nn)(hX:0≤X)(e:s.dk=4):aX (aX X 1099511627776+s.n*(s.cost+aX (cG s.thn) 1099511627776)) 1099511627776=aX (X+s.uT) 1099511627776:=by
 obtain⟨h1,h2,h3,_⟩:=(lL s).1 h;have u:=(eB _ h3).2.2;have m:=fG (U:=cG s.thn) (L:=1099511627776) u aB;have p:=oN h2 (show 0≤s.cost+cG s.thn by omega);have p':=oN h2 (show 0≤s.cost+aX (cG s.thn) 1099511627776 by omega);rw[B4,aK e];exact jF hX p p' aB (zI h2 h1 u aB)
theorem cT0(h:s.nn)(hX:0≤X)(e:¬s.dk=4):aX (aX X 1099511627776+(s.cost+bJ (aX (cG s.thn) 1099511627776) (aX (cG s.els) 1099511627776))) 1099511627776=aX (X+s.uT) 1099511627776:=by
 obtain⟨h1,h2,h3,h4⟩:=(lL s).1 h;have u:=(eB _ h3).2.2;have w:=(eB _ h4).2.2;have m:=rH (fG (U:=cG s.thn) (L:=1099511627776) u aB) (fG (U:=cG s.els) (L:=1099511627776) w aB);have m2:0≤bJ (cG s.thn) (cG s.els):=by unfold bJ;split<;>omega
 rw[B4,aC e];exact jF hX aB aB aB (yW h1 u w aB)
end
theorem u_o{F:Fl}{last:Prop}{s:St}(h:o_ F last s)(e3:¬s.dk=3)(e4:¬s.dk=4):s.uS=1∧s.uT=s.cost∧s.uO=if s.dk=1 then 1 else 0:=by
 have z:=K8 (iM.1 h).1.shp;have a:s.thn=[]:=rS aB;have b:s.els=[]:=rS aB;rw[PB,B4,wH,aC e4,aC e4,aC e4,a,b];refine⟨rfl,?_,rfl⟩;show s.cost+0=_;omega
theorem sL{z L:Int}:(if L<z then L else z)=aX z L:=by unfold aX;(repeat' split)<;>omega
theorem yY{X y Y:Int}(hX:0≤X)(hy:y=Y)(h0:0≤Y):aX (aX X 1099511627776+y) 1099511627776=aX (X+Y) 1099511627776:=jF hX h0 aB aB (by rw[hy])
end Go.Proofs.YtbchkopkgpfkgaaGreat
namespace Go.Vc
open Go
section
variable {P:Program} {C:Cx} {N:Nat} {K:K3} {Q:Ex→K3} {env:cR} {V:HV} {σ:aY} {ops:Array Oper} {rest:List Oper} {w:World}
variable {d k b s:Nat} {dst:Option Nat} {x y z:Operand} {t T T' T2 E:TypeId} {pos:String} {af:Array Edge} {v:Value}
theorem zY{n:Nat}{i:Int}{u:Value}{vs xs xs':List Value}(hS:eF P T s)(hx:ev env x=iG v i s)(hy:ev env y=u)(hv:u.cells=vs.toArray)(hl:vs.length=s)(h1:vs.all (·.oneCell')=true)(hk:σ[k]? =some (Gr E s v n xs))(h0:0≤i)(hi:i<n)
  (hc:xs.take (i.toNat*s)++vs++xs.drop (i.toNat*s+s)=xs') (h:d6 P C N ops K rest env V (σ.set k (Gr E s v n xs'))):d6 P C N ops K (⟨none,.store T x y,t,pos,af,none⟩::rest) env V σ:=aIf (o:=0) hS hx hy hv hl h1 hk h0 hi aB hc h
end
end Go.Vc
namespace Go.Proofs.YtbchkopkgpfkgaaGreat
open Go Go.Vc
variable{x y:Int}
def vA(x y:Int):Int:=if y=0 then 0 else if x.tmod y≠0∧¬(x<0↔y<0)then x.tdiv y-1 else x.tdiv y
def DG(x y:Int):Int:=if y=0 then 0 else x-y*vA x y
theorem avU(h:y=0):vA x y=0:=aK h
theorem auM(h:y≠0)(q:x.tmod y≠0)(q2:¬(x<0↔y<0)):vA x y=x.tdiv y-1:=by unfold vA;rw[aC h,aK ⟨q,q2⟩]
theorem avY(h:y≠0)(q:¬(x.tmod y≠0∧¬(x<0↔y<0))):vA x y=x.tdiv y:=by unfold vA;rw[aC h,aC q]
theorem aB6(x y:Int):(x.tdiv y).natAbs≤x.natAbs:=by rw[Int.natAbs_tdiv];exact Nat.div_le_self ..
theorem ae1(h:y≠0):vA x y=x.fdiv y:=by
 rw[Int.fdiv_eq_tdiv];by_cases b:x.tmod y≠0∧¬(x<0↔y<0);have hd:¬y∣x:=λe=>b.1 (Int.dvd_iff_tmod_eq_zero.1 e);rw[auM h b.1 b.2,aC hd];have b2:=b.2;by_cases hx:0≤x;rw[aK hx,aC aB];rw[aC hx,aK aB,Int.sign_eq_one_of_pos aB];rw[avY h b];by_cases hd:y∣x;rw[aK hd];omega;rw[aC hd];have h2:(x<0)↔(y<0):=kB λq=>b ⟨λe=>hd (Int.dvd_iff_tmod_eq_zero.2 e),q⟩;by_cases hx:0≤x;rw[aK hx,aK aB];omega;rw[aC hx,aC aB,Int.sign_eq_neg_one_of_neg aB];omega
theorem aiN:(vA x y).natAbs≤x.natAbs∧(0≤x→0≤y→0≤vA x y):=by
 by_cases h:y=0;rw[avU h];constructor;show 0≤_;omega;intros;omega;rw[ae1 h];refine⟨?_,λa b=> ?_⟩;rw[Int.fdiv_eq_ediv];have e:=Int.emod_add_mul_ediv x y;have e1:=Int.emod_nonneg x h;have hn:(x/y).natAbs≤x.natAbs:=Int.natAbs_ediv_le_natAbs x y;split;omega;rename_i hh;have hy0:y<0:=aB;have hd:¬y∣x:=λe=>hh (Or.inr e);have hnz:x%y≠0:=λe=>hd (Int.dvd_of_emod_eq_zero e);by_cases p:x/y≤0;by_cases p0:(x/y).natAbs<x.natAbs;omega;have p1:x/y=x∨x/y= -x:=aB;have p3:y*(x/y)=x-x%y:=aB;have p4:x≠0:=λe0=>hnz (by rw[e0];exact Int.zero_emod y);have p5:x%y< -y:=by have:=Int.emod_lt_of_neg x hy0;omega
 have p6:y*(x/y)= -(-y*(x/y)):=by rw[Int.neg_mul,Int.neg_neg]
 have p7:x/y= -((x/y).natAbs:Int):=aB;have p8:y*(x/y)= -y*((x/y).natAbs:Int):=by
  have:y*(x/y)=y* -((x/y).natAbs:Int):=congrArg (y*·) p7;rw[this,Int.mul_neg,Int.neg_mul]
 by_cases py:y= -1;subst py;omega;have p9:2*((x/y).natAbs:Int)≤-y*((x/y).natAbs:Int):=aa0 aB aB;omega;omega;rw[Int.fdiv_eq_ediv,aK (Or.inl b)];have:=Int.ediv_nonneg a b;omega
theorem ai_:(y=0→DG x y=0)∧(0<y→0≤DG x y∧DG x y<y)∧(y<0→y<DG x y∧DG x y≤0):=by
 refine⟨λh=>aK h,λh=> ?_,λh=> ?_⟩;have e:=Int.emod_add_mul_ediv x y;have e1:=Int.emod_nonneg x (show y≠0 by omega);have e2:=Int.emod_lt_of_pos x h;unfold DG;rw[aC aB,ae1 aB,Int.fdiv_eq_ediv,aK (Or.inl aB),Int.mul_sub];omega;have e:=Int.emod_add_mul_ediv x y;have e1:=Int.emod_nonneg x (show y≠0 by omega);have e2:=Int.emod_lt_of_neg x h;unfold DG;rw[aC aB,ae1 aB,Int.fdiv_eq_ediv,Int.mul_sub];split;rename_i q;have hd:y∣x:=q.resolve_left aB;have:=Int.emod_eq_zero_of_dvd hd;omega;rename_i q;have hnz:x%y≠0:=λe=>q (Or.inr (Int.dvd_of_emod_eq_zero e));omega
def lM(n lo hi:Int):Int:=aX (bJ lo n) hi
def fP(op a b:Int):Int:=
 if op=8 then a+b else if op=9 then a-b else if op=10 then a*b else if op=11 then vA a b else if op=12 then DG a b
 else if op=13 then(if a=b then 1 else 0)else if op=14 then(if a≠b then 1 else 0)else if op=15 then(if a<b then 1 else 0)else if op=16 then(if a≤b then 1 else 0)
 else if op=17 then(if b<a then 1 else 0)else if op=18 then(if b≤a then 1 else 0)else if op=19 then(if a≠0∧b≠0 then 1 else 0)else if op=20 then(if a≠0∨b≠0 then 1 else 0)
 else if op=21 then aX a b else bJ a b
def FY(xs:List Int)(op n:Int)(k:List Int):Int:=
 if op=0 then n else if op=24 then gi xs n else if op=6 then-(gi k 0)else if op=7 then(if gi k 0=0 then 1 else 0)
 else if op=23 then(if gi k 0≠0 then gi k 1 else gi k 2)else if op=25 then gi k (1+lM (gi k 0) 0 ((k.length:Int)-2))else fP op (gi k 0) (gi k 1)
mutual
def val(xs:List Int):Tm→Int
 | .mk op n k=>FY xs op n (CH xs k)
def CH(xs:List Int):List Tm→List Int
 | []=> []
 |t::r=>val xs t::CH xs r
end
theorem xF{xs:List Int}(t:Tm):val xs t=FY xs t.op t.n (CH xs t.kids):=by cases t;rfl
theorem MP(xs:List Int):∀l:List Tm,CH xs l=l.map (val xs)
 | []=>rfl
 |t::r=>by show val xs t::CH xs r=_;rw[MP xs r];rfl
theorem EO(xs:List Int)(l:List Tm):(CH xs l).length=l.length:=by rw[MP,fT]
theorem pK{xs:List Int}{l:List Tm}{i:Int}(h0:0≤i)(h1:i<l.length):gi (CH xs l) i=val xs (tm l i):=by
 unfold gi tm;rw[MP,bX,bX,iZ,dT aB];rfl
def sB(r:gG)(x:Int):Prop:=r.1≤x∧x≤r.2
theorem lin{a l h b:Int}(h1:l≤a)(h2:a≤h):(l*b≤a*b∧a*b≤h*b)∨(h*b≤a*b∧a*b≤l*b):=by
 by_cases q:0≤b;exact .inl ⟨aa0 h1 q,aa0 h2 q⟩;exact .inr ⟨Int.mul_le_mul_of_nonpos_right h2 aB,Int.mul_le_mul_of_nonpos_right h1 aB⟩
theorem axZ{a b l h m k:Int}(h1:l≤a)(h2:a≤h)(h3:m≤b)(h4:b≤k):
  aX (aX (l*m) (l*k)) (aX (h*m) (h*k))≤a*b∧a*b≤bJ (bJ (l*m) (l*k)) (bJ (h*m) (h*k)):=by
 have x:=lin (b:=b) h1 h2;have y:=lin (b:=l) h3 h4;have z:=lin (b:=h) h3 h4;rw[u6 m l,u6 b l,u6 k l]at y;rw[u6 m h,u6 b h,u6 k h]at z;unfold aX bJ;generalize a*b=p at*;generalize l*b=p1 at*;generalize h*b=p2 at*;generalize l*m=q1 at*;generalize l*k=q2 at*;generalize h*m=q3 at*;generalize h*k=q4 at*;constructor<;>((repeat' split)<;>omega)
theorem XM{x:Int}:∀(l:List gG) (a:gG),(sB a x∨∃r∈l,sB r x)→sB (j5 a l) x
 | [],a,h=>by
  rcases h with h|⟨r,hr,_⟩
  exact h;exact bM hr (by simp)
 |p::r,a,h=>by
  show sB (j5 (aX a.1 p.1,bJ a.2 p.2) r) x;refine XM r _ ?_;have go:(sB a x∨sB p x)→sB (aX a.1 p.1,bJ a.2 p.2) x:=by
   unfold sB aX bJ;intro q;constructor<;>(dsimp only;split<;>omega)
  rcases h with h|⟨y,hy,h⟩
  exact .inl (go (.inl h));rcases uL.1 hy with rfl|hy
  exact .inl (go (.inr h));exact .inr ⟨y,hy,h⟩
theorem M4{K:List gG}{x j:Int}(h1:1≤j)(h2:j<K.length)(h:sB (pg K j) x):sB (j5 (pg K 1) (K.drop 2)) x:=by
 by_cases e:j=1;subst e;exact XM _ _ (.inl h);refine XM _ _ (.inr ⟨pg K j,?_,h⟩);unfold pg;rw[bX,dT aB];refine List.mem_drop_iff_getElem.2 ⟨j.toNat-2,aB,?_⟩;show K[2+(j.toNat-2)]'_=(some (K[j.toNat]'_)).getD _;simp only[X8];congr 1;omega
section
variable {vs:List Vr} {inp:Bool} {xs:List Int}
theorem aAf{op n:Int}{k:List Int}{K:List gG}(hx:bF vs xs)(hk:¬kF op k.length)(hn:¬H0 vs inp op n)(hl:k.length=K.length)(hi:∀j:Int,0≤j→j<k.length→sB (pg K j) (gi k j))(hw:OL (pH vs op n K)):sB (pH vs op n K) (FY xs op n k):=by
 by_cases e0:op=0
 ·subst e0
  have h:¬(n< -1048576∨1048576<n):=aiG hw;rw[WR h];exact⟨eL _,eL _⟩
 by_cases e24:op=24
 ·subst e24
  have hv:0≤n∧n<(vs.length:Int):=kB λq=>hn (.inl ⟨rfl,.inl aB⟩);exact hx n hv.1 hv.2
 by_cases e6:op=6
 ·subst e6
  have hc:=N9 hk (.inl rfl);have h0:=hi 0 aB aB;unfold sB at h0;show-(pg K 0).2≤-(gi k 0)∧-(gi k 0)≤-(pg K 0).1;omega
 by_cases e7:op=7
 ·subst e7
  show(0:Int)≤(if gi k 0=0 then 1 else 0)∧(if gi k 0=0 then(1:Int)else 0)≤1;split<;>omega
 by_cases e23:op=23
 ·subst e23
  have hc:=L5 hk rfl;show sB (j5 (pg K 1) (K.drop 2)) (if gi k 0≠0 then gi k 1 else gi k 2);split
  ·exact M4 (j:=1) aB aB (hi 1 aB aB)
  ·exact M4 (j:=2) aB aB (hi 2 aB aB)
 by_cases e25:op=25
 ·subst e25
  have hc:=KY hk rfl;show sB (j5 (pg K 1) (K.drop 2)) (gi k (1+lM (gi k 0) 0 ((k.length:Int)-2)));have hb:0≤lM (gi k 0) 0 ((k.length:Int)-2)∧lM (gi k 0) 0 ((k.length:Int)-2)≤(k.length:Int)-2:=by
   unfold lM aX bJ
   (repeat' split)<;>omega
  exact M4 aB aB (hi _ aB aB)
 have hop:8≤op∧op≤22:=by
  have:jI op≠-1:=λq=>hk (.inl q);unfold jI at this;rw[aC aB,aC aB]at this;by_cases z:8≤op∧op≤22
  ·exact z
  ·rw[aC z,aC e23,aC e25]at this;exact bM rfl this
 have hc:=AQ hk hop;have h0:=hi 0 aB aB;have h1:=hi 1 aB aB;unfold sB at h0 h1;have e:FY xs op n k=fP op (gi k 0) (gi k 1):=by
  unfold FY;rw[aC e0,aC e24,aC e6,aC e7,aC e23,aC e25]
 rw[e];clear e hn hw hi hk hl;generalize gi k 0=a at*;generalize gi k 1=b at*;by_cases e8:op=8
 ·subst e8
  show(pg K 0).1+(pg K 1).1≤a+b∧a+b≤(pg K 0).2+(pg K 1).2;omega
 by_cases e9:op=9
 ·subst e9
  show(pg K 0).1-(pg K 1).2≤a-b∧a-b≤(pg K 0).2-(pg K 1).1;omega
 by_cases e10:op=10
 ·subst e10
  exact axZ h0.1 h0.2 h1.1 h1.2
 by_cases e11:op=11
 ·subst e11
  have hd:=aiN (x:=a) (y:=b);have hm:(a.natAbs:Int)≤bJ (bJ (pg K 0).1 (-(pg K 0).1)) (bJ (pg K 0).2 (-(pg K 0).2)):=by
   unfold bJ;(repeat' split)<;>omega
  show sB _ (vA a b);by_cases q:0≤(pg K 0).1∧0≤(pg K 1).1
  ·rw[JZ q]
   have:=hd.2 aB aB;exact⟨this,by show _≤bJ _ _;omega⟩
  ·rw[J2 q]
   exact⟨by show-bJ _ _≤_;omega,by show _≤bJ _ _;omega⟩
 by_cases e12:op=12
 ·subst e12
  obtain⟨m1,m2,m3⟩:=ai_ (x:=a) (y:=b);show(if(pg K 1).1<0 then aX 0 ((pg K 1).1+1)else 0)≤DG a b∧DG a b≤(if 0<(pg K 1).2 then bJ 0 ((pg K 1).2-1)else 0);unfold aX bJ;by_cases z1:b=0
  ·have:=m1 z1
   constructor<;>((repeat' split)<;>omega)
  by_cases z2:0<b
  ·have:=m2 z2
   constructor<;>((repeat' split)<;>omega)
  ·have:=m3 aB
   constructor<;>((repeat' split)<;>omega)
 by_cases e21:op=21
 ·subst e21
  show aX (pg K 0).1 (pg K 1).1≤aX a b∧aX a b≤aX (pg K 0).2 (pg K 1).2;unfold aX;constructor<;>((repeat' split)<;>omega)
 by_cases e22:op=22
 ·subst e22
  show bJ (pg K 0).1 (pg K 1).1≤bJ a b∧bJ a b≤bJ (pg K 0).2 (pg K 1).2;unfold bJ;constructor<;>((repeat' split)<;>omega)
 rw[J1 aB];show(0:Int)≤fP op a b∧fP op a b≤1;unfold fP;rw[aC e8,aC e9,aC e10,aC e11,aC e12,aC e21];constructor<;>((repeat' split)<;>omega)
mutual
theorem am1(hx:bF vs xs):∀{t:Tm},lO vs inp t→oI vs t→sB (rg vs t) (val xs t)
 | .mk op n k,hf,hr=>by
  refine aAf (inp:=inp) (k:=CH xs k) (K:=nN vs k) hx (by rw[EO];exact hf.1) hf.2.1 (by rw[EO,JJ]) (λj a b=> ?_) hr.2;exact abY hx hf.2.2 hr.1 j a (by rw[EO]at b;exact b)
theorem abY(hx:bF vs xs):∀{l:List Tm},Q9 vs inp l→tA vs l→∀j:Int,0≤j→j<l.length→sB (pg (nN vs l) j) (gi (CH xs l) j)
 | [],_,_,j,a,b=>bM b (by simp;omega)
 |t::r,hf,hr,j,a,b=>by
  have x:=am1 hx hf.1 hr.1;by_cases e:j=0;subst e;exact x;have y:=abY hx hf.2 hr.2 (j-1) aB (by simp at b;omega);show sB ((rg vs t::nN vs r).getD j.toNat (0,0)) ((val xs t::CH xs r).getD j.toNat 0);rw[show j.toNat=(j-1).toNat+1 by omega];exact y
end
theorem H3(hx:bF vs xs){t:Tm}(hf:lO vs inp t)(hr:oI vs t):-1048576≤val xs t∧val xs t≤1048576:=by
 have a:=am1 hx hf hr;have b:=((pC t).1 hr).2;unfold OL at b;unfold sB at a;omega
end
end Go.Proofs.YtbchkopkgpfkgaaGreat
end



