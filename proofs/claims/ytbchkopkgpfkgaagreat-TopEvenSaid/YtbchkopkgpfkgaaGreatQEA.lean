import Derived.Test.YtbchkopkgpfkgaaGreatQAN
set_option linter.unusedVariables false
set_option maxRecDepth 100000
set_option maxHeartbeats 4000000
noncomputable section
namespace Go.Proofs.YtbchkopkgpfkgaaGreat
open Go Go.Vc
open Classical
structure am5 (F:Fl) (last:Prop) (s:St):Prop where
 shp:iT F s last
 num:0≤s.cost∧0≤s.n∧(s.dk=4→s.n≤4096)
 bd:¬oZ s
 ct:lO F.vs false s.tm∧oI F.vs s.tm
mutual
def StW(F:Fl)(last:Prop):St→Prop
 | .mk dk c v n t a b bd=>am5 F last (.mk dk c v n t a b bd)∧acQ F False a∧acQ F False b
def acQ(F:Fl)(top:Prop):List St→Prop
 | []=>True
 |s::r=>StW F (top∧r=[]) s∧acQ F top r
end
theorem aCI{F:Fl}{last:Prop}{s:St}:StW F last s↔am5 F last s∧acQ F False s.thn∧acQ F False s.els:=by cases s;exact Iff.rfl
theorem aLR{top:Prop}{s:St}{r:List St}:(top∧r=[])=(top∧(0:Int)=((s::r).length:Nat)-1):=by grind[List.eq_nil_of_length_eq_zero]
theorem aHB{F:Fl}{top:Prop}:∀{l:List St} {i:Int},acQ F top l→0≤i→i<l.length→StW F (top∧i=(l.length:Int)-1) (st l i)
 | [],i,_,a,b=>bM b (by simp;omega)
 |s::r,i,h,a,b=>by
  have hl:(((s::r).length:Nat):Int)=r.length+1:=by simp
  by_cases e:i=0;subst e;have h1:=h.1;rw[aLR (s:=s)]at h1;exact h1;have:=aHB h.2 (i:=i-1) aB aB;have e3:st (s::r) i=st r (i-1):=by
   unfold st;rw[show i.toNat=(i-1).toNat+1 by omega];rfl
  rw[e3,hl];grind
theorem amO{s:St}(h:0≤s.cost∧0≤s.n∧(s.dk=4→s.n≤4096)):mT s↔LQ s<s.cost:=by unfold mT;omega
theorem aKC{F:Fl}{last:Prop}{s:St}(h:o_ F last s):0≤s.cost∧0≤s.n∧(s.dk=4→s.n≤4096):=⟨h.num.1.1,h.num.2⟩
section
variable {F:Fl} {last:Prop} {s:St} {x y:Int}
theorem aMh(h:am5 F last s)(q:mT s):L9 F last s x y=3:=apB h.shp (.inl q)
theorem aHW(h:am5 F last s)(q:¬mT s):L9 F last s x y=if x≠0 then x else y:=by
 rw[aqB h.shp q h.bd,show E8 F.vs s.tm false=0 by unfold E8;rw[aC (λz=>z h.ct.1),aC (λz=>z h.ct.2)],aC (λz=>z rfl)]
end
structure WkP (F:Fl):Prop where
 vl:F.vs.length≤64
 hl:F.hs.length≤8
 hd:∀i:Int,0≤i→i<F.hs.length→¬12<(ht F.hs i).tm.dp
 nd:bN F.bd+eV F.hs≤1024
 td:C1 F.bd
 vs:dO F.vs
 hs:∀i:Int,0≤i→i<F.hs.length→ao4 F i
 bd:acQ F True F.bd
theorem aMi{F:Fl}(h:WkP F):YA F↔o6 F.bd≤12:=⟨λq=>q.2.2.2.1,λq=>⟨by have:=h.vl;have:=h.hl;omega,h.hd,h.nd,q,h.td⟩⟩
def wkC(F:Fl):Int:=
 if¬o6 F.bd≤12 then 4 else if jV F True F.bd≠0 then jV F True F.bd else if(4096<dX F.bd∨8<cJ F.bd)∨67108864<cG F.bd then 4 else 0
theorem aMy{F:Fl}(h:WkP F)(q:wkC F=0):gI F:=by
 unfold wkC at q;by_cases a:o6 F.bd≤12;rw[aC (λz=>z a)]at q;by_cases b:jV F True F.bd=0;rw[aC (λz=>z b)]at q;by_cases c:(4096<dX F.bd∨8<cJ F.bd)∨67108864<cG F.bd;rw[aK c]at q;omega;exact⟨(aMi h).2 a,h.vs,h.hs,OC b,aB,aB,aB⟩;rw[aK b]at q;exact bM q b;rw[aK a]at q;omega
theorem aMq{F:Fl}(a:¬o6 F.bd≤12):wkC F=4:=aK a
theorem aMj{F:Fl}(a:o6 F.bd≤12)(b:jV F True F.bd≠0):wkC F=jV F True F.bd:=by unfold wkC;rw[aC (λz=>z a),aK b]
theorem aMl{F:Fl}(a:o6 F.bd≤12)(b:jV F True F.bd=0)(c:(4096<dX F.bd∨8<cJ F.bd)∨67108864<cG F.bd):wkC F=4:=by unfold wkC;rw[aC (λz=>z a),aC (λz=>z b),aK c]
theorem aKR{F:Fl}(a:o6 F.bd≤12)(b:jV F True F.bd=0)(c:¬((4096<dX F.bd∨8<cJ F.bd)∨67108864<cG F.bd)):wkC F=0:=by unfold wkC;rw[aC (λz=>z a),aC (λz=>z b),aC c]
structure MsR (l:List St) (d n:Int) (q:Bool) (n2:Int) (q2:Bool):Prop where
 lo:n≤n2
 hi:n2≤n+bN l
 on:q=true→q2=true
 dn:¬q2=true→n2=n+bN l∧d+o6 l≤13
 up:q2=true→q=true∨13<d+o6 l
theorem MsR.bad{l:List St}{n2 n3:Int}{q2:Bool}(h:MsR l 1 0 false n2 q2)(h1:n3≤1024)(z:q2=true∨1024<n3):¬o6 l≤12:=by
 rcases z with z|z
 rcases h.up z with y|y
 cases y;omega;omega
structure MsI (l:List St) (d n:Int) (q:Bool) (i n2:Int) (q2:Bool):Prop where
 lo:n≤n2
 hi:n2≤n+bN (l.take i.toNat)
 on:q=true→q2=true
 dn:¬q2=true→n2=n+bN (l.take i.toNat)∧∀x:Int,0≤x→x<i→d+(st l x).dp≤13
 up:q2=true→q=true∨13<d+o6 l
theorem aH2{d:Int}(hd:d≤13):∀{l:List St},(∀x:Int,0≤x→x<l.length→d+(st l x).dp≤13)→d+o6 l≤13
 | [],_=>by show d+0≤13;omega
 |s::r,h=>by
  have a:d+s.dp≤13:=h 0 aB bK;have b:=aH2 hd (l:=r) λx x0 x1=>by
   have:=h (x+1) aB k6;grind
  show d+(if s.dp<o6 r then o6 r else s.dp)≤13;split<;>omega
section
variable {l:List St} {d n i n2 nA nB:Int} {q q2 qA qB:Bool}
theorem MsI.init:MsI l d n q 0 n q:=⟨eL _,by show n≤n+0;omega,id,λ_=>⟨by show n=n+0;omega,λx a b=>aB⟩,.inl⟩
theorem MsI.out(h:MsI l d n q i n2 q2)(h0:0≤i)(h1:i<l.length)(hq:q2=true):MsR l d n q (n2+1) true:=by
 have a:=h.lo;have b:=h.hi;have c:=qO (l:=l) h0 h1;have e:=(st l i).nd_pos;exact⟨aB,aB,λ_=>rfl,λz=>bM rfl z,λ_=>h.up hq⟩
theorem MsI.deep(h:MsI l d n q i n2 q2)(h0:0≤i)(h1:i<l.length)(hd:12<d)(_hq:¬q2=true):MsR l d n q (n2+1) true:=by
 have a:=h.lo;have b:=h.hi;have c:=qO (l:=l) h0 h1;have e:=(st l i).nd_pos;have f:=aDb (l:=l) h0 h1;have g:=(st l i).dp_pos;exact⟨aB,aB,λ_=>rfl,λz=>bM rfl z,λ_=>.inr aB⟩
theorem MsI.done(h:MsI l d n q i n2 q2)(hi:(l.length:Int)≤i)(hd:d≤13):MsR l d n q n2 q2:=by
 have e:l.take i.toNat=l:=lJ aB;have b:=h.hi;have c:=h.dn;rw[e]at b c;exact⟨h.lo,b,h.on,λz=>⟨(c z).1,aH2 hd λx x0 x1=>(c z).2 x x0 aB⟩,h.up⟩
theorem MsI.next(h:MsI l d n q i n2 q2)(h0:0≤i)(h1:i<l.length)(hq:¬q2=true)(hA:MsR (st l i).thn (d+1) (n2+1+(st l i).tm.sz) false nA qA)(hB:MsR (st l i).els (d+1) nA qA nB qB):MsI l d n q (i+1) nB qB:=by
 have a1:=hA.lo;have a2:=hA.hi;have b1:=hB.lo;have b2:=hB.hi;have c1:=h.lo;have c2:=h.hi;have e:=MV (l:=l) h0 h1;have e2:=mC (st l i);have e3:=avB (st l i);have f:=aDb (l:=l) h0 h1;have tp:=(st l i).tm.sz_pos;have m1:o6 (st l i).thn≤bJ (o6 (st l i).thn) (o6 (st l i).els)∧o6 (st l i).els≤bJ (o6 (st l i).thn) (o6 (st l i).els):=by unfold bJ;split<;>omega
 have ei:(i+1).toNat=i.toNat+1:=aB;have hd:=h.dn hq;refine⟨aB,by rw[ei,e];omega,λz=>bM (h.on z) hq,λz=> ?_,λz=> ?_⟩
 ·have qa:¬qA=true:=λy=>z (hB.on y)
  have x:=hA.dn qa;have y:=hB.dn z;grind
 ·rcases hB.up z with y|y
  ·rcases hA.up y with w|w
   ·cases w
   ·exact .inr aB
  ·exact .inr aB
end
section
variable {F:Fl} {top:Prop} {l:List St} {i j:Int}
theorem aKF(h0:0≤i)(h1:i<l.length)(hc:jV F top l=jV F top (l.drop i.toNat))(hw:am5 F (top∧i=(l.length:Int)-1) (st l i))(hn:¬¬mT (st l i)):3=jV F top l:=
 QW h0 h1 hc (aMh hw (pU.1 hn)) aB
theorem aLa(h0:0≤i)(h1:i<l.length)(hc:jV F top l=jV F top (l.drop i.toNat))(hw:am5 F (top∧i=(l.length:Int)-1) (st l i))(hn:¬mT (st l i))
  (hj:∀x:Int,0≤x→x<j→jV F False (if x=0 then(st l i).thn else(st l i).els)=0) (j0:0≤j) (j1:j<2) (hz:jV F False (if j=0 then(st l i).thn else(st l i).els)≠0):
  jV F False (if j=0 then(st l i).thn else(st l i).els)=jV F top l:=by
 refine QW h0 h1 hc ?_ hz;rw[aHW hw hn];by_cases e:j=0;subst e;exact aK hz;have z:=hj 0 aB aB;grind
theorem aLW(h0:0≤i)(h1:i<l.length)(hc:jV F top l=jV F top (l.drop i.toNat))(hw:am5 F (top∧i=(l.length:Int)-1) (st l i))(hn:¬mT (st l i))
  (hj:∀x:Int,0≤x→x<j→jV F False (if x=0 then(st l i).thn else(st l i).els)=0) (j1:2≤j):jV F top l=jV F top (l.drop (i+1).toNat):=by
 refine aj7 h0 h1 hc ?_;have z:=hj 0 aB aB;have w:=hj 1 aB aB;grind[aHW]
end
mutual
theorem aKY{F:Fl}{last:Prop}:∀{s:St},o_ F last s→StW F last s
 | .mk _ _ _ _ _ _ _ _,h=>⟨⟨h.1.shp,aKC h,h.1.bd,h.1.ct⟩,asH h.2.1,asH h.2.2⟩
theorem asH{F:Fl}{top:Prop}:∀{l:List St},fJ F top l→acQ F top l
 | [],_=>trivial
 |_::_,h=>⟨aKY h.1,asH h.2⟩
end
mutual
theorem aMw{F:Fl}{last:Prop}:∀{s:St},o_ F last s→KI F last s=0
 | .mk dk c v n t a b bd,h=>by
  have k:=(aKY h).1;show L9 F last _ (jV F False a) (jV F False b)=0;rw[aHW k h.1.nm,asN h.2.1,asN h.2.2];rfl
theorem asN{F:Fl}{top:Prop}:∀{l:List St},fJ F top l→jV F top l=0
 | [],_=>rfl
 |_::_,h=>by rw[ahC,aMw h.1,asN h.2];rfl
end
theorem aKW{F:Fl}(h:gI F):WkP F∧wkC F=0:=
 ⟨⟨by have:=h.sz.1;omega,by have:=h.sz.1;omega,h.sz.2.1,h.sz.2.2.1,h.sz.2.2.2.2,h.vs,h.hs,asH h.bd⟩,aKR h.sz.2.2.2.1 (asN h.bd) (by have:=h.uS;have:=h.uO;have:=h.uT;omega)⟩
def aLY(k:Nat):Prop:=∀(V:HV) (l:List St) (lv:Value) (d n:Int) (bm:Nat) (q:Bool),eO V lv l→C1 l→0≤d→d≤13→0≤n→n+bN l≤1024→bN l<k→aP Tryz.prog 60 [.pointer (some ⟨bm,0,none⟩),lv,.int .i64 d] V [aM 133 bm [.int .i64 n,.bool (decide (q=true))]] (λv V' σ'=>V'=V∧v= .tuple #[]∧∃(n2:Int) (q2:Bool),σ'=[aM 133 bm [.int .i64 n2,.bool (decide (q2=true))]]∧MsR l d n q n2 q2)
theorem aHw{V:HV}{l:List St}{lv:Value}{d n:Int}{bm:Nat}{q:Bool}{k:Nat}(IH:aLY k)(hL:eO V lv l)(htd:C1 l)(hd:0≤d)(hd2:d≤13)(hn:0≤n)(hn2:n+bN l≤1024)(hk:bN l<(k+1:Nat)):
    aP Tryz.prog 60 [vp bm,lv,vi d] V [aM 133 bm [vi n,.bool (decide (q=true))]] (λv V' σ'=>V'=V∧v= .tuple #[]∧∃(n2:Int) (q2:Bool),σ'=[aM 133 bm [.int .i64 n2,.bool (decide (q2=true))]]∧MsR l d n q n2 q2):=by
 refine aP.drop ?_;refine bI Tryz.func60 ?_;intro w0 D;obtain⟨kvs,tvs,evs,gH,hS,hK,hth,hel,hbv⟩:=hL;have hb:=aR.bound hS;refine aI ?_;refine xO ?_;refine lp3 [0,1,2,8,9] (λ(i:Int) (n2:Int) (q2:Bool)=> [(10,(vi i))]) (λi n2 q2=> [aM 133 bm [vi n2,.bool (decide (q2=true))]]) (λi n2 q2=>0≤i∧i≤l.length∧MsI l d n q i n2 q2) (λi n2 q2=>(l.length-i).toNat) 0 n q ?_ ?_ ?_ ?_
 ·exact⟨rfl,trivial⟩
 ·(rfl)
 ·exact⟨aB,aB,MsI.init⟩
 rintro i n2 q2 e1 ⟨i1,i2,hM⟩;refine aF ?_;refine aG ?_ ?_<;>intro c1
 ·
  refine aJ ?_;have eV:=qO (l:=l) i1 a_;have hse:=mC (st l i);have hsp:=(st l i).tm.sz_pos;have hsn:=dK (l.take i.toNat);have hs1:=dK (st l i).thn;have hs2:=dK (st l i).els;have htt:=(ahK _).1 (Q4.1 htd i i1 a_);have hlo:=hM.lo;have hhi:=hM.hi;refine aH ?_;refine R9 ?_;refine aQ λb1=> ?_;refine g4Z ?_;refine aJ ?_;refine uE ?_;refine oq gZ ?_;refine aS ?_;refine uE ?_;by_cases g1:q2=true
  ·
   refine aI ?_;refine oq gZ ?_;refine aS ?_;refine oq (nJ (v:=(.bool (decide (True∨1024<n2+1)))) (k:=0) (b:=bm) rfl (λVo hVo hbo=>OG (q:=True) ⟨_,_,hbo⟩) rfl rfl) ?_;refine aH ?_;refine aG ?_ ?_<;>intro c2
   ·
    refine aI ?_;refine rq0 ?_;exact⟨_,_,B5 1,rfl,rfl,n2+1,true,rfl,hM.out i1 a_ aO⟩
   ·
    exact bM (Or.inl trivial) c2
  ·
   refine aI ?_;refine oq gZ ?_;refine aS ?_;refine oq (nJ (v:=(.bool (decide (12<d∨1024<n2+1)))) (k:=0) (b:=bm) rfl (λVo hVo hbo=>OG ⟨_,_,hbo⟩) rfl rfl) ?_;refine aH ?_;refine aG ?_ ?_<;>intro c3
   ·
    refine aI ?_;refine rq0 ?_;have h12:12<d:=aB;exact⟨_,_,B5 1,rfl,rfl,n2+1,true,by rw[decide_eq_true h12];rfl,hM.deep i1 a_ h12 aO⟩
   ·
    refine aN ?_;refine AA [0] (RH ((st l i).tm.sz.toNat+1) _ _ _ _ _ _ _ _ a_ (hK i i1 a_) a_ a_ a_ a_ a_) rfl rfl ?_;rintro _ _ _ _ ⟨rfl,rfl,rfl⟩;refine b_ ?_;refine AA [0] (IH _ _ _ _ _ _ false (hth i i1 a_) htt.2.1 a_ a_ a_ a_ a_) rfl rfl ?_;rintro _ _ _ _ ⟨rfl,rfl,nA,qA,rfl,hA⟩;refine aS ?_;refine AA [0] (IH _ _ _ _ _ _ qA (hel i i1 a_) htt.2.2 a_ a_ (by have:=hA.lo;omega) (by have:=hA.hi;omega) a_) rfl rfl ?_;rintro _ _ _ _ ⟨rfl,rfl,nB,qB,rfl,hB⟩;refine aH ?_;refine dP 1 ?_;refine aJ ?_;exact le3 (i+1) nB qB ⟨aL a_,trivial⟩ ⟨aB,aB,hM.next i1 a_ aO hA hB⟩ (hr:=dB)
 ·
  refine aD ?_;refine HH ?_;exact⟨_,_,B5 1,rfl,rfl,n2,q2,rfl,hM.done a_ a_⟩
theorem aBO:∀k,aLY k
 |0=>λ_ l _ _ _ _ _ _ _ _ _ _ _ h=>bM h (by have:=dK l;omega)
 |k+1=>λV l lv d n bm q hL ht h1 h2 h3 h4 hk=>aHw (aBO k) hL ht h1 h2 h3 h4 hk
abbrev aMb:=λ(s:St)=>Value.bool (decide ((s.dk≠6)∨((gi s.bds ((s.bds.length:Int)-1))≤67108864)))
theorem aL2{V:HV}{s:St}{ks tv lv bv:Value}(hT:eJ V ks s.tm.kids)(hth:eO V tv s.thn)(hel:eO V lv s.els)(hbv:aT .i64 V bv s.bds)(hn1:0≤s.cost∧0≤s.n∧(s.dk=4→s.n≤4096))(hn2:¬oZ s)(hn3:s.dk=6→1≤s.bds.length):
  aP Tryz.prog 127 [.agg #[.int .i64 s.dk,.int .i64 s.cost,.int .i64 s.var,.int .i64 s.n,.int .i64 s.tm.op,.int .i64 s.tm.n,ks,tv,lv,bv]] V [] (λv _ _=>v=(.bool (decide (¬mT s)))):=by
 refine bI Tryz.func127 ?_;intro w0 D;obtain⟨kvs,hS,hK⟩:=hT;obtain⟨xst,hst⟩:=hth.sl;obtain⟨xse,hse⟩:=hel.sl;have hbb:=hbv.bound;unfold oZ at hn2;refine aD ?_;refine bH λb1=> ?_;refine nA ?_;refine aG ?_ ?_<;>intro c1;refine aF ?_;refine eE [0,1,2,6] [(30,(.bool (decide (((s.cost<0)∨(67108864<s.cost))∨((s.dk=4)∧((s.n<0)∨(4096<s.n)))))))] ?_ (λe1=> ?_);refine aF ?_;by_cases g1:s.cost<0;refine XA ?_;exact bC ⟨jt (.inl (.inl g1)),trivial⟩;refine aN ?_;by_cases g2:67108864<s.cost;refine qQ ?_;exact bC ⟨jt (.inl ((jo g1 Iff.rfl).1 g2)),trivial⟩;refine aJ ?_;by_cases g3:s.dk=4;refine aJ ?_;by_cases g4:s.n<0;refine aS ?_;exact bC ⟨jt (.inr ⟨g3,.inl g4⟩),trivial⟩;refine aS ?_;exact bC ⟨jb (jo (λz=>g2 ((jo g1 Iff.rfl).2 z)) (ja g3 (jo g4 Iff.rfl))),trivial⟩;refine iJ ?_;exact bC ⟨jf (λz=>z.elim (λz=>g2 ((jo g1 Iff.rfl).2 z)) (λz=>g3 z.1)),trivial⟩;refine aG ?_ ?_<;>intro c2;refine aF ?_;exact aW (jf (by rw[amO hn1];unfold LQ;first|omega|(split<;>omega)));refine aD ?_;refine eE [0,1,6,30] [(2,(aMb s))] ?_ (λe2=> ?_);refine aF ?_;by_cases g5:s.dk≠6;refine dI ?_;exact bC ⟨jt (.inl g5),trivial⟩;refine au9 ?_;exact bC ⟨jb (jo g5 Iff.rfl),trivial⟩;refine aH ?_;exact aW (jb (by rw[amO hn1];unfold LQ;first|omega|(split<;>omega)));refine aI ?_;refine eE [0,1,2,6] [(30,(.bool (decide (((s.cost<0)∨(10000<s.cost))∨((s.dk=4)∧((s.n<0)∨(4096<s.n)))))))] ?_ (λe3=> ?_);refine aF ?_;by_cases g6:s.cost<0;refine XA ?_;exact bC ⟨jt (.inl (.inl g6)),trivial⟩;refine aN ?_;by_cases g7:10000<s.cost;refine qQ ?_;exact bC ⟨jt (.inl ((jo g6 Iff.rfl).1 g7)),trivial⟩;refine aJ ?_;by_cases g8:s.dk=4;refine aJ ?_;by_cases g9:s.n<0;refine aS ?_;exact bC ⟨jt (.inr ⟨g8,.inl g9⟩),trivial⟩;refine aS ?_;exact bC ⟨jb (jo (λz=>g7 ((jo g6 Iff.rfl).2 z)) (ja g8 (jo g9 Iff.rfl))),trivial⟩;refine iJ ?_;exact bC ⟨jf (λz=>z.elim (λz=>g7 ((jo g6 Iff.rfl).2 z)) (λz=>g8 z.1)),trivial⟩;refine aG ?_ ?_<;>intro c3;refine aF ?_;exact aW (jf (by rw[amO hn1];unfold LQ;first|omega|(split<;>omega)));refine aD ?_;refine eE [0,1,6,30] [(2,(aMb s))] ?_ (λe4=> ?_);refine aF ?_;by_cases g10:s.dk≠6;refine dI ?_;exact bC ⟨jt (.inl g10),trivial⟩;refine au9 ?_;exact bC ⟨jb (jo g10 Iff.rfl),trivial⟩;refine aH ?_;exact aW (jb (by rw[amO hn1];unfold LQ;first|omega|(split<;>omega)))
def SCW(k:Nat):Prop:=∀(V:HV) (va ha ba:Value) (F:Fl) (l:List St) (lv:Value) (top:Prop) (it:Decidable top),fV V va ha ba F→dO F.vs→eO V lv l→acQ F top l→bN l<k→aP Tryz.prog 65 [.agg #[va,ha,ba],lv,.bool (@decide top it)] V [] (λv _ _=>v= .int .i64 (jV F top l))
theorem aHT{V:HV}{va ha ba:Value}{F:Fl}(hF:fV V va ha ba F){l:List St}{lv:Value}{top:Prop}[it:Decidable top]{k:Nat}(IH:SCW k)(hV:dO F.vs)(hL:eO V lv l)(hO:acQ F top l)(hk:bN l<(k+1:Nat)):
   aP Tryz.prog 65 [.agg #[va,ha,ba],lv,.bool (decide top)] V [] (λv _ _=>v=(.int .i64 (jV F top l))):=by
 refine bI Tryz.func65 ?_;intro w0 D;have hF0:=hF;obtain⟨hvs,hH⟩:=hF.h;obtain⟨xB,hB⟩:=hF.b.sl;have hbvv:=aR.bound hF.v;have hbh:=aR.bound hH.sl;have hbb:=aR.bound hB;obtain⟨kvs,tvs,evs,gH,hS,hK,hth,hel,hbv⟩:=hL;have hb:=aR.bound hS;refine aD ?_;refine bH λb1=> ?_;refine aN ?_;refine xO ?_;refine g_ [0,1,2,3,13,14] (λ(i:Int)=> [(15,(vi i))]) (λi=>0≤i∧i≤l.length∧jV F top l=jV F top (l.drop i.toNat)) (λi=>(l.length-i).toNat) 0 ?_ ?_ ?_;exact⟨rfl,trivial⟩;exact⟨aB,aB,rfl⟩;rintro i e1 ⟨i1,i2,hc⟩;refine aF ?_;refine aG ?_ ?_<;>intro c1;refine aN ?_;refine R9 ?_;refine aQ λb2=> ?_;refine aH ?_;refine g4Z ?_;refine aI ?_;have eV:=qO (l:=l) i1 a_;have hse:=mC (st l i);have hsp:=(st l i).tm.sz_pos;have hsn:=dK (l.take i.toNat);have hs1:=dK (st l i).thn;have hs2:=dK (st l i).els;have hok:=aHB hO i1 a_;have hok1:=(aCI.1 hok).1;refine eE [0,1,2,3,7,8,13,14,15,16] [(31,(Value.bool false))] ?_ (λe2=> ?_);refine aF ?_;by_cases g1:top;refine AE ?_;refine aI ?_;refine oq (eH (TK (F:=F) (s:=st l i) (p:=i=((l.length:Int)-1)) (last:=top∧i=(l.length:Int)-1) hF0 (hK i i1 a_) (hth i i1 a_) (hel i i1 a_) (hbv i i1 a_) ⟨λq=>⟨aO,q⟩,λq=>q.2⟩ hok1.shp) rfl rfl) ?_;refine aD ?_;exact bC ⟨rfl,trivial⟩;refine aN ?_;refine oq (eH (TK (F:=F) (s:=st l i) (p:=False) (last:=top∧i=(l.length:Int)-1) hF0 (hK i i1 a_) (hth i i1 a_) (hel i i1 a_) (hbv i i1 a_) ⟨False.elim,λq=>bM q.1 aO⟩ hok1.shp) rfl rfl) ?_;refine aD ?_;exact bC ⟨rfl,trivial⟩;refine aN ?_;refine oq (eH (aL2 (s:=st l i) (hK i i1 a_) (hth i i1 a_) (hel i i1 a_) (hbv i i1 a_) hok1.num hok1.bd (λe=>by have:=K8 hok1.shp;omega)) rfl rfl) ?_;refine aD ?_;refine aG ?_ ?_<;>intro c2;refine aS ?_;exact aW (aL (by exact aKF i1 a_ hc hok1 aO));refine b_ ?_;refine oq (eH (NC (inp:=false) (hK i i1 a_) hF.v hV hok1.ct.1 hok1.ct.2) rfl rfl) ?_;refine aS ?_;refine aG ?_ ?_<;>intro c3;refine b_ ?_;exact aW (aL (by rw[hc,EP a_];rfl));refine aS ?_;refine K9 (n:=2) (s:=1) (cs:=[gv tvs i,gv evs i]) UL.out TZ.out (nW rfl) rfl (by show(gv tvs i).cells.toList++((gv evs i).cells.toList++([]))=_;rw[eO.cells (hth i i1 a_),eO.cells (hel i i1 a_)];rfl) (by show(((gv tvs i).cells.size==1)&&(((gv evs i).cells.size==1)&&true))=true;rw[eO.cells (hth i i1 a_),eO.cells (hel i i1 a_)];rfl) (nW rfl) rfl (λb3=> ?_);refine JK ?_;refine aI ?_;refine xJ [0,1,2,3,7,8,9,13,14,15,16,31,34,41,47,48] (λ(j:Int)=> [(49,(vi j))]) (λj=> [aM 26 b1 [va,ha,ba],aM 76 b2 [.int .i64 ((st l i).dk),.int .i64 ((st l i).cost),.int .i64 ((st l i).var),.int .i64 ((st l i).n),.int .i64 ((st l i).tm.op),.int .i64 ((st l i).tm.n),gv kvs i,gv tvs i,gv evs i,gv gH i],aM 24 b3 [gv tvs i,gv evs i]]) (λj=>0≤j∧j≤2∧∀x:Int,0≤x→x<j→jV F False (if x=0 then(st l i).thn else(st l i).els)=0) (λj=>(2-j).toNat) 0 ?_ ?_ ?_ ?_;exact⟨rfl,trivial⟩
 (rfl)
 exact⟨aB,aB,λx a b=>aB⟩;rintro j e3 ⟨j1,j2,hj⟩;refine aF ?_;refine aG ?_ ?_<;>intro c4;refine aF ?_;refine oq (EL (v:=(.slice (some ⟨b3,0,none⟩) 2 2)) UL.out SZ.out rfl (inO (k:=2) rfl rfl (cV _) a_) rfl a_ a_) ?_;refine oq (ND (v:=(.slice (some ⟨b3,0,none⟩) 2 2)) PL.out rfl (inO (k:=2) rfl rfl (cV _) a_) a_ a_) ?_;refine aI ?_;have hx2:eO V (gv [gv tvs i,gv evs i] j) (if j=0 then(st l i).thn else(st l i).els):=by
  by_cases e:j=0;subst e;exact hth i i1 a_;have e2:j=1:=aB;subst e2;exact hel i i1 a_
 have hx3:acQ F False (if j=0 then(st l i).thn else(st l i).els):=by split;exact(aCI.1 hok).2.1;exact(aCI.1 hok).2.2
 have hx4:bN (if j=0 then(st l i).thn else(st l i).els)<k:=by split<;>omega
 refine aI ?_;refine oq (cM (IH _ _ _ _ _ _ _ False instDecidableFalse hF0 hV hx2 hx3 a_)) ?_;refine aS ?_;refine aG ?_ ?_<;>intro c5;refine dS ?_;exact aW (aL (by exact aLa i1 a_ hc hok1 (pU.1 aO) hj j1 a_ aO));refine aF ?_;exact dW (j+1) ⟨aL a_,trivial⟩ ⟨aB,aB,eK hj a_⟩ (hr:=dB);refine aD ?_;refine wN ?_;refine aJ ?_;exact dW (i+1) ⟨aL a_,trivial⟩ ⟨aB,aB,aLW i1 a_ hc hok1 (pU.1 aO) hj a_⟩;refine aS ?_;exact aW (aL (by rw[hc,EP a_];rfl))
theorem aHD:∀k,SCW k
 |0=>λ_ _ _ _ _ l _ _ _ _ _ _ _ h=>bM h CF
 |k+1=>λV va ha ba F l lv top it hF hV hL hO hk=>aHT (it:=it) hF (aHD k) hV hL hO hk
theorem aBy{V:HV}{va ha ba:Value}{F:Fl}(hF:fV V va ha ba F)(hw:WkP F):
  aP Tryz.prog 22 [.agg #[va,ha,ba]] V [] (λv _ _=>v=(.int .i64 (wkC F))):=by
 refine bI Tryz.func22 ?_;intro w0 D;have hF0:=hF;obtain⟨hvs,hH⟩:=hF.h;obtain⟨xB,hB⟩:=hF.b.sl;have hbvv:=aR.bound hF.v;have hbh:=aR.bound hH.sl;have hbb:=aR.bound hB;have z1:=hw.vl;have z2:=hw.hl;have z3:=hw.hd;have z4:=hw.nd;have hn0:=dK F.bd;have wT:=CY F.hs;refine aD ?_;refine bH λb1=> ?_;refine aJ ?_;refine aQ λb2=> ?_;refine aF ?_;refine AA [1] (aBO ((bN F.bd).toNat+1) _ _ _ _ _ _ false hF0.b hw.td a_ a_ a_ a_ a_) rfl rfl ?_;rintro _ _ _ _ ⟨rfl,rfl,n2,q2,rfl,hM⟩;have hlo:=hM.lo;have hhi:=hM.hi;refine h_ [1,0] ?_;refine aN ?_;refine ON ?_;refine BU [0,1,2,3,14,15] (λ(i:Int) (n3:Int)=> [(16,(vi i))]) (λi n3=> [aM 26 b1 [va,ha,ba],aM 133 b2 [vi n3,.bool (decide (q2=true))]]) (λi n3=>0≤i∧i≤F.hs.length∧0≤n3∧n3≤n2+eV (F.hs.take i.toNat)) (λi n3=>(F.hs.length-i).toNat) 0 n2 ?_ ?_ ?_ ?_;exact⟨rfl,trivial⟩
 (rfl)
 exact⟨aB,aB,aB,by show n2≤n2+0;omega⟩;rintro i n3 e1 ⟨i1,i2,n0,n1⟩;refine aF ?_;refine aG ?_ ?_<;>intro c1;refine aJ ?_;have hsa:=alK (l:=F.hs) i1 a_;have hsn:=CY (F.hs.take i.toNat);have htp:=(ht F.hs i).tm.sz_pos;refine aH ?_;refine QK ?_;refine aQ λb3=> ?_;refine ah7 ?_;refine aI ?_;refine oq (nJ (v:=(.bool (decide (q2=true∨1024<n3)))) (k:=1) (b:=b2) rfl (λVo hVo hbo=>OG (q:=q2=true) ⟨_,_,hbo⟩) rfl rfl) ?_;refine aD ?_;refine aG ?_ ?_<;>intro c2;have hq2:¬q2=true:=λz=>by simp_all
 refine aI ?_;refine AA [1] (RH ((ht F.hs i).tm.sz.toNat+1) _ _ _ _ _ _ _ _ hq2 (hH.hk i i1 a_) a_ (by have:=z3 i i1 a_;omega) a_ a_ a_) rfl rfl ?_;rintro _ _ _ _ ⟨rfl,rfl,rfl⟩;refine h_ [1,0,2] ?_;refine aH ?_;refine sY ?_;exact qM (i+1) (n3+(ht F.hs i).tm.sz) ⟨aL a_,trivial⟩ ⟨aB,aB,aB,by rw[show(i+1).toNat=i.toNat+1 by omega,M3 i1 a_];omega⟩ (hr:=by first|rfl|rw[decide_eq_false hq2]);refine aH ?_;refine sY ?_;exact qM (i+1) n3 ⟨aL a_,trivial⟩ ⟨aB,aB,aB,by rw[show(i+1).toNat=i.toNat+1 by omega,M3 i1 a_];omega⟩ (hr:=by first|rfl|rw[decide_eq_false hq2]);refine aJ ?_;have L3:eV (F.hs.take i.toNat)=eV F.hs:=by rw[lJ a_]
 refine aI ?_;refine oq (e_ hF.v) ?_;refine aD ?_;by_cases g1:64<(F.vs.length:Int);omega;refine aD ?_;refine og (e_ hH.sl) cZ ?_;refine aI ?_;by_cases g2:8<(F.hs.length:Int);omega;refine og (nJ (v:=(.bool (decide (q2=true∨1024<n3)))) (k:=1) (b:=b2) rfl (λVo hVo hbo=>OG (q:=q2=true) ⟨_,_,hbo⟩) rfl rfl) cZ ?_;refine aD ?_;refine aG ?_ ?_<;>intro c3;refine aF ?_;exact aW (aL (by exact(aMq (hM.bad (n3:=n3) a_ aO)).symm));refine aI ?_;have hq3:¬q2=true:=λz=>by simp_all
 have h12:o6 F.bd≤12:=by have:=hM.dn (by simpa using hq3);omega
 refine aI ?_;refine oq (eH (agA hF0.v a_ hw.vs) rfl rfl) ?_;refine aS ?_;refine aG ?_ ?_<;>intro c4;omega;refine aF ?_;refine oq (eH (U0 hF0 hw.vs hw.hs) rfl rfl) ?_;refine aS ?_;refine IM c4 ?_;refine aS ?_;refine oq (eH (aHD ((bN F.bd).toNat+1) _ _ _ _ _ _ _ True instDecidableTrue hF0 hw.vs hF0.b hw.bd a_) rfl rfl) ?_;refine aS ?_;refine aG ?_ ?_<;>intro c5;refine aN ?_;exact aW (aL (by exact(aMj h12 aO).symm));refine aI ?_;have hcs:jV F True F.bd=0:=kB λz=>by simp_all
 have nn:=eB _ (OC hcs).nns;refine aI ?_;refine oq (eH (acY ((bN F.bd).toNat+1) _ _ True _ _ hF0.b (OC hcs) a_) rfl rfl) ?_;refine aQ λb4=> ?_;refine aI ?_;have w1:aX (dX F.bd) 1099511627776=dX F.bd∨(1099511627776≤dX F.bd∧aX (dX F.bd) 1099511627776=1099511627776):=by unfold aX;split<;>omega
 have w2:aX (cJ F.bd) 1099511627776=cJ F.bd∨(1099511627776≤cJ F.bd∧aX (cJ F.bd) 1099511627776=1099511627776):=by unfold aX;split<;>omega
 have w3:aX (cG F.bd) 1099511627776=cG F.bd∨(1099511627776≤cG F.bd∧aX (cG F.bd) 1099511627776=1099511627776):=by unfold aX;split<;>omega
 refine eE [0,1,2,3,6,7,8,14,15,16,17,38,43,48,55] [(72,(.bool (decide (((4096<(aX (dX F.bd) 1099511627776))∨(8<(aX (cJ F.bd) 1099511627776)))∨(67108864<(aX (cG F.bd) 1099511627776))))))] ?_ (λe2=> ?_);refine aF ?_;by_cases g3:4096<(aX (dX F.bd) 1099511627776);refine dS ?_;exact bC ⟨jt (.inl (.inl g3)),trivial⟩;refine aF ?_;by_cases g4:8<(aX (cJ F.bd) 1099511627776);refine aF ?_;exact bC ⟨jt (.inl ((jo g3 Iff.rfl).1 g4)),trivial⟩;refine aF ?_;exact bC ⟨jb (jo (λz=>g4 ((jo g3 Iff.rfl).2 z)) Iff.rfl),trivial⟩;refine aG ?_ ?_<;>intro c6;refine aF ?_;exact aW (aL (by exact(aMl h12 hcs a_).symm));refine aN ?_;exact aW (aL (by exact(aKR h12 hcs a_).symm))
theorem rL{V:HV}{va ha ba:Value}{F:Fl}(hF:fV V va ha ba F)(hv:gI F):aP Tryz.prog 22 [.agg #[va,ha,ba]] V [] (fun v _ _=>v= .int .i64 0):=by
 have h:=aBy hF (aKW hv).1;rw[(aKW hv).2]at h;exact h
end Go.Proofs.YtbchkopkgpfkgaaGreat
end
