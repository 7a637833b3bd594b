import Derived.Test.YtbchkopkgpfkgaaGreatQAH
import Derived.Test.YtbchkopkgpfkgaaGreatQAJ
set_option linter.unusedVariables false
namespace Go.Proofs.YtbchkopkgpfkgaaGreat
open Go Go.ChangeAt Go.ChangeShapes Go.Deep Go.RowKit Go.Vc Go.WideShapes
section
variable {H:Type} {dA:TypeId×Value→H} {W:World} {base:Nat} {held:Bool}
abbrev Rd(dA:TypeId×Value→H)(W:World)(base:Nat)(held:Bool)(fuel:Nat)(t:TypeId)(cs:List Value):Prop:=∃x,DataW.trod dA Tryz.prog W base (λ_=>true) held fuel t cs=some x
theorem SC{m:Nat}{cs:List Value}(ih:∀k,k<m→∀c,Rd dA W base held k 72 [c]→∃l,eJ (hv W) c l)(h:Rd dA W base held m 74 cs):
  ∃(op n:Int) (kv:Value) (l:List Tm),cs=[.int .i64 op,.int .i64 n,kv]∧eJ (hv W) kv l:=by
 obtain⟨x,h⟩:=h;obtain⟨xs,k,hk,_,hl,hxl,hf⟩:=DataW.trod_struct Tryz.underlying74 h;obtain⟨y0,y1,y2,rfl⟩:=aIL (hl.trans eD);have hx3:xs.length=3:=hxl;obtain⟨_,g0⟩:=tG hf 0 rfl (w:=1) eD rfl aB;obtain⟨_,g1⟩:=tG hf 1 rfl (w:=1) eD rfl aB;obtain⟨x2,g2⟩:=tG hf 2 rfl (w:=1) eD rfl aB;obtain⟨op,rfl⟩:=kH Tryz.underlying71 g0;obtain⟨n,rfl⟩:=kH Tryz.underlying3 g1;obtain⟨l,hl⟩:=ih k aB y2 ⟨x2,g2⟩;exact⟨op,n,y2,l,rfl,hl⟩
instance:Inhabited (Int×Int×Value×List Tm):=⟨(0,0,undef,[])⟩
theorem ZD:∀(fuel:Nat) (c:Value),Rd dA W base held fuel 72 [c]→∃l,eJ (hv W) c l:=λfuel=>by
 induction fuel using Nat.strongRecOn with
 |_ fuel ih=>
  intro c ⟨x,h⟩;obtain⟨m,n0,cs,hm,hsl,hx⟩:=yK (s:=3) Tryz.underlying72 eD aB h;have each:∀i,i<n0→∃r:Int×Int×Value×List Tm,cs i=[.int .i64 r.1,.int .i64 r.2.1,r.2.2.1]∧eJ (hv W) r.2.2.1 r.2.2.2:=λi hi=>by
   obtain⟨op,n,kv,l,e,hl⟩:=SC (λk hk=>ih k aB) (hx i hi).2;exact⟨(op,n,kv,l),e,hl⟩
  obtain⟨R,hR⟩:=choose_lt each;have hll:((List.range n0).map λi=>Tm.mk (R i).1 (R i).2.1 (R i).2.2.2).length=n0:=bK;have at_:∀i,i<n0→tm ((List.range n0).map λi=>Tm.mk (R i).1 (R i).2.1 (R i).2.2.2) (i:Nat)=Tm.mk (R i).1 (R i).2.1 (R i).2.2.2:=λi hi=>by
   unfold tm;rw[show((i:Int)).toNat=i by omega];exact vN hi
  have kat:∀i,i<n0→gv ((List.range n0).map λi=>(R i).2.2.1) (i:Nat)=(R i).2.2.1:=λi hi=>by
   unfold gv;rw[show((i:Int)).toNat=i by omega];exact vN hi
  refine⟨(List.range n0).map λi=>Tm.mk (R i).1 (R i).2.1 (R i).2.2.2,.mk ((List.range n0).map λi=>(R i).2.2.1) ?_ λi a b=> ?_⟩;rw[hll];have e:Z9 ((List.range n0).map λi=>(R i).2.2.1) ((List.range n0).map λi=>Tm.mk (R i).1 (R i).2.1 (R i).2.2.2)=(List.range n0).flatMap cs:=by
   unfold Z9;rw[hll];refine yH λi hi=> ?_;unfold tmc;rw[at_ i hi,kat i hi];exact((hR i hi).1).symm
  rw[e];exact hsl;rw[hll]at b;have h1:=at_ i.toNat aB
  have h2:=kat i.toNat aB;rw[show((i.toNat:Nat):Int)=i by omega]at h1 h2;rw[h1,h2];exact(hR i.toNat aB).2
theorem ahM{t e:TypeId}{fuel:Nat}{c:Value}(ht:Tryz.prog.underlying t=some (.slice e))(he:Tryz.prog.underlying e=some (.int .i64))(ce:Tryz.prog.cellsOf e=1)(h:Rd dA W base held fuel t [c]):∃xs,aT .i64 (hv W) c xs:=by
 obtain⟨x,h⟩:=h;obtain⟨s,n,u,e1⟩:=Go.Joins.slice_form ht h;obtain rfl:c= .slice s n u:=by simpa using e1
 obtain⟨xs,m,_⟩:=BV ht he ce rfl (by simpa[Value.cells]using h);exact⟨xs,m⟩
abbrev IK:=(Int×Int×Int×Int)×(Int×Int×Value×List Tm)×(Value×List St)×(Value×List St)×(Value×List Int)
instance:Inhabited IK:=⟨(0,0,0,0),(0,0,undef,[]),(undef,[]),(undef,[]),(undef,[])⟩
abbrev IK.st(r:IK):St:=.mk r.1.1 r.1.2.1 r.1.2.2.1 r.1.2.2.2 (.mk r.2.1.1 r.2.1.2.1 r.2.1.2.2.2) r.2.2.1.2 r.2.2.2.1.2 r.2.2.2.2.2
abbrev IK.cs(r:IK):List Value:=[.int .i64 r.1.1,.int .i64 r.1.2.1,.int .i64 r.1.2.2.1,.int .i64 r.1.2.2.2,.int .i64 r.2.1.1,.int .i64 r.2.1.2.1,r.2.1.2.2.1,r.2.2.1.1,r.2.2.2.1.1,r.2.2.2.2.1]
theorem ax0{m:Nat}{cs:List Value}(ih:∀k,k<m→∀c,Rd dA W base held k 24 [c]→∃l,eO (hv W) c l)(h:Rd dA W base held m 76 cs):
  ∃r:IK,cs=r.cs∧eJ (hv W) r.2.1.2.2.1 r.2.1.2.2.2∧eO (hv W) r.2.2.1.1 r.2.2.1.2∧eO (hv W) r.2.2.2.1.1 r.2.2.2.1.2∧aT .i64 (hv W) r.2.2.2.2.1 r.2.2.2.2.2:=by
 obtain⟨x,h⟩:=h;obtain⟨xs,k,hk,_,hl,hxl,hf⟩:=DataW.trod_struct Tryz.underlying76 h;obtain⟨y0,y1,y2,y3,y4,y5,y6,y7,y8,y9,rfl⟩:=aGu (hl.trans eD);have hx3:xs.length=8:=hxl;obtain⟨_,g0⟩:=tG hf 0 rfl (w:=1) eD rfl aB;obtain⟨_,g1⟩:=tG hf 1 rfl (w:=1) eD rfl aB;obtain⟨_,g2⟩:=tG hf 2 rfl (w:=1) eD rfl aB;obtain⟨_,g3⟩:=tG hf 3 rfl (w:=1) eD rfl aB;obtain⟨x4,g4⟩:=tG hf 4 rfl (w:=3) eD rfl aB;obtain⟨x5,g5⟩:=tG hf 5 rfl (w:=1) eD rfl aB;obtain⟨x6,g6⟩:=tG hf 6 rfl (w:=1) eD rfl aB;obtain⟨x7,g7⟩:=tG hf 7 rfl (w:=1) eD rfl aB;obtain⟨dk,rfl⟩:=kH Tryz.underlying70 g0;obtain⟨co,rfl⟩:=kH Tryz.underlying3 g1;obtain⟨va,rfl⟩:=kH Tryz.underlying3 g2;obtain⟨n,rfl⟩:=kH Tryz.underlying3 g3;obtain⟨op,tn,kv,l,e,hk1⟩:=SC (λk' _=>ZD k') ⟨x4,g4⟩;obtain⟨rfl,rfl,rfl⟩:y4= .int .i64 op∧y5= .int .i64 tn∧y6=kv:=by simpa using e
 obtain⟨l1,h1⟩:=ih k aB y7 ⟨x5,g5⟩;obtain⟨l2,h2⟩:=ih k aB y8 ⟨x6,g6⟩;obtain⟨l3,h3⟩:=ahM Tryz.underlying35 Tryz.underlying3 eD ⟨x7,g7⟩;exact⟨((dk,co,va,n),(op,tn,y6,l),(y7,l1),(y8,l2),(y9,l3)),rfl,hk1,h1,h2,h3⟩
theorem aqC:∀(fuel:Nat) (c:Value),Rd dA W base held fuel 24 [c]→∃l,eO (hv W) c l:=λfuel=>by
 induction fuel using Nat.strongRecOn with
 |_ fuel ih=>
  intro c ⟨x,h⟩;obtain⟨m,n0,cs,hm,hsl,hx⟩:=yK (s:=10) Tryz.underlying24 eD aB h;have each:∀i,i<n0→∃r:IK,cs i=r.cs∧eJ (hv W) r.2.1.2.2.1 r.2.1.2.2.2∧eO (hv W) r.2.2.1.1 r.2.2.1.2∧eO (hv W) r.2.2.2.1.1 r.2.2.2.1.2∧aT .i64 (hv W) r.2.2.2.2.1 r.2.2.2.2.2:=λi hi=>
   ax0 (λk hk=>ih k aB) (hx i hi).2
  obtain⟨R,hR⟩:=choose_lt each;have hll:((List.range n0).map λi=>(R i).st).length=n0:=bK;have at_:∀i,i<n0→st ((List.range n0).map λi=>(R i).st) (i:Nat)=(R i).st:=λi hi=>by
   unfold st;rw[show((i:Int)).toNat=i by omega];exact vN hi
  have kat:∀(F:IK→Value) i,i<n0→gv ((List.range n0).map λi=>F (R i)) (i:Nat)=F (R i):=λF i hi=>by
   unfold gv;rw[show((i:Int)).toNat=i by omega];exact vN hi
  have to:∀i:Int,0≤i→i<((List.range n0).map λi=>(R i).st).length→∃j:Nat,j<n0∧i=(j:Nat):=λi a b=>⟨i.toNat,by rw[hll]at b;omega,aB⟩;refine⟨(List.range n0).map λi=>(R i).st,.mk ((List.range n0).map λi=>(R i).2.1.2.2.1) ((List.range n0).map λi=>(R i).2.2.1.1) ((List.range n0).map λi=>(R i).2.2.2.1.1) ((List.range n0).map λi=>(R i).2.2.2.2.1) ?_ (λi a b=> ?_) (λi a b=> ?_) (λi a b=> ?_) (λi a b=> ?_)⟩;rw[hll];have e:FD ((List.range n0).map λi=>(R i).2.1.2.2.1) ((List.range n0).map λi=>(R i).2.2.1.1) ((List.range n0).map λi=>(R i).2.2.2.1.1) ((List.range n0).map λi=>(R i).2.2.2.2.1) ((List.range n0).map λi=>(R i).st)=(List.range n0).flatMap cs:=by
   unfold FD;rw[hll];refine yH λi hi=> ?_;unfold stc;rw[at_ i hi,kat (λr=>r.2.1.2.2.1) i hi,kat (λr=>r.2.2.1.1) i hi,kat (λr=>r.2.2.2.1.1) i hi,kat (λr=>r.2.2.2.2.1) i hi];exact((hR i hi).1).symm
  rw[e];exact hsl;obtain⟨j,hj,rfl⟩:=to i a b;rw[at_ j hj,kat (λr=>r.2.1.2.2.1) j hj];exact(hR j hj).2.1;obtain⟨j,hj,rfl⟩:=to i a b;rw[at_ j hj,kat (λr=>r.2.2.1.1) j hj];exact(hR j hj).2.2.1;obtain⟨j,hj,rfl⟩:=to i a b;rw[at_ j hj,kat (λr=>r.2.2.2.1.1) j hj];exact(hR j hj).2.2.2.1;obtain⟨j,hj,rfl⟩:=to i a b;rw[at_ j hj,kat (λr=>r.2.2.2.2.1) j hj];exact(hR j hj).2.2.2.2
instance:Inhabited Vr:=⟨vr0⟩
theorem an0{fuel:Nat}{c:Value}(h:Rd dA W base held fuel 22 [c]):∃l,k5 (hv W) c l∧∀v∈l,v.nm.size≤9223372036854775807:=by
 obtain⟨x,h⟩:=h;obtain⟨m,n0,cs,hm,hsl,hx⟩:=yK (s:=5) Tryz.underlying22 eD aB h;have each:∀i,i<n0→∃r:Vr,cs i=[.string r.nm,.int .i64 r.kd,.int .i64 r.lo,.int .i64 r.hi,.int .i64 r.ini]∧r.nm.size≤9223372036854775807:=λi hi=>by
  obtain⟨_,x,h⟩:=hx i hi;obtain⟨xs,k,hk,_,hl,hxl,hf⟩:=DataW.trod_struct Tryz.underlying69 h;obtain⟨y0,y1,y2,y3,y4,e⟩:=aIz (hl.trans eD);rw[e]at hf;have hx3:xs.length=5:=hxl;obtain⟨_,g0⟩:=tG hf 0 rfl (w:=1) eD rfl aB;obtain⟨_,g1⟩:=tG hf 1 rfl (w:=1) eD rfl aB;obtain⟨_,g2⟩:=tG hf 2 rfl (w:=1) eD rfl aB;obtain⟨_,g3⟩:=tG hf 3 rfl (w:=1) eD rfl aB;obtain⟨_,g4⟩:=tG hf 4 rfl (w:=1) eD rfl aB;obtain⟨nm,rfl,hn⟩:=VR Tryz.underlying9 g0;obtain⟨kd,rfl⟩:=kH Tryz.underlying34 g1;obtain⟨lo,rfl⟩:=kH Tryz.underlying3 g2;obtain⟨hi',rfl⟩:=kH Tryz.underlying3 g3;obtain⟨ini,rfl⟩:=kH Tryz.underlying3 g4;exact⟨⟨nm,kd,lo,hi',ini⟩,e,hn⟩
 obtain⟨R,hR⟩:=choose_lt each;have hll:((List.range n0).map R).length=n0:=bK;refine⟨(List.range n0).map R,?_,λv hv=> ?_⟩;unfold k5;rw[hll];have e:xU ((List.range n0).map R)=(List.range n0).flatMap cs:=by
  unfold xU;rw[hll];refine yH λi hi=> ?_;have at_:vr ((List.range n0).map R) (i:Nat)=R i:=by unfold vr;rw[show((i:Int)).toNat=i by omega];exact vN hi
  unfold KG;rw[at_];exact((hR i hi).1).symm
 rw[e];exact hsl;obtain⟨i,hi,rfl⟩:=HW.1 hv;exact(hR i (CM.1 hi)).2
abbrev HtR:=(ByteArray×Int×Int)×(Int×Int×Value×List Tm)
instance:Inhabited HtR:=⟨(⟨#[]⟩,0,0),(0,0,undef,[])⟩
abbrev HtR.ht(r:HtR):Ht:=⟨r.1.1,r.1.2.1,r.1.2.2,.mk r.2.1 r.2.2.1 r.2.2.2.2⟩
theorem apY{fuel:Nat}{c:Value}(h:Rd dA W base held fuel 23 [c]):∃l,Hts (hv W) c l∧∀i:Int,0≤i→i<l.length→(ht l i).nm.size≤9223372036854775807:=by
 obtain⟨x,h⟩:=h;obtain⟨m,n0,cs,hm,hsl,hx⟩:=yK (s:=6) Tryz.underlying23 eD aB h;have each:∀i,i<n0→∃r:HtR,cs i=[.string r.1.1,.int .i64 r.1.2.1,.int .i64 r.1.2.2,.int .i64 r.2.1,.int .i64 r.2.2.1,r.2.2.2.1]∧eJ (hv W) r.2.2.2.1 r.2.2.2.2∧r.1.1.size≤9223372036854775807:=λi hi=>by
  obtain⟨_,x,h⟩:=hx i hi;obtain⟨xs,k,hk,_,hl,hxl,hf⟩:=DataW.trod_struct Tryz.underlying124 h;obtain⟨y0,y1,y2,y3,y4,y5,e⟩:=aG0 (hl.trans eD);rw[e]at hf;have hx3:xs.length=4:=hxl;obtain⟨_,g0⟩:=tG hf 0 rfl (w:=1) eD rfl aB;obtain⟨_,g1⟩:=tG hf 1 rfl (w:=1) eD rfl aB;obtain⟨_,g2⟩:=tG hf 2 rfl (w:=1) eD rfl aB;obtain⟨x3,g3⟩:=tG hf 3 rfl (w:=3) eD rfl aB;obtain⟨nm,rfl,hn⟩:=VR Tryz.underlying9 g0;obtain⟨lo,rfl⟩:=kH Tryz.underlying3 g1;obtain⟨hi',rfl⟩:=kH Tryz.underlying3 g2;obtain⟨op,tn,kv,l,e2,hk1⟩:=SC (λk' _=>ZD k') ⟨x3,g3⟩;obtain⟨rfl,rfl,rfl⟩:y3= .int .i64 op∧y4= .int .i64 tn∧y5=kv:=by simpa using e2
  exact⟨((nm,lo,hi'),(op,tn,y5,l)),e,hk1,hn⟩
 obtain⟨R,hR⟩:=choose_lt each;have hll:((List.range n0).map λi=>(R i).ht).length=n0:=bK;have at_:∀i,i<n0→ht ((List.range n0).map λi=>(R i).ht) (i:Nat)=(R i).ht:=λi hi=>by
  unfold ht;rw[show((i:Int)).toNat=i by omega];exact vN hi
 have kat:∀i,i<n0→gv ((List.range n0).map λi=>(R i).2.2.2.1) (i:Nat)=(R i).2.2.2.1:=λi hi=>by
  unfold gv;rw[show((i:Int)).toNat=i by omega];exact vN hi
 have to:∀i:Int,0≤i→i<((List.range n0).map λi=>(R i).ht).length→∃j:Nat,j<n0∧i=(j:Nat):=λi a b=>⟨i.toNat,by rw[hll]at b;omega,aB⟩;refine⟨(List.range n0).map λi=>(R i).ht,⟨(List.range n0).map λi=>(R i).2.2.2.1,?_,λi a b=> ?_⟩,λi a b=> ?_⟩;rw[hll];have e:F0 ((List.range n0).map λi=>(R i).2.2.2.1) ((List.range n0).map λi=>(R i).ht)=(List.range n0).flatMap cs:=by
  unfold F0;rw[hll];refine yH λi hi=> ?_;unfold TD;rw[at_ i hi,kat i hi];exact((hR i hi).1).symm
 rw[e];exact hsl;obtain⟨j,hj,rfl⟩:=to i a b;rw[at_ j hj,kat j hj];exact(hR j hj).2.1;obtain⟨j,hj,rfl⟩:=to i a b;rw[at_ j hj];exact(hR j hj).2.2
end
end Go.Proofs.YtbchkopkgpfkgaaGreat
