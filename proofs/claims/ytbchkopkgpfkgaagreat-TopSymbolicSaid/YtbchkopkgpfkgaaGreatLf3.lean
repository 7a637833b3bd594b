/- TopSymbolicSaid is proved: the leaf of the diagram at the encoding of any inputs is the index of the observation of their run; under no condition. -/
import Derived.Test.YtbchkopkgpfkgaaGreatRows
import Derived.Test.YtbchkopkgpfkgaaGreatKBW
import Derived.Test.YtbchkopkgpfkgaaGreatKAP
set_option linter.unusedVariables false
set_option linter.unusedSimpArgs false
set_option maxRecDepth 100000
namespace Go.Proofs.YtbchkopkgpfkgaaGreat
open Go.ChangeShapes Go.WideShapes Go.ChangeAt Go.RowKit Go.Vc
open Go.ChangeMaps (open_string shut_string)
theorem RL:ownKnob Tryz.prog.godebug=none:=by kernel_rfl
theorem xI:laidOutB Tryz.prog=true:=by kernel_rfl
theorem KF(os:Go.Os)(started:os.Started)(H:Type)(dA:TypeId×Value→H):
  ReturnsInHanded {} Tryz.checked os 4 .any (Rows.topSymbolicSpec.pre6 dA Tryz.prog Tryz.f4 Rows.topSymbolicRow.domain false) (Rows.topSymbolicSpec.post dA Tryz.prog Tryz.f4 false true false false):=by
 refine returnsInHanded_of_change (C:=Tryz.checked) RL started eD Tryz.func4
  (ChangeSpec.witness6 (enc:=dA) (C:=Tryz.checked) false ⟨#[],#[.agg #[.slice none 0 0,.slice none 0 0,.slice none 0 0],.agg #[.slice none 0 0,.slice none 0 0,.slice none 0 0],.bool false],[]⟩ 8 eD eD eD eD) ?_
 intro W base args ds gs before hval0 hW hcnd _;have hval:∀(j:Nat) t v,Tryz.f4.params[j]? =some t→args[j]? =some v→Value.okWide Tryz.prog W .any base t v:=hval0;have hW2:=hW;obtain⟨p,q,hA0,hV,rfl,hfz,hnd⟩:=hW;have hA:DataW.TrodAll dA Tryz.prog W 0 (λ_=>true) true Tryz.f4.params.toList args.toList ds p:=hA0;rw[Tryz.params4]at hA hval;obtain⟨v0,vs0,d0,ds0,p0,q0,hargs,rfl,rfl,h0,r0⟩:=trodAll_cons hA;obtain⟨v1,vs1,d1,xD,p1,q1,rfl,rfl,rfl,h1,r1⟩:=trodAll_cons r0;obtain⟨v2,vs2,d2,ds2,p2,q2,rfl,rfl,rfl,h2,r2⟩:=trodAll_cons r1;obtain⟨rfl,rfl,rfl⟩:=trodAll_nil r2;obtain rfl:args= #[v0,v1,v2]:=by cases args;simp_all
 obtain⟨rfl,rfl⟩:=trodVars_none hV;have k0:=h0;have lt0:∀x∈p0,x.block<W.heap.size:=by obtain⟨m,hm⟩:=k0;exact DataW.trod_lt m _ _ _ hm
 obtain⟨c0_0,c0_1,c0_2,y0_0,y0_1,y0_2,n0,rfl,rfl,rfl,g0_0,g0_1,g0_2⟩:=Go.Joins.open_agg3 Tryz.underlying26 eD eD (hval 0 26 v0 rfl rfl) h0;obtain⟨lV,mV,nV⟩:=an0 ⟨_,g0_0⟩;obtain⟨lH,mH,nH⟩:=apY ⟨_,g0_1⟩;obtain⟨lB,mB⟩:=aqC _ _ ⟨_,g0_2⟩;have mF:fV (hv W) c0_0 c0_1 c0_2 ⟨lV,lH,lB⟩:=⟨mV,mH,mB⟩;have k1:=h1;have lt1:∀x∈p1,x.block<W.heap.size:=by obtain⟨m,hm⟩:=k1;exact DataW.trod_lt m _ _ _ hm
 obtain⟨c1_0,c1_1,c1_2,y1_0,y1_1,y1_2,n1,rfl,rfl,rfl,g1_0,g1_1,g1_2⟩:=Go.Joins.open_agg3 Tryz.underlying43 eD eD (hval 1 43 v1 rfl rfl) h1;obtain⟨s1_0,t1_0,u1_0,e1_0⟩:=Go.Joins.slice_form Tryz.underlying35 g1_0;obtain rfl:c1_0= .slice s1_0 t1_0 u1_0:=by simpa using e1_0
 obtain⟨xs1_0,m1_0,wf1_0⟩:=BV Tryz.underlying35 Tryz.underlying3 eD rfl (by simpa[Value.cells]using g1_0);obtain⟨s1_1,t1_1,u1_1,e1_1⟩:=Go.Joins.slice_form Tryz.underlying35 g1_1;obtain rfl:c1_1= .slice s1_1 t1_1 u1_1:=by simpa using e1_1
 obtain⟨xs1_1,m1_1,wf1_1⟩:=BV Tryz.underlying35 Tryz.underlying3 eD rfl (by simpa[Value.cells]using g1_1);obtain⟨s1_2,t1_2,u1_2,e1_2⟩:=Go.Joins.slice_form Tryz.underlying35 g1_2;obtain rfl:c1_2= .slice s1_2 t1_2 u1_2:=by simpa using e1_2
 obtain⟨xs1_2,m1_2,wf1_2⟩:=BV Tryz.underlying35 Tryz.underlying3 eD rfl (by simpa[Value.cells]using g1_2);obtain⟨a2,rfl,rfl,rfl⟩:=open_bool Tryz.underlying4 (hval 2 4 v2 rfl rfl) h2;clear hA0 hval0;have hc:=amJ (ae4 (tm:=a2) mF m1_0 m1_1 m1_2 nV nH);unfold LJ at hc;rw[Bool.decide_eq_true]at hc;refine hc.mono λe W2 ⟨he,bel⟩=> ?_;subst he;exact⟨_,rfl,_,_,_,[],_,[],hW2,trodAll_mk1 (shut_bool Tryz.underlying4 _),(trodAll_cons_mk (Below.trod xI eD (of_decide_eq_true eD) k0 bel lt0) (trodAll_cons_mk (Below.trod xI eD (of_decide_eq_true eD) k1 bel lt1) (trodAll_cons_mk (shut_bool Tryz.underlying4 a2) trodAll_mk0))),rfl,bel.frame _,λh=>by cases h⟩
theorem topSymbolic_holds:Rows.TopSymbolicSaid:=
 OpenClaim.holds_of_wide 4 Tryz.f4 rfl rfl rfl rfl rfl rfl rfl ⟨rfl,rfl,rfl,rfl,rfl⟩ rfl rfl rfl rfl rfl eD Tryz.func4 eD
  (of_decide_eq_true eD) (by unfold Func.isWrapper;first|(rw[aK (by decide+kernel)];kernel_rfl)|(rw[aC (by decide+kernel)];exact⟨rfl,rfl⟩))
  (λos started H dA _=>KF os started H dA)
end Go.Proofs.YtbchkopkgpfkgaaGreat
