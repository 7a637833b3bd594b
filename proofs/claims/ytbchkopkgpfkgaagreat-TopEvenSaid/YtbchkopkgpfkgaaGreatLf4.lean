/- TopEvenSaid is proved: an even program shows as many observations with its time as without, and as many as the original without its time; under no condition. -/
import Derived.Test.YtbchkopkgpfkgaaGreatRows
import Derived.Test.YtbchkopkgpfkgaaGreatQAP
import Derived.Test.YtbchkopkgpfkgaaGreatQEC
set_option linter.unusedVariables false
namespace Go.Proofs.YtbchkopkgpfkgaaGreat
open Go.ChangeShapes Go.WideShapes Go.ChangeAt Go.RowKit Go.Vc
open Go.ChangeMaps (open_string shut_string)
theorem aHS:ownKnob Tryz.prog.godebug=none:=by kernel_rfl
theorem auI:laidOutB Tryz.prog=true:=by kernel_rfl
set_option maxRecDepth 100000 in
theorem awD(os:Go.Os)(started:os.Started)(H:Type)(dA:TypeId×Value→H):
  ReturnsInHanded {} Tryz.checked os 3 .any (Rows.topEvenSpec.pre6 dA Tryz.prog Tryz.f3 Rows.topEvenRow.domain false) (Rows.topEvenSpec.post dA Tryz.prog Tryz.f3 false true false false):=by
 refine returnsInHanded_of_change (C:=Tryz.checked) aHS started eD Tryz.func3
  (ChangeSpec.witness6 (enc:=dA) (C:=Tryz.checked) false ⟨#[],#[.agg #[.slice none 0 0,.slice none 0 0,.slice none 0 0]],[]⟩ 8 eD eD eD eD) ?_
 intro W base args ds gs before hval0 hW hcnd _;have hval:∀(j:Nat) t v,Tryz.f3.params[j]? =some t→args[j]? =some v→Value.okWide Tryz.prog W .any base t v:=hval0;have hW2:=hW;obtain⟨p,q,hA0,hV,rfl,hfz,hnd⟩:=hW;have hA:DataW.TrodAll dA Tryz.prog W 0 (λ_=>true) true Tryz.f3.params.toList args.toList ds p:=hA0;rw[Tryz.params3]at hA hval;obtain⟨v0,vs0,d0,ds0,p0,q0,hargs,rfl,rfl,h0,r0⟩:=trodAll_cons hA;obtain⟨rfl,rfl,rfl⟩:=trodAll_nil r0;obtain rfl:args= #[v0]:=by cases args;simp_all
 obtain⟨rfl,rfl⟩:=trodVars_none hV;have k0:=h0;have lt0:∀x∈p0,x.block<W.heap.size:=by obtain⟨m,hm⟩:=k0;exact DataW.trod_lt m _ _ _ hm
 obtain⟨c0_0,c0_1,c0_2,y0_0,y0_1,y0_2,n0,rfl,rfl,rfl,g0_0,g0_1,g0_2⟩:=Go.Joins.open_agg3 Tryz.underlying26 eD eD (hval 0 26 v0 rfl rfl) h0;obtain⟨lV,mV,nV⟩:=an0 ⟨_,g0_0⟩;obtain⟨lH,mH,nH⟩:=apY ⟨_,g0_1⟩;obtain⟨lB,mB⟩:=aqC _ _ ⟨_,g0_2⟩;have mF:fV (hv W) c0_0 c0_1 c0_2 ⟨lV,lH,lB⟩:=⟨mV,mH,mB⟩;clear hA0 hval0;refine(amJ (aIa mF nV nH)).mono λe W2 ⟨he,bel⟩=> ?_;subst he;exact⟨_,rfl,_,_,_,[],_,[],hW2,trodAll_mk1 (shut_bool Tryz.underlying4 _),(trodAll_cons_mk (Below.trod auI eD (of_decide_eq_true eD) k0 bel lt0) trodAll_mk0),rfl,bel.frame _,λh=>by cases h⟩
theorem topEven_holds:Rows.TopEvenSaid:=
 OpenClaim.holds_of_wide 3 Tryz.f3 rfl rfl rfl rfl rfl rfl rfl ⟨rfl,rfl,rfl,rfl,rfl⟩ rfl rfl rfl rfl rfl eD Tryz.func3 eD
  (of_decide_eq_true eD) (by unfold Func.isWrapper;first|(rw[aK (by decide+kernel)];kernel_rfl)|(rw[aC (by decide+kernel)];exact⟨rfl,rfl⟩))
  (λos started H dA _=>awD os started H dA)
end Go.Proofs.YtbchkopkgpfkgaaGreat
