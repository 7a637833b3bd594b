import Derived.Test.YtbchkopkgpfkgaaGreatDoorRows
import Derived.ProofKit
import Derived.LaidMore
import Derived.LaidSub
import Derived.Lib.LaidTab
import Derived.OpenShut
import Derived.Stop.Joined
import Derived.Test.YtbchkopkgpfkgaaGreatDoorJh
import Derived.Test.YtbchkopkgpfkgaaGreatDoorTqB
import Derived.Test.YtbchkopkgpfkgaaGreatDoorTqC
/- TopMerged: for all programs, views and numbers the law returns true. -/
namespace Go.Proofs.YtbchkopkgpfkgaaGreatDoor
open Go.ChangeShapes Go.WideShapes Go.ChangeAt Go.RowKit Go.Vc
open Go.ChangeMaps (open_string shut_string)
theorem ownTopMerged : ownKnob Tryz.prog.godebug = none := by kernel_rfl
theorem laidOutTopMerged : laidOutB Tryz.prog = true := by kernel_rfl
theorem doorTopMerged (os : Os) (args : Array Value) : laidMetH Tryz.prog Rows.topMergedRow.laid ((World.doorLaid Tryz.prog 400 os).forCall (fun _ _ => 0) ⟨#[], args, []⟩).memory :=
  laidMetH_of_parts3 (fuel := 8) (laidMet_of_run' 8 (by kernel_rfl) (by kernel_rfl)) (by kernel_rfl) (by kernel_rfl)
theorem tabTopMerged {W : World} (h : laidMetH Tryz.prog Rows.topMergedRow.laid W) : TabV Tryz.prog (hv W) := by
  rw [MakeChecks.laidMetH_plain _ _ _ (by kernel_rfl)] at h
  have h2 := h.filter (fun x => x.1 == "internal/strconv.uint64pow10")
  have e : (Rows.topMergedRow.laid.filter fun x => x.1 == "internal/strconv.uint64pow10") = [("internal/strconv.uint64pow10", Lib.tabData .u64 Lib.pow10Tab)] := by kernel_rfl
  rw [e] at h2
  exact TabV.of (Lib.tabIs_of_head gPow tPow Tryz.underlying261 Tryz.underlying218 (by kernel_rfl) (by kernel_rfl) h2)
set_option maxHeartbeats 4000000 in
set_option maxRecDepth 100000 in
theorem liftedTopMerged (os : Go.Os) (started : os.Started) (H : Type) (enc : TypeId × Value → H) :
    ReturnsInHanded {} Tryz.checked os 4 .any (fun w args => (Rows.topMergedSpec.pre enc Tryz.prog Tryz.f4 [] false w args ∧ laidMetH Tryz.prog Rows.topMergedRow.laid w) ∧ sizedMet enc Tryz.prog Tryz.f4 (OpenSpec.ofChange Rows.topMergedSpec) false w args) (Rows.topMergedSpec.post enc Tryz.prog Tryz.f4 false true false false) := by
  refine returnsInHanded_of_change_and (C := Tryz.checked) (X := fun w _ => laidMetH Tryz.prog Rows.topMergedRow.laid w) (fun _ _ _ hh h => h.of_heap hh) ownTopMerged started (by kernel_rfl) Tryz.func4
    (ChangeSpec.witness_shaped (enc := enc) (C := Tryz.checked) (os := os) (X := fun w _ => laidMetH Tryz.prog Rows.topMergedRow.laid w) false (World.doorLaid Tryz.prog 400 os) #[.agg #[.slice none 0 0, .slice none 0 0, .slice none 0 0], .agg #[.slice none 0 0, .bool false], .slice none 0 0] 8 rfl (World.shaped_of_RefB (by kernel_rfl) (by kernel_rfl)) (by kernel_rfl) (by kernel_rfl) (by kernel_rfl) (doorTopMerged os _)) ?_
  intro W base args ds gs before hval0 hW _ _ hL _
  have hval : ∀ (j : Nat) t v, Tryz.f4.params[j]? = some t → args[j]? = some v → Value.okWide Tryz.prog W .any base t v := hval0
  have hW2 := hW
  obtain ⟨p, q, hA0, hV, rfl, hfz, hnd⟩ := hW
  have hA : DataW.TrodAll enc Tryz.prog W 0 (fun _ => true) true Tryz.f4.params.toList args.toList ds p := hA0
  rw [Tryz.params4] at hA hval
  obtain ⟨v0, vs0, d0, ds0, p0, q0, hargs, rfl, rfl, h0, r0⟩ := trodAll_cons hA
  obtain ⟨v1, vs1, d1, ds1, p1, q1, rfl, rfl, rfl, h1, r1⟩ := trodAll_cons r0
  obtain ⟨v2, vs2, d2, ds2, p2, q2, rfl, rfl, rfl, h2, r2⟩ := trodAll_cons r1
  obtain ⟨rfl, rfl, rfl⟩ := trodAll_nil r2
  obtain rfl : args = #[v0, v1, v2] := by cases args; simp_all
  obtain ⟨rfl, rfl⟩ := trodVars_none hV
  have k0 := h0
  have lt0 : ∀ x ∈ p0, x.block < W.heap.size := by obtain ⟨m, hm⟩ := k0; exact DataW.trod_lt m _ _ _ hm
  obtain ⟨c0_0, c0_1, c0_2, y0_0, y0_1, y0_2, n0, rfl, rfl, rfl, g0_0, g0_1, g0_2⟩ := Go.Joins.open_agg3 Tryz.underlying26 (by kernel_rfl) (by kernel_rfl) (hval 0 26 v0 rfl rfl) h0
  obtain ⟨lV, mV, nV⟩ := read_vrs ⟨_, g0_0⟩
  obtain ⟨lH, mH, nH⟩ := read_hts ⟨_, g0_1⟩
  obtain ⟨lB, mB⟩ := read_sts _ _ ⟨_, g0_2⟩
  have mF : Fls (hv W) c0_0 c0_1 c0_2 ⟨lV, lH, lB⟩ := ⟨mV, mH, mB⟩
  have k1 := h1
  have lt1 : ∀ x ∈ p1, x.block < W.heap.size := by obtain ⟨m, hm⟩ := k1; exact DataW.trod_lt m _ _ _ hm
  obtain ⟨c1_0, c1_1, y1_0, y1_1, n1, rfl, rfl, rfl, g1_0, g1_1⟩ := Go.Joins.open_agg2 Tryz.underlying29 (by kernel_rfl) (by kernel_rfl) (hval 1 29 v1 rfl rfl) h1
  obtain ⟨s1_0, t1_0, u1_0, e1_0⟩ := Go.Joins.slice_form Tryz.underlying27 g1_0
  obtain rfl : c1_0 = .slice s1_0 t1_0 u1_0 := by simpa using e1_0
  obtain ⟨xs1_0, m1_0, wf1_0⟩ := read_ints Tryz.underlying27 Tryz.underlying3 (by kernel_rfl) rfl (by simpa [Value.cells] using g1_0)
  obtain ⟨a1_1, e1_1, -⟩ := DataW.trod_bool Tryz.underlying4 g1_1
  obtain rfl : c1_1 = .bool a1_1 := by simpa using e1_1
  obtain ⟨a2, len2, cap2, rfl⟩ := okWide_slice Tryz.underlying27 (hval 2 27 v2 rfl rfl)
  have k2 := h2
  have lt2 : ∀ x ∈ p2, x.block < W.heap.size := by obtain ⟨m, hm⟩ := k2; exact DataW.trod_lt m _ _ _ hm
  obtain ⟨fuel2, hf2⟩ := h2
  obtain ⟨xs2, m2, wf2⟩ := read_ints Tryz.underlying27 Tryz.underlying3 (by kernel_rfl) rfl hf2
  clear hA0 hval0
  have hc := law_calls (Merged_c (tm := a1_1) mF m1_0 m2 (tabTopMerged hL) nV nH)
  rw [Bool.decide_eq_true] at hc
  refine hc.mono fun e W2 ⟨he, bel⟩ => ?_
  subst he
  exact ⟨_, rfl, _, _, _, [], _, [], hW2, trodAll_mk1 (shut_bool Tryz.underlying4 _), (trodAll_cons_mk (Below.trod laidOutTopMerged (by kernel_rfl) (of_decide_eq_true (by kernel_rfl)) k0 bel lt0) (trodAll_cons_mk (Below.trod laidOutTopMerged (by kernel_rfl) (of_decide_eq_true (by kernel_rfl)) k1 bel lt1) (trodAll_cons_mk (Below.trod laidOutTopMerged (by kernel_rfl) (of_decide_eq_true (by kernel_rfl)) k2 bel lt2) trodAll_mk0))), rfl, bel.frame _, fun h => by cases h⟩
theorem topMerged_holds : Rows.TopMergedSaid :=
  OpenClaim.holds_of_wide 4 Tryz.f4 rfl rfl rfl rfl rfl rfl rfl ⟨rfl, rfl, rfl, rfl, rfl⟩ rfl rfl rfl rfl rfl (by kernel_rfl) Tryz.func4 (by kernel_rfl)
    (of_decide_eq_true (by kernel_rfl)) (by unfold Func.isWrapper; first | (rw [if_pos (by decide +kernel)]; kernel_rfl) | (rw [if_neg (by decide +kernel)]; exact ⟨rfl, rfl⟩))
    (fun os started H enc _ => liftedTopMerged os started H enc)
end Go.Proofs.YtbchkopkgpfkgaaGreatDoor
