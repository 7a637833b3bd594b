/- MergeAnyProofs, proved: for every table of losses, every table of sets and every rival the law returns true, and they read afterwards as before. Without conditions. -/
import Derived.Test.YtmkbjhligjnagaaRows
import Derived.Test.YtmkbjhligjnagaaMiE
import Derived.Test.YtmkbjhligjnagaaWr
namespace Go.Proofs.Ytmkbjhligjnagaa
open Go.ChangeShapes Go.WideShapes Go.ChangeAt Go.RowKit Go.Vc
open Go.ChangeMaps (open_string shut_string)
theorem ownMergeAnyProofs : ownKnob Try.prog.godebug = none := by kernel_rfl
theorem laidOutMergeAnyProofs : laidOutB Try.prog = true := by kernel_rfl
set_option maxRecDepth 100000 in
theorem liftedMergeAnyProofs (os : Go.Os) (started : os.Started) (H : Type) (enc : TypeId × Value → H) :
    ReturnsInHanded {} Try.checked os 7 .any (Rows.mergeAnyProofsSpec.pre6 enc Try.prog Try.f7 Rows.mergeAnyProofsRow.domain false) (Rows.mergeAnyProofsSpec.post enc Try.prog Try.f7 false true false false) := by
  refine returnsInHanded_of_change (C := Try.checked) ownMergeAnyProofs started (by kernel_rfl) Try.func7
    (ChangeSpec.witness6 (enc := enc) (C := Try.checked) false ⟨#[], #[.slice none 0 0, .slice none 0 0, .agg #[.int .i64 0, .int .i64 0, .slice none 0 0]], []⟩ 8 (by kernel_rfl) (by kernel_rfl) (by kernel_rfl) (by kernel_rfl)) ?_
  intro W base args ds gs before hval0 hW hcnd _
  have hval : ∀ (j : Nat) t v, Try.f7.params[j]? = some t → args[j]? = some v → Value.okWide Try.prog W .any base t v := hval0
  have hW2 := hW
  obtain ⟨p, q, hA0, hV, rfl, hfz, hnd⟩ := hW
  have hA : DataW.TrodAll enc Try.prog W 0 (fun _ => true) true Try.f7.params.toList args.toList ds p := hA0
  rw [Try.params7] at hA hval
  obtain ⟨v0, vs0, d0, ds0, p0, q0, hargs, rfl, rfl, h0, r0⟩ := trodAll_cons hA
  obtain ⟨v1, vs1, d1, ds1, p1, q1, rfl, rfl, rfl, h1, r1⟩ := trodAll_cons r0
  obtain ⟨v2, vs2, d2, ds2, p2, q2, rfl, rfl, rfl, h2, r2⟩ := trodAll_cons r1
  obtain ⟨rfl, rfl, rfl⟩ := trodAll_nil r2
  obtain rfl : args = #[v0, v1, v2] := by cases args; simp_all
  obtain ⟨rfl, rfl⟩ := trodVars_none hV
  obtain ⟨a0, len0, cap0, rfl⟩ := okWide_slice Try.underlying23 (hval 0 23 v0 rfl rfl)
  have k0 := h0
  have lt0 : ∀ x ∈ p0, x.block < W.heap.size := by obtain ⟨m, hm⟩ := k0; exact DataW.trod_lt m _ _ _ hm
  obtain ⟨fuel0, hf0⟩ := h0
  obtain ⟨rv0, L0, m0, wf0⟩ := read_rows Try.underlying23 Try.underlying29 Try.underlying3 (by kernel_rfl) (by kernel_rfl) rfl hf0
  obtain ⟨a1, len1, cap1, rfl⟩ := okWide_slice Try.underlying46 (hval 1 46 v1 rfl rfl)
  have k1 := h1
  have lt1 : ∀ x ∈ p1, x.block < W.heap.size := by obtain ⟨m, hm⟩ := k1; exact DataW.trod_lt m _ _ _ hm
  obtain ⟨fuel1, hf1⟩ := h1
  obtain ⟨R1, ms1, wf1⟩ := read_recs Try.underlying46 Try.underlying66 (by kernel_rfl) ⟨rfl, rfl, rfl⟩ ⟨by kernel_rfl, by kernel_rfl, by kernel_rfl⟩ Try.underlying3 Try.underlying3 Try.underlying3 rfl hf1
  have m1 := bes_recs ms1
  have k2 := h2
  have lt2 : ∀ x ∈ p2, x.block < W.heap.size := by obtain ⟨m, hm⟩ := k2; exact DataW.trod_lt m _ _ _ hm
  obtain ⟨c2_0, c2_1, c2_2, y2_0, y2_1, y2_2, n2, rfl, rfl, rfl, g2_0, g2_1, g2_2⟩ := Go.Joins.open_agg3 Try.underlying39 (by kernel_rfl) (by kernel_rfl) (hval 2 39 v2 rfl rfl) h2
  obtain ⟨a2_0, e2_0, -, w2_0⟩ := DataW.trod_int Try.underlying3 g2_0
  obtain rfl : c2_0 = .int .i64 a2_0 := by simpa using e2_0
  obtain ⟨a2_1, e2_1, -, w2_1⟩ := DataW.trod_int Try.underlying3 g2_1
  obtain rfl : c2_1 = .int .i64 a2_1 := by simpa using e2_1
  obtain ⟨s2_2, t2_2, u2_2, e2_2⟩ := Go.Joins.slice_form Try.underlying29 g2_2
  obtain rfl : c2_2 = .slice s2_2 t2_2 u2_2 := by simpa using e2_2
  obtain ⟨xs2_2, m2_2, wf2_2⟩ := read_ints Try.underlying29 Try.underlying3 (by kernel_rfl) rfl (by simpa [Value.cells] using g2_2)
  clear hA0 hval0
  refine (law_calls (MergeAnyProofs_c m2_2 m0 m1)).mono fun e W2 ⟨he, bel⟩ => ?_
  subst he
  exact ⟨_, rfl, _, _, _, [], _, [], hW2, trodAll_mk1 (shut_bool Try.underlying4 _), (trodAll_cons_mk (Below.trod laidOutMergeAnyProofs (by kernel_rfl) (of_decide_eq_true (by kernel_rfl)) k0 bel lt0) (trodAll_cons_mk (Below.trod laidOutMergeAnyProofs (by kernel_rfl) (of_decide_eq_true (by kernel_rfl)) k1 bel lt1) (trodAll_cons_mk (Below.trod laidOutMergeAnyProofs (by kernel_rfl) (of_decide_eq_true (by kernel_rfl)) k2 bel lt2) trodAll_mk0))), rfl, bel.frame _, fun h => by cases h⟩
theorem mergeAnyProofs_holds : Rows.MergeAnyProofsSaid :=
  OpenClaim.holds_of_wide 7 Try.f7 rfl rfl rfl rfl rfl rfl rfl ⟨rfl, rfl, rfl, rfl, rfl⟩ rfl rfl rfl rfl rfl (by kernel_rfl) Try.func7 (by kernel_rfl)
    (of_decide_eq_true (by kernel_rfl)) (by unfold Func.isWrapper; first | (rw [if_pos (by decide +kernel)]; kernel_rfl) | (rw [if_neg (by decide +kernel)]; exact ⟨rfl, rfl⟩))
    (fun os started H enc _ => liftedMergeAnyProofs os started H enc)
#print axioms mergeAnyProofs_holds
end Go.Proofs.Ytmkbjhligjnagaa
