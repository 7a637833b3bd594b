import Derived.Test.YtkmhjcjpohpiaaaGreatRows
import Derived.Test.YtkmhjcjpohpiaaaGreatRc
import Derived.Test.YtkmhjcjpohpiaaaGreatMtI
/- MtbddChooses, proved: for all diagrams the law returns true. Without conditions. -/
namespace Go.Proofs.YtkmhjcjpohpiaaaGreat
open Go.ChangeShapes Go.WideShapes Go.ChangeAt Go.RowKit Go.Vc
open Go.ChangeMaps (open_string shut_string)
theorem ownMtbddChooses : ownKnob Tryz.prog.godebug = none := by kernel_rfl
theorem laidOutMtbddChooses : laidOutB Tryz.prog = true := by kernel_rfl
set_option maxRecDepth 100000 in
theorem liftedMtbddChooses (os : Go.Os) (started : os.Started) (H : Type) (enc : TypeId × Value → H) :
    ReturnsInHanded {} Tryz.checked os 5 .any (Rows.mtbddChoosesSpec.pre6 enc Tryz.prog Tryz.f5 Rows.mtbddChoosesRow.domain false) (Rows.mtbddChoosesSpec.post enc Tryz.prog Tryz.f5 false true false false) := by
  refine returnsInHanded_of_change (C := Tryz.checked) ownMtbddChooses started (by kernel_rfl) Tryz.func5
    (ChangeSpec.witness6 (enc := enc) (C := Tryz.checked) false ⟨#[], #[.agg #[.int .i64 0, .slice none 0 0, .int .i64 0], .agg #[.int .i64 0, .slice none 0 0, .slice none 0 0, .int .i64 0], .agg #[.int .i64 0, .slice none 0 0, .slice none 0 0, .int .i64 0]], []⟩ 8 (by kernel_rfl) (by kernel_rfl) (by kernel_rfl) (by kernel_rfl)) ?_
  intro W base args ds gs before hval0 hW hcnd _
  have hval : ∀ (j : Nat) t v, Tryz.f5.params[j]? = some t → args[j]? = some v → Value.okWide Tryz.prog W .any base t v := hval0
  have hW2 := hW
  obtain ⟨p, q, hA0, hV, rfl, hfz, hnd⟩ := hW
  have hA : DataW.TrodAll enc Tryz.prog W 0 (fun _ => true) true Tryz.f5.params.toList args.toList ds p := hA0
  rw [Tryz.params5] at hA hval
  obtain ⟨v0, vs0, d0, ds0, p0, q0, hargs, rfl, rfl, h0, r0⟩ := trodAll_cons hA
  obtain ⟨v1, vs1, d1, ds1, p1, q1, rfl, rfl, rfl, h1, r1⟩ := trodAll_cons r0
  obtain ⟨v2, vs2, d2, ds2, p2, q2, rfl, rfl, rfl, h2, r2⟩ := trodAll_cons r1
  obtain ⟨rfl, rfl, rfl⟩ := trodAll_nil r2
  obtain rfl : args = #[v0, v1, v2] := by cases args; simp_all
  obtain ⟨rfl, rfl⟩ := trodVars_none hV
  have k0 := h0
  have lt0 : ∀ x ∈ p0, x.block < W.heap.size := by obtain ⟨m, hm⟩ := k0; exact DataW.trod_lt m _ _ _ hm
  obtain ⟨c0_0, c0_1, c0_2, y0_0, y0_1, y0_2, n0, rfl, rfl, rfl, g0_0, g0_1, g0_2⟩ := Go.Joins.open_agg3 Tryz.underlying55 (by kernel_rfl) (by kernel_rfl) (hval 0 55 v0 rfl rfl) h0
  obtain ⟨a0_0, e0_0, -, w0_0⟩ := DataW.trod_int Tryz.underlying3 g0_0
  obtain rfl : c0_0 = .int .i64 a0_0 := by simpa using e0_0
  obtain ⟨s0_1, t0_1, u0_1, e0_1⟩ := Go.Joins.slice_form Tryz.underlying23 g0_1
  obtain rfl : c0_1 = .slice s0_1 t0_1 u0_1 := by simpa using e0_1
  obtain ⟨R0_1, ms0_1, wf0_1⟩ := read_recs Tryz.underlying23 Tryz.underlying65 (by kernel_rfl) ⟨rfl, rfl, rfl⟩ ⟨by kernel_rfl, by kernel_rfl, by kernel_rfl⟩ Tryz.underlying3 Tryz.underlying3 Tryz.underlying3 rfl (by simpa [Value.cells] using g0_1)
  have m0_1 := fks_recs ms0_1
  obtain ⟨a0_2, e0_2, -, w0_2⟩ := DataW.trod_int Tryz.underlying3 g0_2
  obtain rfl : c0_2 = .int .i64 a0_2 := by simpa using e0_2
  have k1 := h1
  have lt1 : ∀ x ∈ p1, x.block < W.heap.size := by obtain ⟨m, hm⟩ := k1; exact DataW.trod_lt m _ _ _ hm
  obtain ⟨c1_0, c1_1, c1_2, c1_3, y1_0, y1_1, y1_2, y1_3, n1, rfl, rfl, rfl, g1_0, g1_1, g1_2, g1_3⟩ := Go.Joins.open_agg4 Tryz.underlying25 (by kernel_rfl) (by kernel_rfl) (hval 1 25 v1 rfl rfl) h1
  obtain ⟨a1_0, e1_0, -, w1_0⟩ := DataW.trod_int Tryz.underlying3 g1_0
  obtain rfl : c1_0 = .int .i64 a1_0 := by simpa using e1_0
  obtain ⟨s1_1, t1_1, u1_1, e1_1⟩ := Go.Joins.slice_form Tryz.underlying22 g1_1
  obtain rfl : c1_1 = .slice s1_1 t1_1 u1_1 := by simpa using e1_1
  obtain ⟨xs1_1, m1_1, wf1_1⟩ := read_ints Tryz.underlying22 Tryz.underlying3 (by kernel_rfl) rfl (by simpa [Value.cells] using g1_1)
  obtain ⟨s1_2, t1_2, u1_2, e1_2⟩ := Go.Joins.slice_form Tryz.underlying23 g1_2
  obtain rfl : c1_2 = .slice s1_2 t1_2 u1_2 := by simpa using e1_2
  obtain ⟨R1_2, ms1_2, wf1_2⟩ := read_recs Tryz.underlying23 Tryz.underlying65 (by kernel_rfl) ⟨rfl, rfl, rfl⟩ ⟨by kernel_rfl, by kernel_rfl, by kernel_rfl⟩ Tryz.underlying3 Tryz.underlying3 Tryz.underlying3 rfl (by simpa [Value.cells] using g1_2)
  have m1_2 := fks_recs ms1_2
  obtain ⟨a1_3, e1_3, -, w1_3⟩ := DataW.trod_int Tryz.underlying3 g1_3
  obtain rfl : c1_3 = .int .i64 a1_3 := by simpa using e1_3
  have k2 := h2
  have lt2 : ∀ x ∈ p2, x.block < W.heap.size := by obtain ⟨m, hm⟩ := k2; exact DataW.trod_lt m _ _ _ hm
  obtain ⟨c2_0, c2_1, c2_2, c2_3, y2_0, y2_1, y2_2, y2_3, n2, rfl, rfl, rfl, g2_0, g2_1, g2_2, g2_3⟩ := Go.Joins.open_agg4 Tryz.underlying25 (by kernel_rfl) (by kernel_rfl) (hval 2 25 v2 rfl rfl) h2
  obtain ⟨a2_0, e2_0, -, w2_0⟩ := DataW.trod_int Tryz.underlying3 g2_0
  obtain rfl : c2_0 = .int .i64 a2_0 := by simpa using e2_0
  obtain ⟨s2_1, t2_1, u2_1, e2_1⟩ := Go.Joins.slice_form Tryz.underlying22 g2_1
  obtain rfl : c2_1 = .slice s2_1 t2_1 u2_1 := by simpa using e2_1
  obtain ⟨xs2_1, m2_1, wf2_1⟩ := read_ints Tryz.underlying22 Tryz.underlying3 (by kernel_rfl) rfl (by simpa [Value.cells] using g2_1)
  obtain ⟨s2_2, t2_2, u2_2, e2_2⟩ := Go.Joins.slice_form Tryz.underlying23 g2_2
  obtain rfl : c2_2 = .slice s2_2 t2_2 u2_2 := by simpa using e2_2
  obtain ⟨R2_2, ms2_2, wf2_2⟩ := read_recs Tryz.underlying23 Tryz.underlying65 (by kernel_rfl) ⟨rfl, rfl, rfl⟩ ⟨by kernel_rfl, by kernel_rfl, by kernel_rfl⟩ Tryz.underlying3 Tryz.underlying3 Tryz.underlying3 rfl (by simpa [Value.cells] using g2_2)
  have m2_2 := fks_recs ms2_2
  obtain ⟨a2_3, e2_3, -, w2_3⟩ := DataW.trod_int Tryz.underlying3 g2_3
  obtain rfl : c2_3 = .int .i64 a2_3 := by simpa using e2_3
  clear hA0 hval0
  refine (law_calls (Chooses_c m0_1 (A := ⟨a1_0, _, _, a1_3⟩) ⟨m1_1, m1_2⟩ (B := ⟨a2_0, _, _, a2_3⟩) ⟨m2_1, m2_2⟩ )).mono fun e W2 ⟨he, bel⟩ => ?_
  subst he
  exact ⟨_, rfl, _, _, _, [], _, [], hW2, trodAll_mk1 (shut_bool Tryz.underlying4 _), (trodAll_cons_mk (Below.trod laidOutMtbddChooses (by kernel_rfl) (of_decide_eq_true (by kernel_rfl)) k0 bel lt0) (trodAll_cons_mk (Below.trod laidOutMtbddChooses (by kernel_rfl) (of_decide_eq_true (by kernel_rfl)) k1 bel lt1) (trodAll_cons_mk (Below.trod laidOutMtbddChooses (by kernel_rfl) (of_decide_eq_true (by kernel_rfl)) k2 bel lt2) trodAll_mk0))), rfl, bel.frame _, fun h => by cases h⟩
theorem mtbddChooses_holds : Rows.MtbddChoosesSaid :=
  OpenClaim.holds_of_wide 5 Tryz.f5 rfl rfl rfl rfl rfl rfl rfl ⟨rfl, rfl, rfl, rfl, rfl⟩ rfl rfl rfl rfl rfl (by kernel_rfl) Tryz.func5 (by kernel_rfl)
    (of_decide_eq_true (by kernel_rfl)) (by unfold Func.isWrapper; first | (rw [if_pos (by decide +kernel)]; kernel_rfl) | (rw [if_neg (by decide +kernel)]; exact ⟨rfl, rfl⟩))
    (fun os started H enc _ => liftedMtbddChooses os started H enc)
#print axioms mtbddChooses_holds
end Go.Proofs.YtkmhjcjpohpiaaaGreat
