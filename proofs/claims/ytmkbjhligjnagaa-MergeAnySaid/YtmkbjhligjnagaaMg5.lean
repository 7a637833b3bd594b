/- Walks of merge: what each function returns. Printed by a program out of notes. -/
import Derived.Test.YtmkbjhligjnagaaMg4
namespace Go.Proofs.Ytmkbjhligjnagaa
open Go.Vc
open Classical

set_option maxRecDepth 100000 in
theorem holds_c {V : HV} {c : Value} {cv : List Value} {C : List (List Int)} {t : Value} {tv : List Value} {T : List (List Int)} {n k : Int} (hc : Mat .i64 V c cv C) (hC : Costs C n) (ht : Mat .i64 V t tv T) (hT : Tab T n k) :
    FnC Try.prog 42 [c, t] V [] (fun v _ _ => v = (Value.bool (decide (Holds C T)))) := by
  refine fn_intro (N := 60) Try.func42 (by kernel_rfl) rfl rfl rfl (Nat.le_of_ble_eq_true rfl) ?_
  intro w0 D
  have hlen := hc.len
  have htl := ht.len
  have hn0 := hC.n0
  have hn1 := hC.n1
  have hcl := hC.len
  have hTl := hT.len
  have hbd := ht.sl.bound
  refine vc_seq ?_
  refine vc_region ?_
  refine oq (qv_as (Value.bool false) rfl) ?_
  refine ops_nil ?_
  refine vc_seq ?_
  refine vc_seq ?_
  refine vc_region ?_
  refine oq (qv_as (Value.int .i64 1) rfl) ?_
  refine ops_nil ?_
  refine vc_block ?_
  refine vc_loop (α := Int) (fun (x : Int) => [(0, c), (1, t), (5, (Value.int .i64 x))]) (fun (x : Int) V' σ' => V = V' ∧ [] = σ' ∧ 1 ≤ x ∧ (x ≤ tv.length ∨ x = 1) ∧ ∀ z : Int, 0 ≤ z → z < x → 1 ≤ z → ∀ i : Int, 0 ≤ i → i < (gr T z).length → ∀ h : Int, 0 ≤ h → h ≤ i → (1 < z ∨ h = 0) → RowOK C T z i h) (fun (x : Int) => (tv.length - x).toNat) (1) ?_ ?_ ?_
  · exact ⟨rfl, rfl, rfl, trivial⟩
  · exact ⟨rfl, rfl, by omega, by omega, fun z a b c => by omega⟩
  rintro j e1 V0l σ0l hI0
  obtain ⟨rfl, rfl, i1, i2, hj⟩ : V = V0l ∧ [] = σ0l ∧ 1 ≤ j ∧ (j ≤ tv.length ∨ j = 1) ∧ ∀ z : Int, 0 ≤ z → z < j → 1 ≤ z → ∀ i : Int, 0 ≤ i → i < (gr T z).length → ∀ h : Int, 0 ≤ h → h ≤ i → (1 < z ∨ h = 0) → RowOK C T z i h := hI0
  refine vc_seq ?_
  refine vc_seq ?_
  refine vc_region ?_
  refine oq (qv_mv (Value.int .i64 j) rfl) ?_
  refine oq (qv_mv t rfl) ?_
  refine oq (qv_lenS Try.underlying31 rfl ht.sl) ?_
  refine oq (qv_lss rfl rfl) ?_
  refine ops_nil ?_
  refine vc_if rfl (fun c1 => ?_) (fun c1 => ?_)
  ·
    refine vc_skip ?_
    refine vc_seq ?_
    refine vc_block ?_
    refine vc_seq ?_
    have e1 := hT.row j (by omega) (by omega)
    have e1b := (ht.row j (by omega) (by omega)).bound
    refine vc_region ?_
    refine oq (qv_mv t rfl) ?_
    refine oq (qv_mv (Value.int .i64 j) rfl) ?_
    refine oq (qv_ia (v := t) (i := j) Try.underlying31 Try.size29 rfl (inV ht.sl) rfl (by omega) (by omega)) ?_
    refine oq (qv_ld (v := t) (i := j) Try.plain29 rfl (inV ht.sl) (by omega) (by omega)) ?_
    refine oq (qv_lenI Try.underlying29 rfl (ht.row (j) (by omega) (by omega))) ?_
    refine oq (qv_mv (Value.int .i64 0) rfl) ?_
    refine ops_nil ?_
    refine vc_block ?_
    refine vc_loop (α := Int) (fun (x : Int) => [(0, c), (1, t), (5, (Value.int .i64 j)), (11, (Value.bool (decide (j < ((tv.length : Int)))))), (18, (Value.int .i64 (((gr T (j)).length : Int)))), (19, (Value.int .i64 x))]) (fun (x : Int) V' σ' => V = V' ∧ [] = σ' ∧ 0 ≤ x ∧ x ≤ (gr T j).length ∧ ∀ y : Int, 0 ≤ y → y < x → ∀ h : Int, 0 ≤ h → h ≤ y → (1 < j ∨ h = 0) → RowOK C T j y h) (fun (x : Int) => ((gr T j).length - x).toNat) (0) ?_ ?_ ?_
    · exact ⟨rfl, rfl, rfl, rfl, rfl, rfl, trivial⟩
    · exact ⟨rfl, rfl, by omega, by omega, fun y a b => by omega⟩
    rintro i e2 V1l σ1l hI1
    obtain ⟨rfl, rfl, i3, i4, hi⟩ : V = V1l ∧ [] = σ1l ∧ 0 ≤ i ∧ i ≤ (gr T j).length ∧ ∀ y : Int, 0 ≤ y → y < i → ∀ h : Int, 0 ≤ h → h ≤ y → (1 < j ∨ h = 0) → RowOK C T j y h := hI1
    refine vc_seq ?_
    refine vc_region ?_
    refine oq (qv_lss rfl rfl) ?_
    refine ops_nil ?_
    refine vc_seq ?_
    refine vc_if rfl (fun c2 => ?_) (fun c2 => ?_)
    ·
      refine vc_skip ?_
      refine vc_seq ?_
      refine vc_block ?_
      refine vc_seq ?_
      refine vc_region ?_
      refine oq (qv_mv (Value.int .i64 i) rfl) ?_
      refine oq (qv_as (Value.int .i64 i) rfl) ?_
      refine ops_nil ?_
      refine vc_seq ?_
      refine vc_region ?_
      refine oq (qv_as (Value.int .i64 0) rfl) ?_
      refine ops_nil ?_
      refine vc_block ?_
      refine vc_loop (α := Int) (fun (x : Int) => [(0, c), (1, t), (5, (Value.int .i64 j)), (6, (Value.int .i64 i)), (11, (Value.bool (decide (j < ((tv.length : Int)))))), (18, (Value.int .i64 (((gr T (j)).length : Int)))), (19, (Value.int .i64 i)), (20, (Value.bool (decide (i < (((gr T (j)).length : Int)))))), (7, (Value.int .i64 x))]) (fun (x : Int) V' σ' => V = V' ∧ [] = σ' ∧ 0 ≤ x ∧ x ≤ i + 1 ∧ ∀ z : Int, 0 ≤ z → z < x → RowOK C T j i z) (fun (x : Int) => (i + 1 - x).toNat) (0) ?_ ?_ ?_
      · exact ⟨rfl, rfl, rfl, rfl, rfl, rfl, rfl, rfl, rfl, trivial⟩
      · exact ⟨rfl, rfl, by omega, by omega, fun z a b => by omega⟩
      rintro h e3 V2l σ2l hI2
      obtain ⟨rfl, rfl, i5, i6, hh⟩ : V = V2l ∧ [] = σ2l ∧ 0 ≤ h ∧ h ≤ i + 1 ∧ ∀ z : Int, 0 ≤ z → z < h → RowOK C T j i z := hI2
      refine vc_seq ?_
      refine vc_seq ?_
      refine vc_region ?_
      refine oq (qv_mv (Value.int .i64 h) rfl) ?_
      refine oq (qv_mv (Value.int .i64 i) rfl) ?_
      refine oq (qv_leq rfl rfl) ?_
      refine oq (qv_mv (Value.bool (decide (h ≤ i))) rfl) ?_
      by_cases g1 : h ≤ i
      ·
        refine og (qv_mv (Value.int .i64 j) rfl) (want_t g1 rfl rfl rfl) ?_
        refine og (qv_gtr rfl rfl) (want_t g1 rfl rfl rfl) ?_
        refine og (qv_mv (Value.bool (decide (1 < j))) rfl) (want_t g1 rfl rfl rfl) ?_
        by_cases g2 : 1 < j
        ·
          refine os (want_fn g2 rfl rfl rfl) ?_
          refine os (want_fn g2 rfl rfl rfl) ?_
          refine og (qv_pick_t g2 rfl (rfl : ev _ _ = (Value.bool true))) (want_t g1 rfl rfl rfl) ?_
          refine oq (qv_pick_t g1 rfl (rfl : ev _ _ = (Value.bool true))) ?_
          refine ops_nil ?_
          refine vc_tt rfl ?_
          refine vc_skip ?_
          refine vc_seq ?_
          refine vc_block ?_
          refine vc_seq ?_
          have e2 := hT.row (j - 1) (by omega) (by omega)
          have e3 := hC.row h (by omega) (by omega)
          have e4 := hC.rng h i (by omega) (by omega) (by omega) (by omega)
          have e5 := hT.rng (j - 1) h (by omega) (by omega) (by omega) (by omega)
          refine vc_region_any Try.mixed (by kernel_rfl) ?_
          refine qq (qv_mv t rfl) ?_
          refine qq (qv_mv (Value.int .i64 j) rfl) ?_
          refine qq (qv_ia (v := t) (i := j) Try.underlying31 Try.size29 rfl (inV ht.sl) rfl (by omega) (by omega)) ?_
          refine qq (qv_ld (v := t) (i := j) Try.plain29 rfl (inV ht.sl) (by omega) (by omega)) ?_
          refine qq (qv_mv (Value.int .i64 i) rfl) ?_
          refine qq (qv_iai (v := (gv tv (j))) (i := i) Try.underlying29 Try.size3 rfl (inVi (ht.row (j) (by omega) (by omega))) rfl (by omega) (by omega)) ?_
          refine qq (qv_ldi (v := (gv tv (j))) (i := i) Try.plain3 rfl (inVi (ht.row (j) (by omega) (by omega))) (by omega) (by omega)) ?_
          refine qq (qv_mv t rfl) ?_
          refine qq (qv_mv (Value.int .i64 j) rfl) ?_
          refine qq (qv_sub rfl rfl (by omega)) ?_
          refine qq (qv_ia (v := t) (i := j - 1) Try.underlying31 Try.size29 rfl (inV ht.sl) rfl (by omega) (by omega)) ?_
          refine qq (qv_ld (v := t) (i := j - 1) Try.plain29 rfl (inV ht.sl) (by omega) (by omega)) ?_
          refine qq (qv_mv (Value.int .i64 h) rfl) ?_
          refine qq (qv_iai (v := (gv tv (j - 1))) (i := h) Try.underlying29 Try.size3 rfl (inVi (ht.row (j - 1) (by omega) (by omega))) rfl (by omega) (by omega)) ?_
          refine qq (qv_ldi (v := (gv tv (j - 1))) (i := h) Try.plain3 rfl (inVi (ht.row (j - 1) (by omega) (by omega))) (by omega) (by omega)) ?_
          refine qq (qv_mv c rfl) ?_
          refine qq (qv_mv (Value.int .i64 h) rfl) ?_
          refine qq (qv_ia (v := c) (i := h) Try.underlying22 Try.size29 rfl (inV hc.sl) rfl (by omega) (by omega)) ?_
          refine qq (qv_ld (v := c) (i := h) Try.plain29 rfl (inV hc.sl) (by omega) (by omega)) ?_
          refine qq (qv_mv (Value.int .i64 i) rfl) ?_
          refine qq (qv_iai (v := (gv cv (h))) (i := i) Try.underlying29 Try.size3 rfl (inVi (hc.row (h) (by omega) (by omega))) rfl (by omega) (by omega)) ?_
          refine qq (qv_ldi (v := (gv cv (h))) (i := i) Try.plain3 rfl (inVi (hc.row (h) (by omega) (by omega))) (by omega) (by omega)) ?_
          refine qq (qv_add rfl rfl (by omega)) ?_
          refine qq (qv_gtr rfl rfl) ?_
          refine qops_nil ?_
          refine vc_if rfl (fun c3 => ?_) (fun c3 => ?_)
          ·
            refine vc_seq ?_
            refine vc_region ?_
            refine oq (qv_as (Value.bool false) rfl) ?_
            refine ops_nil ?_
            refine vc_ret ?_
            refine blockQ_ret ?_
            refine blockQ_ret ?_
            refine blockQ_ret ?_
            refine blockQ_ret ?_
            refine blockQ_ret ?_
            refine blockQ_ret ?_
            exact rq1 (Value.bool (decide (Holds C T))) (congrArg Value.bool (decide_eq_false (show ¬ (Holds C T) from by intro hx; have hy := hx j (by omega) (by omega) (by omega) i (by omega) (by omega) h (by omega) (by omega) (by omega); unfold RowOK at hy; omega)).symm) rfl
          ·
            refine vc_skip ?_
            refine vc_region ?_
            refine oq (qv_mv (Value.int .i64 h) rfl) ?_
            refine oq (qv_add rfl rfl (by omega)) ?_
            refine oq (qv_as (Value.int .i64 (h + 1)) rfl) ?_
            refine ops_nil ?_
            refine ⟨(h + 1), ⟨rfl, rfl, rfl, rfl, rfl, rfl, rfl, rfl, (congrArg (Value.int .i64) (show (h + 1) = ((h + 1)) from by omega)), trivial⟩, ⟨rfl, rfl, by omega, by omega, all_snoc hh (by unfold RowOK; omega)⟩, by omega⟩
        ·
          refine og (qv_mv (Value.int .i64 h) rfl) (want_f g2 rfl rfl rfl) ?_
          refine og (qv_eql rfl rfl) (want_f g2 rfl rfl rfl) ?_
          refine og (qv_pick_f g2 rfl (rfl : ev _ _ = (Value.bool (decide (h = 0))))) (want_t g1 rfl rfl rfl) ?_
          refine oq (qv_pick_t g1 rfl (rfl : ev _ _ = (Value.bool (decide (h = 0))))) ?_
          refine ops_nil ?_
          refine vc_if rfl (fun c4 => ?_) (fun c4 => ?_)
          ·
            refine vc_skip ?_
            refine vc_seq ?_
            refine vc_block ?_
            refine vc_seq ?_
            have e2 := hT.row (j - 1) (by omega) (by omega)
            have e3 := hC.row h (by omega) (by omega)
            have e4 := hC.rng h i (by omega) (by omega) (by omega) (by omega)
            have e5 := hT.rng (j - 1) h (by omega) (by omega) (by omega) (by omega)
            refine vc_region_any Try.mixed (by kernel_rfl) ?_
            refine qq (qv_mv t rfl) ?_
            refine qq (qv_mv (Value.int .i64 j) rfl) ?_
            refine qq (qv_ia (v := t) (i := j) Try.underlying31 Try.size29 rfl (inV ht.sl) rfl (by omega) (by omega)) ?_
            refine qq (qv_ld (v := t) (i := j) Try.plain29 rfl (inV ht.sl) (by omega) (by omega)) ?_
            refine qq (qv_mv (Value.int .i64 i) rfl) ?_
            refine qq (qv_iai (v := (gv tv (j))) (i := i) Try.underlying29 Try.size3 rfl (inVi (ht.row (j) (by omega) (by omega))) rfl (by omega) (by omega)) ?_
            refine qq (qv_ldi (v := (gv tv (j))) (i := i) Try.plain3 rfl (inVi (ht.row (j) (by omega) (by omega))) (by omega) (by omega)) ?_
            refine qq (qv_mv t rfl) ?_
            refine qq (qv_mv (Value.int .i64 j) rfl) ?_
            refine qq (qv_sub rfl rfl (by omega)) ?_
            refine qq (qv_ia (v := t) (i := j - 1) Try.underlying31 Try.size29 rfl (inV ht.sl) rfl (by omega) (by omega)) ?_
            refine qq (qv_ld (v := t) (i := j - 1) Try.plain29 rfl (inV ht.sl) (by omega) (by omega)) ?_
            refine qq (qv_mv (Value.int .i64 h) rfl) ?_
            refine qq (qv_iai (v := (gv tv (j - 1))) (i := h) Try.underlying29 Try.size3 rfl (inVi (ht.row (j - 1) (by omega) (by omega))) rfl (by omega) (by omega)) ?_
            refine qq (qv_ldi (v := (gv tv (j - 1))) (i := h) Try.plain3 rfl (inVi (ht.row (j - 1) (by omega) (by omega))) (by omega) (by omega)) ?_
            refine qq (qv_mv c rfl) ?_
            refine qq (qv_mv (Value.int .i64 h) rfl) ?_
            refine qq (qv_ia (v := c) (i := h) Try.underlying22 Try.size29 rfl (inV hc.sl) rfl (by omega) (by omega)) ?_
            refine qq (qv_ld (v := c) (i := h) Try.plain29 rfl (inV hc.sl) (by omega) (by omega)) ?_
            refine qq (qv_mv (Value.int .i64 i) rfl) ?_
            refine qq (qv_iai (v := (gv cv (h))) (i := i) Try.underlying29 Try.size3 rfl (inVi (hc.row (h) (by omega) (by omega))) rfl (by omega) (by omega)) ?_
            refine qq (qv_ldi (v := (gv cv (h))) (i := i) Try.plain3 rfl (inVi (hc.row (h) (by omega) (by omega))) (by omega) (by omega)) ?_
            refine qq (qv_add rfl rfl (by omega)) ?_
            refine qq (qv_gtr rfl rfl) ?_
            refine qops_nil ?_
            refine vc_if rfl (fun c5 => ?_) (fun c5 => ?_)
            ·
              refine vc_seq ?_
              refine vc_region ?_
              refine oq (qv_as (Value.bool false) rfl) ?_
              refine ops_nil ?_
              refine vc_ret ?_
              refine blockQ_ret ?_
              refine blockQ_ret ?_
              refine blockQ_ret ?_
              refine blockQ_ret ?_
              refine blockQ_ret ?_
              refine blockQ_ret ?_
              exact rq1 (Value.bool (decide (Holds C T))) (congrArg Value.bool (decide_eq_false (show ¬ (Holds C T) from by intro hx; have hy := hx j (by omega) (by omega) (by omega) i (by omega) (by omega) h (by omega) (by omega) (by omega); unfold RowOK at hy; omega)).symm) rfl
            ·
              refine vc_skip ?_
              refine vc_region ?_
              refine oq (qv_mv (Value.int .i64 h) rfl) ?_
              refine oq (qv_add rfl rfl (by omega)) ?_
              refine oq (qv_as (Value.int .i64 (h + 1)) rfl) ?_
              refine ops_nil ?_
              refine ⟨(h + 1), ⟨rfl, rfl, rfl, rfl, rfl, rfl, rfl, rfl, (congrArg (Value.int .i64) (show (h + 1) = ((h + 1)) from by omega)), trivial⟩, ⟨rfl, rfl, by omega, by omega, all_snoc hh (by unfold RowOK; omega)⟩, by omega⟩
          ·
            refine vc_exit ?_
            refine blockQ_hit ?_
            refine vc_region ?_
            refine oq (qv_add rfl rfl (by omega)) ?_
            refine oq (qv_mv (Value.int .i64 (i + 1)) rfl) ?_
            refine ops_nil ?_
            refine ⟨(i + 1), ⟨rfl, rfl, rfl, rfl, rfl, (congrArg (Value.int .i64) (show (i + 1) = ((i + 1)) from by omega)), trivial⟩, ⟨rfl, rfl, by omega, by omega, all_snoc hi (fun h a b c => hh h a (by omega))⟩, by omega⟩
      ·
        refine os (want_tn g1 rfl rfl rfl) ?_
        refine os (want_tn g1 rfl rfl rfl) ?_
        refine os (want_tn g1 rfl rfl rfl) ?_
        refine os (want_u rfl rfl rfl) ?_
        refine os (want_u rfl rfl rfl) ?_
        refine os (want_tn g1 rfl rfl rfl) ?_
        refine oq (qv_pick_f g1 rfl (rfl : ev _ _ = (Value.bool false))) ?_
        refine ops_nil ?_
        refine vc_ff rfl ?_
        refine vc_exit ?_
        refine blockQ_hit ?_
        refine vc_region ?_
        refine oq (qv_add rfl rfl (by omega)) ?_
        refine oq (qv_mv (Value.int .i64 (i + 1)) rfl) ?_
        refine ops_nil ?_
        refine ⟨(i + 1), ⟨rfl, rfl, rfl, rfl, rfl, (congrArg (Value.int .i64) (show (i + 1) = ((i + 1)) from by omega)), trivial⟩, ⟨rfl, rfl, by omega, by omega, all_snoc hi (fun h a b c => hh h a (by omega))⟩, by omega⟩
    ·
      refine vc_exit ?_
      refine blockQ_hit ?_
      refine vc_region ?_
      refine oq (qv_mv (Value.int .i64 j) rfl) ?_
      refine oq (qv_add rfl rfl (by omega)) ?_
      refine oq (qv_as (Value.int .i64 (j + 1)) rfl) ?_
      refine ops_nil ?_
      refine ⟨(j + 1), ⟨rfl, rfl, (congrArg (Value.int .i64) (show (j + 1) = ((j + 1)) from by omega)), trivial⟩, ⟨rfl, rfl, by omega, by omega, all_snoc hj (fun _ i a b => hi i a (by omega))⟩, by omega⟩
  ·
    refine vc_exit ?_
    refine blockQ_hit ?_
    refine vc_seq ?_
    refine vc_region ?_
    refine oq (qv_as (Value.bool true) rfl) ?_
    refine ops_nil ?_
    refine vc_ret ?_
    exact rq1 (Value.bool (decide (Holds C T))) (congrArg Value.bool (decide_eq_true (show (Holds C T) from by exact fun z a b => hj z a (by omega))).symm) rfl

set_option maxRecDepth 100000 in
theorem ProveOrdered_c {V : HV} {l : Value} {rv : List Value} {L : List (List Int)} {t : Value} {tv : List Value} {T : List (List Int)} {k c : Int} (hl : Mat .i64 V l rv L) (ht : Mat .i64 V t tv T) :
    FnC Try.prog 19 [l, (Value.int .i64 k), t, (Value.int .i64 c)] V [] (fun v _ _ => v = (Value.int .i64 (poE L k T c))) := by
  refine fn_intro (N := 68) Try.func19 (by kernel_rfl) rfl rfl rfl (Nat.le_of_ble_eq_true rfl) ?_
  intro w0 D
  have hlen := hl.len
  have htl := ht.len
  have hbd := ht.sl.bound
  refine vc_seq ?_
  refine vc_region ?_
  refine oq (qv_as (Value.int .i64 0) rfl) ?_
  refine ops_nil ?_
  refine vc_seq ?_
  refine vc_seq ?_
  refine vc_region ?_
  refine oq (qv_mv l rfl) ?_
  refine oq (qv_call (v := (Value.int .i64 (chk L))) (Check_c hl) rfl rfl) ?_
  refine oq (qv_as (Value.int .i64 (chk L)) rfl) ?_
  refine ops_nil ?_
  refine vc_seq ?_
  refine vc_region ?_
  refine oq (qv_mv (Value.int .i64 (chk L)) rfl) ?_
  refine oq (qv_neq rfl rfl) ?_
  refine ops_nil ?_
  refine vc_if rfl (fun c1 => ?_) (fun c1 => ?_)
  ·
    refine vc_seq ?_
    refine vc_region ?_
    refine oq (qv_mv (Value.int .i64 (chk L)) rfl) ?_
    refine oq (qv_as (Value.int .i64 (chk L)) rfl) ?_
    refine ops_nil ?_
    refine vc_ret ?_
    exact rq1 (Value.int .i64 (poE L k T c)) (congrArg (Value.int .i64) (show (chk L) = (poE L k T c) from by rw [poE_chk (by omega)])) rfl
  ·
    refine vc_skip ?_
    refine vc_seq ?_
    refine vc_region ?_
    refine oq (qv_mv l rfl) ?_
    refine oq (qv_lenS Try.underlying23 rfl hl.sl) ?_
    refine ops_alloc Try.ti3 rfl (fun b1 => ?_)
    refine ops_stp (k := 0) (off := 0) (cs := [(Value.int .i64 0)]) Try.size3 rfl (rfl : ev _ _ = (Value.int .i64 ((rv.length : Int)))) rfl rfl (Nat.le_of_ble_eq_true rfl) ?_
    refine ops_nil ?_
    refine vc_seq ?_
    refine vc_block ?_
    refine vc_seq ?_
    have hg := good_of_chk (show chk L = 0 from by omega)
    have hle := hg.le
    refine vc_freeze (b := b1) (o := .cells ([(Value.int .i64 ((rv.length : Int)))] : List Value).toArray 3 (0, 0)) (σr := []) (List.perm_middle (l₁ := []) (l₂ := [])) (fun Vf1 hVf1 hb1 => ?_)
    have hc1 : Cells Vf1 b1 [(Value.int .i64 ((rv.length : Int)))] := ⟨_, _, hb1⟩
    have hl := hl.mono hVf1
    have ht := ht.mono hVf1
    refine vc_region ?_
    refine oq (qv_mv (Value.int .i64 k) rfl) ?_
    refine oq (qv_call (v := (Value.bool (decide (1 ≤ k ∧ k ≤ 32)))) (groups_c) rfl rfl) ?_
    refine oq (qv_not rfl) ?_
    refine oq (qv_as (Value.bool (decide (¬ (1 ≤ k ∧ k ≤ 32)))) rfl) ?_
    refine ops_nil ?_
    refine vc_if rfl (fun c2 => ?_) (fun c2 => ?_)
    ·
      refine vc_seq ?_
      refine vc_region ?_
      refine oq (qv_as (Value.int .i64 3) rfl) ?_
      refine ops_nil ?_
      refine vc_ret ?_
      refine blockQ_ret ?_
      exact rq1 (Value.int .i64 (poE L k T c)) (congrArg (Value.int .i64) (show 3 = (poE L k T c) from by rw [poE_k (by omega) (by assumption)])) rfl
    ·
      refine vc_seq ?_
      refine vc_region ?_
      refine oq (qv_mv t rfl) ?_
      refine oq (qv_lenS Try.underlying31 rfl ht.sl) ?_
      refine oq (qv_mv (Value.int .i64 k) rfl) ?_
      refine oq (qv_add rfl rfl (by omega)) ?_
      refine oq (qv_neq rfl rfl) ?_
      refine oq (qv_mv (Value.bool (decide (((tv.length : Int)) ≠ (k + 1)))) rfl) ?_
      by_cases g1 : ((tv.length : Int)) ≠ (k + 1)
      ·
        refine os (want_fn g1 rfl rfl rfl) ?_
        refine os (want_fn g1 rfl rfl rfl) ?_
        refine os (want_fn g1 rfl rfl rfl) ?_
        refine oq (qv_pick_t g1 rfl (rfl : ev _ _ = (Value.bool true))) ?_
        refine oq (qv_as (Value.bool true) rfl) ?_
        refine ops_nil ?_
        refine vc_tt rfl ?_
        refine vc_seq ?_
        refine vc_region ?_
        refine oq (qv_as (Value.int .i64 2) rfl) ?_
        refine ops_nil ?_
        refine vc_ret ?_
        refine blockQ_ret ?_
        exact rq1 (Value.int .i64 (poE L k T c)) (congrArg (Value.int .i64) (show 2 = (poE L k T c) from by rw [poE_2 (by omega) (by omega) (Or.inl (by omega))])) rfl
      ·
        refine og (qv_mv t rfl) (want_f g1 rfl rfl rfl) ?_
        refine og (qv_func (cs := [(Value.pointer (some ⟨b1, 0, none⟩))]) rfl) (want_f g1 rfl rfl rfl) ?_
        refine og (qv_call (v := (Value.bool (decide (∃ i : Int, 0 ≤ i ∧ i < tv.length ∧ (fun i => ((gr T i).length : Int) ≠ (rv.length : Int) + 1) i)))) (conS_c (fid := 40) (caps := [(Value.pointer (some ⟨b1, 0, none⟩))]) (p := (fun i => ((gr T i).length : Int) ≠ (rv.length : Int) + 1)) ht.sl (fun i a b => (po1_c (ht.row i a (by omega)) hc1 (by omega) (by omega)).boolI)) rfl rfl) (want_f g1 rfl rfl rfl) ?_
        refine oq (qv_pick_f g1 rfl (rfl : ev _ _ = (Value.bool (decide (∃ i : Int, 0 ≤ i ∧ i < tv.length ∧ (fun i => ((gr T i).length : Int) ≠ (rv.length : Int) + 1) i))))) ?_
        refine oq (qv_as (Value.bool (decide (∃ i : Int, 0 ≤ i ∧ i < tv.length ∧ (fun i => ((gr T i).length : Int) ≠ (rv.length : Int) + 1) i))) rfl) ?_
        refine ops_nil ?_
        refine vc_if rfl (fun c3 => ?_) (fun c3 => ?_)
        ·
          refine vc_seq ?_
          refine vc_region ?_
          refine oq (qv_as (Value.int .i64 2) rfl) ?_
          refine ops_nil ?_
          refine vc_ret ?_
          refine blockQ_ret ?_
          exact rq1 (Value.int .i64 (poE L k T c)) (congrArg (Value.int .i64) (show 2 = (poE L k T c) from by rw [poE_2 (by omega) (by omega) (Or.inr (by obtain ⟨i, a, b, c⟩ := c3; have c : ((gr T i).length : Int) ≠ (rv.length : Int) + 1 := c; exact ⟨i, a, by omega, by omega⟩))])) rfl
        ·
          refine vc_skip ?_
          refine vc_seq ?_
          refine vc_seq ?_
          have hrg : ¬ Ragg T L.length := fun ⟨i, a, b, c⟩ => c3 ⟨i, a, by omega, by show ((gr T i).length : Int) ≠ (rv.length : Int) + 1; omega⟩
          refine vc_region ?_
          refine oq (qv_mv t rfl) ?_
          refine oq (qv_lenS Try.underlying31 rfl ht.sl) ?_
          refine oq (qv_mv (Value.int .i64 0) rfl) ?_
          refine ops_nil ?_
          refine vc_block ?_
          refine vc_loop (α := Int) (fun (x : Int) => [(0, l), (1, (Value.int .i64 k)), (2, t), (3, (Value.int .i64 c)), (9, (Value.int .i64 (chk L))), (10, (Value.pointer (some ⟨b1, 0, none⟩))), (16, (Value.bool (decide ((chk L) ≠ 0)))), (20, (Value.bool (decide (¬ (1 ≤ k ∧ k ≤ 32))))), (24, (Value.bool (decide (∃ i : Int, 0 ≤ i ∧ i < tv.length ∧ (fun i => ((gr T i).length : Int) ≠ (rv.length : Int) + 1) i)))), (35, t), (36, (Value.int .i64 ((tv.length : Int)))), (37, (Value.int .i64 x))]) (fun (x : Int) V' σ' => Vf1 = V' ∧ [] = σ' ∧ 0 ≤ x ∧ x ≤ tv.length ∧ ∀ z : Int, 0 ≤ z → z < x → ∀ i : Int, 0 ≤ i → i < (gr T z).length → ¬ (gi (gr T z) i < 0 ∨ 1152921504606846976 < gi (gr T z) i)) (fun (x : Int) => (tv.length - x).toNat) (0) ?_ ?_ ?_
          · exact ⟨rfl, rfl, rfl, rfl, rfl, rfl, rfl, rfl, rfl, rfl, rfl, rfl, trivial⟩
          · exact ⟨rfl, rfl, by omega, by omega, fun z a b => by omega⟩
          rintro j e1 V0l σ0l hI0
          obtain ⟨rfl, rfl, i1, i2, hw⟩ : Vf1 = V0l ∧ [] = σ0l ∧ 0 ≤ j ∧ j ≤ tv.length ∧ ∀ z : Int, 0 ≤ z → z < j → ∀ i : Int, 0 ≤ i → i < (gr T z).length → ¬ (gi (gr T z) i < 0 ∨ 1152921504606846976 < gi (gr T z) i) := hI0
          refine vc_seq ?_
          refine vc_region ?_
          refine oq (qv_lss rfl rfl) ?_
          refine ops_nil ?_
          refine vc_seq ?_
          refine vc_if rfl (fun c4 => ?_) (fun c4 => ?_)
          ·
            refine vc_skip ?_
            refine vc_seq ?_
            refine vc_block ?_
            refine vc_seq ?_
            refine vc_region ?_
            refine oq (qv_ia (v := t) (i := j) Try.underlying31 Try.size29 rfl (inV ht.sl) rfl (by omega) (by omega)) ?_
            refine oq (qv_ld (v := t) (i := j) Try.plain29 rfl (inV ht.sl) (by omega) (by omega)) ?_
            refine oq (qv_as (gv tv (j)) rfl) ?_
            refine ops_nil ?_
            refine vc_seq ?_
            refine vc_region ?_
            refine oq (qv_mv (gv tv (j)) rfl) ?_
            refine oq (qv_call (v := (Value.bool (decide (∃ i : Int, 0 ≤ i ∧ i < ((gr T j).map (Value.int .i64)).length ∧ (fun i => gi (gr T j) i < 0 ∨ 1152921504606846976 < gi (gr T j) i) i)))) (conI_c (fid := 41) (caps := []) (p := (fun i => gi (gr T j) i < 0 ∨ 1152921504606846976 < gi (gr T j) i)) (ht.row j (by omega) (by omega)) (fun i a b => by rw [gv_ints a (by simpa using b)]; exact po2_c.boolI)) rfl rfl) ?_
            refine ops_nil ?_
            refine vc_if rfl (fun c5 => ?_) (fun c5 => ?_)
            ·
              refine vc_seq ?_
              refine vc_region ?_
              refine oq (qv_as (Value.int .i64 3) rfl) ?_
              refine ops_nil ?_
              refine vc_ret ?_
              refine blockQ_ret ?_
              refine blockQ_ret ?_
              exact rq1 (Value.int .i64 (poE L k T c)) (congrArg (Value.int .i64) (show 3 = (poE L k T c) from by rw [poE_3 (by omega) (by omega) (by omega) hrg (by obtain ⟨i, a, b, c⟩ := c5; exact ⟨j, i, by omega, by omega, a, by simp only [List.length_map] at b; omega, c⟩)])) rfl
            ·
              refine vc_skip ?_
              refine vc_region ?_
              refine oq (qv_add rfl rfl (by omega)) ?_
              refine oq (qv_mv (Value.int .i64 (j + 1)) rfl) ?_
              refine ops_nil ?_
              refine ⟨(j + 1), ⟨rfl, rfl, rfl, rfl, rfl, rfl, rfl, rfl, rfl, rfl, rfl, (congrArg (Value.int .i64) (show (j + 1) = ((j + 1)) from by omega)), trivial⟩, ⟨rfl, rfl, by omega, by omega, all_snoc hw (fun i a b c => c5 ⟨i, a, by simp only [List.length_map]; omega, c⟩)⟩, by omega⟩
          ·
            refine vc_exit ?_
            refine blockQ_hit ?_
            refine vc_seq ?_
            refine vc_seq ?_
            have hwi : ¬ Wild T := fun ⟨j, i, a, b, c, d, e⟩ => hw j a (by omega) i c d e
            have hT : Tab T rv.length k := tab_of (by omega) (by rw [hlen]; exact hrg) hwi
            have hC : Costs (ivals L) rv.length := hlen ▸ costs_ivals hg
            have f1 := hT.row 0 (by omega) (by omega)
            have f2 := hT.row k (by omega) (by omega)
            refine vc_region_order (τ := []) [(0, false), (1, false), (2, false), (3, false), (4, false), (5, false), (6, false), (7, false), (8, false), (9, false), (10, false), (11, false), (12, false), (13, false), (14, false), (15, false), (16, false), (17, false), (18, false), (20, false), (19, true), (21, false), (22, false), (23, false)] [] Try.mixed (perm_nil _) (by kernel_rfl) ?_
            refine rq rfl (qv_mv t rfl) ?_
            refine rq rfl (qv_ia (v := t) (i := 0) Try.underlying31 Try.size29 rfl (inV ht.sl) rfl (by omega) (by omega)) ?_
            refine rq rfl (qv_ld (v := t) (i := 0) Try.plain29 rfl (inV ht.sl) (by omega) (by omega)) ?_
            refine rq rfl (qv_iai (v := (gv tv (0))) (i := 0) Try.underlying29 Try.size3 rfl (inVi (ht.row (0) (by omega) (by omega))) rfl (by omega) (by omega)) ?_
            refine rq rfl (qv_ldi (v := (gv tv (0))) (i := 0) Try.plain3 rfl (inVi (ht.row (0) (by omega) (by omega))) (by omega) (by omega)) ?_
            refine rq rfl (qv_neq rfl rfl) ?_
            refine rq rfl (qv_mv (Value.bool (decide ((gi (gr T (0)) (0)) ≠ 0))) rfl) ?_
            by_cases g2 : (gi (gr T (0)) (0)) ≠ 0
            ·
              refine rs rfl (want_fn g2 rfl rfl rfl) ?_
              refine rs rfl (want_fn g2 rfl rfl rfl) ?_
              refine rs rfl (want_fn g2 rfl rfl rfl) ?_
              refine rs rfl (want_fn g2 rfl rfl rfl) ?_
              refine rs rfl (want_fn g2 rfl rfl rfl) ?_
              refine rs rfl (want_fn g2 rfl rfl rfl) ?_
              refine rs rfl (want_fn g2 rfl rfl rfl) ?_
              refine rs rfl (want_fn g2 rfl rfl rfl) ?_
              refine rs rfl (want_fn g2 rfl rfl rfl) ?_
              refine rq rfl (qv_pick_t g2 rfl (rfl : ev _ _ = (Value.bool true))) ?_
              refine rq rfl (qv_mv (Value.bool true) rfl) ?_
              refine rs rfl (want_fnc rfl rfl rfl) ?_
              refine rs rfl (want_fnc rfl rfl rfl) ?_
              refine rl rfl ?_
              refine os (want_fnc rfl rfl rfl) ?_
              refine ops_nil ⟨[], [], (Sub.refl _), perm_nil _, ⟨[], (.refl _)⟩, ?_⟩
              refine rs rfl (want_fnc rfl rfl rfl) ?_
              refine rs rfl (want_fnc rfl rfl rfl) ?_
              refine rq rfl (qv_pick_tc rfl (rfl : ev _ _ = (Value.bool true))) ?_
              refine rnil ?_
              refine vc_tt rfl ?_
              refine vc_seq ?_
              refine vc_region ?_
              refine oq (qv_as (Value.int .i64 13) rfl) ?_
              refine ops_nil ?_
              refine vc_ret ?_
              exact rq1 (Value.int .i64 (poE L k T c)) (congrArg (Value.int .i64) (show 13 = (poE L k T c) from by rw [poE_13 (by omega) (by omega) (by omega) hrg hwi (by first | exact Or.inl (by omega) | exact Or.inr (Or.inl (by rw [← hlen]; omega)) | exact Or.inr (Or.inr (by assumption)))])) rfl
            ·
              refine re rfl (qv_mv t rfl) (want_f g2 rfl rfl rfl) ?_
              refine re rfl (qv_mv (Value.int .i64 k) rfl) (want_f g2 rfl rfl rfl) ?_
              refine re rfl (qv_ia (v := t) (i := k) Try.underlying31 Try.size29 rfl (inV ht.sl) rfl (by omega) (by omega)) (want_f g2 rfl rfl rfl) ?_
              refine re rfl (qv_ld (v := t) (i := k) Try.plain29 rfl (inV ht.sl) (by omega) (by omega)) (want_f g2 rfl rfl rfl) ?_
              refine re rfl (qv_ldp (v := (Value.int .i64 ((rv.length : Int)))) Try.plain3 rfl (inVc hc1) rfl) (want_f g2 rfl rfl rfl) ?_
              refine re rfl (qv_iai (v := (gv tv (k))) (i := (rv.length : Int)) Try.underlying29 Try.size3 rfl (inVi (ht.row (k) (by omega) (by omega))) rfl (by omega) (by omega)) (want_f g2 rfl rfl rfl) ?_
              refine re rfl (qv_ldi (v := (gv tv (k))) (i := (rv.length : Int)) Try.plain3 rfl (inVi (ht.row (k) (by omega) (by omega))) (by omega) (by omega)) (want_f g2 rfl rfl rfl) ?_
              refine re rfl (qv_mv (Value.int .i64 c) rfl) (want_f g2 rfl rfl rfl) ?_
              refine re rfl (qv_lss rfl rfl) (want_f g2 rfl rfl rfl) ?_
              refine rq rfl (qv_pick_f g2 rfl (rfl : ev _ _ = (Value.bool (decide ((gi (gr T (k)) ((rv.length : Int))) < c))))) ?_
              refine rq rfl (qv_mv (Value.bool (decide ((gi (gr T (k)) ((rv.length : Int))) < c))) rfl) ?_
              by_cases g3 : (gi (gr T (k)) ((rv.length : Int))) < c
              ·
                refine rs rfl (want_fn g3 rfl rfl rfl) ?_
                refine rs rfl (want_fn g3 rfl rfl rfl) ?_
                refine rl rfl ?_
                refine os (want_fn g3 rfl rfl rfl) ?_
                refine ops_nil ⟨[], [], (Sub.refl _), perm_nil _, ⟨[], (.refl _)⟩, ?_⟩
                refine rs rfl (want_fn g3 rfl rfl rfl) ?_
                refine rs rfl (want_fn g3 rfl rfl rfl) ?_
                refine rq rfl (qv_pick_t g3 rfl (rfl : ev _ _ = (Value.bool true))) ?_
                refine rnil ?_
                refine vc_tt rfl ?_
                refine vc_seq ?_
                refine vc_region ?_
                refine oq (qv_as (Value.int .i64 13) rfl) ?_
                refine ops_nil ?_
                refine vc_ret ?_
                exact rq1 (Value.int .i64 (poE L k T c)) (congrArg (Value.int .i64) (show 13 = (poE L k T c) from by rw [poE_13 (by omega) (by omega) (by omega) hrg hwi (by first | exact Or.inl (by omega) | exact Or.inr (Or.inl (by rw [← hlen]; omega)) | exact Or.inr (Or.inr (by assumption)))])) rfl
              ·
                refine re rfl (qv_mv l rfl) (want_f g3 rfl rfl rfl) ?_
                refine re rfl (qv_mv t rfl) (want_f g3 rfl rfl rfl) ?_
                refine rl rfl ?_
                refine ops_want (want_f g3 rfl rfl rfl) ?_
                refine ops_call (σa := []) (σr := []) (intervals_c hl hg) rfl rfl (.refl _) (fun r1 V1 sg1 hV1 hp1 => ?_)
                obtain ⟨rfl, cv, hc⟩ := hp1
                have hl := hl.mono hV1
                have ht := ht.mono hV1
                have hc1 := hc1.mono hV1
                refine ops_nil ⟨[], [], hV1, perm_nil _, ⟨[], (.refl _)⟩, ?_⟩
                refine re rfl (qv_call (v := (Value.bool (decide (Holds (ivals L) T)))) (holds_c hc hC ht hT) rfl rfl) (want_f g3 rfl rfl rfl) ?_
                refine re rfl (qv_not rfl) (want_f g3 rfl rfl rfl) ?_
                refine rq rfl (qv_pick_f g3 rfl (rfl : ev _ _ = (Value.bool (decide (¬ (Holds (ivals L) T)))))) ?_
                refine rnil ?_
                refine vc_if rfl (fun c6 => ?_) (fun c6 => ?_)
                ·
                  refine vc_seq ?_
                  refine vc_region ?_
                  refine oq (qv_as (Value.int .i64 13) rfl) ?_
                  refine ops_nil ?_
                  refine vc_ret ?_
                  exact rq1 (Value.int .i64 (poE L k T c)) (congrArg (Value.int .i64) (show 13 = (poE L k T c) from by rw [poE_13 (by omega) (by omega) (by omega) hrg hwi (by first | exact Or.inl (by omega) | exact Or.inr (Or.inl (by rw [← hlen]; omega)) | exact Or.inr (Or.inr (by assumption)))])) rfl
                ·
                  refine vc_skip ?_
                  refine vc_seq ?_
                  refine vc_region ?_
                  refine oq (qv_as (Value.int .i64 0) rfl) ?_
                  refine ops_nil ?_
                  refine vc_ret ?_
                  exact rq1 (Value.int .i64 (poE L k T c)) (congrArg (Value.int .i64) (show 0 = (poE L k T c) from by rw [poE_0 (by omega) (by omega) (by omega) hrg hwi (by omega) (by rw [← hlen]; omega) (by first | assumption | exact Decidable.not_not.1 (by assumption))])) rfl

end Go.Proofs.Ytmkbjhligjnagaa
