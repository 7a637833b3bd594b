/- Walks of merge: what each function returns. Printed by a program out of notes. -/
import Derived.Test.YtmkbjhligjnagaaMg2
namespace Go.Proofs.Ytmkbjhligjnagaa
open Go.Vc
open Classical

set_option maxRecDepth 100000 in
theorem suffixes_c {V : HV} {c : Value} {cv : List Value} {C : List (List Int)} {n k : Int} (hc : Mat .i64 V c cv C) (hC : Costs C n) (k0 : 1 ≤ k) (k1 : k ≤ 32) :
    FnC Try.prog 34 [c, (Value.int .i64 n), (Value.int .i64 k)] V [] (fun v V' σ' => σ' = [] ∧ ∃ sv, Mat .i64 V' v sv (sufs C n k)) := by
  refine fn_intro (N := 80) Try.func34 (by kernel_rfl) rfl rfl rfl (Nat.le_of_ble_eq_true rfl) ?_
  intro w0 D
  have hlen := hc.len
  have hn0 := hC.n0
  have hn1 := hC.n1
  have hcl := hC.len
  refine vc_seq ?_
  refine vc_region ?_
  refine oq (qv_as (Value.slice none 0 0) rfl) ?_
  refine ops_nil ?_
  refine vc_seq ?_
  refine vc_region ?_
  refine oq (qv_mv (Value.int .i64 k) rfl) ?_
  refine oq (qv_add rfl rfl (by omega)) ?_
  refine ops_make (n := k + 1) Try.underlying22 Try.ti29 rfl rfl rfl rfl (by omega) (by omega) (by omega) (fun b1 => ?_)
  refine oq (qv_as (Value.slice (some ⟨b1, 0, none⟩) (k + 1).toNat (k + 1).toNat) rfl) ?_
  refine ops_nil ?_
  refine vc_seq ?_
  refine vc_seq ?_
  refine vc_region ?_
  refine oq (qv_mv (Value.slice (some ⟨b1, 0, none⟩) (k + 1).toNat (k + 1).toNat) rfl) ?_
  refine oq (qv_len Try.underlying22 rfl rfl) ?_
  refine oq (qv_mv (Value.int .i64 0) rfl) ?_
  refine ops_nil ?_
  refine vc_block ?_
  refine vc_loop (α := Int × List Value) (fun (x : Int × List Value) => [(0, c), (1, (Value.int .i64 n)), (2, (Value.int .i64 k)), (6, (Value.slice none 0 0)), (7, (Value.slice (some ⟨b1, 0, none⟩) (k + 1).toNat (k + 1).toNat)), (15, (Value.int .i64 (((k + 1).toNat : Int)))), (16, (Value.int .i64 x.1))]) (fun (x : Int × List Value) V' σ' => [(Arr 29 b1 x.2)] = σ' ∧ Mat .i64 V' c cv C ∧ 0 ≤ x.1 ∧ x.1 ≤ k + 1 ∧ x.2.length = k + 1 ∧ ∀ y : Int, 0 ≤ y → y < x.1 → Ints .i64 V' (gv x.2 y) (gr (sufs C n k) y)) (fun (x : Int × List Value) => (k + 1 - x.1).toNat) (0, (List.replicate (k + 1).toNat (Value.slice none 0 0))) ?_ ?_ ?_
  · exact ⟨rfl, rfl, rfl, rfl, rfl, rfl, rfl, trivial⟩
  · exact ⟨rfl, hc, by omega, by omega, by rw [List.length_replicate]; omega, fun j a b => by omega⟩
  rintro ⟨j, top⟩ e1 V0l σ0l hI0
  obtain ⟨rfl, hc, h0, h1, h2, h3⟩ : [(Arr 29 b1 top)] = σ0l ∧ Mat .i64 V0l c cv C ∧ 0 ≤ j ∧ j ≤ k + 1 ∧ top.length = k + 1 ∧ ∀ y : Int, 0 ≤ y → y < j → Ints .i64 V0l (gv top y) (gr (sufs C n k) y) := hI0
  change VC _ _ _ _ _ _ (upds 80 [(0, c), (1, (Value.int .i64 n)), (2, (Value.int .i64 k)), (6, (Value.slice none 0 0)), (7, (Value.slice (some ⟨b1, 0, none⟩) (k + 1).toNat (k + 1).toNat)), (15, (Value.int .i64 (((k + 1).toNat : Int)))), (16, (Value.int .i64 j))] e1) _ _
  refine vc_seq ?_
  refine vc_region ?_
  refine oq (qv_lss rfl rfl) ?_
  refine ops_nil ?_
  refine vc_seq ?_
  refine vc_if rfl (fun c1 => ?_) (fun c1 => ?_)
  ·
    refine vc_skip ?_
    refine vc_seq ?_
    refine vc_block ?_
    refine vc_seq ?_
    refine vc_region ?_
    refine oq (qv_mv (Value.int .i64 j) rfl) ?_
    refine oq (qv_as (Value.int .i64 j) rfl) ?_
    refine ops_nil ?_
    refine vc_seq ?_
    refine vc_region ?_
    refine oq (qv_mv (Value.slice (some ⟨b1, 0, none⟩) (k + 1).toNat (k + 1).toNat) rfl) ?_
    refine oq (qv_mv (Value.int .i64 j) rfl) ?_
    refine oq (qv_mv (Value.int .i64 n) rfl) ?_
    refine oq (qv_add rfl rfl (by omega)) ?_
    refine ops_make (n := n + 1) Try.underlying29 Try.ti3 rfl rfl rfl rfl (by omega) (by omega) (by omega) (fun b2 => ?_)
    refine oq (qv_ia (v := (Value.slice (some ⟨b1, 0, none⟩) (k + 1).toNat (k + 1).toNat)) (i := j) Try.underlying22 Try.size29 rfl (inO (k := 0) rfl (by first | (simp only [List.length_set]; omega) | omega) (Nat.le_refl _) (by omega)) rfl (by omega) (by omega)) ?_
    refine ops_ste (k := 0) (b := b1) (n := (k + 1).toNat) (c := (k + 1).toNat) (i := j) (cs := top) Try.size29 rfl (rfl : ev _ _ = (Value.slice (some ⟨b2, 0, none⟩) (n + 1).toNat (n + 1).toNat)) rfl rfl (by omega) (by omega) ?_
    refine ops_nil ?_
    refine vc_seq ?_
    refine vc_region ?_
    refine oq (qv_mv (Value.int .i64 n) rfl) ?_
    refine oq (qv_sub rfl rfl (by omega)) ?_
    refine oq (qv_as (Value.int .i64 (n - 1)) rfl) ?_
    refine ops_nil ?_
    refine vc_block ?_
    refine vc_loop (α := Int) (fun (x : Int) => [(0, c), (1, (Value.int .i64 n)), (2, (Value.int .i64 k)), (6, (Value.slice none 0 0)), (7, (Value.slice (some ⟨b1, 0, none⟩) (k + 1).toNat (k + 1).toNat)), (8, (Value.int .i64 j)), (15, (Value.int .i64 (((k + 1).toNat : Int)))), (16, (Value.int .i64 j)), (17, (Value.bool (decide (j < (((k + 1).toNat : Int)))))), (9, (Value.int .i64 x))]) (fun (x : Int) V' σ' => V0l = V' ∧ [(Arr 29 b1 (top.set j.toNat (Value.slice (some ⟨b2, 0, none⟩) (n + 1).toNat (n + 1).toNat))), (Arr 3 b2 ((sufPart C n j (x + 1)).map (Value.int .i64)))] = σ' ∧ -1 ≤ x ∧ x < n) (fun (x : Int) => (x + 1).toNat) (n - 1) ?_ ?_ ?_
    · exact ⟨rfl, rfl, rfl, rfl, rfl, rfl, rfl, rfl, rfl, (congrArg (Value.int .i64) (show (n - 1) = ((n - 1)) from by first | omega | simp)), trivial⟩
    · exact ⟨rfl, (show [(Arr 29 b1 (top.set j.toNat (Value.slice (some ⟨b2, 0, none⟩) (n + 1).toNat (n + 1).toNat))), (Arr 3 b2 ((sufPart C n j ((n - 1) + 1)).map (Value.int .i64)))] = [(Arr 29 b1 ((top).set (j).toNat (Value.slice (some ⟨b2, 0, none⟩) (n + 1).toNat (n + 1).toNat))), (Arr 3 b2 (List.replicate (n + 1).toNat (Value.int .i64 0)))] from by rw [show n - 1 + 1 = n by omega, ← sufPart_start C (by omega), show (n + 1).toNat = n.toNat + 1 by omega]), by omega, by omega⟩
    rintro i e2 V1l σ1l hI1
    obtain ⟨rfl, rfl, g0, g1⟩ : V0l = V1l ∧ [(Arr 29 b1 (top.set j.toNat (Value.slice (some ⟨b2, 0, none⟩) (n + 1).toNat (n + 1).toNat))), (Arr 3 b2 ((sufPart C n j (i + 1)).map (Value.int .i64)))] = σ1l ∧ -1 ≤ i ∧ i < n := hI1
    refine vc_seq ?_
    refine vc_seq ?_
    refine vc_region ?_
    refine oq (qv_mv (Value.int .i64 i) rfl) ?_
    refine oq (qv_geq rfl rfl) ?_
    refine ops_nil ?_
    refine vc_if rfl (fun c2 => ?_) (fun c2 => ?_)
    ·
      refine vc_skip ?_
      refine vc_seq ?_
      refine vc_block ?_
      refine vc_seq ?_
      refine vc_region ?_
      refine oq (qv_mv (Value.slice (some ⟨b1, 0, none⟩) (k + 1).toNat (k + 1).toNat) rfl) ?_
      refine oq (qv_mv (Value.int .i64 j) rfl) ?_
      refine oq (qv_ia (v := (Value.slice (some ⟨b1, 0, none⟩) (k + 1).toNat (k + 1).toNat)) (i := j) Try.underlying22 Try.size29 rfl (inO (k := 0) rfl (by first | (simp only [List.length_set]; omega) | omega) (Nat.le_refl _) (by omega)) rfl (by omega) (by rw [List.length_set]; omega)) ?_
      refine oq (qv_ldv (u := (Value.slice (some ⟨b2, 0, none⟩) (n + 1).toNat (n + 1).toNat)) (v := (Value.slice (some ⟨b1, 0, none⟩) (k + 1).toNat (k + 1).toNat)) (i := j) Try.plain29 rfl (inO (k := 0) rfl (by first | (simp only [List.length_set]; omega) | omega) (Nat.le_refl _) (by omega)) (by omega) (by rw [List.length_set]; omega) (gv_set_same h0 (by omega))) ?_
      refine oq (qv_mv (Value.int .i64 i) rfl) ?_
      refine oq (qv_ia (v := (Value.slice (some ⟨b2, 0, none⟩) (n + 1).toNat (n + 1).toNat)) (i := i) Try.underlying29 Try.size3 rfl (inO (k := 1) rfl (by simp only [List.length_map, List.length_set, sufPart_len]; omega) (Nat.le_refl _) (by omega)) rfl (by omega) (by simp only [List.length_map, List.length_set, sufPart_len]; omega)) ?_
      refine ops_ste (k := 1) (b := b2) (n := (n + 1).toNat) (c := (n + 1).toNat) (i := i) (cs := ((sufPart C n j (i + 1)).map (Value.int .i64))) Try.size3 rfl (rfl : ev _ _ = (Value.int .i64 1152921504606846976)) rfl rfl (by omega) (by simp only [List.length_map, List.length_set, sufPart_len]; omega) ?_
      refine ops_nil ?_
      refine vc_seq ?_
      refine vc_region ?_
      refine oq (qv_mv (Value.int .i64 i) rfl) ?_
      refine oq (qv_add rfl rfl (by omega)) ?_
      refine oq (qv_as (Value.int .i64 (i + 1)) rfl) ?_
      refine ops_nil ?_
      refine vc_block ?_
      refine vc_loop (α := Int) (fun (x : Int) => [(0, c), (1, (Value.int .i64 n)), (2, (Value.int .i64 k)), (6, (Value.slice none 0 0)), (7, (Value.slice (some ⟨b1, 0, none⟩) (k + 1).toNat (k + 1).toNat)), (8, (Value.int .i64 j)), (9, (Value.int .i64 i)), (15, (Value.int .i64 (((k + 1).toNat : Int)))), (16, (Value.int .i64 j)), (17, (Value.bool (decide (j < (((k + 1).toNat : Int)))))), (28, (Value.bool (decide (0 ≤ i)))), (10, (Value.int .i64 x))]) (fun (x : Int) V' σ' => V0l = V' ∧ [(Arr 29 b1 (top.set j.toNat (Value.slice (some ⟨b2, 0, none⟩) (n + 1).toNat (n + 1).toNat))), (Arr 3 b2 (((sufPart C n j (i + 1)).map (Value.int .i64)).set (i).toNat (Value.int .i64 (sV C n j i x))))] = σ' ∧ i + 1 ≤ x ∧ x ≤ n + 1) (fun (x : Int) => (n + 1 - x).toNat) (i + 1) ?_ ?_ ?_
      · exact ⟨rfl, rfl, rfl, rfl, rfl, rfl, rfl, rfl, rfl, rfl, rfl, (congrArg (Value.int .i64) (show (i + 1) = ((i + 1)) from by first | omega | simp)), trivial⟩
      · exact ⟨rfl, (show [(Arr 29 b1 (top.set j.toNat (Value.slice (some ⟨b2, 0, none⟩) (n + 1).toNat (n + 1).toNat))), (Arr 3 b2 (((sufPart C n j (i + 1)).map (Value.int .i64)).set (i).toNat (Value.int .i64 (sV C n j i (i + 1)))))] = [(Arr 29 b1 (top.set j.toNat (Value.slice (some ⟨b2, 0, none⟩) (n + 1).toNat (n + 1).toNat))), (Arr 3 b2 ((((sufPart C n j (i + 1)).map (Value.int .i64))).set (i).toNat (Value.int .i64 1152921504606846976)))] from by rw [sV_start]), by omega, by omega⟩
      rintro e e3 V2l σ2l hI2
      obtain ⟨rfl, rfl, f0, f1⟩ : V0l = V2l ∧ [(Arr 29 b1 (top.set j.toNat (Value.slice (some ⟨b2, 0, none⟩) (n + 1).toNat (n + 1).toNat))), (Arr 3 b2 (((sufPart C n j (i + 1)).map (Value.int .i64)).set (i).toNat (Value.int .i64 (sV C n j i e))))] = σ2l ∧ i + 1 ≤ e ∧ e ≤ n + 1 := hI2
      refine vc_seq ?_
      refine vc_seq ?_
      refine vc_region ?_
      refine oq (qv_mv (Value.int .i64 j) rfl) ?_
      refine oq (qv_gtr rfl rfl) ?_
      refine oq (qv_mv (Value.bool (decide (0 < j))) rfl) ?_
      by_cases g1 : 0 < j
      ·
        refine og (qv_mv (Value.int .i64 e) rfl) (want_t g1 rfl rfl rfl) ?_
        refine og (qv_mv (Value.int .i64 n) rfl) (want_t g1 rfl rfl rfl) ?_
        refine og (qv_leq rfl rfl) (want_t g1 rfl rfl rfl) ?_
        refine oq (qv_pick_t g1 rfl (rfl : ev _ _ = (Value.bool (decide (e ≤ n))))) ?_
        refine ops_nil ?_
        refine vc_if rfl (fun c3 => ?_) (fun c3 => ?_)
        ·
          refine vc_skip ?_
          refine vc_seq ?_
          refine vc_block ?_
          have e1 := sufRow_bd hC (j - 1).toNat e (by omega) (by omega)
          have e2 := hC.rng i e (by omega) (by omega) (by omega) (by omega)
          have e3 := hC.row i (by omega) (by omega)
          refine vc_region_order (τ := []) [(0, false), (1, false), (2, false), (3, false), (4, false), (5, false), (6, false), (7, false), (8, false), (9, false), (10, false), (11, false), (12, false), (13, false), (14, false), (15, false), (16, false), (17, false), (18, false), (19, false), (20, false), (21, false), (22, false), (23, false), (24, false), (25, false), (26, false), (27, false), (28, false), (29, false), (30, true)] [(Arr 29 b1 (top.set j.toNat (Value.slice (some ⟨b2, 0, none⟩) (n + 1).toNat (n + 1).toNat))), (Arr 3 b2 (((sufPart C n j (i + 1)).map (Value.int .i64)).set (i).toNat (Value.int .i64 (sV C n j i e))))] Try.mixed (perm_nil _) (by kernel_rfl) ?_
          refine rq rfl (qv_mv (Value.slice (some ⟨b1, 0, none⟩) (k + 1).toNat (k + 1).toNat) rfl) ?_
          refine rq rfl (qv_mv (Value.int .i64 j) rfl) ?_
          refine rq rfl (qv_ia (v := (Value.slice (some ⟨b1, 0, none⟩) (k + 1).toNat (k + 1).toNat)) (i := j) Try.underlying22 Try.size29 rfl (inO (k := 0) rfl (by first | (simp only [List.length_set]; omega) | omega) (Nat.le_refl _) (by omega)) rfl (by omega) (by rw [List.length_set]; omega)) ?_
          refine rq rfl (qv_ldv (u := (Value.slice (some ⟨b2, 0, none⟩) (n + 1).toNat (n + 1).toNat)) (v := (Value.slice (some ⟨b1, 0, none⟩) (k + 1).toNat (k + 1).toNat)) (i := j) Try.plain29 rfl (inO (k := 0) rfl (by first | (simp only [List.length_set]; omega) | omega) (Nat.le_refl _) (by omega)) (by omega) (by rw [List.length_set]; omega) (gv_set_same h0 (by omega))) ?_
          refine rq rfl (qv_mv (Value.int .i64 i) rfl) ?_
          refine rq rfl (qv_mv (Value.slice (some ⟨b1, 0, none⟩) (k + 1).toNat (k + 1).toNat) rfl) ?_
          refine rq rfl (qv_mv (Value.int .i64 j) rfl) ?_
          refine rq rfl (qv_ia (v := (Value.slice (some ⟨b1, 0, none⟩) (k + 1).toNat (k + 1).toNat)) (i := j) Try.underlying22 Try.size29 rfl (inO (k := 0) rfl (by first | (simp only [List.length_set]; omega) | omega) (Nat.le_refl _) (by omega)) rfl (by omega) (by rw [List.length_set]; omega)) ?_
          refine rq rfl (qv_ldv (u := (Value.slice (some ⟨b2, 0, none⟩) (n + 1).toNat (n + 1).toNat)) (v := (Value.slice (some ⟨b1, 0, none⟩) (k + 1).toNat (k + 1).toNat)) (i := j) Try.plain29 rfl (inO (k := 0) rfl (by first | (simp only [List.length_set]; omega) | omega) (Nat.le_refl _) (by omega)) (by omega) (by rw [List.length_set]; omega) (gv_set_same h0 (by omega))) ?_
          refine rq rfl (qv_mv (Value.int .i64 i) rfl) ?_
          refine rq rfl (qv_ia (v := (Value.slice (some ⟨b2, 0, none⟩) (n + 1).toNat (n + 1).toNat)) (i := i) Try.underlying29 Try.size3 rfl (inO (k := 1) rfl (by simp only [List.length_map, List.length_set, sufPart_len]; omega) (Nat.le_refl _) (by omega)) rfl (by omega) (by simp only [List.length_map, List.length_set, sufPart_len]; omega)) ?_
          refine rq rfl (qv_ldv (u := (Value.int .i64 (sV C n j i e))) (v := (Value.slice (some ⟨b2, 0, none⟩) (n + 1).toNat (n + 1).toNat)) (i := i) Try.plain3 rfl (inO (k := 1) rfl (by simp only [List.length_map, List.length_set, sufPart_len]; omega) (Nat.le_refl _) (by omega)) (by omega) (by simp only [List.length_map, List.length_set, sufPart_len]; omega) (gv_set_same (by omega) (by simp only [List.length_map, sufPart_len]; omega))) ?_
          refine rq rfl (qv_mv c rfl) ?_
          refine rq rfl (qv_mv (Value.int .i64 i) rfl) ?_
          refine rq rfl (qv_ia (v := c) (i := i) Try.underlying22 Try.size29 rfl (inV hc.sl) rfl (by omega) (by omega)) ?_
          refine rq rfl (qv_ld (v := c) (i := i) Try.plain29 rfl (inV hc.sl) (by omega) (by omega)) ?_
          refine rq rfl (qv_mv (Value.int .i64 e) rfl) ?_
          refine rq rfl (qv_iai (v := (gv cv (i))) (i := e) Try.underlying29 Try.size3 rfl (inVi (hc.row (i) (by omega) (by omega))) rfl (by omega) (by omega)) ?_
          refine rq rfl (qv_ldi (v := (gv cv (i))) (i := e) Try.plain3 rfl (inVi (hc.row (i) (by omega) (by omega))) (by omega) (by omega)) ?_
          refine rq rfl (qv_mv (Value.slice (some ⟨b1, 0, none⟩) (k + 1).toNat (k + 1).toNat) rfl) ?_
          refine rq rfl (qv_mv (Value.int .i64 j) rfl) ?_
          refine rq rfl (qv_sub rfl rfl (by omega)) ?_
          refine rq rfl (qv_ia (v := (Value.slice (some ⟨b1, 0, none⟩) (k + 1).toNat (k + 1).toNat)) (i := j - 1) Try.underlying22 Try.size29 rfl (inO (k := 0) rfl (by first | (simp only [List.length_set]; omega) | omega) (Nat.le_refl _) (by omega)) rfl (by omega) (by rw [List.length_set]; omega)) ?_
          refine rq rfl (qv_ldv (u := (gv top (j - 1))) (v := (Value.slice (some ⟨b1, 0, none⟩) (k + 1).toNat (k + 1).toNat)) (i := j - 1) Try.plain29 rfl (inO (k := 0) rfl (by first | (simp only [List.length_set]; omega) | omega) (Nat.le_refl _) (by omega)) (by omega) (by rw [List.length_set]; omega) (gv_set_other h0 (by omega) (by omega))) ?_
          refine rq rfl (qv_mv (Value.int .i64 e) rfl) ?_
          refine rq rfl (qv_iai (v := (gv top (j - 1))) (i := e) Try.underlying29 Try.size3 rfl (inVi (h3 (j - 1) (by omega) (by omega))) rfl (by omega) (by rw [sufs_row C n k (j - 1) (by omega) (by omega), sufRow_len]; omega)) ?_
          refine rq rfl (qv_ldi (v := (gv top (j - 1))) (i := e) Try.plain3 rfl (inVi (h3 (j - 1) (by omega) (by omega))) (by omega) (by rw [sufs_row C n k (j - 1) (by omega) (by omega), sufRow_len]; omega)) ?_
          refine rq rfl (qv_add rfl rfl (by rw [sufs_row C n k (j - 1) (by omega) (by omega)]; omega)) ?_
          refine rq rfl (qv_min rfl rfl) ?_
          refine rq rfl (qv_ia (v := (Value.slice (some ⟨b2, 0, none⟩) (n + 1).toNat (n + 1).toNat)) (i := i) Try.underlying29 Try.size3 rfl (inO (k := 1) rfl (by simp only [List.length_map, List.length_set, sufPart_len]; omega) (Nat.le_refl _) (by omega)) rfl (by omega) (by simp only [List.length_map, List.length_set, sufPart_len]; omega)) ?_
          refine rl1 (by kernel_rfl) rfl ?_
          refine ops_ste (k := 1) (b := b2) (n := (n + 1).toNat) (c := (n + 1).toNat) (i := i) (cs := (((sufPart C n j (i + 1)).map (Value.int .i64)).set (i).toNat (Value.int .i64 (sV C n j i e)))) Try.size3 rfl (rfl : ev _ _ = (Value.int .i64 (if ((gi (gr C (i)) (e)) + (gi (gr (sufs C n k) (j - 1)) (e))) < (sV C n j i e) then (gi (gr C (i)) (e)) + (gi (gr (sufs C n k) (j - 1)) (e)) else sV C n j i e))) rfl rfl (by omega) (by simp only [List.length_map, List.length_set, sufPart_len]; omega) ?_
          refine ops_nil ⟨[(Arr 29 b1 (top.set j.toNat (Value.slice (some ⟨b2, 0, none⟩) (n + 1).toNat (n + 1).toNat))), (Arr 3 b2 (((((sufPart C n j (i + 1)).map (Value.int .i64)).set (i).toNat (Value.int .i64 (sV C n j i e)))).set (i).toNat (Value.int .i64 (if ((gi (gr C (i)) (e)) + (gi (gr (sufs C n k) (j - 1)) (e))) < (sV C n j i e) then (gi (gr C (i)) (e)) + (gi (gr (sufs C n k) (j - 1)) (e)) else sV C n j i e))))], [], perm_nil _, ?_⟩
          refine rnil ?_
          refine vc_region ?_
          refine oq (qv_mv (Value.int .i64 e) rfl) ?_
          refine oq (qv_add rfl rfl (by omega)) ?_
          refine oq (qv_as (Value.int .i64 (e + 1)) rfl) ?_
          refine ops_nil ?_
          refine ⟨(e + 1), ⟨rfl, rfl, rfl, rfl, rfl, rfl, rfl, rfl, rfl, rfl, rfl, (congrArg (Value.int .i64) (show (e + 1) = ((e + 1)) from by omega)), trivial⟩, ⟨rfl, (show [(Arr 29 b1 (top.set j.toNat (Value.slice (some ⟨b2, 0, none⟩) (n + 1).toNat (n + 1).toNat))), (Arr 3 b2 (((sufPart C n j (i + 1)).map (Value.int .i64)).set (i).toNat (Value.int .i64 (sV C n j i (e + 1)))))] = [(Arr 29 b1 (top.set j.toNat (Value.slice (some ⟨b2, 0, none⟩) (n + 1).toNat (n + 1).toNat))), (Arr 3 b2 (((((sufPart C n j (i + 1)).map (Value.int .i64)).set (i).toNat (Value.int .i64 (sV C n j i e)))).set (i).toNat (Value.int .i64 (if ((gi (gr C (i)) (e)) + (gi (gr (sufs C n k) (j - 1)) (e))) < (sV C n j i e) then (gi (gr C (i)) (e)) + (gi (gr (sufs C n k) (j - 1)) (e)) else sV C n j i e))))] from by rw [sV_step C (by omega) (by omega), List.set_set, sufs_row C n k (j - 1) (by omega) (by omega)]), by omega, by omega⟩, by omega⟩
        ·
          refine vc_exit ?_
          refine blockQ_hit ?_
          refine vc_region ?_
          refine oq (qv_mv (Value.int .i64 i) rfl) ?_
          refine oq (qv_sub rfl rfl (by omega)) ?_
          refine oq (qv_as (Value.int .i64 (i - 1)) rfl) ?_
          refine ops_nil ?_
          refine ⟨(i - 1), ⟨rfl, rfl, rfl, rfl, rfl, rfl, rfl, rfl, rfl, (congrArg (Value.int .i64) (show (i - 1) = ((i - 1)) from by omega)), trivial⟩, ⟨rfl, (show [(Arr 29 b1 (top.set j.toNat (Value.slice (some ⟨b2, 0, none⟩) (n + 1).toNat (n + 1).toNat))), (Arr 3 b2 ((sufPart C n j ((i - 1) + 1)).map (Value.int .i64)))] = [(Arr 29 b1 (top.set j.toNat (Value.slice (some ⟨b2, 0, none⟩) (n + 1).toNat (n + 1).toNat))), (Arr 3 b2 (((sufPart C n j (i + 1)).map (Value.int .i64)).set (i).toNat (Value.int .i64 (sV C n j i e))))] from by rw [show i - 1 + 1 = i by omega, ← sufPart_step C (v := sV C n j i e) (by omega) (by omega) (sV_end C (by omega) (by omega) (by omega) (by omega)), List.map_set]), by omega, by omega⟩, by omega⟩
      ·
        refine os (want_tn g1 rfl rfl rfl) ?_
        refine os (want_tn g1 rfl rfl rfl) ?_
        refine os (want_tn g1 rfl rfl rfl) ?_
        refine oq (qv_pick_f g1 rfl (rfl : ev _ _ = (Value.bool false))) ?_
        refine ops_nil ?_
        refine vc_ff rfl ?_
        refine vc_exit ?_
        refine blockQ_hit ?_
        refine vc_region ?_
        refine oq (qv_mv (Value.int .i64 i) rfl) ?_
        refine oq (qv_sub rfl rfl (by omega)) ?_
        refine oq (qv_as (Value.int .i64 (i - 1)) rfl) ?_
        refine ops_nil ?_
        refine ⟨(i - 1), ⟨rfl, rfl, rfl, rfl, rfl, rfl, rfl, rfl, rfl, (congrArg (Value.int .i64) (show (i - 1) = ((i - 1)) from by omega)), trivial⟩, ⟨rfl, (show [(Arr 29 b1 (top.set j.toNat (Value.slice (some ⟨b2, 0, none⟩) (n + 1).toNat (n + 1).toNat))), (Arr 3 b2 ((sufPart C n j ((i - 1) + 1)).map (Value.int .i64)))] = [(Arr 29 b1 (top.set j.toNat (Value.slice (some ⟨b2, 0, none⟩) (n + 1).toNat (n + 1).toNat))), (Arr 3 b2 (((sufPart C n j (i + 1)).map (Value.int .i64)).set (i).toNat (Value.int .i64 (sV C n j i e))))] from by rw [show i - 1 + 1 = i by omega, ← sufPart_step C (v := sV C n j i e) (by omega) (by omega) (sV_end C (by omega) (by omega) (by omega) (by omega)), List.map_set]), by omega, by omega⟩, by omega⟩
    ·
      refine vc_exit ?_
      refine blockQ_hit ?_
      refine vc_freeze (b := b2) (o := .cells (((sufPart C n j (i + 1)).map (Value.int .i64)) : List Value).toArray 3 (0, 0)) (σr := [(Arr 29 b1 (top.set j.toNat (Value.slice (some ⟨b2, 0, none⟩) (n + 1).toNat (n + 1).toNat)))]) (.swap _ _ _) (fun Vf1 hVf1 hb1 => ?_)
      have hc1 : Cells Vf1 b2 ((sufPart C n j (i + 1)).map (Value.int .i64)) := ⟨_, _, hb1⟩
      have hc := hc.mono hVf1
      refine vc_region ?_
      refine oq (qv_add rfl rfl (by omega)) ?_
      refine oq (qv_mv (Value.int .i64 (j + 1)) rfl) ?_
      refine ops_nil ?_
      refine ⟨(j + 1, top.set j.toNat (Value.slice (some ⟨b2, 0, none⟩) (n + 1).toNat (n + 1).toNat)), ⟨rfl, rfl, rfl, rfl, rfl, rfl, (congrArg (Value.int .i64) (show (j + 1) = ((j + 1)) from by omega)), trivial⟩, ⟨rfl, hc, by omega, by omega, by rw [List.length_set]; exact h2, by
        refine all_snoc (fun j a b => ?_) ?_
        · rw [gv_set_other h0 a (by omega)]; exact (h3 j a b).mono hVf1
        · rw [gv_set_same h0 (by omega), sufs_row C n k j h0 (by omega), ← sufPart_end, show (0 : Int) = i + 1 by omega]
          exact sl_own hb1 (by rw [List.length_map, sufPart_len]; omega) (Nat.le_refl _) (by omega)⟩, by omega⟩
  ·
    refine vc_exit ?_
    refine blockQ_hit ?_
    refine vc_seq ?_
    refine vc_freeze (b := b1) (o := .cells (top : List Value).toArray 29 (0, 0)) (σr := []) (.refl _) (fun Vf2 hVf2 hb2 => ?_)
    have hc2 : Cells Vf2 b1 top := ⟨_, _, hb2⟩
    have hc := hc.mono hVf2
    refine vc_region ?_
    refine oq (qv_mv (Value.slice (some ⟨b1, 0, none⟩) (k + 1).toNat (k + 1).toNat) rfl) ?_
    refine oq (qv_as (Value.slice (some ⟨b1, 0, none⟩) (k + 1).toNat (k + 1).toNat) rfl) ?_
    refine ops_nil ?_
    refine vc_ret ?_
    refine rq1 (Value.slice (some ⟨b1, 0, none⟩) (k + 1).toNat (k + 1).toNat) rfl ?_
    exact ⟨rfl, top, sl_own hb2 (by omega) (Nat.le_refl _) (by omega), by rw [sufs_len]; omega, fun j a b => (h3 j a (by rw [sufs_len] at b; omega)).mono hVf2⟩

set_option maxRecDepth 100000 in
theorem prefixes_c {V : HV} {c : Value} {cv : List Value} {C : List (List Int)} {n k : Int} (hc : Mat .i64 V c cv C) (hC : Costs C n) (k0 : 1 ≤ k) (k1 : k ≤ 32) :
    FnC Try.prog 36 [c, (Value.int .i64 n), (Value.int .i64 k)] V [] (fun v V' σ' => σ' = [] ∧ ∃ sv, Mat .i64 V' v sv (pres C n k)) := by
  refine fn_intro (N := 83) Try.func36 (by kernel_rfl) rfl rfl rfl (Nat.le_of_ble_eq_true rfl) ?_
  intro w0 D
  have hlen := hc.len
  have hn0 := hC.n0
  have hn1 := hC.n1
  have hcl := hC.len
  refine vc_seq ?_
  refine vc_region ?_
  refine oq (qv_as (Value.slice none 0 0) rfl) ?_
  refine ops_nil ?_
  refine vc_seq ?_
  refine vc_region ?_
  refine oq (qv_mv (Value.int .i64 k) rfl) ?_
  refine oq (qv_add rfl rfl (by omega)) ?_
  refine ops_make (n := k + 1) Try.underlying31 Try.ti29 rfl rfl rfl rfl (by omega) (by omega) (by omega) (fun b1 => ?_)
  refine oq (qv_as (Value.slice (some ⟨b1, 0, none⟩) (k + 1).toNat (k + 1).toNat) rfl) ?_
  refine ops_nil ?_
  refine vc_seq ?_
  refine vc_seq ?_
  refine vc_region ?_
  refine oq (qv_mv (Value.slice (some ⟨b1, 0, none⟩) (k + 1).toNat (k + 1).toNat) rfl) ?_
  refine oq (qv_len Try.underlying31 rfl rfl) ?_
  refine oq (qv_mv (Value.int .i64 0) rfl) ?_
  refine ops_nil ?_
  refine vc_block ?_
  refine vc_loop (α := Int × List Value) (fun (x : Int × List Value) => [(0, c), (1, (Value.int .i64 n)), (2, (Value.int .i64 k)), (6, (Value.slice none 0 0)), (7, (Value.slice (some ⟨b1, 0, none⟩) (k + 1).toNat (k + 1).toNat)), (15, (Value.int .i64 (((k + 1).toNat : Int)))), (16, (Value.int .i64 x.1))]) (fun (x : Int × List Value) V' σ' => [(Arr 29 b1 x.2)] = σ' ∧ Mat .i64 V' c cv C ∧ 0 ≤ x.1 ∧ x.1 ≤ k + 1 ∧ x.2.length = k + 1 ∧ ∀ y : Int, 0 ≤ y → y < x.1 → Ints .i64 V' (gv x.2 y) (gr (pres C n k) y)) (fun (x : Int × List Value) => (k + 1 - x.1).toNat) (0, (List.replicate (k + 1).toNat (Value.slice none 0 0))) ?_ ?_ ?_
  · exact ⟨rfl, rfl, rfl, rfl, rfl, rfl, rfl, trivial⟩
  · exact ⟨rfl, hc, by omega, by omega, by rw [List.length_replicate]; omega, fun j a b => by omega⟩
  rintro ⟨j, top⟩ e1 V0l σ0l hI0
  obtain ⟨rfl, hc, h0, h1, h2, h3⟩ : [(Arr 29 b1 top)] = σ0l ∧ Mat .i64 V0l c cv C ∧ 0 ≤ j ∧ j ≤ k + 1 ∧ top.length = k + 1 ∧ ∀ y : Int, 0 ≤ y → y < j → Ints .i64 V0l (gv top y) (gr (pres C n k) y) := hI0
  change VC _ _ _ _ _ _ (upds 83 [(0, c), (1, (Value.int .i64 n)), (2, (Value.int .i64 k)), (6, (Value.slice none 0 0)), (7, (Value.slice (some ⟨b1, 0, none⟩) (k + 1).toNat (k + 1).toNat)), (15, (Value.int .i64 (((k + 1).toNat : Int)))), (16, (Value.int .i64 j))] e1) _ _
  refine vc_seq ?_
  refine vc_region ?_
  refine oq (qv_lss rfl rfl) ?_
  refine ops_nil ?_
  refine vc_seq ?_
  refine vc_if rfl (fun c1 => ?_) (fun c1 => ?_)
  ·
    refine vc_skip ?_
    refine vc_seq ?_
    refine vc_block ?_
    refine vc_seq ?_
    refine vc_region ?_
    refine oq (qv_mv (Value.int .i64 j) rfl) ?_
    refine oq (qv_as (Value.int .i64 j) rfl) ?_
    refine ops_nil ?_
    refine vc_seq ?_
    refine vc_region ?_
    refine oq (qv_mv (Value.slice (some ⟨b1, 0, none⟩) (k + 1).toNat (k + 1).toNat) rfl) ?_
    refine oq (qv_mv (Value.int .i64 j) rfl) ?_
    refine oq (qv_mv (Value.int .i64 n) rfl) ?_
    refine oq (qv_add rfl rfl (by omega)) ?_
    refine ops_make (n := n + 1) Try.underlying29 Try.ti3 rfl rfl rfl rfl (by omega) (by omega) (by omega) (fun b2 => ?_)
    refine oq (qv_ia (v := (Value.slice (some ⟨b1, 0, none⟩) (k + 1).toNat (k + 1).toNat)) (i := j) Try.underlying31 Try.size29 rfl (inO (k := 0) rfl (by first | (simp only [List.length_set]; omega) | omega) (Nat.le_refl _) (by omega)) rfl (by omega) (by omega)) ?_
    refine ops_ste (k := 0) (b := b1) (n := (k + 1).toNat) (c := (k + 1).toNat) (i := j) (cs := top) Try.size29 rfl (rfl : ev _ _ = (Value.slice (some ⟨b2, 0, none⟩) (n + 1).toNat (n + 1).toNat)) rfl rfl (by omega) (by omega) ?_
    refine ops_nil ?_
    refine vc_seq ?_
    refine vc_region ?_
    refine oq (qv_as (Value.int .i64 1) rfl) ?_
    refine ops_nil ?_
    refine vc_block ?_
    refine vc_loop (α := Int) (fun (x : Int) => [(0, c), (1, (Value.int .i64 n)), (2, (Value.int .i64 k)), (6, (Value.slice none 0 0)), (7, (Value.slice (some ⟨b1, 0, none⟩) (k + 1).toNat (k + 1).toNat)), (8, (Value.int .i64 j)), (15, (Value.int .i64 (((k + 1).toNat : Int)))), (16, (Value.int .i64 j)), (17, (Value.bool (decide (j < (((k + 1).toNat : Int)))))), (9, (Value.int .i64 x))]) (fun (x : Int) V' σ' => V0l = V' ∧ [(Arr 29 b1 (top.set j.toNat (Value.slice (some ⟨b2, 0, none⟩) (n + 1).toNat (n + 1).toNat))), (Arr 3 b2 ((prePart C n j (x)).map (Value.int .i64)))] = σ' ∧ 1 ≤ x ∧ x ≤ n + 1) (fun (x : Int) => (n + 1 - x).toNat) (1) ?_ ?_ ?_
    · exact ⟨rfl, rfl, rfl, rfl, rfl, rfl, rfl, rfl, rfl, rfl, trivial⟩
    · exact ⟨rfl, (show [(Arr 29 b1 (top.set j.toNat (Value.slice (some ⟨b2, 0, none⟩) (n + 1).toNat (n + 1).toNat))), (Arr 3 b2 ((prePart C n j (1)).map (Value.int .i64)))] = [(Arr 29 b1 ((top).set (j).toNat (Value.slice (some ⟨b2, 0, none⟩) (n + 1).toNat (n + 1).toNat))), (Arr 3 b2 (List.replicate (n + 1).toNat (Value.int .i64 0)))] from by rw [← prePart_start C (by omega), show (n + 1).toNat = n.toNat + 1 by omega]), by omega, by omega⟩
    rintro i e2 V1l σ1l hI1
    obtain ⟨rfl, rfl, g0, g1⟩ : V0l = V1l ∧ [(Arr 29 b1 (top.set j.toNat (Value.slice (some ⟨b2, 0, none⟩) (n + 1).toNat (n + 1).toNat))), (Arr 3 b2 ((prePart C n j (i)).map (Value.int .i64)))] = σ1l ∧ 1 ≤ i ∧ i ≤ n + 1 := hI1
    refine vc_seq ?_
    refine vc_seq ?_
    refine vc_region ?_
    refine oq (qv_mv (Value.int .i64 i) rfl) ?_
    refine oq (qv_mv (Value.int .i64 n) rfl) ?_
    refine oq (qv_leq rfl rfl) ?_
    refine ops_nil ?_
    refine vc_if rfl (fun c2 => ?_) (fun c2 => ?_)
    ·
      refine vc_skip ?_
      refine vc_seq ?_
      refine vc_block ?_
      refine vc_seq ?_
      refine vc_region ?_
      refine oq (qv_mv (Value.slice (some ⟨b1, 0, none⟩) (k + 1).toNat (k + 1).toNat) rfl) ?_
      refine oq (qv_mv (Value.int .i64 j) rfl) ?_
      refine oq (qv_ia (v := (Value.slice (some ⟨b1, 0, none⟩) (k + 1).toNat (k + 1).toNat)) (i := j) Try.underlying31 Try.size29 rfl (inO (k := 0) rfl (by first | (simp only [List.length_set]; omega) | omega) (Nat.le_refl _) (by omega)) rfl (by omega) (by rw [List.length_set]; omega)) ?_
      refine oq (qv_ldv (u := (Value.slice (some ⟨b2, 0, none⟩) (n + 1).toNat (n + 1).toNat)) (v := (Value.slice (some ⟨b1, 0, none⟩) (k + 1).toNat (k + 1).toNat)) (i := j) Try.plain29 rfl (inO (k := 0) rfl (by first | (simp only [List.length_set]; omega) | omega) (Nat.le_refl _) (by omega)) (by omega) (by rw [List.length_set]; omega) (gv_set_same h0 (by omega))) ?_
      refine oq (qv_mv (Value.int .i64 i) rfl) ?_
      refine oq (qv_ia (v := (Value.slice (some ⟨b2, 0, none⟩) (n + 1).toNat (n + 1).toNat)) (i := i) Try.underlying29 Try.size3 rfl (inO (k := 1) rfl (by simp only [List.length_map, List.length_set, prePart_len]; omega) (Nat.le_refl _) (by omega)) rfl (by omega) (by simp only [List.length_map, List.length_set, prePart_len]; omega)) ?_
      refine ops_ste (k := 1) (b := b2) (n := (n + 1).toNat) (c := (n + 1).toNat) (i := i) (cs := ((prePart C n j (i)).map (Value.int .i64))) Try.size3 rfl (rfl : ev _ _ = (Value.int .i64 1152921504606846976)) rfl rfl (by omega) (by simp only [List.length_map, List.length_set, prePart_len]; omega) ?_
      refine ops_nil ?_
      refine vc_seq ?_
      refine vc_region ?_
      refine oq (qv_as (Value.int .i64 0) rfl) ?_
      refine ops_nil ?_
      refine vc_block ?_
      refine vc_loop (α := Int) (fun (x : Int) => [(0, c), (1, (Value.int .i64 n)), (2, (Value.int .i64 k)), (6, (Value.slice none 0 0)), (7, (Value.slice (some ⟨b1, 0, none⟩) (k + 1).toNat (k + 1).toNat)), (8, (Value.int .i64 j)), (9, (Value.int .i64 i)), (15, (Value.int .i64 (((k + 1).toNat : Int)))), (16, (Value.int .i64 j)), (17, (Value.bool (decide (j < (((k + 1).toNat : Int)))))), (27, (Value.bool (decide (i ≤ n)))), (10, (Value.int .i64 x))]) (fun (x : Int) V' σ' => V0l = V' ∧ [(Arr 29 b1 (top.set j.toNat (Value.slice (some ⟨b2, 0, none⟩) (n + 1).toNat (n + 1).toNat))), (Arr 3 b2 (((prePart C n j (i)).map (Value.int .i64)).set (i).toNat (Value.int .i64 (pV C n j i x))))] = σ' ∧ 0 ≤ x ∧ x ≤ i + 1) (fun (x : Int) => (i + 1 - x).toNat) (0) ?_ ?_ ?_
      · exact ⟨rfl, rfl, rfl, rfl, rfl, rfl, rfl, rfl, rfl, rfl, rfl, rfl, trivial⟩
      · exact ⟨rfl, (show [(Arr 29 b1 (top.set j.toNat (Value.slice (some ⟨b2, 0, none⟩) (n + 1).toNat (n + 1).toNat))), (Arr 3 b2 (((prePart C n j (i)).map (Value.int .i64)).set (i).toNat (Value.int .i64 (pV C n j i 0))))] = [(Arr 29 b1 (top.set j.toNat (Value.slice (some ⟨b2, 0, none⟩) (n + 1).toNat (n + 1).toNat))), (Arr 3 b2 ((((prePart C n j (i)).map (Value.int .i64))).set (i).toNat (Value.int .i64 1152921504606846976)))] from by rw [pV_start]), by omega, by omega⟩
      rintro e e3 V2l σ2l hI2
      obtain ⟨rfl, rfl, f0, f1⟩ : V0l = V2l ∧ [(Arr 29 b1 (top.set j.toNat (Value.slice (some ⟨b2, 0, none⟩) (n + 1).toNat (n + 1).toNat))), (Arr 3 b2 (((prePart C n j (i)).map (Value.int .i64)).set (i).toNat (Value.int .i64 (pV C n j i e))))] = σ2l ∧ 0 ≤ e ∧ e ≤ i + 1 := hI2
      refine vc_seq ?_
      refine vc_seq ?_
      refine vc_region ?_
      refine oq (qv_mv (Value.int .i64 j) rfl) ?_
      refine oq (qv_gtr rfl rfl) ?_
      refine oq (qv_mv (Value.bool (decide (0 < j))) rfl) ?_
      by_cases g1 : 0 < j
      ·
        refine og (qv_mv (Value.int .i64 e) rfl) (want_t g1 rfl rfl rfl) ?_
        refine og (qv_mv (Value.int .i64 i) rfl) (want_t g1 rfl rfl rfl) ?_
        refine og (qv_leq rfl rfl) (want_t g1 rfl rfl rfl) ?_
        refine oq (qv_pick_t g1 rfl (rfl : ev _ _ = (Value.bool (decide (e ≤ i))))) ?_
        refine ops_nil ?_
        refine vc_if rfl (fun c3 => ?_) (fun c3 => ?_)
        ·
          refine vc_skip ?_
          refine vc_seq ?_
          refine vc_block ?_
          refine vc_seq ?_
          refine vc_region ?_
          refine oq (qv_mv (Value.int .i64 j) rfl) ?_
          refine oq (qv_gtr rfl rfl) ?_
          refine oq (qv_mv (Value.bool (decide (1 < j))) rfl) ?_
          by_cases g2 : 1 < j
          ·
            refine os (want_fn g2 rfl rfl rfl) ?_
            refine os (want_fn g2 rfl rfl rfl) ?_
            refine oq (qv_pick_t g2 rfl (rfl : ev _ _ = (Value.bool true))) ?_
            refine ops_nil ?_
            refine vc_tt rfl ?_
            have e1 := preRow_bd hC (j - 1).toNat e (by omega) (by omega)
            have e2 := hC.rng e i (by omega) (by omega) (by omega) (by omega)
            have e3 := hC.row e (by omega) (by omega)
            refine vc_region_order (τ := []) [(0, false), (1, false), (2, false), (3, false), (4, false), (5, false), (6, false), (7, false), (8, false), (9, false), (10, false), (11, false), (12, false), (13, false), (14, false), (15, false), (16, false), (17, false), (18, false), (19, false), (20, false), (21, false), (22, false), (23, false), (24, false), (25, false), (26, false), (27, false), (28, false), (29, false), (30, true)] [(Arr 29 b1 (top.set j.toNat (Value.slice (some ⟨b2, 0, none⟩) (n + 1).toNat (n + 1).toNat))), (Arr 3 b2 (((prePart C n j (i)).map (Value.int .i64)).set (i).toNat (Value.int .i64 (pV C n j i e))))] Try.mixed (perm_nil _) (by kernel_rfl) ?_
            refine rq rfl (qv_mv (Value.slice (some ⟨b1, 0, none⟩) (k + 1).toNat (k + 1).toNat) rfl) ?_
            refine rq rfl (qv_mv (Value.int .i64 j) rfl) ?_
            refine rq rfl (qv_ia (v := (Value.slice (some ⟨b1, 0, none⟩) (k + 1).toNat (k + 1).toNat)) (i := j) Try.underlying31 Try.size29 rfl (inO (k := 0) rfl (by first | (simp only [List.length_set]; omega) | omega) (Nat.le_refl _) (by omega)) rfl (by omega) (by rw [List.length_set]; omega)) ?_
            refine rq rfl (qv_ldv (u := (Value.slice (some ⟨b2, 0, none⟩) (n + 1).toNat (n + 1).toNat)) (v := (Value.slice (some ⟨b1, 0, none⟩) (k + 1).toNat (k + 1).toNat)) (i := j) Try.plain29 rfl (inO (k := 0) rfl (by first | (simp only [List.length_set]; omega) | omega) (Nat.le_refl _) (by omega)) (by omega) (by rw [List.length_set]; omega) (gv_set_same h0 (by omega))) ?_
            refine rq rfl (qv_mv (Value.int .i64 i) rfl) ?_
            refine rq rfl (qv_mv (Value.slice (some ⟨b1, 0, none⟩) (k + 1).toNat (k + 1).toNat) rfl) ?_
            refine rq rfl (qv_mv (Value.int .i64 j) rfl) ?_
            refine rq rfl (qv_ia (v := (Value.slice (some ⟨b1, 0, none⟩) (k + 1).toNat (k + 1).toNat)) (i := j) Try.underlying31 Try.size29 rfl (inO (k := 0) rfl (by first | (simp only [List.length_set]; omega) | omega) (Nat.le_refl _) (by omega)) rfl (by omega) (by rw [List.length_set]; omega)) ?_
            refine rq rfl (qv_ldv (u := (Value.slice (some ⟨b2, 0, none⟩) (n + 1).toNat (n + 1).toNat)) (v := (Value.slice (some ⟨b1, 0, none⟩) (k + 1).toNat (k + 1).toNat)) (i := j) Try.plain29 rfl (inO (k := 0) rfl (by first | (simp only [List.length_set]; omega) | omega) (Nat.le_refl _) (by omega)) (by omega) (by rw [List.length_set]; omega) (gv_set_same h0 (by omega))) ?_
            refine rq rfl (qv_mv (Value.int .i64 i) rfl) ?_
            refine rq rfl (qv_ia (v := (Value.slice (some ⟨b2, 0, none⟩) (n + 1).toNat (n + 1).toNat)) (i := i) Try.underlying29 Try.size3 rfl (inO (k := 1) rfl (by simp only [List.length_map, List.length_set, prePart_len]; omega) (Nat.le_refl _) (by omega)) rfl (by omega) (by simp only [List.length_map, List.length_set, prePart_len]; omega)) ?_
            refine rq rfl (qv_ldv (u := (Value.int .i64 (pV C n j i e))) (v := (Value.slice (some ⟨b2, 0, none⟩) (n + 1).toNat (n + 1).toNat)) (i := i) Try.plain3 rfl (inO (k := 1) rfl (by simp only [List.length_map, List.length_set, prePart_len]; omega) (Nat.le_refl _) (by omega)) (by omega) (by simp only [List.length_map, List.length_set, prePart_len]; omega) (gv_set_same (by omega) (by simp only [List.length_map, prePart_len]; omega))) ?_
            refine rq rfl (qv_mv (Value.slice (some ⟨b1, 0, none⟩) (k + 1).toNat (k + 1).toNat) rfl) ?_
            refine rq rfl (qv_mv (Value.int .i64 j) rfl) ?_
            refine rq rfl (qv_sub rfl rfl (by omega)) ?_
            refine rq rfl (qv_ia (v := (Value.slice (some ⟨b1, 0, none⟩) (k + 1).toNat (k + 1).toNat)) (i := j - 1) Try.underlying31 Try.size29 rfl (inO (k := 0) rfl (by first | (simp only [List.length_set]; omega) | omega) (Nat.le_refl _) (by omega)) rfl (by omega) (by rw [List.length_set]; omega)) ?_
            refine rq rfl (qv_ldv (u := (gv top (j - 1))) (v := (Value.slice (some ⟨b1, 0, none⟩) (k + 1).toNat (k + 1).toNat)) (i := j - 1) Try.plain29 rfl (inO (k := 0) rfl (by first | (simp only [List.length_set]; omega) | omega) (Nat.le_refl _) (by omega)) (by omega) (by rw [List.length_set]; omega) (gv_set_other h0 (by omega) (by omega))) ?_
            refine rq rfl (qv_mv (Value.int .i64 e) rfl) ?_
            refine rq rfl (qv_iai (v := (gv top (j - 1))) (i := e) Try.underlying29 Try.size3 rfl (inVi (h3 (j - 1) (by omega) (by omega))) rfl (by omega) (by rw [pres_row C n k (j - 1) (by omega) (by omega), preRow_len]; omega)) ?_
            refine rq rfl (qv_ldi (v := (gv top (j - 1))) (i := e) Try.plain3 rfl (inVi (h3 (j - 1) (by omega) (by omega))) (by omega) (by rw [pres_row C n k (j - 1) (by omega) (by omega), preRow_len]; omega)) ?_
            refine rq rfl (qv_mv c rfl) ?_
            refine rq rfl (qv_mv (Value.int .i64 e) rfl) ?_
            refine rq rfl (qv_ia (v := c) (i := e) Try.underlying22 Try.size29 rfl (inV hc.sl) rfl (by omega) (by omega)) ?_
            refine rq rfl (qv_ld (v := c) (i := e) Try.plain29 rfl (inV hc.sl) (by omega) (by omega)) ?_
            refine rq rfl (qv_mv (Value.int .i64 i) rfl) ?_
            refine rq rfl (qv_iai (v := (gv cv (e))) (i := i) Try.underlying29 Try.size3 rfl (inVi (hc.row (e) (by omega) (by omega))) rfl (by omega) (by omega)) ?_
            refine rq rfl (qv_ldi (v := (gv cv (e))) (i := i) Try.plain3 rfl (inVi (hc.row (e) (by omega) (by omega))) (by omega) (by omega)) ?_
            refine rq rfl (qv_add rfl rfl (by rw [pres_row C n k (j - 1) (by omega) (by omega)]; omega)) ?_
            refine rq rfl (qv_min rfl rfl) ?_
            refine rq rfl (qv_ia (v := (Value.slice (some ⟨b2, 0, none⟩) (n + 1).toNat (n + 1).toNat)) (i := i) Try.underlying29 Try.size3 rfl (inO (k := 1) rfl (by simp only [List.length_map, List.length_set, prePart_len]; omega) (Nat.le_refl _) (by omega)) rfl (by omega) (by simp only [List.length_map, List.length_set, prePart_len]; omega)) ?_
            refine rl1 (by kernel_rfl) rfl ?_
            refine ops_ste (k := 1) (b := b2) (n := (n + 1).toNat) (c := (n + 1).toNat) (i := i) (cs := (((prePart C n j (i)).map (Value.int .i64)).set (i).toNat (Value.int .i64 (pV C n j i e)))) Try.size3 rfl (rfl : ev _ _ = (Value.int .i64 (if ((gi (gr (pres C n k) (j - 1)) (e)) + (gi (gr C (e)) (i))) < (pV C n j i e) then (gi (gr (pres C n k) (j - 1)) (e)) + (gi (gr C (e)) (i)) else pV C n j i e))) rfl rfl (by omega) (by simp only [List.length_map, List.length_set, prePart_len]; omega) ?_
            refine ops_nil ⟨[(Arr 29 b1 (top.set j.toNat (Value.slice (some ⟨b2, 0, none⟩) (n + 1).toNat (n + 1).toNat))), (Arr 3 b2 (((((prePart C n j (i)).map (Value.int .i64)).set (i).toNat (Value.int .i64 (pV C n j i e)))).set (i).toNat (Value.int .i64 (if ((gi (gr (pres C n k) (j - 1)) (e)) + (gi (gr C (e)) (i))) < (pV C n j i e) then (gi (gr (pres C n k) (j - 1)) (e)) + (gi (gr C (e)) (i)) else pV C n j i e))))], [], perm_nil _, ?_⟩
            refine rnil ?_
            refine vc_region ?_
            refine oq (qv_mv (Value.int .i64 e) rfl) ?_
            refine oq (qv_add rfl rfl (by omega)) ?_
            refine oq (qv_as (Value.int .i64 (e + 1)) rfl) ?_
            refine ops_nil ?_
            refine ⟨(e + 1), ⟨rfl, rfl, rfl, rfl, rfl, rfl, rfl, rfl, rfl, rfl, rfl, (congrArg (Value.int .i64) (show (e + 1) = ((e + 1)) from by omega)), trivial⟩, ⟨rfl, (show [(Arr 29 b1 (top.set j.toNat (Value.slice (some ⟨b2, 0, none⟩) (n + 1).toNat (n + 1).toNat))), (Arr 3 b2 (((prePart C n j (i)).map (Value.int .i64)).set (i).toNat (Value.int .i64 (pV C n j i (e + 1)))))] = [(Arr 29 b1 (top.set j.toNat (Value.slice (some ⟨b2, 0, none⟩) (n + 1).toNat (n + 1).toNat))), (Arr 3 b2 (((((prePart C n j (i)).map (Value.int .i64)).set (i).toNat (Value.int .i64 (pV C n j i e)))).set (i).toNat (Value.int .i64 (if ((gi (gr (pres C n k) (j - 1)) (e)) + (gi (gr C (e)) (i))) < (pV C n j i e) then (gi (gr (pres C n k) (j - 1)) (e)) + (gi (gr C (e)) (i)) else pV C n j i e))))] from by first | rw [pV_skip C (by omega) (by omega)] | rw [pV_step C (by omega) (by omega) (by omega), List.set_set, pres_row C n k (j - 1) (by omega) (by omega)]), by omega, by omega⟩, by omega⟩
          ·
            refine og (qv_mv (Value.int .i64 e) rfl) (want_f g2 rfl rfl rfl) ?_
            refine og (qv_eql rfl rfl) (want_f g2 rfl rfl rfl) ?_
            refine oq (qv_pick_f g2 rfl (rfl : ev _ _ = (Value.bool (decide (e = 0))))) ?_
            refine ops_nil ?_
            refine vc_if rfl (fun c4 => ?_) (fun c4 => ?_)
            ·
              have e1 := preRow_bd hC (j - 1).toNat e (by omega) (by omega)
              have e2 := hC.rng e i (by omega) (by omega) (by omega) (by omega)
              have e3 := hC.row e (by omega) (by omega)
              refine vc_region_order (τ := []) [(0, false), (1, false), (2, false), (3, false), (4, false), (5, false), (6, false), (7, false), (8, false), (9, false), (10, false), (11, false), (12, false), (13, false), (14, false), (15, false), (16, false), (17, false), (18, false), (19, false), (20, false), (21, false), (22, false), (23, false), (24, false), (25, false), (26, false), (27, false), (28, false), (29, false), (30, true)] [(Arr 29 b1 (top.set j.toNat (Value.slice (some ⟨b2, 0, none⟩) (n + 1).toNat (n + 1).toNat))), (Arr 3 b2 (((prePart C n j (i)).map (Value.int .i64)).set (i).toNat (Value.int .i64 (pV C n j i e))))] Try.mixed (perm_nil _) (by kernel_rfl) ?_
              refine rq rfl (qv_mv (Value.slice (some ⟨b1, 0, none⟩) (k + 1).toNat (k + 1).toNat) rfl) ?_
              refine rq rfl (qv_mv (Value.int .i64 j) rfl) ?_
              refine rq rfl (qv_ia (v := (Value.slice (some ⟨b1, 0, none⟩) (k + 1).toNat (k + 1).toNat)) (i := j) Try.underlying31 Try.size29 rfl (inO (k := 0) rfl (by first | (simp only [List.length_set]; omega) | omega) (Nat.le_refl _) (by omega)) rfl (by omega) (by rw [List.length_set]; omega)) ?_
              refine rq rfl (qv_ldv (u := (Value.slice (some ⟨b2, 0, none⟩) (n + 1).toNat (n + 1).toNat)) (v := (Value.slice (some ⟨b1, 0, none⟩) (k + 1).toNat (k + 1).toNat)) (i := j) Try.plain29 rfl (inO (k := 0) rfl (by first | (simp only [List.length_set]; omega) | omega) (Nat.le_refl _) (by omega)) (by omega) (by rw [List.length_set]; omega) (gv_set_same h0 (by omega))) ?_
              refine rq rfl (qv_mv (Value.int .i64 i) rfl) ?_
              refine rq rfl (qv_mv (Value.slice (some ⟨b1, 0, none⟩) (k + 1).toNat (k + 1).toNat) rfl) ?_
              refine rq rfl (qv_mv (Value.int .i64 j) rfl) ?_
              refine rq rfl (qv_ia (v := (Value.slice (some ⟨b1, 0, none⟩) (k + 1).toNat (k + 1).toNat)) (i := j) Try.underlying31 Try.size29 rfl (inO (k := 0) rfl (by first | (simp only [List.length_set]; omega) | omega) (Nat.le_refl _) (by omega)) rfl (by omega) (by rw [List.length_set]; omega)) ?_
              refine rq rfl (qv_ldv (u := (Value.slice (some ⟨b2, 0, none⟩) (n + 1).toNat (n + 1).toNat)) (v := (Value.slice (some ⟨b1, 0, none⟩) (k + 1).toNat (k + 1).toNat)) (i := j) Try.plain29 rfl (inO (k := 0) rfl (by first | (simp only [List.length_set]; omega) | omega) (Nat.le_refl _) (by omega)) (by omega) (by rw [List.length_set]; omega) (gv_set_same h0 (by omega))) ?_
              refine rq rfl (qv_mv (Value.int .i64 i) rfl) ?_
              refine rq rfl (qv_ia (v := (Value.slice (some ⟨b2, 0, none⟩) (n + 1).toNat (n + 1).toNat)) (i := i) Try.underlying29 Try.size3 rfl (inO (k := 1) rfl (by simp only [List.length_map, List.length_set, prePart_len]; omega) (Nat.le_refl _) (by omega)) rfl (by omega) (by simp only [List.length_map, List.length_set, prePart_len]; omega)) ?_
              refine rq rfl (qv_ldv (u := (Value.int .i64 (pV C n j i e))) (v := (Value.slice (some ⟨b2, 0, none⟩) (n + 1).toNat (n + 1).toNat)) (i := i) Try.plain3 rfl (inO (k := 1) rfl (by simp only [List.length_map, List.length_set, prePart_len]; omega) (Nat.le_refl _) (by omega)) (by omega) (by simp only [List.length_map, List.length_set, prePart_len]; omega) (gv_set_same (by omega) (by simp only [List.length_map, prePart_len]; omega))) ?_
              refine rq rfl (qv_mv (Value.slice (some ⟨b1, 0, none⟩) (k + 1).toNat (k + 1).toNat) rfl) ?_
              refine rq rfl (qv_mv (Value.int .i64 j) rfl) ?_
              refine rq rfl (qv_sub rfl rfl (by omega)) ?_
              refine rq rfl (qv_ia (v := (Value.slice (some ⟨b1, 0, none⟩) (k + 1).toNat (k + 1).toNat)) (i := j - 1) Try.underlying31 Try.size29 rfl (inO (k := 0) rfl (by first | (simp only [List.length_set]; omega) | omega) (Nat.le_refl _) (by omega)) rfl (by omega) (by rw [List.length_set]; omega)) ?_
              refine rq rfl (qv_ldv (u := (gv top (j - 1))) (v := (Value.slice (some ⟨b1, 0, none⟩) (k + 1).toNat (k + 1).toNat)) (i := j - 1) Try.plain29 rfl (inO (k := 0) rfl (by first | (simp only [List.length_set]; omega) | omega) (Nat.le_refl _) (by omega)) (by omega) (by rw [List.length_set]; omega) (gv_set_other h0 (by omega) (by omega))) ?_
              refine rq rfl (qv_mv (Value.int .i64 e) rfl) ?_
              refine rq rfl (qv_iai (v := (gv top (j - 1))) (i := e) Try.underlying29 Try.size3 rfl (inVi (h3 (j - 1) (by omega) (by omega))) rfl (by omega) (by rw [pres_row C n k (j - 1) (by omega) (by omega), preRow_len]; omega)) ?_
              refine rq rfl (qv_ldi (v := (gv top (j - 1))) (i := e) Try.plain3 rfl (inVi (h3 (j - 1) (by omega) (by omega))) (by omega) (by rw [pres_row C n k (j - 1) (by omega) (by omega), preRow_len]; omega)) ?_
              refine rq rfl (qv_mv c rfl) ?_
              refine rq rfl (qv_mv (Value.int .i64 e) rfl) ?_
              refine rq rfl (qv_ia (v := c) (i := e) Try.underlying22 Try.size29 rfl (inV hc.sl) rfl (by omega) (by omega)) ?_
              refine rq rfl (qv_ld (v := c) (i := e) Try.plain29 rfl (inV hc.sl) (by omega) (by omega)) ?_
              refine rq rfl (qv_mv (Value.int .i64 i) rfl) ?_
              refine rq rfl (qv_iai (v := (gv cv (e))) (i := i) Try.underlying29 Try.size3 rfl (inVi (hc.row (e) (by omega) (by omega))) rfl (by omega) (by omega)) ?_
              refine rq rfl (qv_ldi (v := (gv cv (e))) (i := i) Try.plain3 rfl (inVi (hc.row (e) (by omega) (by omega))) (by omega) (by omega)) ?_
              refine rq rfl (qv_add rfl rfl (by rw [pres_row C n k (j - 1) (by omega) (by omega)]; omega)) ?_
              refine rq rfl (qv_min rfl rfl) ?_
              refine rq rfl (qv_ia (v := (Value.slice (some ⟨b2, 0, none⟩) (n + 1).toNat (n + 1).toNat)) (i := i) Try.underlying29 Try.size3 rfl (inO (k := 1) rfl (by simp only [List.length_map, List.length_set, prePart_len]; omega) (Nat.le_refl _) (by omega)) rfl (by omega) (by simp only [List.length_map, List.length_set, prePart_len]; omega)) ?_
              refine rl1 (by kernel_rfl) rfl ?_
              refine ops_ste (k := 1) (b := b2) (n := (n + 1).toNat) (c := (n + 1).toNat) (i := i) (cs := (((prePart C n j (i)).map (Value.int .i64)).set (i).toNat (Value.int .i64 (pV C n j i e)))) Try.size3 rfl (rfl : ev _ _ = (Value.int .i64 (if ((gi (gr (pres C n k) (j - 1)) (e)) + (gi (gr C (e)) (i))) < (pV C n j i e) then (gi (gr (pres C n k) (j - 1)) (e)) + (gi (gr C (e)) (i)) else pV C n j i e))) rfl rfl (by omega) (by simp only [List.length_map, List.length_set, prePart_len]; omega) ?_
              refine ops_nil ⟨[(Arr 29 b1 (top.set j.toNat (Value.slice (some ⟨b2, 0, none⟩) (n + 1).toNat (n + 1).toNat))), (Arr 3 b2 (((((prePart C n j (i)).map (Value.int .i64)).set (i).toNat (Value.int .i64 (pV C n j i e)))).set (i).toNat (Value.int .i64 (if ((gi (gr (pres C n k) (j - 1)) (e)) + (gi (gr C (e)) (i))) < (pV C n j i e) then (gi (gr (pres C n k) (j - 1)) (e)) + (gi (gr C (e)) (i)) else pV C n j i e))))], [], perm_nil _, ?_⟩
              refine rnil ?_
              refine vc_region ?_
              refine oq (qv_mv (Value.int .i64 e) rfl) ?_
              refine oq (qv_add rfl rfl (by omega)) ?_
              refine oq (qv_as (Value.int .i64 (e + 1)) rfl) ?_
              refine ops_nil ?_
              refine ⟨(e + 1), ⟨rfl, rfl, rfl, rfl, rfl, rfl, rfl, rfl, rfl, rfl, rfl, (congrArg (Value.int .i64) (show (e + 1) = ((e + 1)) from by omega)), trivial⟩, ⟨rfl, (show [(Arr 29 b1 (top.set j.toNat (Value.slice (some ⟨b2, 0, none⟩) (n + 1).toNat (n + 1).toNat))), (Arr 3 b2 (((prePart C n j (i)).map (Value.int .i64)).set (i).toNat (Value.int .i64 (pV C n j i (e + 1)))))] = [(Arr 29 b1 (top.set j.toNat (Value.slice (some ⟨b2, 0, none⟩) (n + 1).toNat (n + 1).toNat))), (Arr 3 b2 (((((prePart C n j (i)).map (Value.int .i64)).set (i).toNat (Value.int .i64 (pV C n j i e)))).set (i).toNat (Value.int .i64 (if ((gi (gr (pres C n k) (j - 1)) (e)) + (gi (gr C (e)) (i))) < (pV C n j i e) then (gi (gr (pres C n k) (j - 1)) (e)) + (gi (gr C (e)) (i)) else pV C n j i e))))] from by first | rw [pV_skip C (by omega) (by omega)] | rw [pV_step C (by omega) (by omega) (by omega), List.set_set, pres_row C n k (j - 1) (by omega) (by omega)]), by omega, by omega⟩, by omega⟩
            ·
              refine vc_skip ?_
              refine vc_region ?_
              refine oq (qv_mv (Value.int .i64 e) rfl) ?_
              refine oq (qv_add rfl rfl (by omega)) ?_
              refine oq (qv_as (Value.int .i64 (e + 1)) rfl) ?_
              refine ops_nil ?_
              refine ⟨(e + 1), ⟨rfl, rfl, rfl, rfl, rfl, rfl, rfl, rfl, rfl, rfl, rfl, (congrArg (Value.int .i64) (show (e + 1) = ((e + 1)) from by omega)), trivial⟩, ⟨rfl, (show [(Arr 29 b1 (top.set j.toNat (Value.slice (some ⟨b2, 0, none⟩) (n + 1).toNat (n + 1).toNat))), (Arr 3 b2 (((prePart C n j (i)).map (Value.int .i64)).set (i).toNat (Value.int .i64 (pV C n j i (e + 1)))))] = [(Arr 29 b1 (top.set j.toNat (Value.slice (some ⟨b2, 0, none⟩) (n + 1).toNat (n + 1).toNat))), (Arr 3 b2 (((prePart C n j (i)).map (Value.int .i64)).set (i).toNat (Value.int .i64 (pV C n j i e))))] from by first | rw [pV_skip C (by omega) (by omega)] | rw [pV_step C (by omega) (by omega) (by omega), List.set_set, pres_row C n k (j - 1) (by omega) (by omega)]), by omega, by omega⟩, by omega⟩
        ·
          refine vc_exit ?_
          refine blockQ_hit ?_
          refine vc_region ?_
          refine oq (qv_mv (Value.int .i64 i) rfl) ?_
          refine oq (qv_add rfl rfl (by omega)) ?_
          refine oq (qv_as (Value.int .i64 (i + 1)) rfl) ?_
          refine ops_nil ?_
          refine ⟨(i + 1), ⟨rfl, rfl, rfl, rfl, rfl, rfl, rfl, rfl, rfl, (congrArg (Value.int .i64) (show (i + 1) = ((i + 1)) from by omega)), trivial⟩, ⟨rfl, (show [(Arr 29 b1 (top.set j.toNat (Value.slice (some ⟨b2, 0, none⟩) (n + 1).toNat (n + 1).toNat))), (Arr 3 b2 ((prePart C n j ((i + 1))).map (Value.int .i64)))] = [(Arr 29 b1 (top.set j.toNat (Value.slice (some ⟨b2, 0, none⟩) (n + 1).toNat (n + 1).toNat))), (Arr 3 b2 (((prePart C n j (i)).map (Value.int .i64)).set (i).toNat (Value.int .i64 (pV C n j i e))))] from by rw [← prePart_step C (v := pV C n j i e) (by omega) (by omega) (pV_end C (by omega) (by omega) (by omega) (by omega)), List.map_set]), by omega, by omega⟩, by omega⟩
      ·
        refine os (want_tn g1 rfl rfl rfl) ?_
        refine os (want_tn g1 rfl rfl rfl) ?_
        refine os (want_tn g1 rfl rfl rfl) ?_
        refine oq (qv_pick_f g1 rfl (rfl : ev _ _ = (Value.bool false))) ?_
        refine ops_nil ?_
        refine vc_ff rfl ?_
        refine vc_exit ?_
        refine blockQ_hit ?_
        refine vc_region ?_
        refine oq (qv_mv (Value.int .i64 i) rfl) ?_
        refine oq (qv_add rfl rfl (by omega)) ?_
        refine oq (qv_as (Value.int .i64 (i + 1)) rfl) ?_
        refine ops_nil ?_
        refine ⟨(i + 1), ⟨rfl, rfl, rfl, rfl, rfl, rfl, rfl, rfl, rfl, (congrArg (Value.int .i64) (show (i + 1) = ((i + 1)) from by omega)), trivial⟩, ⟨rfl, (show [(Arr 29 b1 (top.set j.toNat (Value.slice (some ⟨b2, 0, none⟩) (n + 1).toNat (n + 1).toNat))), (Arr 3 b2 ((prePart C n j ((i + 1))).map (Value.int .i64)))] = [(Arr 29 b1 (top.set j.toNat (Value.slice (some ⟨b2, 0, none⟩) (n + 1).toNat (n + 1).toNat))), (Arr 3 b2 (((prePart C n j (i)).map (Value.int .i64)).set (i).toNat (Value.int .i64 (pV C n j i e))))] from by rw [← prePart_step C (v := pV C n j i e) (by omega) (by omega) (pV_end C (by omega) (by omega) (by omega) (by omega)), List.map_set]), by omega, by omega⟩, by omega⟩
    ·
      refine vc_exit ?_
      refine blockQ_hit ?_
      refine vc_freeze (b := b2) (o := .cells (((prePart C n j (i)).map (Value.int .i64)) : List Value).toArray 3 (0, 0)) (σr := [(Arr 29 b1 (top.set j.toNat (Value.slice (some ⟨b2, 0, none⟩) (n + 1).toNat (n + 1).toNat)))]) (.swap _ _ _) (fun Vf1 hVf1 hb1 => ?_)
      have hc1 : Cells Vf1 b2 ((prePart C n j (i)).map (Value.int .i64)) := ⟨_, _, hb1⟩
      have hc := hc.mono hVf1
      refine vc_region ?_
      refine oq (qv_add rfl rfl (by omega)) ?_
      refine oq (qv_mv (Value.int .i64 (j + 1)) rfl) ?_
      refine ops_nil ?_
      refine ⟨(j + 1, top.set j.toNat (Value.slice (some ⟨b2, 0, none⟩) (n + 1).toNat (n + 1).toNat)), ⟨rfl, rfl, rfl, rfl, rfl, rfl, (congrArg (Value.int .i64) (show (j + 1) = ((j + 1)) from by omega)), trivial⟩, ⟨rfl, hc, by omega, by omega, by rw [List.length_set]; exact h2, by
        refine all_snoc (fun j a b => ?_) ?_
        · rw [gv_set_other h0 a (by omega)]; exact (h3 j a b).mono hVf1
        · rw [gv_set_same h0 (by omega), pres_row C n k j h0 (by omega), ← prePart_end C n j (by omega), show n + 1 = i by omega]
          exact sl_own hb1 (by rw [List.length_map, prePart_len]; omega) (Nat.le_refl _) (by omega)⟩, by omega⟩
  ·
    refine vc_exit ?_
    refine blockQ_hit ?_
    refine vc_seq ?_
    refine vc_freeze (b := b1) (o := .cells (top : List Value).toArray 29 (0, 0)) (σr := []) (.refl _) (fun Vf2 hVf2 hb2 => ?_)
    have hc2 : Cells Vf2 b1 top := ⟨_, _, hb2⟩
    have hc := hc.mono hVf2
    refine vc_region ?_
    refine oq (qv_mv (Value.slice (some ⟨b1, 0, none⟩) (k + 1).toNat (k + 1).toNat) rfl) ?_
    refine oq (qv_as (Value.slice (some ⟨b1, 0, none⟩) (k + 1).toNat (k + 1).toNat) rfl) ?_
    refine ops_nil ?_
    refine vc_ret ?_
    refine rq1 (Value.slice (some ⟨b1, 0, none⟩) (k + 1).toNat (k + 1).toNat) rfl ?_
    exact ⟨rfl, top, sl_own hb2 (by omega) (Nat.le_refl _) (by omega), by rw [pres_len]; omega, fun j a b => (h3 j a (by rw [pres_len] at b; omega)).mono hVf2⟩

end Go.Proofs.Ytmkbjhligjnagaa
