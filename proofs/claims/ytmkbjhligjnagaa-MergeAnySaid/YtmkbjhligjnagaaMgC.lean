/- Walks of merge: what each function returns. Printed by a program out of notes. -/
import Derived.Test.YtmkbjhligjnagaaMg9
import Derived.Test.YtmkbjhligjnagaaMgW
namespace Go.Proofs.Ytmkbjhligjnagaa
open Go.Vc
open Classical

set_option maxRecDepth 100000 in
theorem lnext_c {V : HV} {b n : Nat} {G : List Int} (hG : G.length = n) (hn : n ≤ 1000000) (hrng : ∀ y : Int, 0 ≤ y → y < n → 0 ≤ gi G y ∧ gi G y < n) :
    FnC Try.prog 37 [(Value.slice (some ⟨b, 0, none⟩) n n)] V [(Arr 3 b (G.map (Value.int .i64)))] (fun v V' σ' => ∃ (m : Int) (D : List Int), v = .bool (decide (m = 1)) ∧ σ' = [Arr 3 b (D.map (Value.int .i64))] ∧ D.length = n ∧ (m = 1 → Up n G D) ∧ (m ≠ 1 → ∀ y : Int, 0 ≤ y → y < n → n ≤ gi G y + 1)) := by
  refine fn_intro (N := 27) Try.func37 (by kernel_rfl) rfl rfl rfl (Nat.le_of_ble_eq_true rfl) ?_
  intro w0 D
  refine vc_seq ?_
  refine vc_region ?_
  refine oq (qv_as (Value.bool false) rfl) ?_
  refine ops_nil ?_
  refine vc_seq ?_
  refine vc_seq ?_
  refine vc_region ?_
  refine oq (qv_mv (Value.slice (some ⟨b, 0, none⟩) n n) rfl) ?_
  refine oq (qv_len Try.underlying29 rfl rfl) ?_
  refine oq (qv_sub rfl rfl (by omega)) ?_
  refine oq (qv_as (Value.int .i64 (((n : Int)) - 1)) rfl) ?_
  refine ops_nil ?_
  refine vc_block ?_
  refine vc_loop (α := Int × List Int) (fun (xx : Int × List Int) => [(0, (Value.slice (some ⟨b, 0, none⟩) n n)), (3, (Value.int .i64 xx.1))]) (fun (xx : Int × List Int) V' σ' => V = V' ∧ [(Arr 3 b (xx.2.map (Value.int .i64)))] = σ' ∧ -1 ≤ xx.1 ∧ xx.1 < n ∧ xx.2.length = n ∧ (∀ y : Int, 0 ≤ y → y ≤ xx.1 → gi xx.2 y = gi G y) ∧ ∀ y : Int, xx.1 < y → y < n → gi xx.2 y = 0 ∧ n ≤ gi G y + 1) (fun (xx : Int × List Int) => (xx.1 + 1).toNat) ((n : Int) - 1, G) ?_ ?_ ?_
  · exact ⟨rfl, (congrArg (Value.int .i64) (show (((n : Int)) - 1) = (((n : Int) - 1)) from by first | omega | simp)), trivial⟩
  · exact ⟨rfl, rfl, by omega, by omega, hG, fun y a b => rfl, fun y a b => by omega⟩
  rintro ⟨i, A⟩ e1 V0l σ0l hI0
  obtain ⟨rfl, rfl, i1, i2, i3, ha, hb⟩ : V = V0l ∧ [(Arr 3 b (A.map (Value.int .i64)))] = σ0l ∧ -1 ≤ i ∧ i < n ∧ A.length = n ∧ (∀ y : Int, 0 ≤ y → y ≤ i → gi A y = gi G y) ∧ ∀ y : Int, i < y → y < n → gi A y = 0 ∧ n ≤ gi G y + 1 := hI0
  change VC _ _ _ _ _ _ (upds 27 [(0, (Value.slice (some ⟨b, 0, none⟩) n n)), (3, (Value.int .i64 i))] e1) _ _
  refine vc_seq ?_
  refine vc_seq ?_
  refine vc_region ?_
  refine oq (qv_mv (Value.int .i64 i) rfl) ?_
  refine oq (qv_geq rfl rfl) ?_
  refine ops_nil ?_
  refine vc_if rfl (fun c1 => ?_) (fun c1 => ?_)
  ·
    refine vc_skip ?_
    refine vc_seq ?_
    refine vc_block ?_
    refine vc_seq ?_
    have e1 := hrng i (by omega) (by omega)
    have e2 := ha i (by omega) (by omega)
    refine vc_region ?_
    refine oq (qv_mv (Value.slice (some ⟨b, 0, none⟩) n n) rfl) ?_
    refine oq (qv_mv (Value.int .i64 i) rfl) ?_
    refine oq (qv_ia (v := (Value.slice (some ⟨b, 0, none⟩) n n)) (i := i) Try.underlying29 Try.size3 rfl (inO (k := 0) rfl (by simp only [List.length_map, List.length_set]; omega) (Nat.le_refl _) (by omega)) rfl (by omega) (by simp only [List.length_map, List.length_set]; omega)) ?_
    refine oq (qv_ldv (u := (Value.int .i64 (gi A (i)))) (v := (Value.slice (some ⟨b, 0, none⟩) n n)) (i := i) Try.plain3 rfl (inO (k := 0) rfl (by simp only [List.length_map, List.length_set]; omega) (Nat.le_refl _) (by omega)) (by omega) (by simp only [List.length_map, List.length_set]; omega) (gv_ints (by omega) (by omega))) ?_
    refine oq (qv_add rfl rfl (by omega)) ?_
    refine oq (qv_ia (v := (Value.slice (some ⟨b, 0, none⟩) n n)) (i := i) Try.underlying29 Try.size3 rfl (inO (k := 0) rfl (by simp only [List.length_map, List.length_set]; omega) (Nat.le_refl _) (by omega)) rfl (by omega) (by simp only [List.length_map, List.length_set]; omega)) ?_
    refine ops_ste (k := 0) (b := b) (n := n) (c := n) (i := i) (cs := (A.map (Value.int .i64))) Try.size3 rfl (rfl : ev _ _ = (Value.int .i64 ((gi A (i)) + 1))) rfl rfl (by omega) (by simp only [List.length_map, List.length_set]; omega) ?_
    refine ops_nil ?_
    refine vc_seq ?_
    refine vc_seq ?_
    refine vc_region ?_
    refine oq (qv_mv (Value.slice (some ⟨b, 0, none⟩) n n) rfl) ?_
    refine oq (qv_mv (Value.int .i64 i) rfl) ?_
    refine oq (qv_ia (v := (Value.slice (some ⟨b, 0, none⟩) n n)) (i := i) Try.underlying29 Try.size3 rfl (inO (k := 0) rfl (by simp only [List.length_map, List.length_set]; omega) (Nat.le_refl _) (by omega)) rfl (by omega) (by simp only [List.length_map, List.length_set]; omega)) ?_
    refine oq (qv_ldv (u := (Value.int .i64 (gi A (i) + 1))) (v := (Value.slice (some ⟨b, 0, none⟩) n n)) (i := i) Try.plain3 rfl (inO (k := 0) rfl (by simp only [List.length_map, List.length_set]; omega) (Nat.le_refl _) (by omega)) (by omega) (by simp only [List.length_map, List.length_set]; omega) (gv_set_same (by omega) (by rw [List.length_map]; omega))) ?_
    refine oq (qv_mv (Value.slice (some ⟨b, 0, none⟩) n n) rfl) ?_
    refine oq (qv_len Try.underlying29 rfl rfl) ?_
    refine oq (qv_lss rfl rfl) ?_
    refine ops_nil ?_
    refine vc_if rfl (fun c2 => ?_) (fun c2 => ?_)
    ·
      refine vc_seq ?_
      refine vc_region ?_
      refine oq (qv_as (Value.bool true) rfl) ?_
      refine ops_nil ?_
      refine vc_ret ?_
      refine blockQ_ret ?_
      refine blockQ_ret ?_
      refine rq1 (Value.bool true) rfl ?_
      exact ⟨1, A.set i.toNat (gi A i + 1), by simp, by rw [List.map_set]; rfl, by rw [List.length_set]; assumption, fun _ => ⟨i, by omega, by omega, by omega, fun y a b => by rw [gi_set_other (by omega) a (by omega)]; exact ha y a (by omega), by rw [gi_set_same (by omega) (by omega)]; omega, fun y a b => by rw [gi_set_other (by omega) (by omega) (by omega)]; exact hb y a b⟩, fun h => absurd rfl h⟩
    ·
      refine vc_skip ?_
      refine vc_region ?_
      refine oq (qv_mv (Value.slice (some ⟨b, 0, none⟩) n n) rfl) ?_
      refine oq (qv_mv (Value.int .i64 i) rfl) ?_
      refine oq (qv_ia (v := (Value.slice (some ⟨b, 0, none⟩) n n)) (i := i) Try.underlying29 Try.size3 rfl (inO (k := 0) rfl (by simp only [List.length_map, List.length_set]; omega) (Nat.le_refl _) (by omega)) rfl (by omega) (by simp only [List.length_map, List.length_set]; omega)) ?_
      refine ops_ste (k := 0) (b := b) (n := n) (c := n) (i := i) (cs := (((A.map (Value.int .i64))).set (i).toNat (Value.int .i64 ((gi A (i)) + 1)))) Try.size3 rfl (rfl : ev _ _ = (Value.int .i64 0)) rfl rfl (by omega) (by simp only [List.length_map, List.length_set]; omega) ?_
      refine ops_nil ?_
      refine vc_region ?_
      refine oq (qv_mv (Value.int .i64 i) rfl) ?_
      refine oq (qv_sub rfl rfl (by omega)) ?_
      refine oq (qv_as (Value.int .i64 (i - 1)) rfl) ?_
      refine ops_nil ?_
      refine ⟨(i - 1, A.set i.toNat 0), ⟨rfl, (congrArg (Value.int .i64) (show (i - 1) = ((i - 1)) from by omega)), trivial⟩, ⟨rfl, (show [(Arr 3 b ((A.set i.toNat 0 : List Int).map (Value.int .i64)))] = [(Arr 3 b (((((A.map (Value.int .i64))).set (i).toNat (Value.int .i64 ((gi A (i)) + 1)))).set (i).toNat (Value.int .i64 0)))] from by rw [List.set_set, List.map_set]), by omega, by omega, by rw [List.length_set]; assumption, fun y a b => by rw [gi_set_other (by omega) a (by omega)]; exact ha y a (by omega), fun y a b => by
        by_cases hy : y = i
        · subst hy; exact ⟨gi_set_same (by omega) (by omega), by omega⟩
        · rw [gi_set_other (by omega) (by omega) (by omega)]; exact hb y (by omega) b⟩, by omega⟩
  ·
    refine vc_exit ?_
    refine blockQ_hit ?_
    refine vc_seq ?_
    refine vc_region ?_
    refine oq (qv_as (Value.bool false) rfl) ?_
    refine ops_nil ?_
    refine vc_ret ?_
    refine rq1 (Value.bool false) rfl ?_
    exact ⟨0, A, by simp, rfl, by assumption, fun h => by omega, fun _ y a b => (hb y (by omega) b).2⟩

end Go.Proofs.Ytmkbjhligjnagaa
