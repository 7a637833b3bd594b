/- Walks of merge: what each function returns. Printed by a program out of notes. -/
import Derived.Test.YtmkbjhligjnagaaMg1
namespace Go.Proofs.Ytmkbjhligjnagaa
open Go.Vc
open Classical

set_option maxRecDepth 100000 in
theorem intervals_c {V : HV} {l : Value} {rv : List Value} {L : List (List Int)} (hl : Mat .i64 V l rv L) (hg : Good L) :
    FnC Try.prog 33 [l] V [] (fun v V' σ' => σ' = [] ∧ ∃ cv, Mat .i64 V' v cv (ivals L)) := by
  refine fn_intro (N := 41) Try.func33 (by kernel_rfl) rfl rfl rfl (Nat.le_of_ble_eq_true rfl) ?_
  intro w0 D
  have hlen := hl.len
  have hle := hg.le
  have hpos := hg.pos
  refine vc_seq ?_
  refine vc_region ?_
  refine oq (qv_as (Value.slice none 0 0) rfl) ?_
  refine ops_nil ?_
  refine vc_seq ?_
  refine vc_region ?_
  refine oq (qv_mv l rfl) ?_
  refine oq (qv_lenS Try.underlying23 rfl hl.sl) ?_
  refine oq (qv_as (Value.int .i64 ((rv.length : Int))) rfl) ?_
  refine ops_nil ?_
  refine vc_seq ?_
  refine vc_region ?_
  refine oq (qv_mv (Value.int .i64 ((rv.length : Int))) rfl) ?_
  refine oq (qv_add rfl rfl (by omega)) ?_
  refine ops_make (n := ((rv.length : Int)) + 1) Try.underlying22 Try.ti29 rfl rfl rfl rfl (by omega) (by omega) (by omega) (fun b1 => ?_)
  refine oq (qv_as (Value.slice (some ⟨b1, 0, none⟩) (((rv.length : Int)) + 1).toNat (((rv.length : Int)) + 1).toNat) rfl) ?_
  refine ops_nil ?_
  refine vc_seq ?_
  refine vc_seq ?_
  refine vc_region ?_
  refine oq (qv_mv (Value.slice (some ⟨b1, 0, none⟩) (((rv.length : Int)) + 1).toNat (((rv.length : Int)) + 1).toNat) rfl) ?_
  refine oq (qv_len Try.underlying22 rfl rfl) ?_
  refine oq (qv_mv (Value.int .i64 0) rfl) ?_
  refine ops_nil ?_
  refine vc_block ?_
  refine vc_loop (α := Int × List Value) (fun (x : Int × List Value) => [(0, l), (2, (Value.slice none 0 0)), (3, (Value.int .i64 ((rv.length : Int)))), (4, (Value.slice (some ⟨b1, 0, none⟩) (((rv.length : Int)) + 1).toNat (((rv.length : Int)) + 1).toNat)), (13, (Value.int .i64 (((((rv.length : Int)) + 1).toNat : Int)))), (14, (Value.int .i64 x.1))]) (fun (x : Int × List Value) V' σ' => [(Arr 29 b1 x.2)] = σ' ∧ Mat .i64 V' l rv L ∧ 0 ≤ x.1 ∧ x.1 ≤ rv.length + 1 ∧ x.2.length = rv.length + 1 ∧ ∀ j : Int, 0 ≤ j → j < x.1 → Ints .i64 V' (gv x.2 j) (gr (ivals L) j)) (fun (x : Int × List Value) => (rv.length + 1 - x.1).toNat) (0, (List.replicate ((rv.length : Int) + 1).toNat (Value.slice none 0 0))) ?_ ?_ ?_
  · exact ⟨rfl, rfl, rfl, rfl, rfl, rfl, trivial⟩
  · exact ⟨rfl, hl, by omega, by omega, by rw [List.length_replicate]; omega, fun j a b => by omega⟩
  rintro ⟨h, top⟩ e1 V0l σ0l hI0
  obtain ⟨rfl, hl, h0, h1, h2, h3⟩ : [(Arr 29 b1 top)] = σ0l ∧ Mat .i64 V0l l rv L ∧ 0 ≤ h ∧ h ≤ rv.length + 1 ∧ top.length = rv.length + 1 ∧ ∀ j : Int, 0 ≤ j → j < h → Ints .i64 V0l (gv top j) (gr (ivals L) j) := hI0
  change VC _ _ _ _ _ _ (upds 41 [(0, l), (2, (Value.slice none 0 0)), (3, (Value.int .i64 ((rv.length : Int)))), (4, (Value.slice (some ⟨b1, 0, none⟩) (((rv.length : Int)) + 1).toNat (((rv.length : Int)) + 1).toNat)), (13, (Value.int .i64 (((((rv.length : Int)) + 1).toNat : Int)))), (14, (Value.int .i64 h))] e1) _ _
  refine vc_seq ?_
  refine vc_region ?_
  refine oq (qv_lss rfl rfl) ?_
  refine ops_nil ?_
  refine vc_seq ?_
  refine vc_if rfl (fun c1 => ?_) (fun c1 => ?_)
  ·
    refine vc_skip ?_
    refine vc_seq ?_
    refine vc_block ?_
    refine vc_seq ?_
    refine vc_region ?_
    refine oq (qv_mv (Value.int .i64 h) rfl) ?_
    refine oq (qv_as (Value.int .i64 h) rfl) ?_
    refine ops_nil ?_
    refine vc_seq ?_
    refine vc_region ?_
    refine oq (qv_mv (Value.slice (some ⟨b1, 0, none⟩) (((rv.length : Int)) + 1).toNat (((rv.length : Int)) + 1).toNat) rfl) ?_
    refine oq (qv_mv (Value.int .i64 h) rfl) ?_
    refine oq (qv_mv (Value.int .i64 ((rv.length : Int))) rfl) ?_
    refine oq (qv_add rfl rfl (by omega)) ?_
    refine ops_make (n := ((rv.length : Int)) + 1) Try.underlying29 Try.ti3 rfl rfl rfl rfl (by omega) (by omega) (by omega) (fun b2 => ?_)
    refine oq (qv_ia (v := (Value.slice (some ⟨b1, 0, none⟩) (((rv.length : Int)) + 1).toNat (((rv.length : Int)) + 1).toNat)) (i := h) Try.underlying22 Try.size29 rfl (inO (k := 0) rfl (by first | (simp only [List.length_set]; omega) | omega) (Nat.le_refl _) (by omega)) rfl (by omega) (by omega)) ?_
    refine ops_ste (k := 0) (b := b1) (n := (((rv.length : Int)) + 1).toNat) (c := (((rv.length : Int)) + 1).toNat) (i := h) (cs := top) Try.size29 rfl (rfl : ev _ _ = (Value.slice (some ⟨b2, 0, none⟩) (((rv.length : Int)) + 1).toNat (((rv.length : Int)) + 1).toNat)) rfl rfl (by omega) (by omega) ?_
    refine ops_nil ?_
    refine vc_seq ?_
    refine vc_region ?_
    refine oq (qv_mv (Value.int .i64 h) rfl) ?_
    refine oq (qv_as (Value.int .i64 h) rfl) ?_
    refine ops_nil ?_
    refine vc_block ?_
    refine vc_loop (α := Int) (fun (x : Int) => [(0, l), (2, (Value.slice none 0 0)), (3, (Value.int .i64 ((rv.length : Int)))), (4, (Value.slice (some ⟨b1, 0, none⟩) (((rv.length : Int)) + 1).toNat (((rv.length : Int)) + 1).toNat)), (5, (Value.int .i64 h)), (13, (Value.int .i64 (((((rv.length : Int)) + 1).toNat : Int)))), (14, (Value.int .i64 h)), (15, (Value.bool (decide (h < (((((rv.length : Int)) + 1).toNat : Int)))))), (6, (Value.int .i64 x))]) (fun (x : Int) V' σ' => V0l = V' ∧ [(Arr 29 b1 (top.set h.toNat (Value.slice (some ⟨b2, 0, none⟩) ((rv.length : Int) + 1).toNat ((rv.length : Int) + 1).toNat))), (Arr 3 b2 ((ivPart L h.toNat x.toNat).map (Value.int .i64)))] = σ' ∧ h ≤ x ∧ x ≤ rv.length + 1) (fun (x : Int) => (rv.length + 1 - x).toNat) (h) ?_ ?_ ?_
    · exact ⟨rfl, rfl, rfl, rfl, rfl, rfl, rfl, rfl, rfl, trivial⟩
    · exact ⟨rfl, (show [(Arr 29 b1 (top.set h.toNat (Value.slice (some ⟨b2, 0, none⟩) ((rv.length : Int) + 1).toNat ((rv.length : Int) + 1).toNat))), (Arr 3 b2 ((ivPart L h.toNat h.toNat).map (Value.int .i64)))] = [(Arr 29 b1 ((top).set (h).toNat (Value.slice (some ⟨b2, 0, none⟩) (((rv.length : Int)) + 1).toNat (((rv.length : Int)) + 1).toNat))), (Arr 3 b2 (List.replicate (((rv.length : Int)) + 1).toNat (Value.int .i64 0)))] from by rw [← ivPart_start, show ((rv.length : Int) + 1).toNat = L.length + 1 by omega]), by omega, by omega⟩
    rintro i e2 V1l σ1l hI1
    obtain ⟨rfl, rfl, g0, g1⟩ : V0l = V1l ∧ [(Arr 29 b1 (top.set h.toNat (Value.slice (some ⟨b2, 0, none⟩) ((rv.length : Int) + 1).toNat ((rv.length : Int) + 1).toNat))), (Arr 3 b2 ((ivPart L h.toNat i.toNat).map (Value.int .i64)))] = σ1l ∧ h ≤ i ∧ i ≤ rv.length + 1 := hI1
    refine vc_seq ?_
    refine vc_seq ?_
    refine vc_region ?_
    refine oq (qv_mv (Value.int .i64 i) rfl) ?_
    refine oq (qv_mv (Value.int .i64 ((rv.length : Int))) rfl) ?_
    refine oq (qv_leq rfl rfl) ?_
    refine ops_nil ?_
    refine vc_if rfl (fun c2 => ?_) (fun c2 => ?_)
    ·
      refine vc_skip ?_
      refine vc_seq ?_
      refine vc_block ?_
      refine vc_region_order (τ := []) [(0, false), (1, false), (2, false), (3, false), (4, false), (5, false), (6, false), (7, false), (8, false), (9, false), (10, true)] [(Arr 29 b1 (top.set h.toNat (Value.slice (some ⟨b2, 0, none⟩) ((rv.length : Int) + 1).toNat ((rv.length : Int) + 1).toNat))), (Arr 3 b2 ((ivPart L h.toNat i.toNat).map (Value.int .i64)))] Try.mixed (perm_nil _) (by kernel_rfl) ?_
      refine rq rfl (qv_mv (Value.slice (some ⟨b1, 0, none⟩) (((rv.length : Int)) + 1).toNat (((rv.length : Int)) + 1).toNat) rfl) ?_
      refine rq rfl (qv_mv (Value.int .i64 h) rfl) ?_
      refine rq rfl (qv_ia (v := (Value.slice (some ⟨b1, 0, none⟩) (((rv.length : Int)) + 1).toNat (((rv.length : Int)) + 1).toNat)) (i := h) Try.underlying22 Try.size29 rfl (inO (k := 0) rfl (by first | (simp only [List.length_set]; omega) | omega) (Nat.le_refl _) (by omega)) rfl (by omega) (by rw [List.length_set]; omega)) ?_
      refine rq rfl (qv_ldv (u := (Value.slice (some ⟨b2, 0, none⟩) ((rv.length : Int) + 1).toNat ((rv.length : Int) + 1).toNat)) (v := (Value.slice (some ⟨b1, 0, none⟩) (((rv.length : Int)) + 1).toNat (((rv.length : Int)) + 1).toNat)) (i := h) Try.plain29 rfl (inO (k := 0) rfl (by first | (simp only [List.length_set]; omega) | omega) (Nat.le_refl _) (by omega)) (by omega) (by rw [List.length_set]; omega) (gv_set_same h0 (by omega))) ?_
      refine rq rfl (qv_mv (Value.int .i64 i) rfl) ?_
      refine rq rfl (qv_mv l rfl) ?_
      refine rq rfl (qv_mv (Value.int .i64 h) rfl) ?_
      refine rq rfl (qv_mv (Value.int .i64 i) rfl) ?_
      refine rq rfl (qv_call (v := (Value.int .i64 (ivTo L h.toNat i.toNat (i - h).toNat))) (interval_c hl hg (by omega) (by omega) (by omega)) rfl rfl) ?_
      refine rq rfl (qv_ia (v := (Value.slice (some ⟨b2, 0, none⟩) ((rv.length : Int) + 1).toNat ((rv.length : Int) + 1).toNat)) (i := i) Try.underlying29 Try.size3 rfl (inO (k := 1) rfl (by rw [List.length_map, ivPart_len]; omega) (Nat.le_refl _) (by omega)) rfl (by omega) (by rw [List.length_map, ivPart_len]; omega)) ?_
      refine rl1 (by kernel_rfl) rfl ?_
      refine ops_ste (k := 1) (b := b2) (n := ((rv.length : Int) + 1).toNat) (c := ((rv.length : Int) + 1).toNat) (i := i) (cs := ((ivPart L h.toNat i.toNat).map (Value.int .i64))) Try.size3 rfl (rfl : ev _ _ = (Value.int .i64 (ivTo L h.toNat i.toNat (i - h).toNat))) rfl rfl (by omega) (by rw [List.length_map, ivPart_len]; omega) ?_
      refine ops_nil ⟨[(Arr 29 b1 (top.set h.toNat (Value.slice (some ⟨b2, 0, none⟩) ((rv.length : Int) + 1).toNat ((rv.length : Int) + 1).toNat))), (Arr 3 b2 ((((ivPart L h.toNat i.toNat).map (Value.int .i64))).set (i).toNat (Value.int .i64 (ivTo L h.toNat i.toNat (i - h).toNat))))], [], perm_nil _, ?_⟩
      refine rnil ?_
      refine vc_region ?_
      refine oq (qv_mv (Value.int .i64 i) rfl) ?_
      refine oq (qv_add rfl rfl (by omega)) ?_
      refine oq (qv_as (Value.int .i64 (i + 1)) rfl) ?_
      refine ops_nil ?_
      refine ⟨(i + 1), ⟨rfl, rfl, rfl, rfl, rfl, rfl, rfl, rfl, (congrArg (Value.int .i64) (show (i + 1) = ((i + 1)) from by omega)), trivial⟩, ⟨rfl, (show [(Arr 29 b1 (top.set h.toNat (Value.slice (some ⟨b2, 0, none⟩) ((rv.length : Int) + 1).toNat ((rv.length : Int) + 1).toNat))), (Arr 3 b2 ((ivPart L h.toNat (i + 1).toNat).map (Value.int .i64)))] = [(Arr 29 b1 (top.set h.toNat (Value.slice (some ⟨b2, 0, none⟩) ((rv.length : Int) + 1).toNat ((rv.length : Int) + 1).toNat))), (Arr 3 b2 ((((ivPart L h.toNat i.toNat).map (Value.int .i64))).set (i).toNat (Value.int .i64 (ivTo L h.toNat i.toNat (i - h).toNat))))] from by rw [show (i + 1).toNat = i.toNat + 1 by omega, ← ivPart_step L (by omega), List.map_set, cF, show i.toNat - h.toNat = (i - h).toNat by omega]), by omega, by omega⟩, by omega⟩
    ·
      refine vc_exit ?_
      refine blockQ_hit ?_
      refine vc_freeze (b := b2) (o := .cells (((ivPart L h.toNat i.toNat).map (Value.int .i64)) : List Value).toArray 3 (0, 0)) (σr := [(Arr 29 b1 (top.set h.toNat (Value.slice (some ⟨b2, 0, none⟩) ((rv.length : Int) + 1).toNat ((rv.length : Int) + 1).toNat)))]) (.swap _ _ _) (fun Vf1 hVf1 hb1 => ?_)
      have hc1 : Cells Vf1 b2 ((ivPart L h.toNat i.toNat).map (Value.int .i64)) := ⟨_, _, hb1⟩
      have hl := hl.mono hVf1
      refine vc_region ?_
      refine oq (qv_add rfl rfl (by omega)) ?_
      refine oq (qv_mv (Value.int .i64 (h + 1)) rfl) ?_
      refine ops_nil ?_
      refine ⟨(h + 1, top.set h.toNat (Value.slice (some ⟨b2, 0, none⟩) ((rv.length : Int) + 1).toNat ((rv.length : Int) + 1).toNat)), ⟨rfl, rfl, rfl, rfl, rfl, (congrArg (Value.int .i64) (show (h + 1) = ((h + 1)) from by omega)), trivial⟩, ⟨rfl, hl, by omega, by omega, by rw [List.length_set]; exact h2, by
        refine all_snoc (fun j a b => ?_) ?_
        · rw [gv_set_other h0 a (by omega)]; exact (h3 j a b).mono hVf1
        · rw [gv_set_same h0 (by omega), ivals_row L h h0 (by omega), ivRow, show L.length + 1 = i.toNat by omega]
          exact sl_own hb1 (by rw [List.length_map, ivPart_len]; omega) (Nat.le_refl _) (by omega)⟩, by omega⟩
  ·
    refine vc_exit ?_
    refine blockQ_hit ?_
    refine vc_seq ?_
    refine vc_freeze (b := b1) (o := .cells (top : List Value).toArray 29 (0, 0)) (σr := []) (.refl _) (fun Vf2 hVf2 hb2 => ?_)
    have hc2 : Cells Vf2 b1 top := ⟨_, _, hb2⟩
    have hl := hl.mono hVf2
    refine vc_region ?_
    refine oq (qv_mv (Value.slice (some ⟨b1, 0, none⟩) (((rv.length : Int)) + 1).toNat (((rv.length : Int)) + 1).toNat) rfl) ?_
    refine oq (qv_as (Value.slice (some ⟨b1, 0, none⟩) (((rv.length : Int)) + 1).toNat (((rv.length : Int)) + 1).toNat) rfl) ?_
    refine ops_nil ?_
    refine vc_ret ?_
    refine rq1 (Value.slice (some ⟨b1, 0, none⟩) (((rv.length : Int)) + 1).toNat (((rv.length : Int)) + 1).toNat) rfl ?_
    exact ⟨rfl, top, sl_own hb2 (by omega) (Nat.le_refl _) (by omega), by rw [ivals_len]; omega, fun j a b => (h3 j a (by rw [ivals_len] at b; omega)).mono hVf2⟩

end Go.Proofs.Ytmkbjhligjnagaa
