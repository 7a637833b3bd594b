/- Walks of merge: what each function returns. Printed by a program out of notes. -/
import Derived.Test.YtmkbjhligjnagaaMg6
import Derived.Test.YtmkbjhligjnagaaMgK
namespace Go.Proofs.Ytmkbjhligjnagaa
open Go.Vc
open Classical

set_option maxRecDepth 100000 in
theorem known_c {V : HV} :
    FnC Try.prog 11 [] V [] (fun v _ _ => v = (Value.bool true)) := by
  refine fn_intro (N := 52) Try.func11 (by kernel_rfl) rfl rfl rfl (Nat.le_of_ble_eq_true rfl) ?_
  intro w0 D
  refine vc_seq ?_
  refine vc_region ?_
  refine oq (qv_as (Value.bool false) rfl) ?_
  refine ops_nil ?_
  refine vc_seq ?_
  refine vc_region ?_
  refine ops_lit (n := 3) (s := 1) (cs := [(Value.int .i64 0), (Value.int .i64 1), (Value.int .i64 5)]) Try.underlying29 Try.ti3 (Nat.le_of_ble_eq_true rfl) rfl rfl rfl (Nat.le_of_ble_eq_true rfl) rfl (fun b1 => ?_)
  refine ops_lit (n := 3) (s := 1) (cs := [(Value.int .i64 1), (Value.int .i64 0), (Value.int .i64 2)]) Try.underlying29 Try.ti3 (Nat.le_of_ble_eq_true rfl) rfl rfl rfl (Nat.le_of_ble_eq_true rfl) rfl (fun b2 => ?_)
  refine ops_lit (n := 3) (s := 1) (cs := [(Value.int .i64 5), (Value.int .i64 2), (Value.int .i64 0)]) Try.underlying29 Try.ti3 (Nat.le_of_ble_eq_true rfl) rfl rfl rfl (Nat.le_of_ble_eq_true rfl) rfl (fun b3 => ?_)
  refine ops_lit (n := 3) (s := 1) (cs := [(Value.slice (some ⟨b1, 0, none⟩) 3 3), (Value.slice (some ⟨b2, 0, none⟩) 3 3), (Value.slice (some ⟨b3, 0, none⟩) 3 3)]) Try.underlying23 Try.ti29 (Nat.le_of_ble_eq_true rfl) rfl rfl rfl (Nat.le_of_ble_eq_true rfl) rfl (fun b4 => ?_)
  refine oq (qv_as (Value.slice (some ⟨b4, 0, none⟩) 3 3) rfl) ?_
  refine ops_nil ?_
  refine vc_seq ?_
  refine vc_freeze (b := b1) (o := .cells ([(Value.int .i64 0), (Value.int .i64 1), (Value.int .i64 5)] : List Value).toArray 3 (0, 0)) (σr := [(Arr 3 b2 [(Value.int .i64 1), (Value.int .i64 0), (Value.int .i64 2)]), (Arr 3 b3 [(Value.int .i64 5), (Value.int .i64 2), (Value.int .i64 0)]), (Arr 29 b4 [(Value.slice (some ⟨b1, 0, none⟩) 3 3), (Value.slice (some ⟨b2, 0, none⟩) 3 3), (Value.slice (some ⟨b3, 0, none⟩) 3 3)])]) (List.perm_middle (l₁ := []) (l₂ := [(Arr 3 b2 [(Value.int .i64 1), (Value.int .i64 0), (Value.int .i64 2)]), (Arr 3 b3 [(Value.int .i64 5), (Value.int .i64 2), (Value.int .i64 0)]), (Arr 29 b4 [(Value.slice (some ⟨b1, 0, none⟩) 3 3), (Value.slice (some ⟨b2, 0, none⟩) 3 3), (Value.slice (some ⟨b3, 0, none⟩) 3 3)])])) (fun Vf1 hVf1 hb1 => ?_)
  have hc1 : Cells Vf1 b1 [(Value.int .i64 0), (Value.int .i64 1), (Value.int .i64 5)] := ⟨_, _, hb1⟩
  refine vc_freeze (b := b2) (o := .cells ([(Value.int .i64 1), (Value.int .i64 0), (Value.int .i64 2)] : List Value).toArray 3 (0, 0)) (σr := [(Arr 3 b3 [(Value.int .i64 5), (Value.int .i64 2), (Value.int .i64 0)]), (Arr 29 b4 [(Value.slice (some ⟨b1, 0, none⟩) 3 3), (Value.slice (some ⟨b2, 0, none⟩) 3 3), (Value.slice (some ⟨b3, 0, none⟩) 3 3)])]) (List.perm_middle (l₁ := []) (l₂ := [(Arr 3 b3 [(Value.int .i64 5), (Value.int .i64 2), (Value.int .i64 0)]), (Arr 29 b4 [(Value.slice (some ⟨b1, 0, none⟩) 3 3), (Value.slice (some ⟨b2, 0, none⟩) 3 3), (Value.slice (some ⟨b3, 0, none⟩) 3 3)])])) (fun Vf2 hVf2 hb2 => ?_)
  have hc2 : Cells Vf2 b2 [(Value.int .i64 1), (Value.int .i64 0), (Value.int .i64 2)] := ⟨_, _, hb2⟩
  have hc1 := hc1.mono hVf2
  refine vc_freeze (b := b3) (o := .cells ([(Value.int .i64 5), (Value.int .i64 2), (Value.int .i64 0)] : List Value).toArray 3 (0, 0)) (σr := [(Arr 29 b4 [(Value.slice (some ⟨b1, 0, none⟩) 3 3), (Value.slice (some ⟨b2, 0, none⟩) 3 3), (Value.slice (some ⟨b3, 0, none⟩) 3 3)])]) (List.perm_middle (l₁ := []) (l₂ := [(Arr 29 b4 [(Value.slice (some ⟨b1, 0, none⟩) 3 3), (Value.slice (some ⟨b2, 0, none⟩) 3 3), (Value.slice (some ⟨b3, 0, none⟩) 3 3)])])) (fun Vf3 hVf3 hb3 => ?_)
  have hc3 : Cells Vf3 b3 [(Value.int .i64 5), (Value.int .i64 2), (Value.int .i64 0)] := ⟨_, _, hb3⟩
  have hc1 := hc1.mono hVf3
  have hc2 := hc2.mono hVf3
  refine vc_freeze (b := b4) (o := .cells ([(Value.slice (some ⟨b1, 0, none⟩) 3 3), (Value.slice (some ⟨b2, 0, none⟩) 3 3), (Value.slice (some ⟨b3, 0, none⟩) 3 3)] : List Value).toArray 29 (0, 0)) (σr := []) (List.perm_middle (l₁ := []) (l₂ := [])) (fun Vf4 hVf4 hb4 => ?_)
  have hc4 : Cells Vf4 b4 [(Value.slice (some ⟨b1, 0, none⟩) 3 3), (Value.slice (some ⟨b2, 0, none⟩) 3 3), (Value.slice (some ⟨b3, 0, none⟩) 3 3)] := ⟨_, _, hb4⟩
  have hc1 := hc1.mono hVf4
  have hc2 := hc2.mono hVf4
  have hc3 := hc3.mono hVf4
  refine vc_region ?_
  have hl : Mat .i64 Vf4 (Value.slice (some ⟨b4, 0, none⟩) 3 3) _ L0 := ⟨sl_cells hc4 rfl (Nat.le_refl _) (by omega), rfl, fun i h0 h1 => by
    have h1 : i < 3 := h1
    have h2 : i = 0 ∨ i = 1 ∨ i = 2 := by omega
    rcases h2 with rfl | rfl | rfl
    · exact sl_cells hc1 rfl (Nat.le_refl _) (by omega)
    · exact sl_cells hc2 rfl (Nat.le_refl _) (by omega)
    · exact sl_cells hc3 rfl (Nat.le_refl _) (by omega)⟩
  refine oq (qv_mv (Value.slice (some ⟨b4, 0, none⟩) 3 3) rfl) ?_
  refine ops_call (σa := []) (σr := []) (Ordered_c (k := 2) hl) rfl rfl (.refl _) (fun r1 V1 sg1 hV1 hp1 => ?_)
  obtain ⟨rfl, gg, tt, tv, hv, hgg, htt⟩ := hp1
  rw [oN_0, oE_0] at hv
  subst hv
  have hl := hl.mono hV1
  refine oq (qv_mv (Value.tuple #[gg, (Value.int .i64 1), tt, (Value.int .i64 0)]) rfl) ?_
  refine oq (qv_ext gg rfl rfl) ?_
  refine oq (qv_ext (Value.int .i64 1) rfl rfl) ?_
  refine oq (qv_ext tt rfl rfl) ?_
  refine oq (qv_ext (Value.int .i64 0) rfl rfl) ?_
  refine oq (qv_as gg rfl) ?_
  refine oq (qv_as (Value.int .i64 1) rfl) ?_
  refine oq (qv_as tt rfl) ?_
  refine oq (qv_as (Value.int .i64 0) rfl) ?_
  refine ops_nil ?_
  refine vc_seq ?_
  refine vc_region ?_
  refine oq (qv_mv (Value.slice (some ⟨b4, 0, none⟩) 3 3) rfl) ?_
  refine ops_lit (n := 3) (s := 1) (cs := [(Value.int .i64 1), (Value.int .i64 2), (Value.int .i64 2)]) Try.underlying30 Try.ti3 (Nat.le_of_ble_eq_true rfl) rfl rfl rfl (Nat.le_of_ble_eq_true rfl) rfl (fun b5 => ?_)
  refine ops_freeze (b := b5) (o := .cells ([(Value.int .i64 1), (Value.int .i64 2), (Value.int .i64 2)] : List Value).toArray 3 (0, 0)) (σr := []) (List.perm_middle (l₁ := []) (l₂ := [])) (fun Vf5 hVf5 hb5 => ?_)
  have hc5 : Cells Vf5 b5 [(Value.int .i64 1), (Value.int .i64 2), (Value.int .i64 2)] := ⟨_, _, hb5⟩
  have hl := hl.mono hVf5
  have hgg := hgg.mono hVf5
  have htt := htt.mono hVf5
  have hg2 : Ints .i64 Vf5 (Value.slice (some ⟨b5, 0, none⟩) 3 3) [1, 2, 2] := sl_cells hc5 rfl (Nat.le_refl _) (by omega)
  refine oq (qv_call (v := (Value.tuple #[(Value.int .i64 (cN L0 [1, 2, 2])), (Value.int .i64 (cE L0 [1, 2, 2]))])) (Cost_c hl hg2) rfl rfl) ?_
  refine oq (qv_mv (Value.tuple #[(Value.int .i64 (cN L0 [1, 2, 2])), (Value.int .i64 (cE L0 [1, 2, 2]))]) rfl) ?_
  refine oq (qv_ext (Value.int .i64 (cN L0 [1, 2, 2])) rfl rfl) ?_
  refine oq (qv_ext (Value.int .i64 (cE L0 [1, 2, 2])) rfl rfl) ?_
  refine oq (qv_as (Value.int .i64 (cN L0 [1, 2, 2])) rfl) ?_
  refine oq (qv_as (Value.int .i64 (cE L0 [1, 2, 2])) rfl) ?_
  refine ops_nil ?_
  refine vc_seq ?_
  refine vc_region ?_
  refine oq (qv_mv (Value.int .i64 0) rfl) ?_
  refine oq (qv_eql rfl rfl) ?_
  refine oq (qv_mv (Value.bool (decide (0 = 0))) rfl) ?_
  by_cases g1 : 0 = 0
  ·
    refine og (qv_mv (Value.int .i64 1) rfl) (want_t g1 rfl rfl rfl) ?_
    refine og (qv_eql rfl rfl) (want_t g1 rfl rfl rfl) ?_
    refine oq (qv_pick_t g1 rfl (rfl : ev _ _ = (Value.bool (decide (1 = 1))))) ?_
    refine oq (qv_mv (Value.bool (decide (1 = 1))) rfl) ?_
    by_cases g2 : 1 = 1
    ·
      refine og (qv_mv gg rfl) (want_t g2 rfl rfl rfl) ?_
      refine ops_want (want_t g2 rfl rfl rfl) ?_
      refine ops_lit (n := 3) (s := 1) (cs := [(Value.int .i64 0), (Value.int .i64 0), (Value.int .i64 2)]) Try.underlying30 Try.ti3 (Nat.le_of_ble_eq_true rfl) rfl rfl rfl (Nat.le_of_ble_eq_true rfl) rfl (fun b6 => ?_)
      refine ops_freeze (b := b6) (o := .cells ([(Value.int .i64 0), (Value.int .i64 0), (Value.int .i64 2)] : List Value).toArray 3 (0, 0)) (σr := []) (List.perm_middle (l₁ := []) (l₂ := [])) (fun Vf6 hVf6 hb6 => ?_)
      have hc6 : Cells Vf6 b6 [(Value.int .i64 0), (Value.int .i64 0), (Value.int .i64 2)] := ⟨_, _, hb6⟩
      have hl := hl.mono hVf6
      have hgg := hgg.mono hVf6
      have htt := htt.mono hVf6
      have hc5 := hc5.mono hVf6
      have hg3 : Ints .i64 Vf6 (Value.slice (some ⟨b6, 0, none⟩) 3 3) [0, 0, 2] := sl_cells hc6 rfl (Nat.le_refl _) (by omega)
      refine og (qv_call (v := (Value.bool (decide (oG L0 2 = [0, 0, 2])))) (Equal_c hgg hg3) rfl rfl) (want_t g2 rfl rfl rfl) ?_
      refine oq (qv_pick_t g2 rfl (rfl : ev _ _ = (Value.bool (decide (oG L0 2 = [0, 0, 2]))))) ?_
      refine oq (qv_mv (Value.bool (decide (oG L0 2 = [0, 0, 2]))) rfl) ?_
      by_cases g3 : oG L0 2 = [0, 0, 2]
      ·
        refine og (qv_mv (Value.slice (some ⟨b4, 0, none⟩) 3 3) rfl) (want_t g3 rfl rfl rfl) ?_
        refine og (qv_mv tt rfl) (want_t g3 rfl rfl rfl) ?_
        refine og (qv_call (v := (Value.int .i64 (poE L0 2 (oT L0 2) 1))) (ProveOrdered_c (k := 2) (c := 1) hl htt) rfl rfl) (want_t g3 rfl rfl rfl) ?_
        refine og (qv_eql rfl rfl) (want_t g3 rfl rfl rfl) ?_
        refine oq (qv_pick_t g3 rfl (rfl : ev _ _ = (Value.bool (decide ((poE L0 2 (oT L0 2) 1) = 0))))) ?_
        refine oq (qv_mv (Value.bool (decide ((poE L0 2 (oT L0 2) 1) = 0))) rfl) ?_
        by_cases g4 : (poE L0 2 (oT L0 2) 1) = 0
        ·
          refine og (qv_mv (Value.slice (some ⟨b4, 0, none⟩) 3 3) rfl) (want_t g4 rfl rfl rfl) ?_
          refine og (qv_mv tt rfl) (want_t g4 rfl rfl rfl) ?_
          refine og (qv_call (v := (Value.int .i64 (poE L0 2 (oT L0 2) 2))) (ProveOrdered_c (k := 2) (c := 2) hl htt) rfl rfl) (want_t g4 rfl rfl rfl) ?_
          refine og (qv_eql rfl rfl) (want_t g4 rfl rfl rfl) ?_
          refine oq (qv_pick_t g4 rfl (rfl : ev _ _ = (Value.bool (decide ((poE L0 2 (oT L0 2) 2) = 13))))) ?_
          refine oq (qv_mv (Value.bool (decide ((poE L0 2 (oT L0 2) 2) = 13))) rfl) ?_
          by_cases g5 : (poE L0 2 (oT L0 2) 2) = 13
          ·
            refine og (qv_mv (Value.int .i64 (cE L0 [1, 2, 2])) rfl) (want_t g5 rfl rfl rfl) ?_
            refine og (qv_eql rfl rfl) (want_t g5 rfl rfl rfl) ?_
            refine oq (qv_pick_t g5 rfl (rfl : ev _ _ = (Value.bool (decide ((cE L0 [1, 2, 2]) = 15))))) ?_
            refine oq (qv_as (Value.bool (decide ((cE L0 [1, 2, 2]) = 15))) rfl) ?_
            refine ops_nil ?_
            refine vc_ret ?_
            exact rq1 (Value.bool true) (congrArg Value.bool (decide_eq_true (show ((cE L0 [1, 2, 2]) = 15) from by exact cE_0))) rfl
          ·
            exact absurd (po_2) g5
        ·
          exact absurd (po_1) g4
      ·
        exact absurd (oG_0) g3
    ·
      exact absurd (rfl) g2
  ·
    exact absurd (rfl) g1

end Go.Proofs.Ytmkbjhligjnagaa
