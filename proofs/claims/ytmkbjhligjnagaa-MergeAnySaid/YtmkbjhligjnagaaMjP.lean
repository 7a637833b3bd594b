/- Walks of merge: what each function returns. Printed by a program out of notes. -/
import Derived.Test.YtmkbjhligjnagaaMjI
import Derived.Test.YtmkbjhligjnagaaMjN
import Derived.Test.YtmkbjhligjnagaaMjO
namespace Go.Proofs.Ytmkbjhligjnagaa
open Go Go.Vc
open Classical
set_option maxRecDepth 100000
set_option maxRecDepth 100000 in
set_option maxHeartbeats 4000000 in
theorem Any_c {V : HV} {l : Value} {rv : List Value} {L : List (List Int)} {k : Int} (hl : Mat .i64 V l rv L) (h6a : anE L k = 0 → L.length ≤ 6) :
    FnC Try.prog 27 [l, (Value.int .i64 k)] V [] (fun v V' σ' => σ' = [] ∧ ∃ g G tt T, v = .tuple #[g, .int .i64 (anV L k), tt, .int .i64 (anE L k)] ∧ Ints .i64 V' g G ∧ Bes V' tt T ∧ AnOk L k G T) := by
 refine fn_intro (N := 56) Try.func27 (by kernel_rfl) rfl rfl rfl (Nat.le_of_ble_eq_true rfl) ?_
 intro w0 D
 have hlen := hl.len
 refine vc_seq ?_
 refine vc_region ?_
 refine oq (qv_as (Value.slice none 0 0) rfl) ?_
 refine oq (qv_as (Value.int .i64 0) rfl) ?_
 refine oq (qv_as (Value.slice none 0 0) rfl) ?_
 refine oq (qv_as (Value.int .i64 0) rfl) ?_
 refine ops_nil ?_
 refine vc_seq ?_
 refine vc_seq ?_
 refine vc_region ?_
 refine oq (qv_mv l rfl) ?_
 refine oq (qv_call (v := (.int .i64 (chk L))) (Check_c hl) rfl rfl) ?_
 refine oq (qv_as (.int .i64 (chk L)) rfl) ?_
 refine ops_nil ?_
 refine vc_seq ?_
 refine vc_region ?_
 refine oq (qv_mv (.int .i64 (chk L)) rfl) ?_
 refine oq (qv_neq rfl rfl) ?_
 refine ops_nil ?_
 refine vc_if rfl (fun c1 => ?_) (fun c1 => ?_)
 ·
  refine vc_seq ?_
  refine vc_region ?_
  refine oq (qv_mv (.int .i64 (chk L)) rfl) ?_
  refine oq (qv_as (Value.slice none 0 0) rfl) ?_
  refine oq (qv_as (Value.int .i64 0) rfl) ?_
  refine oq (qv_as (Value.slice none 0 0) rfl) ?_
  refine oq (qv_as (.int .i64 (chk L)) rfl) ?_
  refine ops_nil ?_
  refine vc_ret ?_
  refine rq4 (Value.slice none 0 0) (Value.int .i64 0) (Value.slice none 0 0) (.int .i64 (chk L)) rfl rfl rfl rfl ?_
  have e := anE1 (by omega) (L := L) (k := k)
  have en : anE L k ≠ 0 := by rw [e]; omega
  exact ⟨rfl, _, [], _, [], by rw [anVn en, e], Ints.nil, bes_nil, anOk_bad en⟩
 ·
  refine vc_skip ?_
  refine vc_seq ?_
  refine vc_region ?_
  refine oq (qv_mv l rfl) ?_
  refine oq (qv_lenS Try.underlying23 rfl hl.sl) ?_
  refine oq (qv_as (.int .i64 ((rv.length : Int))) rfl) ?_
  refine ops_nil ?_
  refine vc_seq ?_
  refine vc_block ?_
  refine vc_seq ?_
  refine vc_region ?_
  refine oq (qv_mv (.int .i64 ((rv.length : Int))) rfl) ?_
  refine oq (qv_gtr rfl rfl) ?_
  refine oq (qv_as (.bool (decide (8 < ((rv.length : Int))))) rfl) ?_
  refine ops_nil ?_
  refine vc_if rfl (fun c2 => ?_) (fun c2 => ?_)
  ·
   refine vc_seq ?_
   refine vc_region ?_
   refine oq (qv_as (Value.slice none 0 0) rfl) ?_
   refine oq (qv_as (Value.int .i64 0) rfl) ?_
   refine oq (qv_as (Value.slice none 0 0) rfl) ?_
   refine oq (qv_as (Value.int .i64 4) rfl) ?_
   refine ops_nil ?_
   refine vc_ret ?_
   refine blockQ_ret ?_
   refine rq4 (Value.slice none 0 0) (Value.int .i64 0) (Value.slice none 0 0) (Value.int .i64 4) rfl rfl rfl rfl ?_
   have e := anE4 (by omega) (by omega) (L := L) (k := k)
   have en : anE L k ≠ 0 := by rw [e]; omega
   exact ⟨rfl, _, [], _, [], by rw [anVn en, e], Ints.nil, bes_nil, anOk_bad en⟩
  ·
   refine vc_seq ?_
   refine vc_region ?_
   refine oq (qv_mv (Value.int .i64 k) rfl) ?_
   refine oq (qv_call (v := (.bool (decide (1 ≤ k ∧ k ≤ 32)))) (groups_c) rfl rfl) ?_
   refine oq (qv_not rfl) ?_
   refine oq (qv_as (.bool (decide (¬ (1 ≤ k ∧ k ≤ 32)))) rfl) ?_
   refine ops_nil ?_
   refine vc_if rfl (fun c3 => ?_) (fun c3 => ?_)
   ·
    refine vc_seq ?_
    refine vc_region ?_
    refine oq (qv_as (Value.slice none 0 0) rfl) ?_
    refine oq (qv_as (Value.int .i64 0) rfl) ?_
    refine oq (qv_as (Value.slice none 0 0) rfl) ?_
    refine oq (qv_as (Value.int .i64 3) rfl) ?_
    refine ops_nil ?_
    refine vc_ret ?_
    refine blockQ_ret ?_
    refine rq4 (Value.slice none 0 0) (Value.int .i64 0) (Value.slice none 0 0) (Value.int .i64 3) rfl rfl rfl rfl ?_
    have e := anE3 (by omega) (by omega) (by assumption) (L := L) (k := k)
    have en : anE L k ≠ 0 := by rw [e]; omega
    exact ⟨rfl, _, [], _, [], by rw [anVn en, e], Ints.nil, bes_nil, anOk_bad en⟩
   ·
    refine vc_skip ?_
    refine vc_seq ?_
    have hch : chk L = 0 := by omega
    have hg := good_of_chk hch
    have hk : 1 ≤ k ∧ k ≤ 32 := by omega
    have hE0 := anE0 (k := k) hch (by omega) hk
    have h6 := h6a hE0
    have hpos := hg.pos
    have hpw := pw6 h6
    have hp2 := pw_mono (a := 1) (b := L.length) (by omega)
    refine vc_region ?_
    refine oq (qv_mv l rfl) ?_
    refine ops_call (σa := []) (σr := []) (sets_c hl hg h6) rfl rfl (.refl _) (fun r1 V1 sg1 hV1 hp1 => ?_)
    obtain ⟨rfl, C, hC, hS⟩ := hp1
    have hl := hl.mono hV1
    refine ops_mkmap0 k2v (Value.int .i64) (fun b1 => ?_)
    refine oq (qv_build (out := [r1, (Value.map (some b1))]) Try.build82 [(0, [r1]), (1, [(Value.map (some b1))])] (by show [(0, Value.cells r1), (1, Value.cells (Value.map (some b1)))] = _; rw [(Sl.cells hC)]; try rfl) rfl) ?_
    refine ops_box (v := (.agg #[r1, (Value.map (some b1))])) (cs := [r1, (Value.map (some b1))]) rfl rfl (fun b2 => ?_)
    refine oq (qv_as (Value.pointer (some ⟨b2, 0, none⟩)) rfl) ?_
    refine ops_nil ?_
    refine vc_seq ?_
    refine vc_res (σ' := [(Mf b1 k2v (Value.int .i64) (fun _ => none)), (Arr 82 b2 [r1, (Value.map (some b1))])]) rfl ?_
    refine vc_freeze (b := b2) (o := .cells ([r1, (Value.map (some b1))] : List Value).toArray 82 (0, 0)) (σr := [(Mf b1 k2v (Value.int .i64) (fun _ => none))]) (List.perm_middle (l₁ := [(Mf b1 k2v (Value.int .i64) (fun _ => none))]) (l₂ := [])) (fun Vf1 hVf1 hb1 => ?_)
    have hc1 : Cells Vf1 b2 [r1, (Value.map (some b1))] := ⟨_, _, hb1⟩
    have hl := hl.mono hVf1
    have hC := hC.mono hVf1
    refine vc_region ?_
    refine oq (qv_mv (Value.pointer (some ⟨b2, 0, none⟩)) rfl) ?_
    refine oq (qv_mv (.int .i64 ((rv.length : Int))) rfl) ?_
    refine oq (qv_to (by rw [Int.one_mul, show ((rv.length : Int) : Int).toNat = L.length by omega]) (qv_shli rfl rfl (by omega) (by omega) (by rw [show ((rv.length : Int) : Int).toNat = L.length by omega]; omega))) ?_
    refine oq (qv_sub rfl rfl (by omega)) ?_
    refine oq (qv_mv (Value.int .i64 k) rfl) ?_
    refine ops_call (σa := [(Mf b1 k2v (Value.int .i64) (fun _ => none))]) (σr := []) (val_c 32 _ (2 ^ L.length - 1) k (fun _ => none) (K := k) ⟨hc1, hC, hS, hg, h6, by omega⟩ (by omega) (by omega) (by omega) (by omega) (by omega) vok_none) rfl rfl (.refl _) (fun r2 V2 sg2 hV2 hp2 => ?_)
    obtain ⟨F1, rfl, rfl, hP⟩ := hp2
    have hl := hl.mono hV2
    have hC := hC.mono hV2
    have hc1 := hc1.mono hV2
    refine oq (qv_as (.int .i64 (VA L (k - 1).toNat (2 ^ L.length - 1))) rfl) ?_
    refine ops_nil ?_
    refine vc_seq ?_
    refine vc_res (σ' := [(Mf b1 k2v (Value.int .i64) F1)]) rfl ?_
    refine vc_join (α := Nat × Nat × Nat) (fun xx => [(0, l), (1, (Value.int .i64 k)), (4, (Value.slice none 0 0)), (5, (Value.int .i64 0)), (6, (Value.slice none 0 0)), (7, (Value.int .i64 0)), (8, (.int .i64 (chk L))), (9, (.int .i64 ((rv.length : Int)))), (10, (Value.pointer (some ⟨b2, 0, none⟩))), (11, (.int .i64 (VA L (k - 1).toNat (2 ^ L.length - 1)))), (12, (Value.pointer (some ⟨xx.2.2, 0, none⟩))), (16, (.bool (decide ((chk L) ≠ 0)))), (20, (.bool (decide (8 < ((rv.length : Int)))))), (23, (.bool (decide (¬ (1 ≤ k ∧ k ≤ 32)))))]) (fun xx V' σ' => V2 = V' ∧ [(Mf b1 k2v (Value.int .i64) F1), (Arr 3 xx.1 (List.replicate ((rv.length : Int)).toNat (Value.int .i64 0))), (Arr 3 xx.2.1 (List.replicate ((rv.length : Int)).toNat (Value.int .i64 0))), (Arr 86 xx.2.2 [l, (Value.int .i64 k), (.int .i64 (VA L (k - 1).toNat (2 ^ L.length - 1))), (.slice (some ⟨xx.1, 0, none⟩) ((rv.length : Int)).toNat ((rv.length : Int)).toNat), (.slice (some ⟨xx.2.1, 0, none⟩) ((rv.length : Int)).toNat ((rv.length : Int)).toNat)])] = σ') ?_ ?_
    ·
     refine vc_region_E (τ := []) (n := 10) [(Mf b1 k2v (Value.int .i64) F1)] Try.mixed (perm_nil _) rfl ?_
     refine eq_ (i := 0) (by kernel_rfl) rfl (qv_mv l rfl) ?_
     refine eq_ (i := 1) (by kernel_rfl) rfl (qv_mv (Value.int .i64 k) rfl) ?_
     refine eq_ (i := 2) (by kernel_rfl) rfl (qv_mv (.int .i64 (VA L (k - 1).toNat (2 ^ L.length - 1))) rfl) ?_
     refine eq_ (i := 3) (by kernel_rfl) rfl (qv_mv (.int .i64 ((rv.length : Int))) rfl) ?_
     refine eq_ (i := 5) (by kernel_rfl) rfl (qv_mv (.int .i64 ((rv.length : Int))) rfl) ?_
     refine el2 (i := 4) (j := 6) (by kernel_rfl) ?_ ?_
     ·
      refine ⟨_, rfl, ?_⟩
      refine ops_make (n := (rv.length : Int)) Try.underlying30 Try.ti3 rfl rfl rfl rfl (by omega) (by omega) (by omega) (fun b3 => ?_)
      refine ops_nil ⟨[(Mf b1 k2v (Value.int .i64) F1), (Arr 3 b3 (List.replicate ((rv.length : Int)).toNat (Value.int .i64 0)))], [], (perm_nil _), .inl ⟨(Sub.refl _), [(Arr 3 b3 (List.replicate ((rv.length : Int)).toNat (Value.int .i64 0)))], .refl _⟩, ?_⟩
      refine el1 (i := 6) (by kernel_rfl) ?_
      refine ⟨_, rfl, ?_⟩
      refine ops_make (n := (rv.length : Int)) Try.underlying29 Try.ti3 rfl rfl rfl rfl (by omega) (by omega) (by omega) (fun b4 => ?_)
      refine ops_nil ⟨[(Mf b1 k2v (Value.int .i64) F1), (Arr 3 b3 (List.replicate ((rv.length : Int)).toNat (Value.int .i64 0))), (Arr 3 b4 (List.replicate ((rv.length : Int)).toNat (Value.int .i64 0)))], [], (perm_nil _), .inl ⟨(Sub.refl _), [(Arr 3 b4 (List.replicate ((rv.length : Int)).toNat (Value.int .i64 0)))], .refl _⟩, ?_⟩
      refine eq_ (i := 7) (by kernel_rfl) rfl (qv_build (out := [l, (Value.int .i64 k), (.int .i64 (VA L (k - 1).toNat (2 ^ L.length - 1))), (.slice (some ⟨b3, 0, none⟩) ((rv.length : Int)).toNat ((rv.length : Int)).toNat), (.slice (some ⟨b4, 0, none⟩) ((rv.length : Int)).toNat ((rv.length : Int)).toNat)]) Try.build86 [(0, [l]), (1, [(Value.int .i64 k)]), (2, [(.int .i64 (VA L (k - 1).toNat (2 ^ L.length - 1)))]), (3, [(.slice (some ⟨b3, 0, none⟩) ((rv.length : Int)).toNat ((rv.length : Int)).toNat)]), (4, [(.slice (some ⟨b4, 0, none⟩) ((rv.length : Int)).toNat ((rv.length : Int)).toNat)])] (by show [(0, Value.cells l), (1, Value.cells (Value.int .i64 k)), (2, Value.cells (.int .i64 (VA L (k - 1).toNat (2 ^ L.length - 1)))), (3, Value.cells (.slice (some ⟨b3, 0, none⟩) ((rv.length : Int)).toNat ((rv.length : Int)).toNat)), (4, Value.cells (.slice (some ⟨b4, 0, none⟩) ((rv.length : Int)).toNat ((rv.length : Int)).toNat))] = _; rw [hl.sl.cells]; try rfl) rfl) ?_
      refine el1 (i := 8) (by kernel_rfl) ?_
      refine ⟨_, rfl, ?_⟩
      refine ops_box (v := (.agg #[l, (Value.int .i64 k), (.int .i64 (VA L (k - 1).toNat (2 ^ L.length - 1))), (.slice (some ⟨b3, 0, none⟩) ((rv.length : Int)).toNat ((rv.length : Int)).toNat), (.slice (some ⟨b4, 0, none⟩) ((rv.length : Int)).toNat ((rv.length : Int)).toNat)])) (cs := [l, (Value.int .i64 k), (.int .i64 (VA L (k - 1).toNat (2 ^ L.length - 1))), (.slice (some ⟨b3, 0, none⟩) ((rv.length : Int)).toNat ((rv.length : Int)).toNat), (.slice (some ⟨b4, 0, none⟩) ((rv.length : Int)).toNat ((rv.length : Int)).toNat)]) rfl rfl (fun b5 => ?_)
      refine ops_nil ⟨[(Mf b1 k2v (Value.int .i64) F1), (Arr 3 b3 (List.replicate ((rv.length : Int)).toNat (Value.int .i64 0))), (Arr 3 b4 (List.replicate ((rv.length : Int)).toNat (Value.int .i64 0))), (Arr 86 b5 [l, (Value.int .i64 k), (.int .i64 (VA L (k - 1).toNat (2 ^ L.length - 1))), (.slice (some ⟨b3, 0, none⟩) ((rv.length : Int)).toNat ((rv.length : Int)).toNat), (.slice (some ⟨b4, 0, none⟩) ((rv.length : Int)).toNat ((rv.length : Int)).toNat)])], [], (perm_nil _), .inl ⟨(Sub.refl _), [(Arr 86 b5 [l, (Value.int .i64 k), (.int .i64 (VA L (k - 1).toNat (2 ^ L.length - 1))), (.slice (some ⟨b3, 0, none⟩) ((rv.length : Int)).toNat ((rv.length : Int)).toNat), (.slice (some ⟨b4, 0, none⟩) ((rv.length : Int)).toNat ((rv.length : Int)).toNat)])], .refl _⟩, ?_⟩
      refine eq_ (i := 9) (by kernel_rfl) rfl (qv_as (Value.pointer (some ⟨b5, 0, none⟩)) rfl) ?_
      refine enil (σ' := [(Mf b1 k2v (Value.int .i64) F1), (Arr 3 b3 (List.replicate ((rv.length : Int)).toNat (Value.int .i64 0))), (Arr 3 b4 (List.replicate ((rv.length : Int)).toNat (Value.int .i64 0))), (Arr 86 b5 [l, (Value.int .i64 k), (.int .i64 (VA L (k - 1).toNat (2 ^ L.length - 1))), (.slice (some ⟨b3, 0, none⟩) ((rv.length : Int)).toNat ((rv.length : Int)).toNat), (.slice (some ⟨b4, 0, none⟩) ((rv.length : Int)).toNat ((rv.length : Int)).toNat)])]) (by kernel_rfl) (perm_idx _ _ [0, 1, 2, 3] rfl rfl) ⟨(b3, b4, b5), ⟨rfl, rfl, rfl, rfl, rfl, rfl, rfl, rfl, rfl, rfl, rfl, rfl, rfl, rfl, trivial⟩, rfl, rfl⟩
     ·
      refine ⟨_, rfl, ?_⟩
      refine ops_make (n := (rv.length : Int)) Try.underlying29 Try.ti3 rfl rfl rfl rfl (by omega) (by omega) (by omega) (fun b6 => ?_)
      refine ops_nil ⟨[(Mf b1 k2v (Value.int .i64) F1), (Arr 3 b6 (List.replicate ((rv.length : Int)).toNat (Value.int .i64 0)))], [], (perm_nil _), .inl ⟨(Sub.refl _), [(Arr 3 b6 (List.replicate ((rv.length : Int)).toNat (Value.int .i64 0)))], .refl _⟩, ?_⟩
      refine el1 (i := 4) (by kernel_rfl) ?_
      refine ⟨_, rfl, ?_⟩
      refine ops_make (n := (rv.length : Int)) Try.underlying30 Try.ti3 rfl rfl rfl rfl (by omega) (by omega) (by omega) (fun b7 => ?_)
      refine ops_nil ⟨[(Mf b1 k2v (Value.int .i64) F1), (Arr 3 b6 (List.replicate ((rv.length : Int)).toNat (Value.int .i64 0))), (Arr 3 b7 (List.replicate ((rv.length : Int)).toNat (Value.int .i64 0)))], [], (perm_nil _), .inl ⟨(Sub.refl _), [(Arr 3 b7 (List.replicate ((rv.length : Int)).toNat (Value.int .i64 0)))], .refl _⟩, ?_⟩
      refine eq_ (i := 7) (by kernel_rfl) rfl (qv_build (out := [l, (Value.int .i64 k), (.int .i64 (VA L (k - 1).toNat (2 ^ L.length - 1))), (.slice (some ⟨b7, 0, none⟩) ((rv.length : Int)).toNat ((rv.length : Int)).toNat), (.slice (some ⟨b6, 0, none⟩) ((rv.length : Int)).toNat ((rv.length : Int)).toNat)]) Try.build86 [(0, [l]), (1, [(Value.int .i64 k)]), (2, [(.int .i64 (VA L (k - 1).toNat (2 ^ L.length - 1)))]), (3, [(.slice (some ⟨b7, 0, none⟩) ((rv.length : Int)).toNat ((rv.length : Int)).toNat)]), (4, [(.slice (some ⟨b6, 0, none⟩) ((rv.length : Int)).toNat ((rv.length : Int)).toNat)])] (by show [(0, Value.cells l), (1, Value.cells (Value.int .i64 k)), (2, Value.cells (.int .i64 (VA L (k - 1).toNat (2 ^ L.length - 1)))), (3, Value.cells (.slice (some ⟨b7, 0, none⟩) ((rv.length : Int)).toNat ((rv.length : Int)).toNat)), (4, Value.cells (.slice (some ⟨b6, 0, none⟩) ((rv.length : Int)).toNat ((rv.length : Int)).toNat))] = _; rw [hl.sl.cells]; try rfl) rfl) ?_
      refine el1 (i := 8) (by kernel_rfl) ?_
      refine ⟨_, rfl, ?_⟩
      refine ops_box (v := (.agg #[l, (Value.int .i64 k), (.int .i64 (VA L (k - 1).toNat (2 ^ L.length - 1))), (.slice (some ⟨b7, 0, none⟩) ((rv.length : Int)).toNat ((rv.length : Int)).toNat), (.slice (some ⟨b6, 0, none⟩) ((rv.length : Int)).toNat ((rv.length : Int)).toNat)])) (cs := [l, (Value.int .i64 k), (.int .i64 (VA L (k - 1).toNat (2 ^ L.length - 1))), (.slice (some ⟨b7, 0, none⟩) ((rv.length : Int)).toNat ((rv.length : Int)).toNat), (.slice (some ⟨b6, 0, none⟩) ((rv.length : Int)).toNat ((rv.length : Int)).toNat)]) rfl rfl (fun b8 => ?_)
      refine ops_nil ⟨[(Mf b1 k2v (Value.int .i64) F1), (Arr 3 b6 (List.replicate ((rv.length : Int)).toNat (Value.int .i64 0))), (Arr 3 b7 (List.replicate ((rv.length : Int)).toNat (Value.int .i64 0))), (Arr 86 b8 [l, (Value.int .i64 k), (.int .i64 (VA L (k - 1).toNat (2 ^ L.length - 1))), (.slice (some ⟨b7, 0, none⟩) ((rv.length : Int)).toNat ((rv.length : Int)).toNat), (.slice (some ⟨b6, 0, none⟩) ((rv.length : Int)).toNat ((rv.length : Int)).toNat)])], [], (perm_nil _), .inl ⟨(Sub.refl _), [(Arr 86 b8 [l, (Value.int .i64 k), (.int .i64 (VA L (k - 1).toNat (2 ^ L.length - 1))), (.slice (some ⟨b7, 0, none⟩) ((rv.length : Int)).toNat ((rv.length : Int)).toNat), (.slice (some ⟨b6, 0, none⟩) ((rv.length : Int)).toNat ((rv.length : Int)).toNat)])], .refl _⟩, ?_⟩
      refine eq_ (i := 9) (by kernel_rfl) rfl (qv_as (Value.pointer (some ⟨b8, 0, none⟩)) rfl) ?_
      refine enil (σ' := [(Mf b1 k2v (Value.int .i64) F1), (Arr 3 b7 (List.replicate ((rv.length : Int)).toNat (Value.int .i64 0))), (Arr 3 b6 (List.replicate ((rv.length : Int)).toNat (Value.int .i64 0))), (Arr 86 b8 [l, (Value.int .i64 k), (.int .i64 (VA L (k - 1).toNat (2 ^ L.length - 1))), (.slice (some ⟨b7, 0, none⟩) ((rv.length : Int)).toNat ((rv.length : Int)).toNat), (.slice (some ⟨b6, 0, none⟩) ((rv.length : Int)).toNat ((rv.length : Int)).toNat)])]) (by kernel_rfl) (perm_idx _ _ [0, 2, 1, 3] rfl rfl) ⟨(b7, b6, b8), ⟨rfl, rfl, rfl, rfl, rfl, rfl, rfl, rfl, rfl, rfl, rfl, rfl, rfl, rfl, trivial⟩, rfl, rfl⟩
    rintro ⟨z42, z44, z46⟩ e1 Vj1 σj1 hJ1
    obtain ⟨rfl, rfl⟩ : V2 = Vj1 ∧ [(Mf b1 k2v (Value.int .i64) F1), (Arr 3 z42 (List.replicate ((rv.length : Int)).toNat (Value.int .i64 0))), (Arr 3 z44 (List.replicate ((rv.length : Int)).toNat (Value.int .i64 0))), (Arr 86 z46 [l, (Value.int .i64 k), (.int .i64 (VA L (k - 1).toNat (2 ^ L.length - 1))), (.slice (some ⟨z42, 0, none⟩) ((rv.length : Int)).toNat ((rv.length : Int)).toNat), (.slice (some ⟨z44, 0, none⟩) ((rv.length : Int)).toNat ((rv.length : Int)).toNat)])] = σj1 := hJ1
    change VC _ _ _ _ _ _ (upds 56 [(0, l), (1, (Value.int .i64 k)), (4, (Value.slice none 0 0)), (5, (Value.int .i64 0)), (6, (Value.slice none 0 0)), (7, (Value.int .i64 0)), (8, (.int .i64 (chk L))), (9, (.int .i64 ((rv.length : Int)))), (10, (Value.pointer (some ⟨b2, 0, none⟩))), (11, (.int .i64 (VA L (k - 1).toNat (2 ^ L.length - 1)))), (12, (Value.pointer (some ⟨z46, 0, none⟩))), (16, (.bool (decide ((chk L) ≠ 0)))), (20, (.bool (decide (8 < ((rv.length : Int)))))), (23, (.bool (decide (¬ (1 ≤ k ∧ k ≤ 32)))))] e1) _ _
    refine vc_seq ?_
    refine vc_res (σ' := [(Mf b1 k2v (Value.int .i64) F1), (Arr 3 z42 ((List.replicate L.length 0).map (Value.int .i64))), (Arr 3 z44 ((List.replicate L.length 0).map (Value.int .i64))), (Arr 86 z46 [l, (Value.int .i64 k), (.int .i64 (VA L (k - 1).toNat (2 ^ L.length - 1))), (.slice (some ⟨z42, 0, none⟩) ((rv.length : Int)).toNat ((rv.length : Int)).toNat), (.slice (some ⟨z44, 0, none⟩) ((rv.length : Int)).toNat ((rv.length : Int)).toNat)])]) (by rw [List.map_replicate, ← hlen]; rfl) ?_
    refine vc_freeze (b := z46) (o := .cells ([l, (Value.int .i64 k), (Value.int .i64 (VA L (k - 1).toNat (2 ^ L.length - 1))), (Value.slice (some ⟨z42, 0, none⟩) ((rv.length : Int)).toNat ((rv.length : Int)).toNat), (Value.slice (some ⟨z44, 0, none⟩) ((rv.length : Int)).toNat ((rv.length : Int)).toNat)] : List Value).toArray 86 (0, 0)) (σr := [(Mf b1 k2v (Value.int .i64) F1), (Arr 3 z42 ((List.replicate L.length 0).map (Value.int .i64))), (Arr 3 z44 ((List.replicate L.length 0).map (Value.int .i64)))]) (List.perm_middle (l₁ := [(Mf b1 k2v (Value.int .i64) F1), (Arr 3 z42 ((List.replicate L.length 0).map (Value.int .i64))), (Arr 3 z44 ((List.replicate L.length 0).map (Value.int .i64)))]) (l₂ := [])) (fun Vf2 hVf2 hb2 => ?_)
    have hc2 : Cells Vf2 z46 [l, (Value.int .i64 k), (.int .i64 (VA L (k - 1).toNat (2 ^ L.length - 1))), (.slice (some ⟨z42, 0, none⟩) ((rv.length : Int)).toNat ((rv.length : Int)).toNat), (.slice (some ⟨z44, 0, none⟩) ((rv.length : Int)).toNat ((rv.length : Int)).toNat)] := ⟨_, _, hb2⟩
    have hl := hl.mono hVf2
    have hC := hC.mono hVf2
    have hc1 := hc1.mono hVf2
    refine vc_region ?_
    refine oq (qv_mv (Value.pointer (some ⟨z46, 0, none⟩)) rfl) ?_
    refine ops_call (σa := [(Arr 3 z42 ((List.replicate L.length 0).map (Value.int .i64))), (Arr 3 z44 ((List.replicate L.length 0).map (Value.int .i64)))]) (σr := [(Mf b1 k2v (Value.int .i64) F1)]) (from_c L.length _ 0 0 0 (List.replicate L.length 0) (List.replicate L.length 0) ⟨hc2, hl, hg, h6⟩ (by omega) (by omega) (by omega) (by omega) (by simp) (by simp) (finv_nd L.length)) rfl rfl (perm_idx _ _ [1, 2, 0] rfl rfl) (fun r3 V3 sg3 hV3 hp3 => ?_)
    obtain ⟨N2, rfl, rfl, hN2⟩ := hp3
    have hl := hl.mono hV3
    have hC := hC.mono hV3
    have hc1 := hc1.mono hV3
    have hc2 := hc2.mono hV3
    refine ops_perm (σ' := [(Mf b1 k2v (Value.int .i64) F1), (Arr 3 z42 ((anG L k).map (Value.int .i64))), (Arr 3 z44 (N2.map (Value.int .i64)))]) (perm_idx _ _ [2, 0, 1] rfl rfl) ?_
    refine ops_nil ?_
    refine vc_seq ?_
    refine vc_res (σ' := [(Mf b1 k2v (Value.int .i64) F1), (Arr 3 z42 ((anG L k).map (Value.int .i64))), (Arr 3 z44 (N2.map (Value.int .i64)))]) rfl ?_
    refine vc_region_order (τ := [(Mf b1 k2v (Value.int .i64) F1)]) [(0, false), (1, false), (2, false), (3, false), (4, false), (5, false), (6, true), (7, false), (8, false), (9, false), (10, false)] [(Arr 3 z42 ((anG L k).map (Value.int .i64))), (Arr 3 z44 (N2.map (Value.int .i64)))] Try.mixed (perm_idx _ _ [1, 2, 0] rfl rfl) (by kernel_rfl) ?_
    refine rq rfl (qv_mv (Value.pointer (some ⟨z46, 0, none⟩)) rfl) ?_
    refine rq rfl (qv_nilck rfl) ?_
    refine rq rfl (qv_fa (off := 0) Try.field86_3 rfl) ?_
    refine rq rfl (qv_ldp (v := (.slice (some ⟨z42, 0, none⟩) ((rv.length : Int)).toNat ((rv.length : Int)).toNat)) Try.plain30 rfl (inVc hc2) rfl) ?_
    refine rq rfl (qv_mv (.int .i64 (VA L (k - 1).toNat (2 ^ L.length - 1))) rfl) ?_
    refine rq rfl (qv_mv (Value.pointer (some ⟨b2, 0, none⟩)) rfl) ?_
    refine rl rfl ?_
    refine ops_call (σa := [(Mf b1 k2v (Value.int .i64) F1)]) (σr := [(Arr 3 z42 ((anG L k).map (Value.int .i64))), (Arr 3 z44 (N2.map (Value.int .i64)))]) (table_c hc1 h6 (by omega) hP.1) rfl rfl (.refl _) (fun r4 V4 sg4 hV4 hp4 => ?_)
    obtain ⟨T, rfl, hT⟩ := hp4
    have hl := hl.mono hV4
    have hC := hC.mono hV4
    have hc1 := hc1.mono hV4
    have hc2 := hc2.mono hV4
    refine ops_nil ⟨[(Arr 3 z42 ((anG L k).map (Value.int .i64))), (Arr 3 z44 (N2.map (Value.int .i64)))], [(Gr 66 3 r4 T.length ((bes T)))], hV4, (perm_idx _ _ [1, 2, 0] rfl rfl), ⟨[], .refl _⟩, ?_⟩
    refine rq rfl (qv_as (.slice (some ⟨z42, 0, none⟩) ((rv.length : Int)).toNat ((rv.length : Int)).toNat) rfl) ?_
    refine rq rfl (qv_as (.int .i64 (VA L (k - 1).toNat (2 ^ L.length - 1))) rfl) ?_
    refine rq rfl (qv_as r4 rfl) ?_
    refine rq rfl (qv_as (Value.int .i64 0) rfl) ?_
    refine rnil ?_
    refine vc_freeze (b := z42) (o := .cells (((anG L k).map (Value.int .i64)) : List Value).toArray 3 (0, 0)) (σr := [(Gr 66 3 r4 T.length ((bes T))), (Arr 3 z44 (N2.map (Value.int .i64)))]) (List.perm_middle (l₁ := [(Gr 66 3 r4 T.length ((bes T)))]) (l₂ := [(Arr 3 z44 (N2.map (Value.int .i64)))])) (fun Vf3 hVf3 hb3 => ?_)
    have hc3 : Cells Vf3 z42 ((anG L k).map (Value.int .i64)) := ⟨_, _, hb3⟩
    have hl := hl.mono hVf3
    have hC := hC.mono hVf3
    have hc1 := hc1.mono hVf3
    have hc2 := hc2.mono hVf3
    refine vc_freezeS (v := r4) (E := 66) (n := T.length) (xs := (bes T)) (σr := [(Arr 3 z44 (N2.map (Value.int .i64)))]) (List.perm_middle (l₁ := []) (l₂ := [(Arr 3 z44 (N2.map (Value.int .i64)))])) (fun Vf4 hVf4 hc4 => ?_)
    have hl := hl.mono hVf4
    have hC := hC.mono hVf4
    have hc1 := hc1.mono hVf4
    have hc2 := hc2.mono hVf4
    have hc3 := hc3.mono hVf4
    refine vc_drop [] [(Arr 3 z44 (N2.map (Value.int .i64)))] (.refl _) ?_
    refine vc_ret ?_
    refine rq4 (.slice (some ⟨z42, 0, none⟩) ((rv.length : Int)).toNat ((rv.length : Int)).toNat) (.int .i64 (VA L (k - 1).toNat (2 ^ L.length - 1))) r4 (Value.int .i64 0) rfl rfl rfl rfl ?_
    exact ⟨rfl, _, anG L k, _, T, by rw [anV0 hE0, hE0], ints_cells hc3 (by rw [anG_len]; omega) (Nat.le_refl _) (by omega), hc4, anOk_good hg h6 hk hE0 hP hT⟩

end Go.Proofs.Ytmkbjhligjnagaa
