/- Walks of merge: what each function returns. Printed by a program out of notes. -/
import Derived.Test.YtmkbjhligjnagaaMg9
import Derived.Test.YtmkbjhligjnagaaMhF
import Derived.Test.YtmkbjhligjnagaaTy
namespace Go.Proofs.Ytmkbjhligjnagaa
open Go Go.Vc
open Classical
set_option maxRecDepth 100000
set_option maxRecDepth 100000 in
set_option maxHeartbeats 4000000 in
theorem group_c {V : HV} {l : Value} {rv : List Value} {L : List (List Int)} {s : Int} (hl : Mat .i64 V l rv L) (hg : Good L) (h0 : 0 ≤ s) :
    FnC Try.prog 62 [l, (Value.int .i64 s)] V [] (fun v _ _ => v = (.int .i64 (grpV L s))) := by
 refine fn_intro (N := 49) Try.func62 (by kernel_rfl) rfl rfl rfl (Nat.le_of_ble_eq_true rfl) ?_
 intro w0 D
 have hlen := hl.len
 have hle := hg.le
 refine vc_seq ?_
 refine vc_region ?_
 refine oq (qv_as (Value.int .i64 0) rfl) ?_
 refine ops_nil ?_
 refine vc_seq ?_
 refine vc_region ?_
 refine oq (qv_as (.int .i64 ((-1))) rfl) ?_
 refine ops_nil ?_
 refine vc_seq ?_
 refine vc_seq ?_
 refine vc_region ?_
 refine oq (qv_mv l rfl) ?_
 refine oq (qv_lenS Try.underlying23 rfl hl.sl) ?_
 refine oq (qv_mv (Value.int .i64 0) rfl) ?_
 refine ops_nil ?_
 refine vc_block ?_
 refine vc_loop (α := Int) (fun (xx : Int) => [(0, l), (1, (Value.int .i64 s)), (4, (Value.int .i64 0)), (10, (.int .i64 ((rv.length : Int)))), (5, (.int .i64 (bsN L s xx.toNat))), (11, (Value.int .i64 xx))]) (fun (xx : Int) V' σ' => V = V' ∧ [] = σ' ∧ 0 ≤ xx ∧ xx ≤ rv.length) (fun (xx : Int) => (rv.length - xx).toNat) (0) ?_ ?_ ?_
 · exact ⟨rfl, rfl, rfl, rfl, (congrArg (Value.int .i64) (show ((-1)) = (bsN L s (0 : Int).toNat) from by rfl)), rfl, trivial⟩
 · exact ⟨rfl, rfl, by omega, by omega⟩
 rintro r e1 V0l σ0l hI0
 obtain ⟨rfl, rfl, i1, i2⟩ : V = V0l ∧ [] = σ0l ∧ 0 ≤ r ∧ r ≤ rv.length := hI0
 refine vc_seq ?_
 refine vc_region ?_
 refine oq (qv_lss rfl rfl) ?_
 refine ops_nil ?_
 refine vc_seq ?_
 refine vc_if rfl (fun c1 => ?_) (fun c1 => ?_)
 ·
  refine vc_skip ?_
  refine vc_seq ?_
  refine vc_block ?_
  refine vc_seq ?_
  refine vc_region ?_
  refine oq (qv_mv (Value.int .i64 r) rfl) ?_
  refine oq (qv_as (Value.int .i64 r) rfl) ?_
  refine ops_nil ?_
  refine vc_seq ?_
  refine vc_seq ?_
  refine vc_region ?_
  refine oq (qv_mv (Value.int .i64 s) rfl) ?_
  refine oq (qv_mv (Value.int .i64 r) rfl) ?_
  refine oq (qv_shri rfl rfl (by omega) (by omega)) ?_
  refine oq (qv_and1 rfl rfl (Int.ediv_nonneg (by omega) (Int.le_of_lt (pw _)))) ?_
  refine oq (qv_eql rfl rfl) ?_
  refine ops_nil ?_
  refine vc_if rfl (fun c2 => ?_) (fun c2 => ?_)
  ·
   refine vc_exit ?_
   refine blockQ_hit ?_
   refine vc_region ?_
   refine oq (qv_add rfl rfl (by omega)) ?_
   refine oq (qv_mv (.int .i64 (r + 1)) rfl) ?_
   refine ops_nil ?_
   refine ⟨(r + 1), ⟨rfl, rfl, rfl, rfl, (congrArg (Value.int .i64) (show (bsN L s r.toNat) = (bsN L s (r + 1 : Int).toNat) from by exact bsN_f (by omega) (fun q => by have q : s / 2 ^ r.toNat % 2 = 1 := q; omega))), (congrArg (Value.int .i64) (show (r + 1) = ((r + 1)) from by rfl)), trivial⟩, ⟨rfl, rfl, by omega, by omega⟩, by omega⟩
  ·
   refine vc_skip ?_
   refine vc_seq ?_
   refine vc_region ?_
   refine oq (qv_as (Value.int .i64 0) rfl) ?_
   refine ops_nil ?_
   refine vc_seq ?_
   refine vc_seq ?_
   refine vc_region ?_
   refine oq (qv_mv l rfl) ?_
   refine oq (qv_lenS Try.underlying23 rfl hl.sl) ?_
   refine oq (qv_mv (Value.int .i64 0) rfl) ?_
   refine ops_nil ?_
   refine vc_block ?_
   refine vc_loop (α := Int) (fun (xx : Int) => [(0, l), (1, (Value.int .i64 s)), (4, (Value.int .i64 0)), (5, (.int .i64 (bsN L s r.toNat))), (6, (Value.int .i64 r)), (10, (.int .i64 ((rv.length : Int)))), (11, (Value.int .i64 r)), (12, (.bool (decide (r < ((rv.length : Int)))))), (18, (.bool (decide (((s / 2 ^ (r : Int).toNat) % 2) = 0)))), (20, (.int .i64 ((rv.length : Int)))), (7, (.int .i64 (gsN L s r xx.toNat))), (21, (Value.int .i64 xx))]) (fun (xx : Int) V' σ' => V = V' ∧ [] = σ' ∧ 0 ≤ xx ∧ xx ≤ rv.length) (fun (xx : Int) => (rv.length - xx).toNat) (0) ?_ ?_ ?_
   · exact ⟨rfl, rfl, rfl, rfl, rfl, rfl, rfl, rfl, rfl, rfl, (congrArg (Value.int .i64) (show 0 = (gsN L s r (0 : Int).toNat) from by rfl)), rfl, trivial⟩
   · exact ⟨rfl, rfl, by omega, by omega⟩
   rintro j e2 V1l σ1l hI1
   obtain ⟨rfl, rfl, i3, i4⟩ : V = V1l ∧ [] = σ1l ∧ 0 ≤ j ∧ j ≤ rv.length := hI1
   refine vc_seq ?_
   refine vc_region ?_
   refine oq (qv_lss rfl rfl) ?_
   refine ops_nil ?_
   refine vc_seq ?_
   refine vc_if rfl (fun c3 => ?_) (fun c3 => ?_)
   ·
    refine vc_skip ?_
    refine vc_seq ?_
    refine vc_block ?_
    refine vc_seq ?_
    refine vc_region ?_
    refine oq (qv_mv (Value.int .i64 j) rfl) ?_
    refine oq (qv_as (Value.int .i64 j) rfl) ?_
    refine ops_nil ?_
    refine vc_seq ?_
    refine vc_region ?_
    refine oq (qv_mv (Value.int .i64 s) rfl) ?_
    refine oq (qv_mv (Value.int .i64 j) rfl) ?_
    refine oq (qv_shri rfl rfl (by omega) (by omega)) ?_
    refine oq (qv_and1 rfl rfl (Int.ediv_nonneg (by omega) (Int.le_of_lt (pw _)))) ?_
    refine oq (qv_eql rfl rfl) ?_
    refine ops_nil ?_
    refine vc_if rfl (fun c4 => ?_) (fun c4 => ?_)
    ·
     have e1 := gsN_bd hg (S := s) (r := r) (by omega) (by omega) j.toNat (by omega)
     have e2 := hg.el j r (by omega) (by omega) (by omega) (by omega)
     have e3 := hg.row j (by omega) (by omega)
     refine vc_region ?_
     refine oq (qv_mv (.int .i64 (gsN L s r j.toNat)) rfl) ?_
     refine oq (qv_mv l rfl) ?_
     refine oq (qv_mv (Value.int .i64 j) rfl) ?_
     refine oq (qv_ia (v := l) (i := j) Try.underlying23 Try.size29 rfl (inV hl.sl) rfl (by omega) (by omega)) ?_
     refine oq (qv_ld (v := l) (i := j) Try.plain29 rfl (inV hl.sl) (by omega) (by omega)) ?_
     refine oq (qv_mv (Value.int .i64 r) rfl) ?_
     refine oq (qv_iai (v := (gv rv (j))) (i := r) Try.underlying29 Try.size3 rfl (inVi (hl.row (j) (by omega) (by omega))) rfl (by omega) (by omega)) ?_
     refine oq (qv_ldi (v := (gv rv (j))) (i := r) Try.plain3 rfl (inVi (hl.row (j) (by omega) (by omega))) (by omega) (by omega)) ?_
     refine oq (qv_add rfl rfl (by omega)) ?_
     refine oq (qv_as (.int .i64 ((gsN L s r j.toNat) + (gi (gr L (j)) (r)))) rfl) ?_
     refine ops_nil ?_
     refine vc_region ?_
     refine oq (qv_add rfl rfl (by omega)) ?_
     refine oq (qv_mv (.int .i64 (j + 1)) rfl) ?_
     refine ops_nil ?_
     refine ⟨(j + 1), ⟨rfl, rfl, rfl, rfl, rfl, rfl, rfl, rfl, rfl, rfl, (congrArg (Value.int .i64) (show ((gsN L s r j.toNat) + (gi (gr L (j)) (r))) = (gsN L s r (j + 1 : Int).toNat) from by exact gsN_t (by omega) (show s / 2 ^ j.toNat % 2 = 1 by omega))), (congrArg (Value.int .i64) (show (j + 1) = ((j + 1)) from by rfl)), trivial⟩, ⟨rfl, rfl, by omega, by omega⟩, by omega⟩
    ·
     refine vc_skip ?_
     refine vc_region ?_
     refine oq (qv_add rfl rfl (by omega)) ?_
     refine oq (qv_mv (.int .i64 (j + 1)) rfl) ?_
     refine ops_nil ?_
     refine ⟨(j + 1), ⟨rfl, rfl, rfl, rfl, rfl, rfl, rfl, rfl, rfl, rfl, (congrArg (Value.int .i64) (show (gsN L s r j.toNat) = (gsN L s r (j + 1 : Int).toNat) from by exact gsN_f (by omega) (fun q => by have q : s / 2 ^ j.toNat % 2 = 1 := q; omega))), (congrArg (Value.int .i64) (show (j + 1) = ((j + 1)) from by rfl)), trivial⟩, ⟨rfl, rfl, by omega, by omega⟩, by omega⟩
   ·
    refine vc_exit ?_
    refine blockQ_hit ?_
    refine vc_seq ?_
    have hje : gsN L s r j.toNat = gsN L s r L.length := by rw [show j.toNat = L.length by omega]
    refine vc_region ?_
    refine oq (qv_mv (.int .i64 (bsN L s r.toNat)) rfl) ?_
    refine oq (qv_lss rfl rfl) ?_
    refine oq (qv_mv (.bool (decide ((bsN L s r.toNat) < 0))) rfl) ?_
    by_cases g1 : (bsN L s r.toNat) < 0
    ·
     refine os (want_fn g1 rfl rfl rfl) ?_
     refine os (want_fn g1 rfl rfl rfl) ?_
     refine os (want_fn g1 rfl rfl rfl) ?_
     refine oq (qv_pick_t g1 rfl (rfl : ev _ _ = (Value.bool true))) ?_
     refine ops_nil ?_
     refine vc_tt rfl ?_
     refine vc_region ?_
     refine oq (qv_mv (.int .i64 (gsN L s r j.toNat)) rfl) ?_
     refine oq (qv_as (.int .i64 (gsN L s r j.toNat)) rfl) ?_
     refine ops_nil ?_
     refine vc_region ?_
     refine oq (qv_add rfl rfl (by omega)) ?_
     refine oq (qv_mv (.int .i64 (r + 1)) rfl) ?_
     refine ops_nil ?_
     refine ⟨(r + 1), ⟨rfl, rfl, rfl, rfl, (congrArg (Value.int .i64) (show (gsN L s r j.toNat) = (bsN L s (r + 1 : Int).toNat) from by first | exact bsN_n (by omega) (show s / 2 ^ r.toNat % 2 = 1 by omega) (by rw [← hje]; omega) | exact bsN_k (by omega) (show s / 2 ^ r.toNat % 2 = 1 by omega) (by rw [← hje]; omega) | (rw [hje]; exact bsN_n (by omega) (show s / 2 ^ r.toNat % 2 = 1 by omega) (by rw [← hje]; omega)))), (congrArg (Value.int .i64) (show (r + 1) = ((r + 1)) from by rfl)), trivial⟩, ⟨rfl, rfl, by omega, by omega⟩, by omega⟩
    ·
     refine og (qv_mv (.int .i64 (gsN L s r j.toNat)) rfl) (want_f g1 rfl rfl rfl) ?_
     refine og (qv_mv (.int .i64 (bsN L s r.toNat)) rfl) (want_f g1 rfl rfl rfl) ?_
     refine og (qv_lss rfl rfl) (want_f g1 rfl rfl rfl) ?_
     refine oq (qv_pick_f g1 rfl (rfl : ev _ _ = (.bool (decide ((gsN L s r j.toNat) < (bsN L s r.toNat)))))) ?_
     refine ops_nil ?_
     refine vc_if rfl (fun c5 => ?_) (fun c5 => ?_)
     ·
      refine vc_region ?_
      refine oq (qv_mv (.int .i64 (gsN L s r j.toNat)) rfl) ?_
      refine oq (qv_as (.int .i64 (gsN L s r j.toNat)) rfl) ?_
      refine ops_nil ?_
      refine vc_region ?_
      refine oq (qv_add rfl rfl (by omega)) ?_
      refine oq (qv_mv (.int .i64 (r + 1)) rfl) ?_
      refine ops_nil ?_
      refine ⟨(r + 1), ⟨rfl, rfl, rfl, rfl, (congrArg (Value.int .i64) (show (gsN L s r j.toNat) = (bsN L s (r + 1 : Int).toNat) from by first | exact bsN_n (by omega) (show s / 2 ^ r.toNat % 2 = 1 by omega) (by rw [← hje]; omega) | exact bsN_k (by omega) (show s / 2 ^ r.toNat % 2 = 1 by omega) (by rw [← hje]; omega) | (rw [hje]; exact bsN_n (by omega) (show s / 2 ^ r.toNat % 2 = 1 by omega) (by rw [← hje]; omega)))), (congrArg (Value.int .i64) (show (r + 1) = ((r + 1)) from by rfl)), trivial⟩, ⟨rfl, rfl, by omega, by omega⟩, by omega⟩
     ·
      refine vc_skip ?_
      refine vc_region ?_
      refine oq (qv_add rfl rfl (by omega)) ?_
      refine oq (qv_mv (.int .i64 (r + 1)) rfl) ?_
      refine ops_nil ?_
      refine ⟨(r + 1), ⟨rfl, rfl, rfl, rfl, (congrArg (Value.int .i64) (show (bsN L s r.toNat) = (bsN L s (r + 1 : Int).toNat) from by first | exact bsN_n (by omega) (show s / 2 ^ r.toNat % 2 = 1 by omega) (by rw [← hje]; omega) | exact bsN_k (by omega) (show s / 2 ^ r.toNat % 2 = 1 by omega) (by rw [← hje]; omega) | (rw [hje]; exact bsN_n (by omega) (show s / 2 ^ r.toNat % 2 = 1 by omega) (by rw [← hje]; omega)))), (congrArg (Value.int .i64) (show (r + 1) = ((r + 1)) from by rfl)), trivial⟩, ⟨rfl, rfl, by omega, by omega⟩, by omega⟩
 ·
  refine vc_exit ?_
  refine blockQ_hit ?_
  refine vc_seq ?_
  refine vc_region ?_
  refine oq (qv_mv (.int .i64 (bsN L s r.toNat)) rfl) ?_
  refine oq (qv_as (.int .i64 (bsN L s r.toNat)) rfl) ?_
  refine ops_nil ?_
  refine vc_ret ?_
  exact rq1 (.int .i64 (grpV L s)) (congrArg (Value.int .i64) (show (bsN L s r.toNat) = (grpV L s) from by rw [show r.toNat = L.length by omega])) rfl

set_option maxRecDepth 100000 in
set_option maxHeartbeats 4000000 in
theorem sets_c {V : HV} {l : Value} {rv : List Value} {L : List (List Int)} (hl : Mat .i64 V l rv L) (hg : Good L) (h6 : L.length ≤ 6) :
    FnC Try.prog 44 [l] V [] (fun v V' σ' => σ' = [] ∧ ∃ C, Ints .i64 V' v C ∧ StL L C) := by
 refine fn_intro (N := 63) Try.func44 (by kernel_rfl) rfl rfl rfl (Nat.le_of_ble_eq_true rfl) ?_
 intro w0 D
 have hlen := hl.len
 have hpw := pw6 h6
 have hpos := hg.pos
 refine vc_seq ?_
 refine vc_region ?_
 refine oq (qv_as (Value.slice none 0 0) rfl) ?_
 refine ops_nil ?_
 refine vc_seq ?_
 refine vc_region ?_
 refine oq (qv_mv l rfl) ?_
 refine oq (qv_lenS Try.underlying23 rfl hl.sl) ?_
 refine oq (qv_to (by rw [Int.one_mul, show ((rv.length : Int) : Int).toNat = L.length by omega]) (qv_shli rfl rfl (by omega) (by omega) (by rw [show ((rv.length : Int) : Int).toNat = L.length by omega]; omega))) ?_
 refine ops_make (n := (2 : Int) ^ L.length) Try.underlying29 Try.ti3 rfl rfl rfl rfl (by omega) (by omega) (by omega) (fun b1 => ?_)
 refine oq (qv_as (.slice (some ⟨b1, 0, none⟩) ((2 : Int) ^ L.length).toNat ((2 : Int) ^ L.length).toNat) rfl) ?_
 refine ops_nil ?_
 refine vc_seq ?_
 refine vc_seq ?_
 refine vc_res (σ' := [(Arr 3 b1 (List.replicate ((2 : Int) ^ L.length).toNat (Value.int .i64 0)))]) rfl ?_
 refine vc_region ?_
 refine oq (qv_as (Value.int .i64 1) rfl) ?_
 refine ops_nil ?_
 refine vc_block ?_
 refine vc_loop (α := Int × List Int) (fun (xx : Int × List Int) => [(0, l), (2, (Value.slice none 0 0)), (3, (.slice (some ⟨b1, 0, none⟩) ((2 : Int) ^ L.length).toNat ((2 : Int) ^ L.length).toNat)), (4, (Value.int .i64 xx.1))]) (fun (xx : Int × List Int) V' σ' => V = V' ∧ [(Arr 3 b1 (xx.2.map (Value.int .i64)))] = σ' ∧ 1 ≤ xx.1 ∧ xx.1 ≤ (2 : Int) ^ L.length ∧ (xx.2.length : Int) = (2 : Int) ^ L.length ∧ ∀ x : Int, 1 ≤ x → x < xx.1 → gi xx.2 x = grpV L x) (fun (xx : Int × List Int) => ((2 : Int) ^ L.length - xx.1).toNat) (1, (List.replicate ((2 : Int) ^ L.length : Int).toNat (0 : Int))) ?_ ?_ ?_
 · exact ⟨rfl, rfl, rfl, rfl, trivial⟩
 · exact ⟨rfl, (show [(Arr 3 b1 (((List.replicate ((2 : Int) ^ L.length : Int).toNat (0 : Int)) : List Int).map (Value.int .i64)))] = [(Arr 3 b1 (List.replicate ((2 : Int) ^ L.length).toNat (Value.int .i64 0)))] from by rw [List.map_replicate]), by omega, by omega, by rw [List.length_replicate]; omega, fun x a b => by omega⟩
 rintro ⟨s, C⟩ e1 V0l σ0l hI0
 obtain ⟨rfl, rfl, i1, i2, hc, hs⟩ : V = V0l ∧ [(Arr 3 b1 (C.map (Value.int .i64)))] = σ0l ∧ 1 ≤ s ∧ s ≤ (2 : Int) ^ L.length ∧ (C.length : Int) = (2 : Int) ^ L.length ∧ ∀ x : Int, 1 ≤ x → x < s → gi C x = grpV L x := hI0
 change VC _ _ _ _ _ _ (upds 63 [(0, l), (2, (Value.slice none 0 0)), (3, (.slice (some ⟨b1, 0, none⟩) ((2 : Int) ^ L.length).toNat ((2 : Int) ^ L.length).toNat)), (4, (Value.int .i64 s))] e1) _ _
 refine vc_seq ?_
 refine vc_seq ?_
 refine vc_res (σ' := [(Arr 3 b1 (C.map (Value.int .i64)))]) rfl ?_
 skip
 refine vc_region ?_
 refine oq (qv_mv (Value.int .i64 s) rfl) ?_
 refine oq (qv_mv (.slice (some ⟨b1, 0, none⟩) ((2 : Int) ^ L.length).toNat ((2 : Int) ^ L.length).toNat) rfl) ?_
 refine oq (qv_len Try.underlying29 rfl rfl) ?_
 refine oq (qv_lss rfl rfl) ?_
 refine ops_nil ?_
 refine vc_if rfl (fun c1 => ?_) (fun c1 => ?_)
 ·
  refine vc_skip ?_
  refine vc_seq ?_
  refine vc_block ?_
  refine vc_seq ?_
  refine vc_region ?_
  refine oq (qv_as (.int .i64 ((-1))) rfl) ?_
  refine ops_nil ?_
  refine vc_seq ?_
  refine vc_seq ?_
  refine vc_region ?_
  refine oq (qv_mv l rfl) ?_
  refine oq (qv_lenS Try.underlying23 rfl hl.sl) ?_
  refine oq (qv_mv (Value.int .i64 0) rfl) ?_
  refine ops_nil ?_
  refine vc_block ?_
  refine vc_loop (α := Int) (fun (xx : Int) => [(0, l), (2, (Value.slice none 0 0)), (3, (.slice (some ⟨b1, 0, none⟩) ((2 : Int) ^ L.length).toNat ((2 : Int) ^ L.length).toNat)), (4, (Value.int .i64 s)), (16, (.bool (decide (s < ((((2 : Int) ^ L.length).toNat : Int)))))), (20, (.int .i64 ((rv.length : Int)))), (5, (.int .i64 (bsN L s xx.toNat))), (21, (Value.int .i64 xx))]) (fun (xx : Int) V' σ' => V = V' ∧ [(Arr 3 b1 (C.map (Value.int .i64)))] = σ' ∧ 0 ≤ xx ∧ xx ≤ rv.length) (fun (xx : Int) => (rv.length - xx).toNat) (0) ?_ ?_ ?_
  · exact ⟨rfl, rfl, rfl, rfl, rfl, rfl, (congrArg (Value.int .i64) (show ((-1)) = (bsN L s (0 : Int).toNat) from by rfl)), rfl, trivial⟩
  · exact ⟨rfl, rfl, by omega, by omega⟩
  rintro r e2 V1l σ1l hI1
  obtain ⟨rfl, rfl, i3, i4⟩ : V = V1l ∧ [(Arr 3 b1 (C.map (Value.int .i64)))] = σ1l ∧ 0 ≤ r ∧ r ≤ rv.length := hI1
  refine vc_seq ?_
  refine vc_region ?_
  refine oq (qv_lss rfl rfl) ?_
  refine ops_nil ?_
  refine vc_seq ?_
  refine vc_if rfl (fun c2 => ?_) (fun c2 => ?_)
  ·
   refine vc_skip ?_
   refine vc_seq ?_
   refine vc_block ?_
   refine vc_seq ?_
   refine vc_region ?_
   refine oq (qv_mv (Value.int .i64 r) rfl) ?_
   refine oq (qv_as (Value.int .i64 r) rfl) ?_
   refine ops_nil ?_
   refine vc_seq ?_
   refine vc_seq ?_
   refine vc_region ?_
   refine oq (qv_mv (Value.int .i64 s) rfl) ?_
   refine oq (qv_mv (Value.int .i64 r) rfl) ?_
   refine oq (qv_shri rfl rfl (by omega) (by omega)) ?_
   refine oq (qv_and1 rfl rfl (Int.ediv_nonneg (by omega) (Int.le_of_lt (pw _)))) ?_
   refine oq (qv_eql rfl rfl) ?_
   refine ops_nil ?_
   refine vc_if rfl (fun c3 => ?_) (fun c3 => ?_)
   ·
    refine vc_exit ?_
    refine blockQ_hit ?_
    refine vc_region ?_
    refine oq (qv_add rfl rfl (by omega)) ?_
    refine oq (qv_mv (.int .i64 (r + 1)) rfl) ?_
    refine ops_nil ?_
    refine ⟨(r + 1), ⟨rfl, rfl, rfl, rfl, rfl, rfl, (congrArg (Value.int .i64) (show (bsN L s r.toNat) = (bsN L s (r + 1 : Int).toNat) from by exact bsN_f (by omega) (fun q => by have q : s / 2 ^ r.toNat % 2 = 1 := q; omega))), (congrArg (Value.int .i64) (show (r + 1) = ((r + 1)) from by rfl)), trivial⟩, ⟨rfl, rfl, by omega, by omega⟩, by omega⟩
   ·
    refine vc_skip ?_
    refine vc_seq ?_
    refine vc_region ?_
    refine oq (qv_as (Value.int .i64 0) rfl) ?_
    refine ops_nil ?_
    refine vc_seq ?_
    refine vc_seq ?_
    refine vc_region ?_
    refine oq (qv_mv l rfl) ?_
    refine oq (qv_lenS Try.underlying23 rfl hl.sl) ?_
    refine oq (qv_mv (Value.int .i64 0) rfl) ?_
    refine ops_nil ?_
    refine vc_block ?_
    refine vc_loop (α := Int) (fun (xx : Int) => [(0, l), (2, (Value.slice none 0 0)), (3, (.slice (some ⟨b1, 0, none⟩) ((2 : Int) ^ L.length).toNat ((2 : Int) ^ L.length).toNat)), (4, (Value.int .i64 s)), (5, (.int .i64 (bsN L s r.toNat))), (6, (Value.int .i64 r)), (16, (.bool (decide (s < ((((2 : Int) ^ L.length).toNat : Int)))))), (20, (.int .i64 ((rv.length : Int)))), (21, (Value.int .i64 r)), (22, (.bool (decide (r < ((rv.length : Int)))))), (28, (.bool (decide (((s / 2 ^ (r : Int).toNat) % 2) = 0)))), (30, (.int .i64 ((rv.length : Int)))), (7, (.int .i64 (gsN L s r xx.toNat))), (31, (Value.int .i64 xx))]) (fun (xx : Int) V' σ' => V = V' ∧ [(Arr 3 b1 (C.map (Value.int .i64)))] = σ' ∧ 0 ≤ xx ∧ xx ≤ rv.length) (fun (xx : Int) => (rv.length - xx).toNat) (0) ?_ ?_ ?_
    · exact ⟨rfl, rfl, rfl, rfl, rfl, rfl, rfl, rfl, rfl, rfl, rfl, rfl, (congrArg (Value.int .i64) (show 0 = (gsN L s r (0 : Int).toNat) from by rfl)), rfl, trivial⟩
    · exact ⟨rfl, rfl, by omega, by omega⟩
    rintro j e3 V2l σ2l hI2
    obtain ⟨rfl, rfl, i5, i6⟩ : V = V2l ∧ [(Arr 3 b1 (C.map (Value.int .i64)))] = σ2l ∧ 0 ≤ j ∧ j ≤ rv.length := hI2
    refine vc_seq ?_
    refine vc_region ?_
    refine oq (qv_lss rfl rfl) ?_
    refine ops_nil ?_
    refine vc_seq ?_
    refine vc_if rfl (fun c4 => ?_) (fun c4 => ?_)
    ·
     refine vc_skip ?_
     refine vc_seq ?_
     refine vc_block ?_
     refine vc_seq ?_
     refine vc_region ?_
     refine oq (qv_mv (Value.int .i64 j) rfl) ?_
     refine oq (qv_as (Value.int .i64 j) rfl) ?_
     refine ops_nil ?_
     refine vc_seq ?_
     refine vc_region ?_
     refine oq (qv_mv (Value.int .i64 s) rfl) ?_
     refine oq (qv_mv (Value.int .i64 j) rfl) ?_
     refine oq (qv_shri rfl rfl (by omega) (by omega)) ?_
     refine oq (qv_and1 rfl rfl (Int.ediv_nonneg (by omega) (Int.le_of_lt (pw _)))) ?_
     refine oq (qv_eql rfl rfl) ?_
     refine ops_nil ?_
     refine vc_if rfl (fun c5 => ?_) (fun c5 => ?_)
     ·
      have e1 := gsN_bd hg (S := s) (r := r) (by omega) (by omega) j.toNat (by omega)
      have e2 := hg.el j r (by omega) (by omega) (by omega) (by omega)
      have e3 := hg.row j (by omega) (by omega)
      refine vc_region ?_
      refine oq (qv_mv (.int .i64 (gsN L s r j.toNat)) rfl) ?_
      refine oq (qv_mv l rfl) ?_
      refine oq (qv_mv (Value.int .i64 j) rfl) ?_
      refine oq (qv_ia (v := l) (i := j) Try.underlying23 Try.size29 rfl (inV hl.sl) rfl (by omega) (by omega)) ?_
      refine oq (qv_ld (v := l) (i := j) Try.plain29 rfl (inV hl.sl) (by omega) (by omega)) ?_
      refine oq (qv_mv (Value.int .i64 r) rfl) ?_
      refine oq (qv_iai (v := (gv rv (j))) (i := r) Try.underlying29 Try.size3 rfl (inVi (hl.row (j) (by omega) (by omega))) rfl (by omega) (by omega)) ?_
      refine oq (qv_ldi (v := (gv rv (j))) (i := r) Try.plain3 rfl (inVi (hl.row (j) (by omega) (by omega))) (by omega) (by omega)) ?_
      refine oq (qv_add rfl rfl (by omega)) ?_
      refine oq (qv_as (.int .i64 ((gsN L s r j.toNat) + (gi (gr L (j)) (r)))) rfl) ?_
      refine ops_nil ?_
      refine vc_region ?_
      refine oq (qv_add rfl rfl (by omega)) ?_
      refine oq (qv_mv (.int .i64 (j + 1)) rfl) ?_
      refine ops_nil ?_
      refine ⟨(j + 1), ⟨rfl, rfl, rfl, rfl, rfl, rfl, rfl, rfl, rfl, rfl, rfl, rfl, (congrArg (Value.int .i64) (show ((gsN L s r j.toNat) + (gi (gr L (j)) (r))) = (gsN L s r (j + 1 : Int).toNat) from by exact gsN_t (by omega) (show s / 2 ^ j.toNat % 2 = 1 by omega))), (congrArg (Value.int .i64) (show (j + 1) = ((j + 1)) from by rfl)), trivial⟩, ⟨rfl, rfl, by omega, by omega⟩, by omega⟩
     ·
      refine vc_skip ?_
      refine vc_region ?_
      refine oq (qv_add rfl rfl (by omega)) ?_
      refine oq (qv_mv (.int .i64 (j + 1)) rfl) ?_
      refine ops_nil ?_
      refine ⟨(j + 1), ⟨rfl, rfl, rfl, rfl, rfl, rfl, rfl, rfl, rfl, rfl, rfl, rfl, (congrArg (Value.int .i64) (show (gsN L s r j.toNat) = (gsN L s r (j + 1 : Int).toNat) from by exact gsN_f (by omega) (fun q => by have q : s / 2 ^ j.toNat % 2 = 1 := q; omega))), (congrArg (Value.int .i64) (show (j + 1) = ((j + 1)) from by rfl)), trivial⟩, ⟨rfl, rfl, by omega, by omega⟩, by omega⟩
    ·
     refine vc_exit ?_
     refine blockQ_hit ?_
     refine vc_seq ?_
     have hje : gsN L s r j.toNat = gsN L s r L.length := by rw [show j.toNat = L.length by omega]
     refine vc_region ?_
     refine oq (qv_mv (.int .i64 (bsN L s r.toNat)) rfl) ?_
     refine oq (qv_lss rfl rfl) ?_
     refine oq (qv_mv (.bool (decide ((bsN L s r.toNat) < 0))) rfl) ?_
     by_cases g1 : (bsN L s r.toNat) < 0
     ·
      refine os (want_fn g1 rfl rfl rfl) ?_
      refine os (want_fn g1 rfl rfl rfl) ?_
      refine os (want_fn g1 rfl rfl rfl) ?_
      refine oq (qv_pick_t g1 rfl (rfl : ev _ _ = (Value.bool true))) ?_
      refine ops_nil ?_
      refine vc_tt rfl ?_
      refine vc_region ?_
      refine oq (qv_mv (.int .i64 (gsN L s r j.toNat)) rfl) ?_
      refine oq (qv_as (.int .i64 (gsN L s r j.toNat)) rfl) ?_
      refine ops_nil ?_
      refine vc_region ?_
      refine oq (qv_add rfl rfl (by omega)) ?_
      refine oq (qv_mv (.int .i64 (r + 1)) rfl) ?_
      refine ops_nil ?_
      refine ⟨(r + 1), ⟨rfl, rfl, rfl, rfl, rfl, rfl, (congrArg (Value.int .i64) (show (gsN L s r j.toNat) = (bsN L s (r + 1 : Int).toNat) from by first | exact bsN_n (by omega) (show s / 2 ^ r.toNat % 2 = 1 by omega) (by rw [← hje]; omega) | exact bsN_k (by omega) (show s / 2 ^ r.toNat % 2 = 1 by omega) (by rw [← hje]; omega) | (rw [hje]; exact bsN_n (by omega) (show s / 2 ^ r.toNat % 2 = 1 by omega) (by rw [← hje]; omega)))), (congrArg (Value.int .i64) (show (r + 1) = ((r + 1)) from by rfl)), trivial⟩, ⟨rfl, rfl, by omega, by omega⟩, by omega⟩
     ·
      refine og (qv_mv (.int .i64 (gsN L s r j.toNat)) rfl) (want_f g1 rfl rfl rfl) ?_
      refine og (qv_mv (.int .i64 (bsN L s r.toNat)) rfl) (want_f g1 rfl rfl rfl) ?_
      refine og (qv_lss rfl rfl) (want_f g1 rfl rfl rfl) ?_
      refine oq (qv_pick_f g1 rfl (rfl : ev _ _ = (.bool (decide ((gsN L s r j.toNat) < (bsN L s r.toNat)))))) ?_
      refine ops_nil ?_
      refine vc_if rfl (fun c6 => ?_) (fun c6 => ?_)
      ·
       refine vc_region ?_
       refine oq (qv_mv (.int .i64 (gsN L s r j.toNat)) rfl) ?_
       refine oq (qv_as (.int .i64 (gsN L s r j.toNat)) rfl) ?_
       refine ops_nil ?_
       refine vc_region ?_
       refine oq (qv_add rfl rfl (by omega)) ?_
       refine oq (qv_mv (.int .i64 (r + 1)) rfl) ?_
       refine ops_nil ?_
       refine ⟨(r + 1), ⟨rfl, rfl, rfl, rfl, rfl, rfl, (congrArg (Value.int .i64) (show (gsN L s r j.toNat) = (bsN L s (r + 1 : Int).toNat) from by first | exact bsN_n (by omega) (show s / 2 ^ r.toNat % 2 = 1 by omega) (by rw [← hje]; omega) | exact bsN_k (by omega) (show s / 2 ^ r.toNat % 2 = 1 by omega) (by rw [← hje]; omega) | (rw [hje]; exact bsN_n (by omega) (show s / 2 ^ r.toNat % 2 = 1 by omega) (by rw [← hje]; omega)))), (congrArg (Value.int .i64) (show (r + 1) = ((r + 1)) from by rfl)), trivial⟩, ⟨rfl, rfl, by omega, by omega⟩, by omega⟩
      ·
       refine vc_skip ?_
       refine vc_region ?_
       refine oq (qv_add rfl rfl (by omega)) ?_
       refine oq (qv_mv (.int .i64 (r + 1)) rfl) ?_
       refine ops_nil ?_
       refine ⟨(r + 1), ⟨rfl, rfl, rfl, rfl, rfl, rfl, (congrArg (Value.int .i64) (show (bsN L s r.toNat) = (bsN L s (r + 1 : Int).toNat) from by first | exact bsN_n (by omega) (show s / 2 ^ r.toNat % 2 = 1 by omega) (by rw [← hje]; omega) | exact bsN_k (by omega) (show s / 2 ^ r.toNat % 2 = 1 by omega) (by rw [← hje]; omega) | (rw [hje]; exact bsN_n (by omega) (show s / 2 ^ r.toNat % 2 = 1 by omega) (by rw [← hje]; omega)))), (congrArg (Value.int .i64) (show (r + 1) = ((r + 1)) from by rfl)), trivial⟩, ⟨rfl, rfl, by omega, by omega⟩, by omega⟩
  ·
   refine vc_exit ?_
   refine blockQ_hit ?_
   refine vc_region ?_
   refine oq (qv_mv (.slice (some ⟨b1, 0, none⟩) ((2 : Int) ^ L.length).toNat ((2 : Int) ^ L.length).toNat) rfl) ?_
   refine oq (qv_mv (Value.int .i64 s) rfl) ?_
   refine oq (qv_mv (.int .i64 (bsN L s r.toNat)) rfl) ?_
   refine oq (qv_ia (v := (.slice (some ⟨b1, 0, none⟩) ((2 : Int) ^ L.length).toNat ((2 : Int) ^ L.length).toNat)) (i := s) Try.underlying29 Try.size3 rfl (inO (k := 0) rfl (by first | (simp only [List.length_map]; omega) | (simp only [List.length_map, List.length_set]; omega) | (simp only [List.length_replicate]; done) | (simp only [List.length_replicate]; omega)) (Nat.le_refl _) (by omega)) rfl (by omega) (by first | omega | (simp only [List.length_map, List.length_set]; omega))) ?_
   refine ops_ste (k := 0) (b := b1) (n := ((2 : Int) ^ L.length).toNat) (c := ((2 : Int) ^ L.length).toNat) (i := s) (cs := (C.map (Value.int .i64))) Try.size3 rfl (rfl : ev _ _ = (.int .i64 (bsN L s r.toNat))) rfl rfl (by omega) (by first | omega | (simp only [List.length_map, List.length_set]; omega)) ?_
   refine ops_nil ?_
   refine vc_res (σ' := [(Arr 3 b1 (((C.map (Value.int .i64))).set (s).toNat (.int .i64 (bsN L s r.toNat))))]) rfl ?_
   refine vc_region ?_
   refine oq (qv_mv (Value.int .i64 s) rfl) ?_
   refine oq (qv_add rfl rfl (by omega)) ?_
   refine oq (qv_as (.int .i64 (s + 1)) rfl) ?_
   refine ops_nil ?_
   refine ⟨(s + 1, C.set s.toNat (bsN L s r.toNat)), ⟨rfl, rfl, rfl, (congrArg (Value.int .i64) (show (s + 1) = ((s + 1)) from by omega)), trivial⟩, ⟨rfl, (show [(Arr 3 b1 ((C.set s.toNat (bsN L s r.toNat) : List Int).map (Value.int .i64)))] = [(Arr 3 b1 (((C.map (Value.int .i64))).set (s).toNat (.int .i64 (bsN L s r.toNat))))] from by rw [mset]), by omega, by omega, by rw [List.length_set]; exact hc, st_step (by omega) (by omega) hs (by rw [show r.toNat = L.length by omega])⟩, by omega⟩
 ·
  refine vc_exit ?_
  refine blockQ_hit ?_
  refine vc_seq ?_
  refine vc_region ?_
  refine oq (qv_mv (.slice (some ⟨b1, 0, none⟩) ((2 : Int) ^ L.length).toNat ((2 : Int) ^ L.length).toNat) rfl) ?_
  refine oq (qv_as (.slice (some ⟨b1, 0, none⟩) ((2 : Int) ^ L.length).toNat ((2 : Int) ^ L.length).toNat) rfl) ?_
  refine ops_nil ?_
  refine vc_freeze (b := b1) (o := .cells ((C.map (Value.int .i64)) : List Value).toArray 3 (0, 0)) (σr := []) (List.perm_middle (l₁ := []) (l₂ := [])) (fun Vf1 hVf1 hb1 => ?_)
  have hc1 : Cells Vf1 b1 (C.map (Value.int .i64)) := ⟨_, _, hb1⟩
  have hl := hl.mono hVf1
  refine vc_ret ?_
  refine rq1 (.slice (some ⟨b1, 0, none⟩) ((2 : Int) ^ L.length).toNat ((2 : Int) ^ L.length).toNat) rfl ?_
  exact ⟨rfl, C, ints_cells hc1 (by omega) (Nat.le_refl _) (by omega), hc, fun x a b => hs x a (by omega)⟩

end Go.Proofs.Ytmkbjhligjnagaa
