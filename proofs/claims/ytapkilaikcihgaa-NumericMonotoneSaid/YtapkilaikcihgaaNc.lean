/- Walks of numeric: what each function returns. Printed by a program out of notes. -/
import Derived.Test.YtapkilaikcihgaaNb
import Derived.Test.YtapkilaikcihgaaNmT
namespace Go.Proofs.Ytapkilaikcihgaa
open Go.Vc
open Classical

set_option maxRecDepth 100000 in
set_option maxHeartbeats 4000000 in
theorem Min_c {V : HV} {x : Value} {xs : List Int} (hs : Ints .i64 V x xs) (hn : 1 ≤ xs.length) :
    FnC Try.prog 86 [x] V [] (fun v _ _ => v = (.int .i64 (minF xs))) := by
 refine fn_intro (N := 25) Try.func86 (by kernel_rfl) rfl rfl rfl (Nat.le_of_ble_eq_true rfl) ?_
 intro w0 D
 have hbd := hs.bound
 refine vc_seq ?_
 refine vc_region ?_
 refine oq (qv_as (Value.int .i64 0) rfl) ?_
 refine ops_nil ?_
 refine vc_seq ?_
 refine vc_seq ?_
 refine vc_region ?_
 refine oq (qv_mv x rfl) ?_
 refine oq (qv_lenI Try.underlying37 rfl hs) ?_
 refine oq (qv_lss rfl rfl) ?_
 refine ops_nil ?_
 refine vc_if rfl (fun c1 => ?_) (fun c1 => ?_)
 ·
  omega
 ·
  refine vc_skip ?_
  refine vc_seq ?_
  refine vc_region ?_
  refine oq (qv_mv x rfl) ?_
  refine oq (qv_iai (v := x) (i := 0) Try.underlying37 Try.size3 rfl (inVi hs) rfl (by omega) (by omega)) ?_
  refine oq (qv_ldi (v := x) (i := 0) Try.plain3 rfl (inVi hs) (by omega) (by omega)) ?_
  refine oq (qv_as (.int .i64 (gi xs (0))) rfl) ?_
  refine ops_nil ?_
  refine vc_seq ?_
  refine vc_seq ?_
  refine vc_region ?_
  refine oq (qv_as (Value.int .i64 1) rfl) ?_
  refine ops_nil ?_
  refine vc_block ?_
  refine vc_loop (α := Int) (fun (xx : Int) => [(0, x), (2, (Value.int .i64 0)), (7, (.bool (decide (((xs.length : Int)) < 1)))), (3, (.int .i64 ((xs.take xx.toNat).foldl mn (gi xs 0)))), (4, (Value.int .i64 xx))]) (fun (xx : Int) V' σ' => V = V' ∧ [] = σ' ∧ 1 ≤ xx ∧ xx ≤ xs.length) (fun (xx : Int) => (xs.length - xx).toNat) (1) ?_ ?_ ?_
  · exact ⟨rfl, rfl, rfl, (congrArg (Value.int .i64) (show (gi xs (0)) = ((xs.take (1 : Int).toNat).foldl mn (gi xs 0)) from by rw [show (1 : Int) = 0 + 1 by rfl, take_step (by omega) (by omega)]; simp [mn])), rfl, trivial⟩
  · exact ⟨rfl, rfl, by omega, by omega⟩
  rintro q e1 V0l σ0l hI0
  obtain ⟨rfl, rfl, i1, i2⟩ : V = V0l ∧ [] = σ0l ∧ 1 ≤ q ∧ q ≤ xs.length := hI0
  refine vc_seq ?_
  refine vc_seq ?_
  refine vc_region ?_
  refine oq (qv_mv (Value.int .i64 q) rfl) ?_
  refine oq (qv_mv x rfl) ?_
  refine oq (qv_lenI Try.underlying37 rfl hs) ?_
  refine oq (qv_lss rfl rfl) ?_
  refine ops_nil ?_
  refine vc_if rfl (fun c2 => ?_) (fun c2 => ?_)
  ·
   refine vc_skip ?_
   refine vc_seq ?_
   refine vc_block ?_
   refine vc_region ?_
   refine oq (qv_mv (.int .i64 ((xs.take q.toNat).foldl mn (gi xs 0))) rfl) ?_
   refine oq (qv_mv x rfl) ?_
   refine oq (qv_mv (Value.int .i64 q) rfl) ?_
   refine oq (qv_iai (v := x) (i := q) Try.underlying37 Try.size3 rfl (inVi hs) rfl (by omega) (by omega)) ?_
   refine oq (qv_ldi (v := x) (i := q) Try.plain3 rfl (inVi hs) (by omega) (by omega)) ?_
   refine oq (qv_min rfl rfl) ?_
   refine oq (qv_as (.int .i64 (if (gi xs (q)) < ((xs.take q.toNat).foldl mn (gi xs 0)) then gi xs (q) else (xs.take q.toNat).foldl mn (gi xs 0))) rfl) ?_
   refine ops_nil ?_
   refine vc_region ?_
   refine oq (qv_mv (Value.int .i64 q) rfl) ?_
   refine oq (qv_add rfl rfl (by omega)) ?_
   refine oq (qv_as (.int .i64 (q + 1)) rfl) ?_
   refine ops_nil ?_
   refine ⟨(q + 1), ⟨rfl, rfl, rfl, (congrArg (Value.int .i64) (show (if (gi xs (q)) < ((xs.take q.toNat).foldl mn (gi xs 0)) then gi xs (q) else (xs.take q.toNat).foldl mn (gi xs 0)) = ((xs.take (q + 1 : Int).toNat).foldl mn (gi xs 0)) from by rw [take_step (by omega) (by omega), List.foldl_append]; rfl)), (congrArg (Value.int .i64) (show (q + 1) = ((q + 1)) from by rfl)), trivial⟩, ⟨rfl, rfl, by omega, by omega⟩, by omega⟩
  ·
   refine vc_exit ?_
   refine blockQ_hit ?_
   refine vc_seq ?_
   refine vc_region ?_
   refine oq (qv_mv (.int .i64 ((xs.take q.toNat).foldl mn (gi xs 0))) rfl) ?_
   refine oq (qv_as (.int .i64 ((xs.take q.toNat).foldl mn (gi xs 0))) rfl) ?_
   refine ops_nil ?_
   refine vc_ret ?_
   exact rq1 (.int .i64 (minF xs)) (congrArg (Value.int .i64) (show ((xs.take q.toNat).foldl mn (gi xs 0)) = (minF xs) from by rw [show q.toNat = xs.length by omega, List.take_length]; rfl)) rfl

set_option maxRecDepth 100000 in
set_option maxHeartbeats 4000000 in
theorem Max_c {V : HV} {x : Value} {xs : List Int} (hs : Ints .i64 V x xs) (hn : 1 ≤ xs.length) :
    FnC Try.prog 87 [x] V [] (fun v _ _ => v = (.int .i64 (maxF xs))) := by
 refine fn_intro (N := 25) Try.func87 (by kernel_rfl) rfl rfl rfl (Nat.le_of_ble_eq_true rfl) ?_
 intro w0 D
 have hbd := hs.bound
 refine vc_seq ?_
 refine vc_region ?_
 refine oq (qv_as (Value.int .i64 0) rfl) ?_
 refine ops_nil ?_
 refine vc_seq ?_
 refine vc_seq ?_
 refine vc_region ?_
 refine oq (qv_mv x rfl) ?_
 refine oq (qv_lenI Try.underlying37 rfl hs) ?_
 refine oq (qv_lss rfl rfl) ?_
 refine ops_nil ?_
 refine vc_if rfl (fun c1 => ?_) (fun c1 => ?_)
 ·
  omega
 ·
  refine vc_skip ?_
  refine vc_seq ?_
  refine vc_region ?_
  refine oq (qv_mv x rfl) ?_
  refine oq (qv_iai (v := x) (i := 0) Try.underlying37 Try.size3 rfl (inVi hs) rfl (by omega) (by omega)) ?_
  refine oq (qv_ldi (v := x) (i := 0) Try.plain3 rfl (inVi hs) (by omega) (by omega)) ?_
  refine oq (qv_as (.int .i64 (gi xs (0))) rfl) ?_
  refine ops_nil ?_
  refine vc_seq ?_
  refine vc_seq ?_
  refine vc_region ?_
  refine oq (qv_as (Value.int .i64 1) rfl) ?_
  refine ops_nil ?_
  refine vc_block ?_
  refine vc_loop (α := Int) (fun (xx : Int) => [(0, x), (2, (Value.int .i64 0)), (7, (.bool (decide (((xs.length : Int)) < 1)))), (3, (.int .i64 ((xs.take xx.toNat).foldl mx (gi xs 0)))), (4, (Value.int .i64 xx))]) (fun (xx : Int) V' σ' => V = V' ∧ [] = σ' ∧ 1 ≤ xx ∧ xx ≤ xs.length) (fun (xx : Int) => (xs.length - xx).toNat) (1) ?_ ?_ ?_
  · exact ⟨rfl, rfl, rfl, (congrArg (Value.int .i64) (show (gi xs (0)) = ((xs.take (1 : Int).toNat).foldl mx (gi xs 0)) from by rw [show (1 : Int) = 0 + 1 by rfl, take_step (by omega) (by omega)]; simp [mx])), rfl, trivial⟩
  · exact ⟨rfl, rfl, by omega, by omega⟩
  rintro q e1 V0l σ0l hI0
  obtain ⟨rfl, rfl, i1, i2⟩ : V = V0l ∧ [] = σ0l ∧ 1 ≤ q ∧ q ≤ xs.length := hI0
  refine vc_seq ?_
  refine vc_seq ?_
  refine vc_region ?_
  refine oq (qv_mv (Value.int .i64 q) rfl) ?_
  refine oq (qv_mv x rfl) ?_
  refine oq (qv_lenI Try.underlying37 rfl hs) ?_
  refine oq (qv_lss rfl rfl) ?_
  refine ops_nil ?_
  refine vc_if rfl (fun c2 => ?_) (fun c2 => ?_)
  ·
   refine vc_skip ?_
   refine vc_seq ?_
   refine vc_block ?_
   refine vc_region ?_
   refine oq (qv_mv (.int .i64 ((xs.take q.toNat).foldl mx (gi xs 0))) rfl) ?_
   refine oq (qv_mv x rfl) ?_
   refine oq (qv_mv (Value.int .i64 q) rfl) ?_
   refine oq (qv_iai (v := x) (i := q) Try.underlying37 Try.size3 rfl (inVi hs) rfl (by omega) (by omega)) ?_
   refine oq (qv_ldi (v := x) (i := q) Try.plain3 rfl (inVi hs) (by omega) (by omega)) ?_
   refine oq (qv_max rfl rfl) ?_
   refine oq (qv_as (.int .i64 (if ((xs.take q.toNat).foldl mx (gi xs 0)) < (gi xs (q)) then gi xs (q) else (xs.take q.toNat).foldl mx (gi xs 0))) rfl) ?_
   refine ops_nil ?_
   refine vc_region ?_
   refine oq (qv_mv (Value.int .i64 q) rfl) ?_
   refine oq (qv_add rfl rfl (by omega)) ?_
   refine oq (qv_as (.int .i64 (q + 1)) rfl) ?_
   refine ops_nil ?_
   refine ⟨(q + 1), ⟨rfl, rfl, rfl, (congrArg (Value.int .i64) (show (if ((xs.take q.toNat).foldl mx (gi xs 0)) < (gi xs (q)) then gi xs (q) else (xs.take q.toNat).foldl mx (gi xs 0)) = ((xs.take (q + 1 : Int).toNat).foldl mx (gi xs 0)) from by rw [take_step (by omega) (by omega), List.foldl_append]; rfl)), (congrArg (Value.int .i64) (show (q + 1) = ((q + 1)) from by rfl)), trivial⟩, ⟨rfl, rfl, by omega, by omega⟩, by omega⟩
  ·
   refine vc_exit ?_
   refine blockQ_hit ?_
   refine vc_seq ?_
   refine vc_region ?_
   refine oq (qv_mv (.int .i64 ((xs.take q.toNat).foldl mx (gi xs 0))) rfl) ?_
   refine oq (qv_as (.int .i64 ((xs.take q.toNat).foldl mx (gi xs 0))) rfl) ?_
   refine ops_nil ?_
   refine vc_ret ?_
   exact rq1 (.int .i64 (maxF xs)) (congrArg (Value.int .i64) (show ((xs.take q.toNat).foldl mx (gi xs 0)) = (maxF xs) from by rw [show q.toNat = xs.length by omega, List.take_length]; rfl)) rfl

set_option maxRecDepth 100000 in
set_option maxHeartbeats 4000000 in
theorem times_c {V : HV} {x y : Int} (hx : fits x) (hy : fits y) :
    FnC Try.prog 85 [(Value.int .i64 x), (Value.int .i64 y)] V [] (fun v _ _ => v = .tuple #[(.int .i64 (tmV x y)), (.bool (decide (tmOk x y)))]) := by
 refine fn_intro (N := 19) Try.func85 (by kernel_rfl) rfl rfl rfl (Nat.le_of_ble_eq_true rfl) ?_
 intro w0 D
 have hx0 := hx
 have hy0 := hy
 unfold fits at hx hy
 refine vc_seq ?_
 refine vc_region ?_
 refine oq (qv_as (Value.int .i64 0) rfl) ?_
 refine oq (qv_as (Value.bool false) rfl) ?_
 refine ops_nil ?_
 refine vc_seq ?_
 refine vc_seq ?_
 refine vc_region ?_
 refine oq (qv_mv (Value.int .i64 x) rfl) ?_
 refine oq (qv_neq rfl rfl) ?_
 refine oq (qv_mv (.bool (decide (x ≠ 0))) rfl) ?_
 by_cases g1 : x ≠ 0
 ·
  refine og (qv_mv (Value.int .i64 y) rfl) (want_t g1 rfl rfl rfl) ?_
  refine og (qv_call (v := (.int .i64 (mag y))) (mag_c (Or.inl (by assumption))) rfl rfl) (want_t g1 rfl rfl rfl) ?_
  refine og (qv_mv (Value.int .i64 x) rfl) (want_t g1 rfl rfl rfl) ?_
  refine og (qv_call (v := (.int .i64 (mag x))) (mag_c (Or.inl (by assumption))) rfl rfl) (want_t g1 rfl rfl rfl) ?_
  refine og (qv_quo rfl rfl (by omega) (mag_pos (by assumption))) (want_t g1 rfl rfl rfl) ?_
  refine og (qv_gtr rfl rfl) (want_t g1 rfl rfl rfl) ?_
  refine oq (qv_pick_t g1 rfl (rfl : ev _ _ = (.bool (decide ((1099511627776 / (mag x)) < (mag y)))))) ?_
  refine ops_nil ?_
  refine vc_if rfl (fun c1 => ?_) (fun c1 => ?_)
  ·
   refine vc_seq ?_
   have hno : ¬ tmOk x y := by unfold tmOk; omega
   refine vc_region ?_
   refine oq (qv_as (Value.int .i64 0) rfl) ?_
   refine oq (qv_as (Value.bool false) rfl) ?_
   refine ops_nil ?_
   refine vc_ret ?_
   exact rq2 (.int .i64 (tmV x y)) (.bool (decide (tmOk x y))) (congrArg (Value.int .i64) (show 0 = (tmV x y) from by rw [tmV_0 hno])) (congrArg Value.bool (decide_eq_false (show ¬ (tmOk x y) from by assumption)).symm) rfl
  ·
   refine vc_skip ?_
   refine vc_seq ?_
   have hok : tmOk x y := by unfold tmOk; omega
   have hft := tm_fits hok
   unfold fits at hft
   refine vc_region ?_
   refine oq (qv_mv (Value.int .i64 x) rfl) ?_
   refine oq (qv_mv (Value.int .i64 y) rfl) ?_
   refine oq (qv_mul rfl rfl (by omega)) ?_
   refine oq (qv_as (.int .i64 (x * y)) rfl) ?_
   refine oq (qv_as (Value.bool true) rfl) ?_
   refine ops_nil ?_
   refine vc_ret ?_
   exact rq2 (.int .i64 (tmV x y)) (.bool (decide (tmOk x y))) (congrArg (Value.int .i64) (show (x * y) = (tmV x y) from by rw [tmV_1 hok])) (congrArg Value.bool (decide_eq_true (show (tmOk x y) from by assumption)).symm) rfl
 ·
  refine os (want_tn g1 rfl rfl rfl) ?_
  refine os (want_tn g1 rfl rfl rfl) ?_
  refine os (want_tn g1 rfl rfl rfl) ?_
  refine os (want_tn g1 rfl rfl rfl) ?_
  refine os (want_tn g1 rfl rfl rfl) ?_
  refine os (want_tn g1 rfl rfl rfl) ?_
  refine oq (qv_pick_f g1 rfl (rfl : ev _ _ = (Value.bool false))) ?_
  refine ops_nil ?_
  refine vc_ff rfl ?_
  refine vc_skip ?_
  refine vc_seq ?_
  have hok : tmOk x y := by unfold tmOk; omega
  have hft := tm_fits hok
  unfold fits at hft
  refine vc_region ?_
  refine oq (qv_mv (Value.int .i64 x) rfl) ?_
  refine oq (qv_mv (Value.int .i64 y) rfl) ?_
  refine oq (qv_mul rfl rfl (by omega)) ?_
  refine oq (qv_as (.int .i64 (x * y)) rfl) ?_
  refine oq (qv_as (Value.bool true) rfl) ?_
  refine ops_nil ?_
  refine vc_ret ?_
  exact rq2 (.int .i64 (tmV x y)) (.bool (decide (tmOk x y))) (congrArg (Value.int .i64) (show (x * y) = (tmV x y) from by rw [tmV_1 hok])) (congrArg Value.bool (decide_eq_true (show (tmOk x y) from by assumption)).symm) rfl

set_option maxRecDepth 100000 in
set_option maxHeartbeats 4000000 in
theorem multiplied_c {V : HV} {a b : Nm} (ha : vld a) (hb : vld b) (he : a ≠ nE) (hf : b ≠ nE) :
    FnC Try.prog 66 [(.agg #[(.int .i64 a.l), (.int .i64 a.h), (.int .i64 a.s)]), (.agg #[(.int .i64 b.l), (.int .i64 b.h), (.int .i64 b.s)])] V [] (fun v _ _ => v = .tuple #[(.agg #[(.int .i64 ((mulN a b).l)), (.int .i64 ((mulN a b).h)), (.int .i64 ((mulN a b).s))]), (.int .i64 (mulE a b))]) := by
 refine fn_intro (N := 70) Try.func66 (by kernel_rfl) rfl rfl rfl (Nat.le_of_ble_eq_true rfl) ?_
 intro w0 D
 have ba := vld_bd ha
 have bb := vld_bd hb
 unfold fits at ba bb
 refine vc_seq ?_
 refine vc_region ?_
 refine ops_box (v := (.agg #[(.int .i64 a.l), (.int .i64 a.h), (.int .i64 a.s)])) (cs := [(.int .i64 a.l), (.int .i64 a.h), (.int .i64 a.s)]) rfl rfl (fun b1 => ?_)
 refine ops_box (v := (.agg #[(.int .i64 b.l), (.int .i64 b.h), (.int .i64 b.s)])) (cs := [(.int .i64 b.l), (.int .i64 b.h), (.int .i64 b.s)]) rfl rfl (fun b2 => ?_)
 refine ops_alloc Try.ti23 rfl (fun b3 => ?_)
 refine oq (qv_as (Value.int .i64 0) rfl) ?_
 refine ops_nil ?_
 refine vc_seq ?_
 refine vc_res (σ' := [(Arr 23 b1 [(.int .i64 a.l), (.int .i64 a.h), (.int .i64 a.s)]), (Arr 23 b2 [(.int .i64 b.l), (.int .i64 b.h), (.int .i64 b.s)]), (Arr 23 b3 [(Value.int .i64 0), (Value.int .i64 0), (Value.int .i64 0)])]) rfl ?_
 refine vc_region ?_
 refine oq (qv_as (Value.slice none 0 0) rfl) ?_
 refine ops_nil ?_
 refine vc_seq ?_
 refine vc_seq ?_
 refine vc_nil 3 1 ?_
 refine vc_region ?_
 refine oq (qv_fa (off := 0) Try.field23_0 rfl) ?_
 refine oq (qv_ldp (v := (.int .i64 a.l)) Try.plain3 rfl (inOc (k := 0) rfl) rfl) ?_
 refine oq (qv_fa (off := 0) Try.field23_1 rfl) ?_
 refine oq (qv_ldp (v := (.int .i64 a.h)) Try.plain3 rfl (inOc (k := 0) rfl) rfl) ?_
 refine oq (qv_build (out := [(.int .i64 a.l), (.int .i64 a.h)]) Try.build83 [(0, [(.int .i64 a.l)]), (1, [(.int .i64 a.h)])] rfl rfl) ?_
 refine oq (qv_mv (Value.int .i64 0) rfl) ?_
 refine ops_nil ?_
 refine vc_block ?_
 refine vc_loop (α := Int × Value × List Int) (fun (xx : Int × Value × List Int) => [(0, (.agg #[(.int .i64 a.l), (.int .i64 a.h), (.int .i64 a.s)])), (1, (.agg #[(.int .i64 b.l), (.int .i64 b.h), (.int .i64 b.s)])), (2, (Value.pointer (some ⟨b1, 0, none⟩))), (3, (Value.pointer (some ⟨b2, 0, none⟩))), (4, (Value.pointer (some ⟨b3, 0, none⟩))), (18, (.agg #[(.int .i64 a.l), (.int .i64 a.h)])), (6, xx.2.1), (19, (Value.int .i64 xx.1))]) (fun (xx : Int × Value × List Int) V' σ' => V = V' ∧ [(Arr 23 b1 [(.int .i64 a.l), (.int .i64 a.h), (.int .i64 a.s)]), (Arr 23 b2 [(.int .i64 b.l), (.int .i64 b.h), (.int .i64 b.s)]), (Arr 23 b3 [(Value.int .i64 0), (Value.int .i64 0), (Value.int .i64 0)]), (Gr 3 1 xx.2.1 xx.2.2.length ((xx.2.2.map (Value.int .i64))))] = σ' ∧ 0 ≤ xx.1 ∧ xx.1 ≤ 2 ∧ xx.2.2 = (pl a b).take (2 * xx.1).toNat ∧ ∀ z : Int, 0 ≤ z → z < xx.1 → ∀ q : Int, 0 ≤ q → q < 2 → tmOk (pX a z) (pX b q)) (fun (xx : Int × Value × List Int) => (2 - xx.1).toNat) (0, (Value.slice none 0 0), []) ?_ ?_ ?_
 · exact ⟨rfl, rfl, rfl, rfl, rfl, rfl, (by first | rfl | (first | omega | simp)), rfl, trivial⟩
 · exact (show V = V ∧ [(Arr 23 b1 [(.int .i64 a.l), (.int .i64 a.h), (.int .i64 a.s)]), (Arr 23 b2 [(.int .i64 b.l), (.int .i64 b.h), (.int .i64 b.s)]), (Arr 23 b3 [(Value.int .i64 0), (Value.int .i64 0), (Value.int .i64 0)]), (Gr 3 1 ((Value.slice none 0 0) : Value) ([] : List Int).length ((([] : List Int).map (Value.int .i64))))] = [(Arr 23 b1 [(.int .i64 a.l), (.int .i64 a.h), (.int .i64 a.s)]), (Arr 23 b2 [(.int .i64 b.l), (.int .i64 b.h), (.int .i64 b.s)]), (Arr 23 b3 [(Value.int .i64 0), (Value.int .i64 0), (Value.int .i64 0)]), (Gr 3 1 ((Value.slice none 0 0)) 0 ([]))] ∧ 0 ≤ (0 : Int) ∧ (0 : Int) ≤ 2 ∧ ([] : List Int) = (pl a b).take (2 * (0 : Int)).toNat ∧ ∀ z : Int, 0 ≤ z → z < (0 : Int) → ∀ q : Int, 0 ≤ q → q < 2 → tmOk (pX a z) (pX b q) from ⟨rfl, (show [(Arr 23 b1 [(.int .i64 a.l), (.int .i64 a.h), (.int .i64 a.s)]), (Arr 23 b2 [(.int .i64 b.l), (.int .i64 b.h), (.int .i64 b.s)]), (Arr 23 b3 [(Value.int .i64 0), (Value.int .i64 0), (Value.int .i64 0)]), (Gr 3 1 ((Value.slice none 0 0)) ([] : List Int).length ((([] : List Int).map (Value.int .i64))))] = [(Arr 23 b1 [(.int .i64 a.l), (.int .i64 a.h), (.int .i64 a.s)]), (Arr 23 b2 [(.int .i64 b.l), (.int .i64 b.h), (.int .i64 b.s)]), (Arr 23 b3 [(Value.int .i64 0), (Value.int .i64 0), (Value.int .i64 0)]), (Gr 3 1 ((Value.slice none 0 0)) 0 ([]))] from by rfl), by omega, by omega, rfl, fun z a b => by omega⟩)
 rintro ⟨p, v, es⟩ e1 V0l σ0l hI0
 obtain ⟨rfl, rfl, i1, i2, he1, ho⟩ : V = V0l ∧ [(Arr 23 b1 [(.int .i64 a.l), (.int .i64 a.h), (.int .i64 a.s)]), (Arr 23 b2 [(.int .i64 b.l), (.int .i64 b.h), (.int .i64 b.s)]), (Arr 23 b3 [(Value.int .i64 0), (Value.int .i64 0), (Value.int .i64 0)]), (Gr 3 1 v es.length ((es.map (Value.int .i64))))] = σ0l ∧ 0 ≤ p ∧ p ≤ 2 ∧ es = (pl a b).take (2 * p).toNat ∧ ∀ z : Int, 0 ≤ z → z < p → ∀ q : Int, 0 ≤ q → q < 2 → tmOk (pX a z) (pX b q) := hI0
 change VC _ _ _ _ _ _ (upds 70 [(0, (.agg #[(.int .i64 a.l), (.int .i64 a.h), (.int .i64 a.s)])), (1, (.agg #[(.int .i64 b.l), (.int .i64 b.h), (.int .i64 b.s)])), (2, (Value.pointer (some ⟨b1, 0, none⟩))), (3, (Value.pointer (some ⟨b2, 0, none⟩))), (4, (Value.pointer (some ⟨b3, 0, none⟩))), (18, (.agg #[(.int .i64 a.l), (.int .i64 a.h)])), (6, v), (19, (Value.int .i64 p))] e1) _ _
 refine vc_seq ?_
 refine vc_res (σ' := [(Arr 23 b1 [(.int .i64 a.l), (.int .i64 a.h), (.int .i64 a.s)]), (Arr 23 b2 [(.int .i64 b.l), (.int .i64 b.h), (.int .i64 b.s)]), (Arr 23 b3 [(Value.int .i64 0), (Value.int .i64 0), (Value.int .i64 0)]), (Gr 3 1 v es.length ((es.map (Value.int .i64))))]) rfl ?_
 refine vc_region ?_
 refine oq (qv_lss rfl rfl) ?_
 refine ops_nil ?_
 refine vc_seq ?_
 refine vc_if rfl (fun c1 => ?_) (fun c1 => ?_)
 ·
  refine vc_skip ?_
  refine vc_seq ?_
  refine vc_block ?_
  refine vc_seq ?_
  refine vc_region ?_
  refine oq (qv_idx (v := (.int .i64 (gi [a.l, a.h] (p)))) (i := p) Try.underlying83 Try.plain3 Try.size3 rfl rfl (by omega) (by simp; omega) (idx_ints (xs := [a.l, a.h]) (by omega) (by simp; omega))) ?_
  refine oq (qv_as (.int .i64 (gi [a.l, a.h] (p))) rfl) ?_
  refine ops_nil ?_
  refine vc_seq ?_
  refine vc_region ?_
  refine oq (qv_fa (off := 0) Try.field23_0 rfl) ?_
  refine oq (qv_ldp (v := (.int .i64 b.l)) Try.plain3 rfl (inOc (k := 1) rfl) rfl) ?_
  refine oq (qv_fa (off := 0) Try.field23_1 rfl) ?_
  refine oq (qv_ldp (v := (.int .i64 b.h)) Try.plain3 rfl (inOc (k := 1) rfl) rfl) ?_
  refine oq (qv_build (out := [(.int .i64 b.l), (.int .i64 b.h)]) Try.build83 [(0, [(.int .i64 b.l)]), (1, [(.int .i64 b.h)])] rfl rfl) ?_
  refine oq (qv_mv (Value.int .i64 0) rfl) ?_
  refine ops_nil ?_
  refine vc_block ?_
  refine vc_loop (α := Int × Value × List Int) (fun (xx : Int × Value × List Int) => [(0, (.agg #[(.int .i64 a.l), (.int .i64 a.h), (.int .i64 a.s)])), (1, (.agg #[(.int .i64 b.l), (.int .i64 b.h), (.int .i64 b.s)])), (2, (Value.pointer (some ⟨b1, 0, none⟩))), (3, (Value.pointer (some ⟨b2, 0, none⟩))), (4, (Value.pointer (some ⟨b3, 0, none⟩))), (8, (.int .i64 (gi [a.l, a.h] (p)))), (18, (.agg #[(.int .i64 a.l), (.int .i64 a.h)])), (19, (Value.int .i64 p)), (20, (.bool (decide (p < 2)))), (26, (.agg #[(.int .i64 b.l), (.int .i64 b.h)])), (6, xx.2.1), (27, (Value.int .i64 xx.1))]) (fun (xx : Int × Value × List Int) V' σ' => V = V' ∧ [(Arr 23 b1 [(.int .i64 a.l), (.int .i64 a.h), (.int .i64 a.s)]), (Arr 23 b2 [(.int .i64 b.l), (.int .i64 b.h), (.int .i64 b.s)]), (Arr 23 b3 [(Value.int .i64 0), (Value.int .i64 0), (Value.int .i64 0)]), (Gr 3 1 xx.2.1 xx.2.2.length ((xx.2.2.map (Value.int .i64))))] = σ' ∧ 0 ≤ xx.1 ∧ xx.1 ≤ 2 ∧ xx.2.2 = (pl a b).take (2 * p + xx.1).toNat ∧ ∀ y : Int, 0 ≤ y → y < xx.1 → tmOk (pX a p) (pX b y)) (fun (xx : Int × Value × List Int) => (2 - xx.1).toNat) (0, v, es) ?_ ?_ ?_
  · exact ⟨rfl, rfl, rfl, rfl, rfl, rfl, rfl, rfl, rfl, rfl, rfl, rfl, trivial⟩
  · exact (show V = V ∧ [(Arr 23 b1 [(.int .i64 a.l), (.int .i64 a.h), (.int .i64 a.s)]), (Arr 23 b2 [(.int .i64 b.l), (.int .i64 b.h), (.int .i64 b.s)]), (Arr 23 b3 [(Value.int .i64 0), (Value.int .i64 0), (Value.int .i64 0)]), (Gr 3 1 v es.length ((es.map (Value.int .i64))))] = [(Arr 23 b1 [(.int .i64 a.l), (.int .i64 a.h), (.int .i64 a.s)]), (Arr 23 b2 [(.int .i64 b.l), (.int .i64 b.h), (.int .i64 b.s)]), (Arr 23 b3 [(Value.int .i64 0), (Value.int .i64 0), (Value.int .i64 0)]), (Gr 3 1 v es.length ((es.map (Value.int .i64))))] ∧ 0 ≤ (0 : Int) ∧ (0 : Int) ≤ 2 ∧ es = (pl a b).take (2 * p + (0 : Int)).toNat ∧ ∀ y : Int, 0 ≤ y → y < (0 : Int) → tmOk (pX a p) (pX b y) from ⟨rfl, rfl, by omega, by omega, by rw [he1]; simp, fun z a b => by omega⟩)
  rintro ⟨q, u, fs⟩ e2 V1l σ1l hI1
  obtain ⟨rfl, rfl, i3, i4, he2, ho2⟩ : V = V1l ∧ [(Arr 23 b1 [(.int .i64 a.l), (.int .i64 a.h), (.int .i64 a.s)]), (Arr 23 b2 [(.int .i64 b.l), (.int .i64 b.h), (.int .i64 b.s)]), (Arr 23 b3 [(Value.int .i64 0), (Value.int .i64 0), (Value.int .i64 0)]), (Gr 3 1 u fs.length ((fs.map (Value.int .i64))))] = σ1l ∧ 0 ≤ q ∧ q ≤ 2 ∧ fs = (pl a b).take (2 * p + q).toNat ∧ ∀ y : Int, 0 ≤ y → y < q → tmOk (pX a p) (pX b y) := hI1
  change VC _ _ _ _ _ _ (upds 70 [(0, (.agg #[(.int .i64 a.l), (.int .i64 a.h), (.int .i64 a.s)])), (1, (.agg #[(.int .i64 b.l), (.int .i64 b.h), (.int .i64 b.s)])), (2, (Value.pointer (some ⟨b1, 0, none⟩))), (3, (Value.pointer (some ⟨b2, 0, none⟩))), (4, (Value.pointer (some ⟨b3, 0, none⟩))), (8, (.int .i64 (gi [a.l, a.h] (p)))), (18, (.agg #[(.int .i64 a.l), (.int .i64 a.h)])), (19, (Value.int .i64 p)), (20, (.bool (decide (p < 2)))), (26, (.agg #[(.int .i64 b.l), (.int .i64 b.h)])), (6, u), (27, (Value.int .i64 q))] e2) _ _
  refine vc_seq ?_
  refine vc_res (σ' := [(Arr 23 b1 [(.int .i64 a.l), (.int .i64 a.h), (.int .i64 a.s)]), (Arr 23 b2 [(.int .i64 b.l), (.int .i64 b.h), (.int .i64 b.s)]), (Arr 23 b3 [(Value.int .i64 0), (Value.int .i64 0), (Value.int .i64 0)]), (Gr 3 1 u fs.length ((fs.map (Value.int .i64))))]) rfl ?_
  refine vc_region ?_
  refine oq (qv_lss rfl rfl) ?_
  refine ops_nil ?_
  refine vc_seq ?_
  refine vc_if rfl (fun c2 => ?_) (fun c2 => ?_)
  ·
   refine vc_skip ?_
   refine vc_seq ?_
   refine vc_block ?_
   refine vc_seq ?_
   refine vc_region ?_
   refine oq (qv_idx (v := (.int .i64 (gi [b.l, b.h] (q)))) (i := q) Try.underlying83 Try.plain3 Try.size3 rfl rfl (by omega) (by simp; omega) (idx_ints (xs := [b.l, b.h]) (by omega) (by simp; omega))) ?_
   refine oq (qv_as (.int .i64 (gi [b.l, b.h] (q))) rfl) ?_
   refine ops_nil ?_
   refine vc_seq ?_
   refine vc_region ?_
   refine oq (qv_mv (.int .i64 (gi [a.l, a.h] (p))) rfl) ?_
   refine oq (qv_mv (.int .i64 (gi [b.l, b.h] (q))) rfl) ?_
   refine oq (qv_call (v := (.tuple #[(.int .i64 (tmV (pX a p) (pX b q))), (.bool (decide (tmOk (pX a p) (pX b q))))])) (times_c (pX_bd ha (by omega) (by omega)) (pX_bd hb (by omega) (by omega))) rfl rfl) ?_
   refine oq (qv_mv (.tuple #[(.int .i64 (tmV (pX a p) (pX b q))), (.bool (decide (tmOk (pX a p) (pX b q))))]) rfl) ?_
   refine oq (qv_ext (.int .i64 (tmV (pX a p) (pX b q))) rfl rfl) ?_
   refine oq (qv_ext (.bool (decide (tmOk (pX a p) (pX b q)))) rfl rfl) ?_
   refine oq (qv_as (.int .i64 (tmV (pX a p) (pX b q))) rfl) ?_
   refine oq (qv_as (.bool (decide (tmOk (pX a p) (pX b q)))) rfl) ?_
   refine ops_nil ?_
   refine vc_seq ?_
   refine vc_seq ?_
   refine vc_region ?_
   refine oq (qv_mv (.bool (decide (tmOk (pX a p) (pX b q)))) rfl) ?_
   refine oq (qv_not rfl) ?_
   refine ops_nil ?_
   refine vc_if rfl (fun c3 => ?_) (fun c3 => ?_)
   ·
    refine vc_seq ?_
    have hno : ¬ mulOk a b := fun e => absurd (e p (by omega) (by omega) q (by omega) (by omega)) (by assumption)
    refine vc_region ?_
    refine oq (qv_build (out := [(Value.int .i64 0), (Value.int .i64 0), (Value.int .i64 0)]) Try.build23 [] rfl rfl) ?_
    refine ops_stw (k := 2) (vs := [(Value.int .i64 0), (Value.int .i64 0), (Value.int .i64 0)]) Try.size23 rfl rfl rfl rfl rfl rfl ?_
    refine oq (qv_as (Value.int .i64 3) rfl) ?_
    refine ops_nil ?_
    refine vc_ret ?_
    refine blockQ_ret ?_
    refine blockQ_ret ?_
    refine blockQ_ret ?_
    refine blockQ_ret ?_
    refine rs2 _ (Value.int .i64 3) (rv_c (vs := [(Value.int .i64 0), (Value.int .i64 0), (Value.int .i64 0)]) Try.agg23 rfl (inOc (k := 2) rfl) rfl rfl) (rv_t rfl) ?_
    exact tup2 (agg3 (show (⟨0, 0, 0⟩ : Nm) = mulN a b from by rw [mulN_0 hno])) (congrArg (Value.int .i64) (show 3 = (mulE a b) from by rw [mulE_0 hno]))
   ·
    refine vc_skip ?_
    have hto : tmOk (pX a p) (pX b q) := Decidable.not_not.1 (by assumption)
    have hfl : fs.length ≤ 4 := by rw [he2, List.length_take]; exact Nat.min_le_right _ _
    refine vc_region ?_
    refine oq (qv_mv u rfl) ?_
    refine oq (qv_mv (.int .i64 (tmV (pX a p) (pX b q))) rfl) ?_
    refine ops_lit (n := 1) (s := 1) (cs := [(.int .i64 (tmV (pX a p) (pX b q)))]) Try.underlying37 Try.ti3 (Nat.le_of_ble_eq_true rfl) rfl rfl rfl (Nat.le_of_ble_eq_true rfl) rfl (fun b4 => ?_)
    refine ops_append (k := 3) (n := fs.length) (s := 1) (m := 1) (v := u) (xs := (fs.map (Value.int .i64))) (news := [(.int .i64 (tmV (pX a p) (pX b q)))]) Try.underlying37 Try.ti3 rfl (Nat.le_of_ble_eq_true rfl) rfl rfl rfl rfl (news_own (j := 4) rfl) (by simp [Value.oneCell']) (by omega) (by simp only [maxLen]; omega) (fun v1 hn1 => ?_)
    refine oq (qv_as v1 rfl) ?_
    refine ops_nil ?_
    refine vc_res (σ' := [(Arr 23 b1 [(.int .i64 a.l), (.int .i64 a.h), (.int .i64 a.s)]), (Arr 23 b2 [(.int .i64 b.l), (.int .i64 b.h), (.int .i64 b.s)]), (Arr 23 b3 [(Value.int .i64 0), (Value.int .i64 0), (Value.int .i64 0)]), (Gr 3 1 v1 ((fs.length + 1)) (((fs.map (Value.int .i64)) ++ [(.int .i64 (tmV (pX a p) (pX b q)))]))), (Arr 3 b4 [(.int .i64 (tmV (pX a p) (pX b q)))])]) rfl ?_
    refine vc_drop [(Arr 23 b1 [(Value.int .i64 (a.l)), (Value.int .i64 (a.h)), (Value.int .i64 (a.s))]), (Arr 23 b2 [(Value.int .i64 (b.l)), (Value.int .i64 (b.h)), (Value.int .i64 (b.s))]), (Arr 23 b3 [(Value.int .i64 0), (Value.int .i64 0), (Value.int .i64 0)]), (Gr 3 1 v1 ((fs.length + 1)) (((fs.map (Value.int .i64)) ++ [(Value.int .i64 (tmV (pX a p) (pX b q)))])))] [(Arr 3 b4 [(Value.int .i64 (tmV (pX a p) (pX b q)))])] ((List.perm_middle (l₁ := [(Arr 23 b1 [(Value.int .i64 (a.l)), (Value.int .i64 (a.h)), (Value.int .i64 (a.s))]), (Arr 23 b2 [(Value.int .i64 (b.l)), (Value.int .i64 (b.h)), (Value.int .i64 (b.s))]), (Arr 23 b3 [(Value.int .i64 0), (Value.int .i64 0), (Value.int .i64 0)]), (Gr 3 1 v1 ((fs.length + 1)) (((fs.map (Value.int .i64)) ++ [(Value.int .i64 (tmV (pX a p) (pX b q)))])))]) (l₂ := [])).trans (List.perm_append_comm (l₁ := [(Arr 3 b4 [(Value.int .i64 (tmV (pX a p) (pX b q)))])]))) ?_
    refine vc_region ?_
    refine oq (qv_add rfl rfl (by omega)) ?_
    refine oq (qv_mv (.int .i64 (q + 1)) rfl) ?_
    refine ops_nil ?_
    refine ⟨(q + 1, v1, fs ++ [pX a p * pX b q]), ⟨rfl, rfl, rfl, rfl, rfl, rfl, rfl, rfl, rfl, rfl, rfl, (congrArg (Value.int .i64) (show (q + 1) = ((q + 1)) from by omega)), trivial⟩, (show V = V ∧ [(Arr 23 b1 [(.int .i64 a.l), (.int .i64 a.h), (.int .i64 a.s)]), (Arr 23 b2 [(.int .i64 b.l), (.int .i64 b.h), (.int .i64 b.s)]), (Arr 23 b3 [(Value.int .i64 0), (Value.int .i64 0), (Value.int .i64 0)]), (Gr 3 1 v1 (fs ++ [pX a p * pX b q] : List Int).length (((fs ++ [pX a p * pX b q] : List Int).map (Value.int .i64))))] = [(Arr 23 b1 [(.int .i64 a.l), (.int .i64 a.h), (.int .i64 a.s)]), (Arr 23 b2 [(.int .i64 b.l), (.int .i64 b.h), (.int .i64 b.s)]), (Arr 23 b3 [(Value.int .i64 0), (Value.int .i64 0), (Value.int .i64 0)]), (Gr 3 1 v1 ((fs.length + 1)) (((fs.map (Value.int .i64)) ++ [(.int .i64 (tmV (pX a p) (pX b q)))])))] ∧ 0 ≤ (q + 1 : Int) ∧ (q + 1 : Int) ≤ 2 ∧ (fs ++ [pX a p * pX b q] : List Int) = (pl a b).take (2 * p + (q + 1 : Int)).toNat ∧ ∀ y : Int, 0 ≤ y → y < (q + 1 : Int) → tmOk (pX a p) (pX b y) from ⟨rfl, (show [(Arr 23 b1 [(.int .i64 a.l), (.int .i64 a.h), (.int .i64 a.s)]), (Arr 23 b2 [(.int .i64 b.l), (.int .i64 b.h), (.int .i64 b.s)]), (Arr 23 b3 [(Value.int .i64 0), (Value.int .i64 0), (Value.int .i64 0)]), (Gr 3 1 v1 (fs ++ [pX a p * pX b q] : List Int).length (((fs ++ [pX a p * pX b q] : List Int).map (Value.int .i64))))] = [(Arr 23 b1 [(.int .i64 a.l), (.int .i64 a.h), (.int .i64 a.s)]), (Arr 23 b2 [(.int .i64 b.l), (.int .i64 b.h), (.int .i64 b.s)]), (Arr 23 b3 [(Value.int .i64 0), (Value.int .i64 0), (Value.int .i64 0)]), (Gr 3 1 v1 ((fs.length + 1)) (((fs.map (Value.int .i64)) ++ [(.int .i64 (tmV (pX a p) (pX b q)))])))] from by simp [tmV_1 hto]), by omega, by omega, by rw [he2, show 2 * p + (q + 1) = 2 * p + q + 1 by omega, take_step (by omega) (by show 2 * p + q < 4; omega), pl_at (by omega) (by omega) (by omega) (by omega)], all_snoc ho2 hto⟩), show (2 - (q + 1)).toNat < (2 - q).toNat from by omega⟩
  ·
   refine vc_exit ?_
   refine blockQ_hit ?_
   refine vc_region ?_
   refine oq (qv_add rfl rfl (by omega)) ?_
   refine oq (qv_mv (.int .i64 (p + 1)) rfl) ?_
   refine ops_nil ?_
   refine ⟨(p + 1, u, fs), ⟨rfl, rfl, rfl, rfl, rfl, rfl, rfl, (congrArg (Value.int .i64) (show (p + 1) = ((p + 1)) from by omega)), trivial⟩, (show V = V ∧ [(Arr 23 b1 [(.int .i64 a.l), (.int .i64 a.h), (.int .i64 a.s)]), (Arr 23 b2 [(.int .i64 b.l), (.int .i64 b.h), (.int .i64 b.s)]), (Arr 23 b3 [(Value.int .i64 0), (Value.int .i64 0), (Value.int .i64 0)]), (Gr 3 1 u fs.length ((fs.map (Value.int .i64))))] = [(Arr 23 b1 [(.int .i64 a.l), (.int .i64 a.h), (.int .i64 a.s)]), (Arr 23 b2 [(.int .i64 b.l), (.int .i64 b.h), (.int .i64 b.s)]), (Arr 23 b3 [(Value.int .i64 0), (Value.int .i64 0), (Value.int .i64 0)]), (Gr 3 1 u fs.length ((fs.map (Value.int .i64))))] ∧ 0 ≤ (p + 1 : Int) ∧ (p + 1 : Int) ≤ 2 ∧ fs = (pl a b).take (2 * (p + 1 : Int)).toNat ∧ ∀ z : Int, 0 ≤ z → z < (p + 1 : Int) → ∀ q : Int, 0 ≤ q → q < 2 → tmOk (pX a z) (pX b q) from ⟨rfl, rfl, by omega, by omega, by rw [he2, show q = 2 by omega, show 2 * (p + 1) = 2 * p + 2 by omega], all_snoc ho (fun y a b => ho2 y a (by omega))⟩), show (2 - (p + 1)).toNat < (2 - p).toNat from by omega⟩
 ·
  refine vc_exit ?_
  refine blockQ_hit ?_
  refine vc_seq ?_
  have hok : mulOk a b := fun z z0 z1 q q0 q1 => ho z z0 (by omega) q q0 q1
  have hbd := mul_bd ha hb he hf hok
  have hpl : es = pl a b := by rw [he1, show p = 2 by omega]; rfl
  refine vc_region_order (τ := []) [(0, false), (1, false), (2, false), (3, false), (4, false), (5, false), (6, false), (7, false), (8, false), (9, false), (10, false), (11, false), (12, false), (13, false), (14, false), (15, false), (16, false), (17, true), (18, false), (19, false)] [(Arr 23 b1 [(.int .i64 a.l), (.int .i64 a.h), (.int .i64 a.s)]), (Arr 23 b2 [(.int .i64 b.l), (.int .i64 b.h), (.int .i64 b.s)]), (Arr 23 b3 [(Value.int .i64 0), (Value.int .i64 0), (Value.int .i64 0)]), (Gr 3 1 v es.length ((es.map (Value.int .i64))))] Try.mixed (perm_nil _) (by kernel_rfl) ?_
  refine rq rfl (qv_fa (off := 0) Try.field23_2 rfl) ?_
  refine rq rfl (qv_ldp (v := (.int .i64 a.s)) Try.plain3 rfl (inOc (k := 0) rfl) rfl) ?_
  refine rq rfl (qv_fa (off := 0) Try.field23_0 rfl) ?_
  refine rq rfl (qv_ldp (v := (.int .i64 b.l)) Try.plain3 rfl (inOc (k := 1) rfl) rfl) ?_
  refine rq rfl (qv_call (v := (.int .i64 (mag b.l))) (mag_c (by unfold fits; omega)) rfl rfl) ?_
  refine rq rfl (qv_mul rfl rfl (by omega)) ?_
  refine rq rfl (qv_fa (off := 0) Try.field23_2 rfl) ?_
  refine rq rfl (qv_ldp (v := (.int .i64 b.s)) Try.plain3 rfl (inOc (k := 1) rfl) rfl) ?_
  refine rq rfl (qv_fa (off := 0) Try.field23_0 rfl) ?_
  refine rq rfl (qv_ldp (v := (.int .i64 a.l)) Try.plain3 rfl (inOc (k := 0) rfl) rfl) ?_
  refine rq rfl (qv_call (v := (.int .i64 (mag a.l))) (mag_c (by unfold fits; omega)) rfl rfl) ?_
  refine rq rfl (qv_mul rfl rfl (by omega)) ?_
  refine rq rfl (qv_fa (off := 0) Try.field23_2 rfl) ?_
  refine rq rfl (qv_ldp (v := (.int .i64 a.s)) Try.plain3 rfl (inOc (k := 0) rfl) rfl) ?_
  refine rq rfl (qv_fa (off := 0) Try.field23_2 rfl) ?_
  refine rq rfl (qv_ldp (v := (.int .i64 b.s)) Try.plain3 rfl (inOc (k := 1) rfl) rfl) ?_
  refine rq rfl (qv_mul rfl rfl (by omega)) ?_
  refine rl rfl ?_
  refine ops_lit (n := 3) (s := 1) (cs := [(.int .i64 (a.s * (mag b.l))), (.int .i64 (b.s * (mag a.l))), (.int .i64 (a.s * b.s))]) Try.underlying37 Try.ti3 (Nat.le_of_ble_eq_true rfl) rfl rfl rfl (Nat.le_of_ble_eq_true rfl) rfl (fun b5 => ?_)
  refine ops_nil ⟨[(Arr 23 b1 [(.int .i64 a.l), (.int .i64 a.h), (.int .i64 a.s)]), (Arr 23 b2 [(.int .i64 b.l), (.int .i64 b.h), (.int .i64 b.s)]), (Arr 23 b3 [(Value.int .i64 0), (Value.int .i64 0), (Value.int .i64 0)]), (Gr 3 1 v es.length ((es.map (Value.int .i64)))), (Arr 3 b5 [(.int .i64 (a.s * (mag b.l))), (.int .i64 (b.s * (mag a.l))), (.int .i64 (a.s * b.s))])], [], (Sub.refl _), perm_nil _, ⟨[(Arr 3 b5 [(.int .i64 (a.s * (mag b.l))), (.int .i64 (b.s * (mag a.l))), (.int .i64 (a.s * b.s))])], (.refl _)⟩, ?_⟩
  refine rq rfl (qv_call_own (v := (.int .i64 (gcdF (mulG a b)))) (k := 4) (b := b5) rfl (fun Vo hVo hbo => gcd_c (xs := mulG a b) (sl_own (n := 3) (c := 3) hbo rfl (Nat.le_refl _) (by omega)) (nn3 hbd.1.1 hbd.2.1.1 hbd.2.2.1)) rfl rfl) ?_
  refine rq rfl (qv_as (.int .i64 (gcdF (mulG a b))) rfl) ?_
  refine rnil ?_
  refine vc_seq ?_
  refine vc_res (σ' := [(Arr 23 b1 [(.int .i64 a.l), (.int .i64 a.h), (.int .i64 a.s)]), (Arr 23 b2 [(.int .i64 b.l), (.int .i64 b.h), (.int .i64 b.s)]), (Arr 23 b3 [(Value.int .i64 0), (Value.int .i64 0), (Value.int .i64 0)]), (Gr 3 1 v es.length ((es.map (Value.int .i64)))), (Arr 3 b5 [(.int .i64 (a.s * (mag b.l))), (.int .i64 (b.s * (mag a.l))), (.int .i64 (a.s * b.s))])]) rfl ?_
  refine vc_freezeG (v := v) (E := 3) (n := es.length) (xs := (es.map (Value.int .i64))) (σr := [(Arr 23 b1 [(Value.int .i64 (a.l)), (Value.int .i64 (a.h)), (Value.int .i64 (a.s))]), (Arr 23 b2 [(Value.int .i64 (b.l)), (Value.int .i64 (b.h)), (Value.int .i64 (b.s))]), (Arr 23 b3 [(Value.int .i64 0), (Value.int .i64 0), (Value.int .i64 0)]), (Arr 3 b5 [(Value.int .i64 (a.s * (mag b.l))), (Value.int .i64 (b.s * (mag a.l))), (Value.int .i64 (a.s * b.s))])]) (List.perm_middle (l₁ := [(Arr 23 b1 [(Value.int .i64 (a.l)), (Value.int .i64 (a.h)), (Value.int .i64 (a.s))]), (Arr 23 b2 [(Value.int .i64 (b.l)), (Value.int .i64 (b.h)), (Value.int .i64 (b.s))]), (Arr 23 b3 [(Value.int .i64 0), (Value.int .i64 0), (Value.int .i64 0)])]) (l₂ := [(Arr 3 b5 [(Value.int .i64 (a.s * (mag b.l))), (Value.int .i64 (b.s * (mag a.l))), (Value.int .i64 (a.s * b.s))])])) (fun Vf1 hVf1 hc1 => ?_)
  refine vc_region ?_
  refine oq (qv_mv v rfl) ?_
  have hes : Ints .i64 Vf1 v (pl a b) := hpl ▸ hc1
  refine oq (qv_call (v := (.int .i64 (minF (pl a b)))) (Min_c hes (by simp [pl])) rfl rfl) ?_
  refine oq (qv_mv v rfl) ?_
  refine oq (qv_call (v := (.int .i64 (maxF (pl a b)))) (Max_c hes (by simp [pl])) rfl rfl) ?_
  refine oq (qv_mv (.int .i64 (gcdF (mulG a b))) rfl) ?_
  refine oq (qv_call (v := (.agg #[(.int .i64 ((spanF (minF (pl a b)) (maxF (pl a b)) (gcdF (mulG a b))).l)), (.int .i64 ((spanF (minF (pl a b)) (maxF (pl a b)) (gcdF (mulG a b))).h)), (.int .i64 ((spanF (minF (pl a b)) (maxF (pl a b)) (gcdF (mulG a b))).s))])) (span_c (pl_fits hok (minF_mem (by simp [pl]))) (pl_fits hok (maxF_mem (by simp [pl]))) (gcdF_nn _)) rfl rfl) ?_
  refine ops_stw (k := 2) (vs := [(.int .i64 ((spanF (minF (pl a b)) (maxF (pl a b)) (gcdF (mulG a b))).l)), (.int .i64 ((spanF (minF (pl a b)) (maxF (pl a b)) (gcdF (mulG a b))).h)), (.int .i64 ((spanF (minF (pl a b)) (maxF (pl a b)) (gcdF (mulG a b))).s))]) Try.size23 rfl rfl rfl rfl rfl rfl ?_
  refine oq (qv_as (Value.int .i64 0) rfl) ?_
  refine ops_nil ?_
  refine vc_ret ?_
  refine rs2 _ (Value.int .i64 0) (rv_c (vs := [(.int .i64 ((spanF (minF (pl a b)) (maxF (pl a b)) (gcdF (mulG a b))).l)), (.int .i64 ((spanF (minF (pl a b)) (maxF (pl a b)) (gcdF (mulG a b))).h)), (.int .i64 ((spanF (minF (pl a b)) (maxF (pl a b)) (gcdF (mulG a b))).s))]) Try.agg23 rfl (inOc (k := 2) rfl) rfl rfl) (rv_t rfl) ?_
  exact tup2 (agg3 (show spanF (minF (pl a b)) (maxF (pl a b)) (gcdF (mulG a b)) = mulN a b from by rw [mulN_1 hok])) (congrArg (Value.int .i64) (show 0 = (mulE a b) from by rw [mulE_1 hok]))

set_option maxRecDepth 100000 in
set_option maxHeartbeats 4000000 in
theorem nknown_c {V : HV} {op : Int} :
    FnC Try.prog 61 [(Value.int .i64 op)] V [] (fun v _ _ => v = (.bool (decide (8 ≤ op ∧ op ≤ 22)))) := by
 refine fn_intro (N := 22) Try.func61 (by kernel_rfl) rfl rfl rfl (Nat.le_of_ble_eq_true rfl) ?_
 intro w0 D
 refine vc_seq ?_
 refine vc_region ?_
 refine oq (qv_as (Value.bool false) rfl) ?_
 refine ops_nil ?_
 refine vc_seq ?_
 refine vc_seq ?_
 refine vc_region ?_
 refine oq (qv_mv (Value.int .i64 op) rfl) ?_
 refine ops_nil ?_
 refine vc_block ?_
 refine vc_seq ?_
 refine vc_block ?_
 refine vc_block ?_
 refine vc_block ?_
 refine vc_seq ?_
 refine vc_seq ?_
 refine vc_seq ?_
 refine vc_seq ?_
 refine vc_region ?_
 refine oq (qv_eql rfl rfl) ?_
 refine oq (qv_as (.bool (decide (op = 8))) rfl) ?_
 refine ops_nil ?_
 refine vc_if rfl (fun c1 => ?_) (fun c1 => ?_)
 ·
  refine vc_skip ?_
  refine vc_if_t rfl c1 ?_
  refine vc_exit ?_
  refine blockQ_hit ?_
  refine vc_seq ?_
  refine vc_seq ?_
  refine vc_region ?_
  refine oq (qv_as (Value.bool true) rfl) ?_
  refine ops_nil ?_
  refine vc_ret ?_
  refine blockQ_ret ?_
  exact rq1 (.bool (decide (8 ≤ op ∧ op ≤ 22))) (congrArg Value.bool (decide_eq_true (show (8 ≤ op ∧ op ≤ 22) from by omega)).symm) rfl
 ·
  refine vc_seq ?_
  refine vc_region ?_
  refine oq (qv_eql rfl rfl) ?_
  refine oq (qv_as (.bool (decide (op = 9))) rfl) ?_
  refine ops_nil ?_
  refine vc_if rfl (fun c2 => ?_) (fun c2 => ?_)
  ·
   refine vc_skip ?_
   refine vc_if_t rfl c2 ?_
   refine vc_exit ?_
   refine blockQ_hit ?_
   refine vc_seq ?_
   refine vc_seq ?_
   refine vc_region ?_
   refine oq (qv_as (Value.bool true) rfl) ?_
   refine ops_nil ?_
   refine vc_ret ?_
   refine blockQ_ret ?_
   exact rq1 (.bool (decide (8 ≤ op ∧ op ≤ 22))) (congrArg Value.bool (decide_eq_true (show (8 ≤ op ∧ op ≤ 22) from by omega)).symm) rfl
  ·
   refine vc_seq ?_
   refine vc_region ?_
   refine oq (qv_eql rfl rfl) ?_
   refine oq (qv_as (.bool (decide (op = 10))) rfl) ?_
   refine ops_nil ?_
   refine vc_if rfl (fun c3 => ?_) (fun c3 => ?_)
   ·
    refine vc_skip ?_
    refine vc_if_t rfl c3 ?_
    refine vc_exit ?_
    refine blockQ_hit ?_
    refine vc_seq ?_
    refine vc_seq ?_
    refine vc_region ?_
    refine oq (qv_as (Value.bool true) rfl) ?_
    refine ops_nil ?_
    refine vc_ret ?_
    refine blockQ_ret ?_
    exact rq1 (.bool (decide (8 ≤ op ∧ op ≤ 22))) (congrArg Value.bool (decide_eq_true (show (8 ≤ op ∧ op ≤ 22) from by omega)).symm) rfl
   ·
    refine vc_seq ?_
    refine vc_region ?_
    refine oq (qv_eql rfl rfl) ?_
    refine oq (qv_as (.bool (decide (op = 11))) rfl) ?_
    refine ops_nil ?_
    refine vc_if rfl (fun c4 => ?_) (fun c4 => ?_)
    ·
     refine vc_skip ?_
     refine vc_if_t rfl c4 ?_
     refine vc_exit ?_
     refine blockQ_hit ?_
     refine vc_seq ?_
     refine vc_seq ?_
     refine vc_region ?_
     refine oq (qv_as (Value.bool true) rfl) ?_
     refine ops_nil ?_
     refine vc_ret ?_
     refine blockQ_ret ?_
     exact rq1 (.bool (decide (8 ≤ op ∧ op ≤ 22))) (congrArg Value.bool (decide_eq_true (show (8 ≤ op ∧ op ≤ 22) from by omega)).symm) rfl
    ·
     refine vc_region ?_
     refine oq (qv_eql rfl rfl) ?_
     refine oq (qv_as (.bool (decide (op = 12))) rfl) ?_
     refine ops_nil ?_
     refine vc_if rfl (fun c5 => ?_) (fun c5 => ?_)
     ·
      refine vc_exit ?_
      refine blockQ_hit ?_
      refine vc_seq ?_
      refine vc_seq ?_
      refine vc_region ?_
      refine oq (qv_as (Value.bool true) rfl) ?_
      refine ops_nil ?_
      refine vc_ret ?_
      refine blockQ_ret ?_
      exact rq1 (.bool (decide (8 ≤ op ∧ op ≤ 22))) (congrArg Value.bool (decide_eq_true (show (8 ≤ op ∧ op ≤ 22) from by omega)).symm) rfl
     ·
      refine vc_skip ?_
      refine vc_seq ?_
      refine vc_seq ?_
      refine vc_seq ?_
      refine vc_region ?_
      refine oq (qv_eql rfl rfl) ?_
      refine oq (qv_as (.bool (decide (op = 13))) rfl) ?_
      refine ops_nil ?_
      refine vc_if rfl (fun c6 => ?_) (fun c6 => ?_)
      ·
       refine vc_skip ?_
       refine vc_if_t rfl c6 ?_
       refine vc_exit ?_
       refine blockQ_miss rfl ?_
       refine blockQ_hit ?_
       refine vc_seq ?_
       refine vc_seq ?_
       refine vc_region ?_
       refine oq (qv_as (Value.bool true) rfl) ?_
       refine ops_nil ?_
       refine vc_ret ?_
       refine blockQ_ret ?_
       exact rq1 (.bool (decide (8 ≤ op ∧ op ≤ 22))) (congrArg Value.bool (decide_eq_true (show (8 ≤ op ∧ op ≤ 22) from by omega)).symm) rfl
      ·
       refine vc_seq ?_
       refine vc_region ?_
       refine oq (qv_eql rfl rfl) ?_
       refine oq (qv_as (.bool (decide (op = 14))) rfl) ?_
       refine ops_nil ?_
       refine vc_if rfl (fun c7 => ?_) (fun c7 => ?_)
       ·
        refine vc_skip ?_
        refine vc_if_t rfl c7 ?_
        refine vc_exit ?_
        refine blockQ_miss rfl ?_
        refine blockQ_hit ?_
        refine vc_seq ?_
        refine vc_seq ?_
        refine vc_region ?_
        refine oq (qv_as (Value.bool true) rfl) ?_
        refine ops_nil ?_
        refine vc_ret ?_
        refine blockQ_ret ?_
        exact rq1 (.bool (decide (8 ≤ op ∧ op ≤ 22))) (congrArg Value.bool (decide_eq_true (show (8 ≤ op ∧ op ≤ 22) from by omega)).symm) rfl
       ·
        refine vc_seq ?_
        refine vc_region ?_
        refine oq (qv_eql rfl rfl) ?_
        refine oq (qv_as (.bool (decide (op = 15))) rfl) ?_
        refine ops_nil ?_
        refine vc_if rfl (fun c8 => ?_) (fun c8 => ?_)
        ·
         refine vc_skip ?_
         refine vc_if_t rfl c8 ?_
         refine vc_exit ?_
         refine blockQ_miss rfl ?_
         refine blockQ_hit ?_
         refine vc_seq ?_
         refine vc_seq ?_
         refine vc_region ?_
         refine oq (qv_as (Value.bool true) rfl) ?_
         refine ops_nil ?_
         refine vc_ret ?_
         refine blockQ_ret ?_
         exact rq1 (.bool (decide (8 ≤ op ∧ op ≤ 22))) (congrArg Value.bool (decide_eq_true (show (8 ≤ op ∧ op ≤ 22) from by omega)).symm) rfl
        ·
         refine vc_seq ?_
         refine vc_region ?_
         refine oq (qv_eql rfl rfl) ?_
         refine oq (qv_as (.bool (decide (op = 16))) rfl) ?_
         refine ops_nil ?_
         refine vc_if rfl (fun c9 => ?_) (fun c9 => ?_)
         ·
          refine vc_skip ?_
          refine vc_if_t rfl c9 ?_
          refine vc_exit ?_
          refine blockQ_miss rfl ?_
          refine blockQ_hit ?_
          refine vc_seq ?_
          refine vc_seq ?_
          refine vc_region ?_
          refine oq (qv_as (Value.bool true) rfl) ?_
          refine ops_nil ?_
          refine vc_ret ?_
          refine blockQ_ret ?_
          exact rq1 (.bool (decide (8 ≤ op ∧ op ≤ 22))) (congrArg Value.bool (decide_eq_true (show (8 ≤ op ∧ op ≤ 22) from by omega)).symm) rfl
         ·
          refine vc_seq ?_
          refine vc_region ?_
          refine oq (qv_eql rfl rfl) ?_
          refine oq (qv_as (.bool (decide (op = 17))) rfl) ?_
          refine ops_nil ?_
          refine vc_if rfl (fun c10 => ?_) (fun c10 => ?_)
          ·
           refine vc_skip ?_
           refine vc_if_t rfl c10 ?_
           refine vc_exit ?_
           refine blockQ_miss rfl ?_
           refine blockQ_hit ?_
           refine vc_seq ?_
           refine vc_seq ?_
           refine vc_region ?_
           refine oq (qv_as (Value.bool true) rfl) ?_
           refine ops_nil ?_
           refine vc_ret ?_
           refine blockQ_ret ?_
           exact rq1 (.bool (decide (8 ≤ op ∧ op ≤ 22))) (congrArg Value.bool (decide_eq_true (show (8 ≤ op ∧ op ≤ 22) from by omega)).symm) rfl
          ·
           refine vc_region ?_
           refine oq (qv_eql rfl rfl) ?_
           refine oq (qv_as (.bool (decide (op = 18))) rfl) ?_
           refine ops_nil ?_
           refine vc_if rfl (fun c11 => ?_) (fun c11 => ?_)
           ·
            refine vc_exit ?_
            refine blockQ_miss rfl ?_
            refine blockQ_hit ?_
            refine vc_seq ?_
            refine vc_seq ?_
            refine vc_region ?_
            refine oq (qv_as (Value.bool true) rfl) ?_
            refine ops_nil ?_
            refine vc_ret ?_
            refine blockQ_ret ?_
            exact rq1 (.bool (decide (8 ≤ op ∧ op ≤ 22))) (congrArg Value.bool (decide_eq_true (show (8 ≤ op ∧ op ≤ 22) from by omega)).symm) rfl
           ·
            refine vc_skip ?_
            refine vc_seq ?_
            refine vc_seq ?_
            refine vc_region ?_
            refine oq (qv_eql rfl rfl) ?_
            refine oq (qv_as (.bool (decide (op = 19))) rfl) ?_
            refine ops_nil ?_
            refine vc_if rfl (fun c12 => ?_) (fun c12 => ?_)
            ·
             refine vc_skip ?_
             refine vc_if_t rfl c12 ?_
             refine vc_exit ?_
             refine blockQ_miss rfl ?_
             refine blockQ_miss rfl ?_
             refine blockQ_hit ?_
             refine vc_seq ?_
             refine vc_seq ?_
             refine vc_region ?_
             refine oq (qv_as (Value.bool true) rfl) ?_
             refine ops_nil ?_
             refine vc_ret ?_
             refine blockQ_ret ?_
             exact rq1 (.bool (decide (8 ≤ op ∧ op ≤ 22))) (congrArg Value.bool (decide_eq_true (show (8 ≤ op ∧ op ≤ 22) from by omega)).symm) rfl
            ·
             refine vc_seq ?_
             refine vc_region ?_
             refine oq (qv_eql rfl rfl) ?_
             refine oq (qv_as (.bool (decide (op = 20))) rfl) ?_
             refine ops_nil ?_
             refine vc_if rfl (fun c13 => ?_) (fun c13 => ?_)
             ·
              refine vc_skip ?_
              refine vc_if_t rfl c13 ?_
              refine vc_exit ?_
              refine blockQ_miss rfl ?_
              refine blockQ_miss rfl ?_
              refine blockQ_hit ?_
              refine vc_seq ?_
              refine vc_seq ?_
              refine vc_region ?_
              refine oq (qv_as (Value.bool true) rfl) ?_
              refine ops_nil ?_
              refine vc_ret ?_
              refine blockQ_ret ?_
              exact rq1 (.bool (decide (8 ≤ op ∧ op ≤ 22))) (congrArg Value.bool (decide_eq_true (show (8 ≤ op ∧ op ≤ 22) from by omega)).symm) rfl
             ·
              refine vc_seq ?_
              refine vc_region ?_
              refine oq (qv_eql rfl rfl) ?_
              refine oq (qv_as (.bool (decide (op = 21))) rfl) ?_
              refine ops_nil ?_
              refine vc_if rfl (fun c14 => ?_) (fun c14 => ?_)
              ·
               refine vc_skip ?_
               refine vc_if_t rfl c14 ?_
               refine vc_exit ?_
               refine blockQ_miss rfl ?_
               refine blockQ_miss rfl ?_
               refine blockQ_hit ?_
               refine vc_seq ?_
               refine vc_seq ?_
               refine vc_region ?_
               refine oq (qv_as (Value.bool true) rfl) ?_
               refine ops_nil ?_
               refine vc_ret ?_
               refine blockQ_ret ?_
               exact rq1 (.bool (decide (8 ≤ op ∧ op ≤ 22))) (congrArg Value.bool (decide_eq_true (show (8 ≤ op ∧ op ≤ 22) from by omega)).symm) rfl
              ·
               refine vc_region ?_
               refine oq (qv_eql rfl rfl) ?_
               refine oq (qv_as (.bool (decide (op = 22))) rfl) ?_
               refine ops_nil ?_
               refine vc_if rfl (fun c15 => ?_) (fun c15 => ?_)
               ·
                refine vc_exit ?_
                refine blockQ_miss rfl ?_
                refine blockQ_miss rfl ?_
                refine blockQ_hit ?_
                refine vc_seq ?_
                refine vc_seq ?_
                refine vc_region ?_
                refine oq (qv_as (Value.bool true) rfl) ?_
                refine ops_nil ?_
                refine vc_ret ?_
                refine blockQ_ret ?_
                exact rq1 (.bool (decide (8 ≤ op ∧ op ≤ 22))) (congrArg Value.bool (decide_eq_true (show (8 ≤ op ∧ op ≤ 22) from by omega)).symm) rfl
               ·
                refine vc_skip ?_
                refine vc_exit ?_
                refine blockQ_miss rfl ?_
                refine blockQ_miss rfl ?_
                refine blockQ_miss rfl ?_
                refine blockQ_hit ?_
                refine vc_seq ?_
                refine vc_region ?_
                refine oq (qv_as (Value.bool false) rfl) ?_
                refine ops_nil ?_
                refine vc_ret ?_
                exact rq1 (.bool (decide (8 ≤ op ∧ op ≤ 22))) (congrArg Value.bool (decide_eq_false (show ¬ (8 ≤ op ∧ op ≤ 22) from by omega)).symm) rfl

set_option maxRecDepth 100000 in
set_option maxHeartbeats 4000000 in
theorem Join_c {V : HV} {a b : Nm} :
    FnC Try.prog 13 [(.agg #[(.int .i64 a.l), (.int .i64 a.h), (.int .i64 a.s)]), (.agg #[(.int .i64 b.l), (.int .i64 b.h), (.int .i64 b.s)])] V [] (fun v _ _ => v = .tuple #[(.agg #[(.int .i64 ((jN a b).l)), (.int .i64 ((jN a b).h)), (.int .i64 ((jN a b).s))]), (.int .i64 (jE a b))]) := by
 refine fn_intro (N := 18) Try.func13 (by kernel_rfl) rfl rfl rfl (Nat.le_of_ble_eq_true rfl) ?_
 intro w0 D
 refine vc_seq ?_
 refine vc_region ?_
 refine ops_box (v := (.agg #[(.int .i64 a.l), (.int .i64 a.h), (.int .i64 a.s)])) (cs := [(.int .i64 a.l), (.int .i64 a.h), (.int .i64 a.s)]) rfl rfl (fun b1 => ?_)
 refine ops_box (v := (.agg #[(.int .i64 b.l), (.int .i64 b.h), (.int .i64 b.s)])) (cs := [(.int .i64 b.l), (.int .i64 b.h), (.int .i64 b.s)]) rfl rfl (fun b2 => ?_)
 refine ops_alloc Try.ti23 rfl (fun b3 => ?_)
 refine oq (qv_as (Value.int .i64 0) rfl) ?_
 refine ops_nil ?_
 refine vc_seq ?_
 refine vc_seq ?_
 refine vc_res (σ' := [(Arr 23 b1 [(.int .i64 a.l), (.int .i64 a.h), (.int .i64 a.s)]), (Arr 23 b2 [(.int .i64 b.l), (.int .i64 b.h), (.int .i64 b.s)]), (Arr 23 b3 [(Value.int .i64 0), (Value.int .i64 0), (Value.int .i64 0)])]) rfl ?_
 refine vc_region ?_
 refine oq (qv_ldm (vs := [(.int .i64 a.l), (.int .i64 a.h), (.int .i64 a.s)]) Try.agg23 rfl (inOc (k := 0) rfl) rfl rfl) ?_
 refine oq (qv_call (v := (.bool (decide (vld a)))) (Valid_c (a := a)) rfl rfl) ?_
 refine oq (qv_not rfl) ?_
 refine oq (qv_mv (.bool (decide (¬ (vld a)))) rfl) ?_
 by_cases g1 : ¬ (vld a)
 ·
  refine os (want_fn g1 rfl rfl rfl) ?_
  refine os (want_fn g1 rfl rfl rfl) ?_
  refine os (want_fn g1 rfl rfl rfl) ?_
  refine oq (qv_pick_t g1 rfl (rfl : ev _ _ = (Value.bool true))) ?_
  refine ops_nil ?_
  refine vc_tt rfl ?_
  refine vc_seq ?_
  have hj : ¬ jOk a b := fun h => by first | exact absurd h.1 (by assumption) | exact absurd h.2 (by assumption)
  refine vc_region ?_
  refine oq (qv_build (out := [(Value.int .i64 0), (Value.int .i64 0), (Value.int .i64 0)]) Try.build23 [] rfl rfl) ?_
  refine ops_stw (k := 2) (vs := [(Value.int .i64 0), (Value.int .i64 0), (Value.int .i64 0)]) Try.size23 rfl rfl rfl rfl rfl rfl ?_
  refine oq (qv_as (Value.int .i64 1) rfl) ?_
  refine ops_nil ?_
  refine vc_ret ?_
  refine rs2 _ (Value.int .i64 1) (rv_c (vs := [(Value.int .i64 0), (Value.int .i64 0), (Value.int .i64 0)]) Try.agg23 rfl (inOc (k := 2) rfl) rfl rfl) (rv_t rfl) ?_
  exact tup2 (agg3 (show (⟨0, 0, 0⟩ : Nm) = jN a b from by rw [jN_0 hj])) (congrArg (Value.int .i64) (show 1 = (jE a b) from by rw [jE_0 hj]))
 ·
  refine og (qv_ldm (vs := [(.int .i64 b.l), (.int .i64 b.h), (.int .i64 b.s)]) Try.agg23 rfl (inOc (k := 1) rfl) rfl rfl) (want_f g1 rfl rfl rfl) ?_
  refine og (qv_call (v := (.bool (decide (vld b)))) (Valid_c (a := b)) rfl rfl) (want_f g1 rfl rfl rfl) ?_
  refine og (qv_not rfl) (want_f g1 rfl rfl rfl) ?_
  refine oq (qv_pick_f g1 rfl (rfl : ev _ _ = (.bool (decide (¬ (vld b)))))) ?_
  refine ops_nil ?_
  refine vc_if rfl (fun c1 => ?_) (fun c1 => ?_)
  ·
   refine vc_seq ?_
   have hj : ¬ jOk a b := fun h => by first | exact absurd h.1 (by assumption) | exact absurd h.2 (by assumption)
   refine vc_region ?_
   refine oq (qv_build (out := [(Value.int .i64 0), (Value.int .i64 0), (Value.int .i64 0)]) Try.build23 [] rfl rfl) ?_
   refine ops_stw (k := 2) (vs := [(Value.int .i64 0), (Value.int .i64 0), (Value.int .i64 0)]) Try.size23 rfl rfl rfl rfl rfl rfl ?_
   refine oq (qv_as (Value.int .i64 1) rfl) ?_
   refine ops_nil ?_
   refine vc_ret ?_
   refine rs2 _ (Value.int .i64 1) (rv_c (vs := [(Value.int .i64 0), (Value.int .i64 0), (Value.int .i64 0)]) Try.agg23 rfl (inOc (k := 2) rfl) rfl rfl) (rv_t rfl) ?_
   exact tup2 (agg3 (show (⟨0, 0, 0⟩ : Nm) = jN a b from by rw [jN_0 hj])) (congrArg (Value.int .i64) (show 1 = (jE a b) from by rw [jE_0 hj]))
  ·
   refine vc_skip ?_
   refine vc_seq ?_
   have hj : jOk a b := ⟨Decidable.not_not.1 (by assumption), Decidable.not_not.1 (by assumption)⟩
   refine vc_region ?_
   refine oq (qv_ldm (vs := [(.int .i64 a.l), (.int .i64 a.h), (.int .i64 a.s)]) Try.agg23 rfl (inOc (k := 0) rfl) rfl rfl) ?_
   refine oq (qv_ldm (vs := [(.int .i64 b.l), (.int .i64 b.h), (.int .i64 b.s)]) Try.agg23 rfl (inOc (k := 1) rfl) rfl rfl) ?_
   refine oq (qv_call (v := (.agg #[(.int .i64 ((joinF a b).l)), (.int .i64 ((joinF a b).h)), (.int .i64 ((joinF a b).s))])) (join_c (a := a) (b := b) (hj.1) (hj.2)) rfl rfl) ?_
   refine ops_stw (k := 2) (vs := [(.int .i64 ((joinF a b).l)), (.int .i64 ((joinF a b).h)), (.int .i64 ((joinF a b).s))]) Try.size23 rfl rfl rfl rfl rfl rfl ?_
   refine oq (qv_as (Value.int .i64 0) rfl) ?_
   refine ops_nil ?_
   refine vc_ret ?_
   refine rs2 _ (Value.int .i64 0) (rv_c (vs := [(.int .i64 ((joinF a b).l)), (.int .i64 ((joinF a b).h)), (.int .i64 ((joinF a b).s))]) Try.agg23 rfl (inOc (k := 2) rfl) rfl rfl) (rv_t rfl) ?_
   exact tup2 (agg3 (show joinF a b = jN a b from by rw [jN_1 hj])) (congrArg (Value.int .i64) (show 0 = (jE a b) from by rw [jE_1 hj]))

set_option maxRecDepth 100000 in
set_option maxHeartbeats 4000000 in
theorem Binary10_c {V : HV} {a b : Nm} (ha : vld a) (hb : vld b) (he : a ≠ nE) (hf : b ≠ nE) :
    FnC Try.prog 23 [(Value.int .i64 10), (.agg #[(.int .i64 a.l), (.int .i64 a.h), (.int .i64 a.s)]), (.agg #[(.int .i64 b.l), (.int .i64 b.h), (.int .i64 b.s)])] V [] (fun v _ _ => v = .tuple #[(.agg #[(.int .i64 ((mulN a b).l)), (.int .i64 ((mulN a b).h)), (.int .i64 ((mulN a b).s))]), (.int .i64 (mulE a b))]) := by
 refine fn_intro (N := 93) Try.func23 (by kernel_rfl) rfl rfl rfl (Nat.le_of_ble_eq_true rfl) ?_
 intro w0 D
 refine vc_seq ?_
 refine vc_region ?_
 refine ops_box (v := (.agg #[(.int .i64 a.l), (.int .i64 a.h), (.int .i64 a.s)])) (cs := [(.int .i64 a.l), (.int .i64 a.h), (.int .i64 a.s)]) rfl rfl (fun b1 => ?_)
 refine ops_box (v := (.agg #[(.int .i64 b.l), (.int .i64 b.h), (.int .i64 b.s)])) (cs := [(.int .i64 b.l), (.int .i64 b.h), (.int .i64 b.s)]) rfl rfl (fun b2 => ?_)
 refine ops_alloc Try.ti23 rfl (fun b3 => ?_)
 refine oq (qv_as (Value.int .i64 0) rfl) ?_
 refine ops_nil ?_
 refine vc_seq ?_
 refine vc_seq ?_
 refine vc_res (σ' := [(Arr 23 b1 [(.int .i64 a.l), (.int .i64 a.h), (.int .i64 a.s)]), (Arr 23 b2 [(.int .i64 b.l), (.int .i64 b.h), (.int .i64 b.s)]), (Arr 23 b3 [(Value.int .i64 0), (Value.int .i64 0), (Value.int .i64 0)])]) rfl ?_
 refine vc_region ?_
 refine oq (qv_ldm (vs := [(.int .i64 a.l), (.int .i64 a.h), (.int .i64 a.s)]) Try.agg23 rfl (inOc (k := 0) rfl) rfl rfl) ?_
 refine oq (qv_call (v := (.bool (decide (vld a)))) (Valid_c (a := a)) rfl rfl) ?_
 refine oq (qv_not rfl) ?_
 refine oq (qv_mv (.bool (decide (¬ (vld a)))) rfl) ?_
 by_cases g1 : ¬ (vld a)
 ·
  exact absurd ha g1
 ·
  refine og (qv_ldm (vs := [(.int .i64 b.l), (.int .i64 b.h), (.int .i64 b.s)]) Try.agg23 rfl (inOc (k := 1) rfl) rfl rfl) (want_f g1 rfl rfl rfl) ?_
  refine og (qv_call (v := (.bool (decide (vld b)))) (Valid_c (a := b)) rfl rfl) (want_f g1 rfl rfl rfl) ?_
  refine og (qv_not rfl) (want_f g1 rfl rfl rfl) ?_
  refine oq (qv_pick_f g1 rfl (rfl : ev _ _ = (.bool (decide (¬ (vld b)))))) ?_
  refine oq (qv_mv (.bool (decide (¬ (vld b)))) rfl) ?_
  by_cases g2 : ¬ (vld b)
  ·
   exact absurd hb g2
  ·
   refine og (qv_mv (Value.int .i64 10) rfl) (want_f g2 rfl rfl rfl) ?_
   refine og (qv_call (v := (.bool (decide (8 ≤ (10 : Int) ∧ (10 : Int) ≤ 22)))) (nknown_c) rfl rfl) (want_f g2 rfl rfl rfl) ?_
   refine og (qv_not rfl) (want_f g2 rfl rfl rfl) ?_
   refine oq (qv_pick_f g2 rfl (rfl : ev _ _ = (.bool (decide (¬ (8 ≤ (10 : Int) ∧ (10 : Int) ≤ 22)))))) ?_
   refine ops_nil ?_
   refine vc_if rfl (fun c1 => ?_) (fun c1 => ?_)
   ·
    omega
   ·
    refine vc_skip ?_
    refine vc_seq ?_
    refine vc_seq ?_
    refine vc_region ?_
    refine oq (qv_ldm (vs := [(.int .i64 a.l), (.int .i64 a.h), (.int .i64 a.s)]) Try.agg23 rfl (inOc (k := 0) rfl) rfl rfl) ?_
    refine oq (qv_call (v := (.bool (decide (a = nE)))) (isEmpty_c (a := a)) rfl rfl) ?_
    refine oq (qv_mv (.bool (decide (a = nE))) rfl) ?_
    by_cases g3 : a = nE
    ·
     exact absurd g3 he
    ·
     refine og (qv_ldm (vs := [(.int .i64 b.l), (.int .i64 b.h), (.int .i64 b.s)]) Try.agg23 rfl (inOc (k := 1) rfl) rfl rfl) (want_f g3 rfl rfl rfl) ?_
     refine og (qv_call (v := (.bool (decide (b = nE)))) (isEmpty_c (a := b)) rfl rfl) (want_f g3 rfl rfl rfl) ?_
     refine oq (qv_pick_f g3 rfl (rfl : ev _ _ = (.bool (decide (b = nE))))) ?_
     refine ops_nil ?_
     refine vc_if rfl (fun c2 => ?_) (fun c2 => ?_)
     ·
      exact absurd c2 hf
     ·
      refine vc_skip ?_
      refine vc_seq ?_
      refine vc_seq ?_
      refine vc_region ?_
      refine oq (qv_mv (Value.int .i64 10) rfl) ?_
      refine ops_nil ?_
      refine vc_block ?_
      refine vc_seq ?_
      refine vc_block ?_
      refine vc_seq ?_
      refine vc_block ?_
      refine vc_seq ?_
      refine vc_block ?_
      refine vc_seq ?_
      refine vc_block ?_
      refine vc_seq ?_
      refine vc_seq ?_
      refine vc_seq ?_
      refine vc_region ?_
      refine oq (qv_eql rfl rfl) ?_
      refine oq (qv_as (.bool (decide (10 = 9))) rfl) ?_
      refine ops_nil ?_
      refine vc_if rfl (fun c3 => ?_) (fun c3 => ?_)
      ·
       omega
      ·
       refine vc_skip ?_
       refine vc_seq ?_
       refine vc_seq ?_
       refine vc_region ?_
       refine oq (qv_eql rfl rfl) ?_
       refine oq (qv_as (.bool (decide (10 = 8))) rfl) ?_
       refine ops_nil ?_
       refine vc_if rfl (fun c4 => ?_) (fun c4 => ?_)
       ·
        omega
       ·
        refine vc_skip ?_
        refine vc_seq ?_
        refine vc_seq ?_
        refine vc_region ?_
        refine oq (qv_eql rfl rfl) ?_
        refine oq (qv_as (.bool (decide (10 = 10))) rfl) ?_
        refine ops_nil ?_
        refine vc_if rfl (fun c5 => ?_) (fun c5 => ?_)
        ·
         refine vc_exit ?_
         refine blockQ_miss rfl ?_
         refine blockQ_miss rfl ?_
         refine blockQ_hit ?_
         refine vc_seq ?_
         refine vc_seq ?_
         refine vc_region ?_
         refine oq (qv_ldm (vs := [(.int .i64 a.l), (.int .i64 a.h), (.int .i64 a.s)]) Try.agg23 rfl (inOc (k := 0) rfl) rfl rfl) ?_
         refine oq (qv_ldm (vs := [(.int .i64 b.l), (.int .i64 b.h), (.int .i64 b.s)]) Try.agg23 rfl (inOc (k := 1) rfl) rfl rfl) ?_
         refine oq (qv_call (v := (.tuple #[(.agg #[(.int .i64 ((mulN a b).l)), (.int .i64 ((mulN a b).h)), (.int .i64 ((mulN a b).s))]), (.int .i64 (mulE a b))])) (multiplied_c ha hb he hf) rfl rfl) ?_
         refine oq (qv_ext (.agg #[(.int .i64 ((mulN a b).l)), (.int .i64 ((mulN a b).h)), (.int .i64 ((mulN a b).s))]) rfl rfl) ?_
         refine oq (qv_ext (.int .i64 (mulE a b)) rfl rfl) ?_
         refine ops_stw (k := 2) (vs := [(.int .i64 ((mulN a b).l)), (.int .i64 ((mulN a b).h)), (.int .i64 ((mulN a b).s))]) Try.size23 rfl rfl rfl rfl rfl rfl ?_
         refine oq (qv_as (.int .i64 (mulE a b)) rfl) ?_
         refine ops_nil ?_
         refine vc_ret ?_
         refine blockQ_ret ?_
         refine blockQ_ret ?_
         refine rs2 _ (.int .i64 (mulE a b)) (rv_c (vs := [(.int .i64 ((mulN a b).l)), (.int .i64 ((mulN a b).h)), (.int .i64 ((mulN a b).s))]) Try.agg23 rfl (inOc (k := 2) rfl) rfl rfl) (rv_t rfl) ?_
         exact tup2 rfl rfl
        ·
         omega

set_option maxRecDepth 100000 in
set_option maxHeartbeats 4000000 in
theorem known_c {V : HV} :
    FnC Try.prog 12 [] V [] (fun v _ _ => v = (Value.bool true)) := by
 refine fn_intro (N := 49) Try.func12 (by kernel_rfl) rfl rfl rfl (Nat.le_of_ble_eq_true rfl) ?_
 intro w0 D
 refine vc_seq ?_
 refine vc_region ?_
 refine oq (qv_as (Value.bool false) rfl) ?_
 refine ops_nil ?_
 refine vc_seq ?_
 refine vc_region ?_
 refine ops_lit (n := 3) (s := 1) (cs := [(Value.int .i64 3), (Value.int .i64 9), (Value.int .i64 5)]) Try.underlying37 Try.ti3 (Nat.le_of_ble_eq_true rfl) rfl rfl rfl (Nat.le_of_ble_eq_true rfl) rfl (fun b1 => ?_)
 refine oq (qv_call_own (v := (.tuple #[(.agg #[(.int .i64 ((ofN [3, 9, 5]).l)), (.int .i64 ((ofN [3, 9, 5]).h)), (.int .i64 ((ofN [3, 9, 5]).s))]), (.int .i64 (ofE [3, 9, 5]))])) (k := 0) (b := b1) rfl (fun Vo hVo hbo => Of_c (xs := [3, 9, 5]) (sl_own (n := 3) (c := 3) hbo rfl (Nat.le_refl _) (by omega))) rfl rfl) ?_
 refine oq (qv_mv (.tuple #[(.agg #[(.int .i64 ((ofN [3, 9, 5]).l)), (.int .i64 ((ofN [3, 9, 5]).h)), (.int .i64 ((ofN [3, 9, 5]).s))]), (.int .i64 (ofE [3, 9, 5]))]) rfl) ?_
 refine oq (qv_ext (.agg #[(.int .i64 ((ofN [3, 9, 5]).l)), (.int .i64 ((ofN [3, 9, 5]).h)), (.int .i64 ((ofN [3, 9, 5]).s))]) rfl rfl) ?_
 refine oq (qv_ext (.int .i64 (ofE [3, 9, 5])) rfl rfl) ?_
 refine ops_alloc Try.ti23 rfl (fun b2 => ?_)
 refine ops_stw (k := 1) (vs := [(.int .i64 ((ofN [3, 9, 5]).l)), (.int .i64 ((ofN [3, 9, 5]).h)), (.int .i64 ((ofN [3, 9, 5]).s))]) Try.size23 rfl rfl rfl rfl rfl rfl ?_
 refine oq (qv_as (.int .i64 (ofE [3, 9, 5])) rfl) ?_
 refine ops_nil ?_
 refine vc_seq ?_
 refine vc_res (σ' := [(Arr 3 b1 [(Value.int .i64 3), (Value.int .i64 9), (Value.int .i64 5)]), (Arr 23 b2 [(.int .i64 ((ofN [3, 9, 5]).l)), (.int .i64 ((ofN [3, 9, 5]).h)), (.int .i64 ((ofN [3, 9, 5]).s))])]) rfl ?_
 refine vc_region ?_
 refine oq (qv_build (out := [(Value.int .i64 0), (Value.int .i64 4), (Value.int .i64 4)]) Try.build23 [(1, [(Value.int .i64 4)]), (2, [(Value.int .i64 4)])] rfl rfl) ?_
 refine oq (qv_build (out := [(Value.int .i64 6), (Value.int .i64 6), (Value.int .i64 0)]) Try.build23 [(0, [(Value.int .i64 6)]), (1, [(Value.int .i64 6)])] rfl rfl) ?_
 refine oq (qv_call (v := (.tuple #[(.agg #[(.int .i64 ((jN a1 a2).l)), (.int .i64 ((jN a1 a2).h)), (.int .i64 ((jN a1 a2).s))]), (.int .i64 (jE a1 a2))])) (Join_c (a := a1) (b := a2)) rfl rfl) ?_
 refine oq (qv_mv (.tuple #[(.agg #[(.int .i64 ((jN a1 a2).l)), (.int .i64 ((jN a1 a2).h)), (.int .i64 ((jN a1 a2).s))]), (.int .i64 (jE a1 a2))]) rfl) ?_
 refine oq (qv_ext (.agg #[(.int .i64 ((jN a1 a2).l)), (.int .i64 ((jN a1 a2).h)), (.int .i64 ((jN a1 a2).s))]) rfl rfl) ?_
 refine oq (qv_ext (.int .i64 (jE a1 a2)) rfl rfl) ?_
 refine ops_alloc Try.ti23 rfl (fun b3 => ?_)
 refine ops_stw (k := 2) (vs := [(.int .i64 ((jN a1 a2).l)), (.int .i64 ((jN a1 a2).h)), (.int .i64 ((jN a1 a2).s))]) Try.size23 rfl rfl rfl rfl rfl rfl ?_
 refine oq (qv_as (.int .i64 (jE a1 a2)) rfl) ?_
 refine ops_nil ?_
 refine vc_seq ?_
 refine vc_res (σ' := [(Arr 3 b1 [(Value.int .i64 3), (Value.int .i64 9), (Value.int .i64 5)]), (Arr 23 b2 [(.int .i64 ((ofN [3, 9, 5]).l)), (.int .i64 ((ofN [3, 9, 5]).h)), (.int .i64 ((ofN [3, 9, 5]).s))]), (Arr 23 b3 [(.int .i64 ((jN a1 a2).l)), (.int .i64 ((jN a1 a2).h)), (.int .i64 ((jN a1 a2).s))])]) rfl ?_
 refine vc_region ?_
 refine oq (qv_build (out := [(Value.int .i64 2), (Value.int .i64 4), (Value.int .i64 2)]) Try.build23 [(0, [(Value.int .i64 2)]), (1, [(Value.int .i64 4)]), (2, [(Value.int .i64 2)])] rfl rfl) ?_
 refine oq (qv_build (out := [(Value.int .i64 3), (Value.int .i64 5), (Value.int .i64 2)]) Try.build23 [(0, [(Value.int .i64 3)]), (1, [(Value.int .i64 5)]), (2, [(Value.int .i64 2)])] rfl rfl) ?_
 refine oq (qv_call (v := (.tuple #[(.agg #[(.int .i64 ((mulN a3 a4).l)), (.int .i64 ((mulN a3 a4).h)), (.int .i64 ((mulN a3 a4).s))]), (.int .i64 (mulE a3 a4))])) (Binary10_c (a := a3) (b := a4) v3 v4 (by decide) (by decide)) rfl rfl) ?_
 refine oq (qv_mv (.tuple #[(.agg #[(.int .i64 ((mulN a3 a4).l)), (.int .i64 ((mulN a3 a4).h)), (.int .i64 ((mulN a3 a4).s))]), (.int .i64 (mulE a3 a4))]) rfl) ?_
 refine oq (qv_ext (.agg #[(.int .i64 ((mulN a3 a4).l)), (.int .i64 ((mulN a3 a4).h)), (.int .i64 ((mulN a3 a4).s))]) rfl rfl) ?_
 refine oq (qv_ext (.int .i64 (mulE a3 a4)) rfl rfl) ?_
 refine ops_alloc Try.ti23 rfl (fun b4 => ?_)
 refine ops_stw (k := 3) (vs := [(.int .i64 ((mulN a3 a4).l)), (.int .i64 ((mulN a3 a4).h)), (.int .i64 ((mulN a3 a4).s))]) Try.size23 rfl rfl rfl rfl rfl rfl ?_
 refine oq (qv_as (.int .i64 (mulE a3 a4)) rfl) ?_
 refine ops_nil ?_
 refine vc_seq ?_
 refine vc_res (σ' := [(Arr 3 b1 [(Value.int .i64 3), (Value.int .i64 9), (Value.int .i64 5)]), (Arr 23 b2 [(.int .i64 ((ofN [3, 9, 5]).l)), (.int .i64 ((ofN [3, 9, 5]).h)), (.int .i64 ((ofN [3, 9, 5]).s))]), (Arr 23 b3 [(.int .i64 ((jN a1 a2).l)), (.int .i64 ((jN a1 a2).h)), (.int .i64 ((jN a1 a2).s))]), (Arr 23 b4 [(.int .i64 ((mulN a3 a4).l)), (.int .i64 ((mulN a3 a4).h)), (.int .i64 ((mulN a3 a4).s))])]) rfl ?_
 refine vc_region ?_
 refine oq (qv_mv (.int .i64 (ofE [3, 9, 5])) rfl) ?_
 refine oq (qv_eql rfl rfl) ?_
 refine oq (qv_mv (.bool (decide ((ofE [3, 9, 5]) = 0))) rfl) ?_
 by_cases g1 : (ofE [3, 9, 5]) = 0
 ·
  refine og (qv_mv (.int .i64 (jE a1 a2)) rfl) (want_t g1 rfl rfl rfl) ?_
  refine og (qv_eql rfl rfl) (want_t g1 rfl rfl rfl) ?_
  refine oq (qv_pick_t g1 rfl (rfl : ev _ _ = (.bool (decide ((jE a1 a2) = 0))))) ?_
  refine oq (qv_mv (.bool (decide ((jE a1 a2) = 0))) rfl) ?_
  by_cases g2 : (jE a1 a2) = 0
  ·
   refine og (qv_mv (.int .i64 (mulE a3 a4)) rfl) (want_t g2 rfl rfl rfl) ?_
   refine og (qv_eql rfl rfl) (want_t g2 rfl rfl rfl) ?_
   refine oq (qv_pick_t g2 rfl (rfl : ev _ _ = (.bool (decide ((mulE a3 a4) = 0))))) ?_
   refine oq (qv_mv (.bool (decide ((mulE a3 a4) = 0))) rfl) ?_
   by_cases g3 : (mulE a3 a4) = 0
   ·
    refine og (qv_ldm (vs := [(.int .i64 ((ofN [3, 9, 5]).l)), (.int .i64 ((ofN [3, 9, 5]).h)), (.int .i64 ((ofN [3, 9, 5]).s))]) Try.agg23 rfl (inOc (k := 1) rfl) rfl rfl) (want_t g3 rfl rfl rfl) ?_
    refine og (qv_build (out := [(Value.int .i64 3), (Value.int .i64 9), (Value.int .i64 2)]) Try.build23 [(0, [(Value.int .i64 3)]), (1, [(Value.int .i64 9)]), (2, [(Value.int .i64 2)])] rfl rfl) (want_t g3 rfl rfl rfl) ?_
    refine og (qv_eqls Try.eq23 [(ofN [3, 9, 5]).l, (ofN [3, 9, 5]).h, (ofN [3, 9, 5]).s] [3, 9, 2] rfl rfl rfl rfl rfl rfl eq3) (want_t g3 rfl rfl rfl) ?_
    refine oq (qv_pick_t g3 rfl (rfl : ev _ _ = (.bool (decide (((ofN [3, 9, 5]).l) = 3 ∧ ((ofN [3, 9, 5]).h) = 9 ∧ ((ofN [3, 9, 5]).s) = 2))))) ?_
    refine oq (qv_mv (.bool (decide (((ofN [3, 9, 5]).l) = 3 ∧ ((ofN [3, 9, 5]).h) = 9 ∧ ((ofN [3, 9, 5]).s) = 2))) rfl) ?_
    by_cases g4 : ((ofN [3, 9, 5]).l) = 3 ∧ ((ofN [3, 9, 5]).h) = 9 ∧ ((ofN [3, 9, 5]).s) = 2
    ·
     refine og (qv_ldm (vs := [(.int .i64 ((jN a1 a2).l)), (.int .i64 ((jN a1 a2).h)), (.int .i64 ((jN a1 a2).s))]) Try.agg23 rfl (inOc (k := 2) rfl) rfl rfl) (want_t g4 rfl rfl rfl) ?_
     refine og (qv_build (out := [(Value.int .i64 0), (Value.int .i64 6), (Value.int .i64 2)]) Try.build23 [(1, [(Value.int .i64 6)]), (2, [(Value.int .i64 2)])] rfl rfl) (want_t g4 rfl rfl rfl) ?_
     refine og (qv_eqls Try.eq23 [(jN a1 a2).l, (jN a1 a2).h, (jN a1 a2).s] [0, 6, 2] rfl rfl rfl rfl rfl rfl eq3) (want_t g4 rfl rfl rfl) ?_
     refine oq (qv_pick_t g4 rfl (rfl : ev _ _ = (.bool (decide (((jN a1 a2).l) = 0 ∧ ((jN a1 a2).h) = 6 ∧ ((jN a1 a2).s) = 2))))) ?_
     refine oq (qv_mv (.bool (decide (((jN a1 a2).l) = 0 ∧ ((jN a1 a2).h) = 6 ∧ ((jN a1 a2).s) = 2))) rfl) ?_
     by_cases g5 : ((jN a1 a2).l) = 0 ∧ ((jN a1 a2).h) = 6 ∧ ((jN a1 a2).s) = 2
     ·
      refine og (qv_ldm (vs := [(.int .i64 ((mulN a3 a4).l)), (.int .i64 ((mulN a3 a4).h)), (.int .i64 ((mulN a3 a4).s))]) Try.agg23 rfl (inOc (k := 3) rfl) rfl rfl) (want_t g5 rfl rfl rfl) ?_
      refine og (qv_build (out := [(Value.int .i64 6), (Value.int .i64 20), (Value.int .i64 2)]) Try.build23 [(0, [(Value.int .i64 6)]), (1, [(Value.int .i64 20)]), (2, [(Value.int .i64 2)])] rfl rfl) (want_t g5 rfl rfl rfl) ?_
      refine og (qv_eqls Try.eq23 [(mulN a3 a4).l, (mulN a3 a4).h, (mulN a3 a4).s] [6, 20, 2] rfl rfl rfl rfl rfl rfl eq3) (want_t g5 rfl rfl rfl) ?_
      refine oq (qv_pick_t g5 rfl (rfl : ev _ _ = (.bool (decide (((mulN a3 a4).l) = 6 ∧ ((mulN a3 a4).h) = 20 ∧ ((mulN a3 a4).s) = 2))))) ?_
      refine oq (qv_as (.bool (decide (((mulN a3 a4).l) = 6 ∧ ((mulN a3 a4).h) = 20 ∧ ((mulN a3 a4).s) = 2))) rfl) ?_
      refine ops_nil ?_
      refine vc_ret ?_
      exact rq1 (Value.bool true) (congrArg Value.bool (decide_eq_true (show (((mulN a3 a4).l) = 6 ∧ ((mulN a3 a4).h) = 20 ∧ ((mulN a3 a4).s) = 2) from by exact nm_iff.1 ex5))) rfl
     ·
      exact absurd (nm_iff.1 ex3) g5
    ·
     exact absurd (nm_iff.1 ex1) g4
   ·
    exact absurd ex6 g3
  ·
   exact absurd ex4 g2
 ·
  exact absurd ex2 g1

end Go.Proofs.Ytapkilaikcihgaa
