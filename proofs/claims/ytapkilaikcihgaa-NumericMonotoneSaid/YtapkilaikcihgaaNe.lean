/- Walks of numeric: what each function returns. Printed by a program out of notes. -/
import Derived.Test.YtapkilaikcihgaaNc
import Derived.Test.YtapkilaikcihgaaNmU
namespace Go.Proofs.Ytapkilaikcihgaa
open Go.Vc
open Classical

set_option maxRecDepth 100000 in
set_option maxHeartbeats 4000000 in
theorem rempty_c {V : HV} {a : Nm} :
    FnC Try.prog 53 [(.agg #[(.int .i64 a.l), (.int .i64 a.h), (.int .i64 a.s)])] V [] (fun v _ _ => v = (.bool (decide (a.h < a.l)))) := by
 refine fn_intro (N := 8) Try.func53 (by kernel_rfl) rfl rfl rfl (Nat.le_of_ble_eq_true rfl) ?_
 intro w0 D
 refine vc_seq ?_
 refine vc_region ?_
 refine ops_box (v := (.agg #[(.int .i64 a.l), (.int .i64 a.h), (.int .i64 a.s)])) (cs := [(.int .i64 a.l), (.int .i64 a.h), (.int .i64 a.s)]) rfl rfl (fun b1 => ?_)
 refine oq (qv_as (Value.bool false) rfl) ?_
 refine ops_nil ?_
 refine vc_seq ?_
 refine vc_res (σ' := [(Arr 23 b1 [(.int .i64 a.l), (.int .i64 a.h), (.int .i64 a.s)])]) rfl ?_
 refine vc_region ?_
 refine oq (qv_fa (off := 0) Try.field23_0 rfl) ?_
 refine oq (qv_ldp (v := (.int .i64 a.l)) Try.plain3 rfl (inOc (k := 0) rfl) rfl) ?_
 refine oq (qv_fa (off := 0) Try.field23_1 rfl) ?_
 refine oq (qv_ldp (v := (.int .i64 a.h)) Try.plain3 rfl (inOc (k := 0) rfl) rfl) ?_
 refine oq (qv_gtr rfl rfl) ?_
 refine oq (qv_as (.bool (decide (a.h < a.l))) rfl) ?_
 refine ops_nil ?_
 refine vc_ret ?_
 exact rq1 (.bool (decide (a.h < a.l))) rfl rfl

set_option maxRecDepth 100000 in
set_option maxHeartbeats 4000000 in
theorem has_c {V : HV} {a : Nm} {n : Int} (ha : vld a) :
    FnC Try.prog 74 [(.agg #[(.int .i64 a.l), (.int .i64 a.h), (.int .i64 a.s)]), (Value.int .i64 n)] V [] (fun v _ _ => v = (.bool (decide (mem a n)))) := by
 refine fn_intro (N := 32) Try.func74 (by kernel_rfl) rfl rfl rfl (Nat.le_of_ble_eq_true rfl) ?_
 intro w0 D
 have ba := vld_bd ha
 unfold fits at ba
 refine vc_seq ?_
 refine vc_region ?_
 refine ops_box (v := (.agg #[(.int .i64 a.l), (.int .i64 a.h), (.int .i64 a.s)])) (cs := [(.int .i64 a.l), (.int .i64 a.h), (.int .i64 a.s)]) rfl rfl (fun b1 => ?_)
 refine oq (qv_as (Value.bool false) rfl) ?_
 refine ops_nil ?_
 refine vc_seq ?_
 refine vc_seq ?_
 refine vc_res (σ' := [(Arr 23 b1 [(.int .i64 a.l), (.int .i64 a.h), (.int .i64 a.s)])]) rfl ?_
 refine vc_region ?_
 refine oq (qv_ldm (vs := [(.int .i64 a.l), (.int .i64 a.h), (.int .i64 a.s)]) Try.agg23 rfl (inOc (k := 0) rfl) rfl rfl) ?_
 refine oq (qv_call (v := (.bool (decide (a = nE)))) (isEmpty_c (a := a)) rfl rfl) ?_
 refine oq (qv_mv (.bool (decide (a = nE))) rfl) ?_
 by_cases g1 : a = nE
 ·
  refine os (want_fn g1 rfl rfl rfl) ?_
  refine os (want_fn g1 rfl rfl rfl) ?_
  refine os (want_fn g1 rfl rfl rfl) ?_
  refine os (want_fn g1 rfl rfl rfl) ?_
  refine oq (qv_pick_t g1 rfl (rfl : ev _ _ = (Value.bool true))) ?_
  refine oq (qv_mv (Value.bool true) rfl) ?_
  refine os (want_fnc rfl rfl rfl) ?_
  refine os (want_fnc rfl rfl rfl) ?_
  refine os (want_fnc rfl rfl rfl) ?_
  refine os (want_fnc rfl rfl rfl) ?_
  refine oq (qv_pick_tc rfl (rfl : ev _ _ = (Value.bool true))) ?_
  refine ops_nil ?_
  refine vc_tt rfl ?_
  refine vc_seq ?_
  refine vc_region ?_
  refine oq (qv_as (Value.bool false) rfl) ?_
  refine ops_nil ?_
  refine vc_ret ?_
  exact rq1 (.bool (decide (mem a n))) (congrArg Value.bool (decide_eq_false (show ¬ (mem a n) from by intro m; first | exact absurd (by assumption) (mem_ne m) | (have := m.1; have := m.2.1; omega))).symm) rfl
 ·
  refine og (qv_mv (Value.int .i64 n) rfl) (want_f g1 rfl rfl rfl) ?_
  refine og (qv_fa (off := 0) Try.field23_0 rfl) (want_f g1 rfl rfl rfl) ?_
  refine og (qv_ldp (v := (.int .i64 a.l)) Try.plain3 rfl (inOc (k := 0) rfl) rfl) (want_f g1 rfl rfl rfl) ?_
  refine og (qv_lss rfl rfl) (want_f g1 rfl rfl rfl) ?_
  refine oq (qv_pick_f g1 rfl (rfl : ev _ _ = (.bool (decide (n < a.l))))) ?_
  refine oq (qv_mv (.bool (decide (n < a.l))) rfl) ?_
  by_cases g2 : n < a.l
  ·
   refine os (want_fn g2 rfl rfl rfl) ?_
   refine os (want_fn g2 rfl rfl rfl) ?_
   refine os (want_fn g2 rfl rfl rfl) ?_
   refine os (want_fn g2 rfl rfl rfl) ?_
   refine oq (qv_pick_t g2 rfl (rfl : ev _ _ = (Value.bool true))) ?_
   refine ops_nil ?_
   refine vc_tt rfl ?_
   refine vc_seq ?_
   refine vc_region ?_
   refine oq (qv_as (Value.bool false) rfl) ?_
   refine ops_nil ?_
   refine vc_ret ?_
   exact rq1 (.bool (decide (mem a n))) (congrArg Value.bool (decide_eq_false (show ¬ (mem a n) from by intro m; first | exact absurd (by assumption) (mem_ne m) | (have := m.1; have := m.2.1; omega))).symm) rfl
  ·
   refine og (qv_mv (Value.int .i64 n) rfl) (want_f g2 rfl rfl rfl) ?_
   refine og (qv_fa (off := 0) Try.field23_1 rfl) (want_f g2 rfl rfl rfl) ?_
   refine og (qv_ldp (v := (.int .i64 a.h)) Try.plain3 rfl (inOc (k := 0) rfl) rfl) (want_f g2 rfl rfl rfl) ?_
   refine og (qv_gtr rfl rfl) (want_f g2 rfl rfl rfl) ?_
   refine oq (qv_pick_f g2 rfl (rfl : ev _ _ = (.bool (decide (a.h < n))))) ?_
   refine ops_nil ?_
   refine vc_if rfl (fun c1 => ?_) (fun c1 => ?_)
   ·
    refine vc_seq ?_
    refine vc_region ?_
    refine oq (qv_as (Value.bool false) rfl) ?_
    refine ops_nil ?_
    refine vc_ret ?_
    exact rq1 (.bool (decide (mem a n))) (congrArg Value.bool (decide_eq_false (show ¬ (mem a n) from by intro m; first | exact absurd (by assumption) (mem_ne m) | (have := m.1; have := m.2.1; omega))).symm) rfl
   ·
    refine vc_skip ?_
    refine vc_seq ?_
    refine vc_region ?_
    refine oq (qv_fa (off := 0) Try.field23_2 rfl) ?_
    refine oq (qv_ldp (v := (.int .i64 a.s)) Try.plain3 rfl (inOc (k := 0) rfl) rfl) ?_
    refine oq (qv_eql rfl rfl) ?_
    refine oq (qv_mv (.bool (decide (a.s = 0))) rfl) ?_
    by_cases g3 : a.s = 0
    ·
     refine os (want_fn g3 rfl rfl rfl) ?_
     refine os (want_fn g3 rfl rfl rfl) ?_
     refine os (want_fn g3 rfl rfl rfl) ?_
     refine os (want_fn g3 rfl rfl rfl) ?_
     refine os (want_fn g3 rfl rfl rfl) ?_
     refine os (want_fn g3 rfl rfl rfl) ?_
     refine os (want_fn g3 rfl rfl rfl) ?_
     refine os (want_fn g3 rfl rfl rfl) ?_
     refine oq (qv_pick_t g3 rfl (rfl : ev _ _ = (Value.bool true))) ?_
     refine oq (qv_as (Value.bool true) rfl) ?_
     refine ops_nil ?_
     refine vc_ret ?_
     exact rq1 (.bool (decide (mem a n))) (congrArg Value.bool (decide_eq_true (show (mem a n) from by exact mem_s0 ha (by assumption) (by omega) (by omega) (by omega))).symm) rfl
    ·
     refine og (qv_mv (Value.int .i64 n) rfl) (want_f g3 rfl rfl rfl) ?_
     refine og (qv_fa (off := 0) Try.field23_0 rfl) (want_f g3 rfl rfl rfl) ?_
     refine og (qv_ldp (v := (.int .i64 a.l)) Try.plain3 rfl (inOc (k := 0) rfl) rfl) (want_f g3 rfl rfl rfl) ?_
     refine og (qv_sub rfl rfl (by omega)) (want_f g3 rfl rfl rfl) ?_
     refine og (qv_fa (off := 0) Try.field23_2 rfl) (want_f g3 rfl rfl rfl) ?_
     refine og (qv_ldp (v := (.int .i64 a.s)) Try.plain3 rfl (inOc (k := 0) rfl) rfl) (want_f g3 rfl rfl rfl) ?_
     refine og (qv_rem rfl rfl (by omega) (by omega)) (want_f g3 rfl rfl rfl) ?_
     refine og (qv_eql rfl rfl) (want_f g3 rfl rfl rfl) ?_
     refine oq (qv_pick_f g3 rfl (rfl : ev _ _ = (.bool (decide (((n - a.l) % a.s) = 0))))) ?_
     refine oq (qv_as (.bool (decide (((n - a.l) % a.s) = 0))) rfl) ?_
     refine ops_nil ?_
     refine vc_ret ?_
     exact rq1 (.bool (decide (mem a n))) (congrArg Value.bool (decide_eq_decide.2 (show (((n - a.l) % a.s) = 0) ↔ (mem a n) from by exact (mem_mod (by omega) (by omega)).symm))) rfl

set_option maxRecDepth 100000 in
set_option maxHeartbeats 4000000 in
theorem rHas_c {V : HV} {a : Nm} {n : Int} :
    FnC Try.prog 44 [(.agg #[(.int .i64 a.l), (.int .i64 a.h), (.int .i64 a.s)]), (Value.int .i64 n)] V [] (fun v _ _ => v = (.bool (decide (vld a ∧ mem a n)))) := by
 refine fn_intro (N := 33) Try.func44 (by kernel_rfl) rfl rfl rfl (Nat.le_of_ble_eq_true rfl) ?_
 intro w0 D
 refine vc_seq ?_
 refine vc_region ?_
 refine ops_box (v := (.agg #[(.int .i64 a.l), (.int .i64 a.h), (.int .i64 a.s)])) (cs := [(.int .i64 a.l), (.int .i64 a.h), (.int .i64 a.s)]) rfl rfl (fun b1 => ?_)
 refine oq (qv_as (Value.bool false) rfl) ?_
 refine ops_nil ?_
 refine vc_seq ?_
 refine vc_seq ?_
 refine vc_res (σ' := [(Arr 23 b1 [(.int .i64 a.l), (.int .i64 a.h), (.int .i64 a.s)])]) rfl ?_
 refine vc_region ?_
 refine oq (qv_ldm (vs := [(.int .i64 a.l), (.int .i64 a.h), (.int .i64 a.s)]) Try.agg23 rfl (inOc (k := 0) rfl) rfl rfl) ?_
 refine oq (qv_call (v := (.bool (decide (vld a)))) (rValid_c (a := a)) rfl rfl) ?_
 refine oq (qv_not rfl) ?_
 refine oq (qv_mv (.bool (decide (¬ (vld a)))) rfl) ?_
 by_cases g1 : ¬ (vld a)
 ·
  refine os (want_fn g1 rfl rfl rfl) ?_
  refine os (want_fn g1 rfl rfl rfl) ?_
  refine os (want_fn g1 rfl rfl rfl) ?_
  refine os (want_fn g1 rfl rfl rfl) ?_
  refine oq (qv_pick_t g1 rfl (rfl : ev _ _ = (Value.bool true))) ?_
  refine oq (qv_mv (Value.bool true) rfl) ?_
  refine os (want_fnc rfl rfl rfl) ?_
  refine os (want_fnc rfl rfl rfl) ?_
  refine os (want_fnc rfl rfl rfl) ?_
  refine os (want_fnc rfl rfl rfl) ?_
  refine oq (qv_pick_tc rfl (rfl : ev _ _ = (Value.bool true))) ?_
  refine ops_nil ?_
  refine vc_tt rfl ?_
  refine vc_seq ?_
  refine vc_region ?_
  refine oq (qv_as (Value.bool false) rfl) ?_
  refine ops_nil ?_
  refine vc_ret ?_
  exact rq1 (.bool (decide (vld a ∧ mem a n))) (congrArg Value.bool (decide_eq_false (show ¬ (vld a ∧ mem a n) from by rintro ⟨hv, m⟩; first | exact absurd hv (by assumption) | (have := m.1; have := m.2.1; omega))).symm) rfl
 ·
  refine og (qv_mv (Value.int .i64 n) rfl) (want_f g1 rfl rfl rfl) ?_
  refine og (qv_fa (off := 0) Try.field23_0 rfl) (want_f g1 rfl rfl rfl) ?_
  refine og (qv_ldp (v := (.int .i64 a.l)) Try.plain3 rfl (inOc (k := 0) rfl) rfl) (want_f g1 rfl rfl rfl) ?_
  refine og (qv_lss rfl rfl) (want_f g1 rfl rfl rfl) ?_
  refine oq (qv_pick_f g1 rfl (rfl : ev _ _ = (.bool (decide (n < a.l))))) ?_
  refine oq (qv_mv (.bool (decide (n < a.l))) rfl) ?_
  by_cases g2 : n < a.l
  ·
   refine os (want_fn g2 rfl rfl rfl) ?_
   refine os (want_fn g2 rfl rfl rfl) ?_
   refine os (want_fn g2 rfl rfl rfl) ?_
   refine os (want_fn g2 rfl rfl rfl) ?_
   refine oq (qv_pick_t g2 rfl (rfl : ev _ _ = (Value.bool true))) ?_
   refine ops_nil ?_
   refine vc_tt rfl ?_
   refine vc_seq ?_
   refine vc_region ?_
   refine oq (qv_as (Value.bool false) rfl) ?_
   refine ops_nil ?_
   refine vc_ret ?_
   exact rq1 (.bool (decide (vld a ∧ mem a n))) (congrArg Value.bool (decide_eq_false (show ¬ (vld a ∧ mem a n) from by rintro ⟨hv, m⟩; first | exact absurd hv (by assumption) | (have := m.1; have := m.2.1; omega))).symm) rfl
  ·
   refine og (qv_mv (Value.int .i64 n) rfl) (want_f g2 rfl rfl rfl) ?_
   refine og (qv_fa (off := 0) Try.field23_1 rfl) (want_f g2 rfl rfl rfl) ?_
   refine og (qv_ldp (v := (.int .i64 a.h)) Try.plain3 rfl (inOc (k := 0) rfl) rfl) (want_f g2 rfl rfl rfl) ?_
   refine og (qv_gtr rfl rfl) (want_f g2 rfl rfl rfl) ?_
   refine oq (qv_pick_f g2 rfl (rfl : ev _ _ = (.bool (decide (a.h < n))))) ?_
   refine ops_nil ?_
   refine vc_if rfl (fun c1 => ?_) (fun c1 => ?_)
   ·
    refine vc_seq ?_
    refine vc_region ?_
    refine oq (qv_as (Value.bool false) rfl) ?_
    refine ops_nil ?_
    refine vc_ret ?_
    exact rq1 (.bool (decide (vld a ∧ mem a n))) (congrArg Value.bool (decide_eq_false (show ¬ (vld a ∧ mem a n) from by rintro ⟨hv, m⟩; first | exact absurd hv (by assumption) | (have := m.1; have := m.2.1; omega))).symm) rfl
   ·
    refine vc_skip ?_
    refine vc_seq ?_
    have hv : vld a := Decidable.not_not.1 (by assumption)
    have he : a ≠ nE := fun e => by have := (vld_lt hv).2 e; omega
    have ba := vld_bd hv
    unfold fits at ba
    refine vc_region ?_
    refine oq (qv_fa (off := 0) Try.field23_2 rfl) ?_
    refine oq (qv_ldp (v := (.int .i64 a.s)) Try.plain3 rfl (inOc (k := 0) rfl) rfl) ?_
    refine oq (qv_eql rfl rfl) ?_
    refine oq (qv_mv (.bool (decide (a.s = 0))) rfl) ?_
    by_cases g3 : a.s = 0
    ·
     refine os (want_fn g3 rfl rfl rfl) ?_
     refine os (want_fn g3 rfl rfl rfl) ?_
     refine os (want_fn g3 rfl rfl rfl) ?_
     refine os (want_fn g3 rfl rfl rfl) ?_
     refine os (want_fn g3 rfl rfl rfl) ?_
     refine os (want_fn g3 rfl rfl rfl) ?_
     refine os (want_fn g3 rfl rfl rfl) ?_
     refine os (want_fn g3 rfl rfl rfl) ?_
     refine oq (qv_pick_t g3 rfl (rfl : ev _ _ = (Value.bool true))) ?_
     refine oq (qv_as (Value.bool true) rfl) ?_
     refine ops_nil ?_
     refine vc_ret ?_
     exact rq1 (.bool (decide (vld a ∧ mem a n))) (congrArg Value.bool (decide_eq_true (show (vld a ∧ mem a n) from by exact ⟨hv, mem_s0 hv he (by omega) (by omega) (by omega)⟩)).symm) rfl
    ·
     refine og (qv_mv (Value.int .i64 n) rfl) (want_f g3 rfl rfl rfl) ?_
     refine og (qv_fa (off := 0) Try.field23_0 rfl) (want_f g3 rfl rfl rfl) ?_
     refine og (qv_ldp (v := (.int .i64 a.l)) Try.plain3 rfl (inOc (k := 0) rfl) rfl) (want_f g3 rfl rfl rfl) ?_
     refine og (qv_sub rfl rfl (by omega)) (want_f g3 rfl rfl rfl) ?_
     refine og (qv_fa (off := 0) Try.field23_2 rfl) (want_f g3 rfl rfl rfl) ?_
     refine og (qv_ldp (v := (.int .i64 a.s)) Try.plain3 rfl (inOc (k := 0) rfl) rfl) (want_f g3 rfl rfl rfl) ?_
     refine og (qv_rem rfl rfl (by omega) (by omega)) (want_f g3 rfl rfl rfl) ?_
     refine og (qv_eql rfl rfl) (want_f g3 rfl rfl rfl) ?_
     refine oq (qv_pick_f g3 rfl (rfl : ev _ _ = (.bool (decide (((n - a.l) % a.s) = 0))))) ?_
     refine oq (qv_as (.bool (decide (((n - a.l) % a.s) = 0))) rfl) ?_
     refine ops_nil ?_
     refine vc_ret ?_
     exact rq1 (.bool (decide (vld a ∧ mem a n))) (congrArg Value.bool (decide_eq_decide.2 (show (((n - a.l) % a.s) = 0) ↔ (vld a ∧ mem a n) from by rw [← mem_mod (by omega) (by omega)]; exact ⟨fun m => ⟨hv, m⟩, fun m => m.2⟩))) rfl

set_option maxRecDepth 100000 in
set_option maxHeartbeats 4000000 in
theorem size_c {V : HV} {a : Nm} (ha : vld a) :
    FnC Try.prog 79 [(.agg #[(.int .i64 a.l), (.int .i64 a.h), (.int .i64 a.s)])] V [] (fun v _ _ => v = (.int .i64 (sizeF a))) := by
 refine fn_intro (N := 17) Try.func79 (by kernel_rfl) rfl rfl rfl (Nat.le_of_ble_eq_true rfl) ?_
 intro w0 D
 refine vc_seq ?_
 refine vc_region ?_
 refine ops_box (v := (.agg #[(.int .i64 a.l), (.int .i64 a.h), (.int .i64 a.s)])) (cs := [(.int .i64 a.l), (.int .i64 a.h), (.int .i64 a.s)]) rfl rfl (fun b1 => ?_)
 refine oq (qv_as (Value.int .i64 0) rfl) ?_
 refine ops_nil ?_
 refine vc_seq ?_
 refine vc_seq ?_
 refine vc_res (σ' := [(Arr 23 b1 [(.int .i64 a.l), (.int .i64 a.h), (.int .i64 a.s)])]) rfl ?_
 refine vc_region ?_
 refine oq (qv_ldm (vs := [(.int .i64 a.l), (.int .i64 a.h), (.int .i64 a.s)]) Try.agg23 rfl (inOc (k := 0) rfl) rfl rfl) ?_
 refine oq (qv_call (v := (.bool (decide (a = nE)))) (isEmpty_c (a := a)) rfl rfl) ?_
 refine ops_nil ?_
 refine vc_if rfl (fun c1 => ?_) (fun c1 => ?_)
 ·
  refine vc_seq ?_
  refine vc_region ?_
  refine oq (qv_as (Value.int .i64 0) rfl) ?_
  refine ops_nil ?_
  refine vc_ret ?_
  exact rq1 (.int .i64 (sizeF a)) (congrArg (Value.int .i64) (show 0 = (sizeF a) from by first | (rw [sizeF_0 (by assumption)]; done) | (rw [sizeF_1 (by assumption) (by assumption)]; done) | (rw [sizeF_2 (by assumption) (by assumption)]; done))) rfl
 ·
  refine vc_skip ?_
  refine vc_seq ?_
  refine vc_seq ?_
  refine vc_region ?_
  refine oq (qv_fa (off := 0) Try.field23_2 rfl) ?_
  refine oq (qv_ldp (v := (.int .i64 a.s)) Try.plain3 rfl (inOc (k := 0) rfl) rfl) ?_
  refine oq (qv_eql rfl rfl) ?_
  refine ops_nil ?_
  refine vc_if rfl (fun c2 => ?_) (fun c2 => ?_)
  ·
   refine vc_seq ?_
   refine vc_region ?_
   refine oq (qv_as (Value.int .i64 1) rfl) ?_
   refine ops_nil ?_
   refine vc_ret ?_
   exact rq1 (.int .i64 (sizeF a)) (congrArg (Value.int .i64) (show 1 = (sizeF a) from by first | (rw [sizeF_0 (by assumption)]; done) | (rw [sizeF_1 (by assumption) (by assumption)]; done) | (rw [sizeF_2 (by assumption) (by assumption)]; done))) rfl
  ·
   refine vc_skip ?_
   refine vc_seq ?_
   obtain ⟨h1, h2, h3, -, -⟩ := vld_ne ha (by assumption)
   have h6 := (vld_bd ha).2.2
   unfold fits at h1 h2
   have hq := Int.ediv_nonneg (show 0 ≤ a.h - a.l by omega) h6
   have hq2 := Int.ediv_le_self (a := a.h - a.l) a.s (by omega)
   refine vc_region ?_
   refine oq (qv_fa (off := 0) Try.field23_1 rfl) ?_
   refine oq (qv_ldp (v := (.int .i64 a.h)) Try.plain3 rfl (inOc (k := 0) rfl) rfl) ?_
   refine oq (qv_fa (off := 0) Try.field23_0 rfl) ?_
   refine oq (qv_ldp (v := (.int .i64 a.l)) Try.plain3 rfl (inOc (k := 0) rfl) rfl) ?_
   refine oq (qv_sub rfl rfl (by omega)) ?_
   refine oq (qv_fa (off := 0) Try.field23_2 rfl) ?_
   refine oq (qv_ldp (v := (.int .i64 a.s)) Try.plain3 rfl (inOc (k := 0) rfl) rfl) ?_
   refine oq (qv_quo rfl rfl (by omega) (by omega)) ?_
   refine oq (qv_add rfl rfl (by omega)) ?_
   refine oq (qv_as (.int .i64 (((a.h - a.l) / a.s) + 1)) rfl) ?_
   refine ops_nil ?_
   refine vc_ret ?_
   exact rq1 (.int .i64 (sizeF a)) (congrArg (Value.int .i64) (show (((a.h - a.l) / a.s) + 1) = (sizeF a) from by first | (rw [sizeF_0 (by assumption)]; done) | (rw [sizeF_1 (by assumption) (by assumption)]; done) | (rw [sizeF_2 (by assumption) (by assumption)]; done))) rfl

set_option maxRecDepth 100000 in
set_option maxHeartbeats 4000000 in
theorem rSize_c {V : HV} {a : Nm} :
    FnC Try.prog 19 [(.agg #[(.int .i64 a.l), (.int .i64 a.h), (.int .i64 a.s)])] V [] (fun v _ _ => v = (.int .i64 (sizeV a))) := by
 refine fn_intro (N := 22) Try.func19 (by kernel_rfl) rfl rfl rfl (Nat.le_of_ble_eq_true rfl) ?_
 intro w0 D
 refine vc_seq ?_
 refine vc_region ?_
 refine ops_box (v := (.agg #[(.int .i64 a.l), (.int .i64 a.h), (.int .i64 a.s)])) (cs := [(.int .i64 a.l), (.int .i64 a.h), (.int .i64 a.s)]) rfl rfl (fun b1 => ?_)
 refine oq (qv_as (Value.int .i64 0) rfl) ?_
 refine ops_nil ?_
 refine vc_seq ?_
 refine vc_seq ?_
 refine vc_res (σ' := [(Arr 23 b1 [(.int .i64 a.l), (.int .i64 a.h), (.int .i64 a.s)])]) rfl ?_
 refine vc_region ?_
 refine oq (qv_ldm (vs := [(.int .i64 a.l), (.int .i64 a.h), (.int .i64 a.s)]) Try.agg23 rfl (inOc (k := 0) rfl) rfl rfl) ?_
 refine oq (qv_call (v := (.bool (decide (vld a)))) (rValid_c (a := a)) rfl rfl) ?_
 refine oq (qv_not rfl) ?_
 refine oq (qv_mv (.bool (decide (¬ (vld a)))) rfl) ?_
 by_cases g1 : ¬ (vld a)
 ·
  refine os (want_fn g1 rfl rfl rfl) ?_
  refine os (want_fn g1 rfl rfl rfl) ?_
  refine oq (qv_pick_t g1 rfl (rfl : ev _ _ = (Value.bool true))) ?_
  refine ops_nil ?_
  refine vc_tt rfl ?_
  refine vc_seq ?_
  refine vc_region ?_
  refine oq (qv_as (Value.int .i64 0) rfl) ?_
  refine ops_nil ?_
  refine vc_ret ?_
  exact rq1 (.int .i64 (sizeV a)) (congrArg (Value.int .i64) (show 0 = (sizeV a) from by first | (rw [sizeV_0 (by assumption)]; done) | (rw [sizeV_1 hv, sizeF_1 he (by assumption)]; done) | (rw [sizeV_1 hv, sizeF_2 he (by assumption)]; done) | (have hv : vld a := Decidable.not_not.1 (by assumption); rw [sizeV_1 hv, sizeF_0 ((vld_lt hv).1 (by assumption))]; done))) rfl
 ·
  refine og (qv_ldm (vs := [(.int .i64 a.l), (.int .i64 a.h), (.int .i64 a.s)]) Try.agg23 rfl (inOc (k := 0) rfl) rfl rfl) (want_f g1 rfl rfl rfl) ?_
  refine og (qv_call (v := (.bool (decide (a.h < a.l)))) (rempty_c (a := a)) rfl rfl) (want_f g1 rfl rfl rfl) ?_
  refine oq (qv_pick_f g1 rfl (rfl : ev _ _ = (.bool (decide (a.h < a.l))))) ?_
  refine ops_nil ?_
  refine vc_if rfl (fun c1 => ?_) (fun c1 => ?_)
  ·
   refine vc_seq ?_
   refine vc_region ?_
   refine oq (qv_as (Value.int .i64 0) rfl) ?_
   refine ops_nil ?_
   refine vc_ret ?_
   exact rq1 (.int .i64 (sizeV a)) (congrArg (Value.int .i64) (show 0 = (sizeV a) from by first | (rw [sizeV_0 (by assumption)]; done) | (rw [sizeV_1 hv, sizeF_1 he (by assumption)]; done) | (rw [sizeV_1 hv, sizeF_2 he (by assumption)]; done) | (have hv : vld a := Decidable.not_not.1 (by assumption); rw [sizeV_1 hv, sizeF_0 ((vld_lt hv).1 (by assumption))]; done))) rfl
  ·
   refine vc_skip ?_
   refine vc_seq ?_
   refine vc_seq ?_
   have hv : vld a := Decidable.not_not.1 (by assumption)
   have he : ¬ a = nE := fun e => absurd ((vld_lt hv).2 e) (by assumption)
   refine vc_region ?_
   refine oq (qv_fa (off := 0) Try.field23_2 rfl) ?_
   refine oq (qv_ldp (v := (.int .i64 a.s)) Try.plain3 rfl (inOc (k := 0) rfl) rfl) ?_
   refine oq (qv_eql rfl rfl) ?_
   refine ops_nil ?_
   refine vc_if rfl (fun c2 => ?_) (fun c2 => ?_)
   ·
    refine vc_seq ?_
    refine vc_region ?_
    refine oq (qv_as (Value.int .i64 1) rfl) ?_
    refine ops_nil ?_
    refine vc_ret ?_
    exact rq1 (.int .i64 (sizeV a)) (congrArg (Value.int .i64) (show 1 = (sizeV a) from by first | (rw [sizeV_0 (by assumption)]; done) | (rw [sizeV_1 hv, sizeF_1 he (by assumption)]; done) | (rw [sizeV_1 hv, sizeF_2 he (by assumption)]; done) | (have hv : vld a := Decidable.not_not.1 (by assumption); rw [sizeV_1 hv, sizeF_0 ((vld_lt hv).1 (by assumption))]; done))) rfl
   ·
    refine vc_skip ?_
    refine vc_seq ?_
    obtain ⟨h1, h2, h3, -, -⟩ := vld_ne hv he
    have h6 := (vld_bd hv).2.2
    unfold fits at h1 h2
    have hq := Int.ediv_nonneg (show 0 ≤ a.h - a.l by omega) h6
    have hq2 := Int.ediv_le_self (a := a.h - a.l) a.s (by omega)
    refine vc_region ?_
    refine oq (qv_fa (off := 0) Try.field23_1 rfl) ?_
    refine oq (qv_ldp (v := (.int .i64 a.h)) Try.plain3 rfl (inOc (k := 0) rfl) rfl) ?_
    refine oq (qv_fa (off := 0) Try.field23_0 rfl) ?_
    refine oq (qv_ldp (v := (.int .i64 a.l)) Try.plain3 rfl (inOc (k := 0) rfl) rfl) ?_
    refine oq (qv_sub rfl rfl (by omega)) ?_
    refine oq (qv_fa (off := 0) Try.field23_2 rfl) ?_
    refine oq (qv_ldp (v := (.int .i64 a.s)) Try.plain3 rfl (inOc (k := 0) rfl) rfl) ?_
    refine oq (qv_quo rfl rfl (by omega) (by omega)) ?_
    refine oq (qv_add rfl rfl (by omega)) ?_
    refine oq (qv_as (.int .i64 (((a.h - a.l) / a.s) + 1)) rfl) ?_
    refine ops_nil ?_
    refine vc_ret ?_
    exact rq1 (.int .i64 (sizeV a)) (congrArg (Value.int .i64) (show (((a.h - a.l) / a.s) + 1) = (sizeV a) from by first | (rw [sizeV_0 (by assumption)]; done) | (rw [sizeV_1 hv, sizeF_1 he (by assumption)]; done) | (rw [sizeV_1 hv, sizeF_2 he (by assumption)]; done) | (have hv : vld a := Decidable.not_not.1 (by assumption); rw [sizeV_1 hv, sizeF_0 ((vld_lt hv).1 (by assumption))]; done))) rfl

set_option maxRecDepth 100000 in
set_option maxHeartbeats 4000000 in
theorem truth_c {V : HV} {a : Nm} (ha : vld a) :
    FnC Try.prog 58 [(.agg #[(.int .i64 a.l), (.int .i64 a.h), (.int .i64 a.s)])] V [] (fun v _ _ => v = .tuple #[(.bool (decide (mem a 0))), (.bool (decide (oth a)))]) := by
 refine fn_intro (N := 19) Try.func58 (by kernel_rfl) rfl rfl rfl (Nat.le_of_ble_eq_true rfl) ?_
 intro w0 D
 refine vc_seq ?_
 refine vc_region ?_
 refine ops_box (v := (.agg #[(.int .i64 a.l), (.int .i64 a.h), (.int .i64 a.s)])) (cs := [(.int .i64 a.l), (.int .i64 a.h), (.int .i64 a.s)]) rfl rfl (fun b1 => ?_)
 refine oq (qv_as (Value.bool false) rfl) ?_
 refine oq (qv_as (Value.bool false) rfl) ?_
 refine ops_nil ?_
 refine vc_seq ?_
 refine vc_res (σ' := [(Arr 23 b1 [(.int .i64 a.l), (.int .i64 a.h), (.int .i64 a.s)])]) rfl ?_
 refine vc_region_any Try.mixed (by kernel_rfl) ?_
 refine qq (qv_ldm (vs := [(.int .i64 a.l), (.int .i64 a.h), (.int .i64 a.s)]) Try.agg23 rfl (inOc (k := 0) rfl) rfl rfl) ?_
 refine qq (qv_call (v := (.bool (decide (mem a 0)))) (has_c (a := a) (by assumption)) rfl rfl) ?_
 refine qq (qv_ldm (vs := [(.int .i64 a.l), (.int .i64 a.h), (.int .i64 a.s)]) Try.agg23 rfl (inOc (k := 0) rfl) rfl rfl) ?_
 refine qq (qv_call (v := (.int .i64 (sizeF a))) (size_c (a := a) (by assumption)) rfl rfl) ?_
 refine qq (qv_gtr rfl rfl) ?_
 refine qq (qv_mv (.bool (decide (1 < (sizeF a)))) rfl) ?_
 by_cases g1 : 1 < (sizeF a)
 ·
  refine qs (want_fn g1 rfl rfl rfl) ?_
  refine qs (want_fn g1 rfl rfl rfl) ?_
  refine qs (want_fn g1 rfl rfl rfl) ?_
  refine qs (want_fn g1 rfl rfl rfl) ?_
  refine qs (want_u rfl rfl rfl) ?_
  refine qs (want_u rfl rfl rfl) ?_
  refine qs (want_u rfl rfl rfl) ?_
  refine qs (want_fn g1 rfl rfl rfl) ?_
  refine qq (qv_pick_t g1 rfl (rfl : ev _ _ = (Value.bool true))) ?_
  refine qq (qv_as (.bool (decide (mem a 0))) rfl) ?_
  refine qq (qv_as (Value.bool true) rfl) ?_
  refine qops_nil ?_
  refine vc_ret ?_
  exact rq2 (.bool (decide (mem a 0))) (.bool (decide (oth a))) rfl (congrArg Value.bool (decide_eq_true (show (oth a) from by unfold oth; omega)).symm) rfl
 ·
  refine qg (qv_ldm (vs := [(.int .i64 a.l), (.int .i64 a.h), (.int .i64 a.s)]) Try.agg23 rfl (inOc (k := 0) rfl) rfl rfl) (want_f g1 rfl rfl rfl) ?_
  refine qg (qv_call (v := (.int .i64 (sizeF a))) (size_c (a := a) (by assumption)) rfl rfl) (want_f g1 rfl rfl rfl) ?_
  refine qg (qv_eql rfl rfl) (want_f g1 rfl rfl rfl) ?_
  refine qg (qv_mv (.bool (decide ((sizeF a) = 1))) rfl) (want_f g1 rfl rfl rfl) ?_
  by_cases g2 : (sizeF a) = 1
  ·
   refine qg (qv_fa (off := 0) Try.field23_0 rfl) (want_t g2 rfl rfl rfl) ?_
   refine qg (qv_ldp (v := (.int .i64 a.l)) Try.plain3 rfl (inOc (k := 0) rfl) rfl) (want_t g2 rfl rfl rfl) ?_
   refine qg (qv_neq rfl rfl) (want_t g2 rfl rfl rfl) ?_
   refine qg (qv_pick_t g2 rfl (rfl : ev _ _ = (.bool (decide (a.l ≠ 0))))) (want_f g1 rfl rfl rfl) ?_
   refine qq (qv_pick_f g1 rfl (rfl : ev _ _ = (.bool (decide (a.l ≠ 0))))) ?_
   refine qq (qv_as (.bool (decide (mem a 0))) rfl) ?_
   refine qq (qv_as (.bool (decide (a.l ≠ 0))) rfl) ?_
   refine qops_nil ?_
   refine vc_ret ?_
   exact rq2 (.bool (decide (mem a 0))) (.bool (decide (oth a))) rfl (congrArg Value.bool (decide_eq_decide.2 (show (a.l ≠ 0) ↔ (oth a) from by unfold oth; omega))) rfl
  ·
   refine qs (want_tn g2 rfl rfl rfl) ?_
   refine qs (want_tn g2 rfl rfl rfl) ?_
   refine qs (want_tn g2 rfl rfl rfl) ?_
   refine qg (qv_pick_f g2 rfl (rfl : ev _ _ = (Value.bool false))) (want_f g1 rfl rfl rfl) ?_
   refine qq (qv_pick_f g1 rfl (rfl : ev _ _ = (Value.bool false))) ?_
   refine qq (qv_as (.bool (decide (mem a 0))) rfl) ?_
   refine qq (qv_as (Value.bool false) rfl) ?_
   refine qops_nil ?_
   refine vc_ret ?_
   exact rq2 (.bool (decide (mem a 0))) (.bool (decide (oth a))) rfl (congrArg Value.bool (decide_eq_false (show ¬ (oth a) from by unfold oth; omega)).symm) rfl

set_option maxRecDepth 100000 in
set_option maxHeartbeats 4000000 in
theorem rTruth_c {V : HV} {a : Nm} :
    FnC Try.prog 43 [(.agg #[(.int .i64 a.l), (.int .i64 a.h), (.int .i64 a.s)])] V [] (fun v _ _ => v = .tuple #[(.bool (decide (vld a ∧ mem a 0))), (.bool (decide (vld a ∧ oth a)))]) := by
 refine fn_intro (N := 20) Try.func43 (by kernel_rfl) rfl rfl rfl (Nat.le_of_ble_eq_true rfl) ?_
 intro w0 D
 refine vc_seq ?_
 refine vc_region ?_
 refine ops_box (v := (.agg #[(.int .i64 a.l), (.int .i64 a.h), (.int .i64 a.s)])) (cs := [(.int .i64 a.l), (.int .i64 a.h), (.int .i64 a.s)]) rfl rfl (fun b1 => ?_)
 refine oq (qv_as (Value.bool false) rfl) ?_
 refine oq (qv_as (Value.bool false) rfl) ?_
 refine ops_nil ?_
 refine vc_seq ?_
 refine vc_res (σ' := [(Arr 23 b1 [(.int .i64 a.l), (.int .i64 a.h), (.int .i64 a.s)])]) rfl ?_
 refine vc_region ?_
 refine oq (qv_ldm (vs := [(.int .i64 a.l), (.int .i64 a.h), (.int .i64 a.s)]) Try.agg23 rfl (inOc (k := 0) rfl) rfl rfl) ?_
 refine oq (qv_call (v := (.bool (decide (vld a ∧ mem a 0)))) (rHas_c (a := a)) rfl rfl) ?_
 refine oq (qv_as (.bool (decide (vld a ∧ mem a 0))) rfl) ?_
 refine ops_nil ?_
 refine vc_seq ?_
 refine vc_region ?_
 refine oq (qv_mv (.bool (decide (vld a ∧ mem a 0))) rfl) ?_
 refine oq (qv_ldm (vs := [(.int .i64 a.l), (.int .i64 a.h), (.int .i64 a.s)]) Try.agg23 rfl (inOc (k := 0) rfl) rfl rfl) ?_
 refine oq (qv_call (v := (.int .i64 (sizeV a))) (rSize_c (a := a)) rfl rfl) ?_
 refine oq (qv_gtr rfl rfl) ?_
 refine oq (qv_mv (.bool (decide (1 < (sizeV a)))) rfl) ?_
 by_cases g1 : 1 < (sizeV a)
 ·
  refine os (want_fn g1 rfl rfl rfl) ?_
  refine os (want_fn g1 rfl rfl rfl) ?_
  refine os (want_fn g1 rfl rfl rfl) ?_
  refine os (want_fn g1 rfl rfl rfl) ?_
  refine os (want_u rfl rfl rfl) ?_
  refine os (want_u rfl rfl rfl) ?_
  refine os (want_fn g1 rfl rfl rfl) ?_
  refine oq (qv_pick_t g1 rfl (rfl : ev _ _ = (Value.bool true))) ?_
  refine oq (qv_as (.bool (decide (vld a ∧ mem a 0))) rfl) ?_
  refine oq (qv_as (Value.bool true) rfl) ?_
  refine ops_nil ?_
  refine vc_ret ?_
  exact rq2 (.bool (decide (vld a ∧ mem a 0))) (.bool (decide (vld a ∧ oth a))) rfl (congrArg Value.bool (decide_eq_true (show (vld a ∧ oth a) from by exact truth_ref.1 (Or.inl (by omega)))).symm) rfl
 ·
  refine og (qv_ldm (vs := [(.int .i64 a.l), (.int .i64 a.h), (.int .i64 a.s)]) Try.agg23 rfl (inOc (k := 0) rfl) rfl rfl) (want_f g1 rfl rfl rfl) ?_
  refine og (qv_call (v := (.int .i64 (sizeV a))) (rSize_c (a := a)) rfl rfl) (want_f g1 rfl rfl rfl) ?_
  refine og (qv_eql rfl rfl) (want_f g1 rfl rfl rfl) ?_
  refine og (qv_mv (.bool (decide ((sizeV a) = 1))) rfl) (want_f g1 rfl rfl rfl) ?_
  by_cases g2 : (sizeV a) = 1
  ·
   refine og (qv_mv (.bool (decide (vld a ∧ mem a 0))) rfl) (want_t g2 rfl rfl rfl) ?_
   refine og (qv_not rfl) (want_t g2 rfl rfl rfl) ?_
   refine og (qv_pick_t g2 rfl (rfl : ev _ _ = (.bool (decide (¬ (vld a ∧ mem a 0)))))) (want_f g1 rfl rfl rfl) ?_
   refine oq (qv_pick_f g1 rfl (rfl : ev _ _ = (.bool (decide (¬ (vld a ∧ mem a 0)))))) ?_
   refine oq (qv_as (.bool (decide (vld a ∧ mem a 0))) rfl) ?_
   refine oq (qv_as (.bool (decide (¬ (vld a ∧ mem a 0)))) rfl) ?_
   refine ops_nil ?_
   refine vc_ret ?_
   exact rq2 (.bool (decide (vld a ∧ mem a 0))) (.bool (decide (vld a ∧ oth a))) rfl (congrArg Value.bool (decide_eq_decide.2 (show (¬ (vld a ∧ mem a 0)) ↔ (vld a ∧ oth a) from by exact ⟨fun z => truth_ref.1 (Or.inr ⟨by omega, z⟩), fun z => ((truth_ref.2 z).resolve_left (by omega)).2⟩))) rfl
  ·
   refine os (want_tn g2 rfl rfl rfl) ?_
   refine os (want_tn g2 rfl rfl rfl) ?_
   refine og (qv_pick_f g2 rfl (rfl : ev _ _ = (Value.bool false))) (want_f g1 rfl rfl rfl) ?_
   refine oq (qv_pick_f g1 rfl (rfl : ev _ _ = (Value.bool false))) ?_
   refine oq (qv_as (.bool (decide (vld a ∧ mem a 0))) rfl) ?_
   refine oq (qv_as (Value.bool false) rfl) ?_
   refine ops_nil ?_
   refine vc_ret ?_
   exact rq2 (.bool (decide (vld a ∧ mem a 0))) (.bool (decide (vld a ∧ oth a))) rfl (congrArg Value.bool (decide_eq_false (show ¬ (vld a ∧ oth a) from by exact fun z => (truth_ref.2 z).elim (fun q => by omega) (fun q => by have := q.1; omega))).symm) rfl

end Go.Proofs.Ytapkilaikcihgaa
