/- Walks of numeric: what each function returns. Printed by a program out of notes. -/
import Derived.Test.YtapkilaikcihgaaNmS
import Derived.Test.YtapkilaikcihgaaTy
namespace Go.Proofs.Ytapkilaikcihgaa
open Go.Vc
open Classical

set_option maxRecDepth 100000 in
set_option maxHeartbeats 4000000 in
theorem none_c {V : HV} :
    FnC Try.prog 62 [] V [] (fun v _ _ => v = (.agg #[(.int .i64 nE.l), (.int .i64 nE.h), (.int .i64 nE.s)])) := by
 refine fn_intro (N := 2) Try.func62 (by kernel_rfl) rfl rfl rfl (Nat.le_of_ble_eq_true rfl) ?_
 intro w0 D
 refine vc_seq ?_
 refine vc_region ?_
 refine ops_alloc Try.ti23 rfl (fun b1 => ?_)
 refine ops_nil ?_
 refine vc_seq ?_
 refine vc_res (σ' := [(Arr 23 b1 [(Value.int .i64 0), (Value.int .i64 0), (Value.int .i64 0)])]) rfl ?_
 refine vc_region ?_
 refine oq (qv_build (out := [(Value.int .i64 1), (Value.int .i64 0), (Value.int .i64 0)]) Try.build23 [(0, [(Value.int .i64 1)])] rfl rfl) ?_
 refine ops_stw (k := 0) (vs := [(Value.int .i64 1), (Value.int .i64 0), (Value.int .i64 0)]) Try.size23 rfl rfl rfl rfl rfl rfl ?_
 refine ops_nil ?_
 refine vc_ret ?_
 refine rs1 _ (rv_c (vs := [(Value.int .i64 1), (Value.int .i64 0), (Value.int .i64 0)]) Try.agg23 rfl (inOc (k := 0) rfl) rfl rfl) ?_
 exact (agg3 (show (⟨1, 0, 0⟩ : Nm) = nE from by rfl))

set_option maxRecDepth 100000 in
set_option maxHeartbeats 4000000 in
theorem rNone_c {V : HV} :
    FnC Try.prog 33 [] V [] (fun v _ _ => v = (.agg #[(.int .i64 nE.l), (.int .i64 nE.h), (.int .i64 nE.s)])) := by
 refine fn_intro (N := 2) Try.func33 (by kernel_rfl) rfl rfl rfl (Nat.le_of_ble_eq_true rfl) ?_
 intro w0 D
 refine vc_seq ?_
 refine vc_region ?_
 refine ops_alloc Try.ti23 rfl (fun b1 => ?_)
 refine ops_nil ?_
 refine vc_seq ?_
 refine vc_res (σ' := [(Arr 23 b1 [(Value.int .i64 0), (Value.int .i64 0), (Value.int .i64 0)])]) rfl ?_
 refine vc_region ?_
 refine oq (qv_build (out := [(Value.int .i64 1), (Value.int .i64 0), (Value.int .i64 0)]) Try.build23 [(0, [(Value.int .i64 1)])] rfl rfl) ?_
 refine ops_stw (k := 0) (vs := [(Value.int .i64 1), (Value.int .i64 0), (Value.int .i64 0)]) Try.size23 rfl rfl rfl rfl rfl rfl ?_
 refine ops_nil ?_
 refine vc_ret ?_
 refine rs1 _ (rv_c (vs := [(Value.int .i64 1), (Value.int .i64 0), (Value.int .i64 0)]) Try.agg23 rfl (inOc (k := 0) rfl) rfl rfl) ?_
 exact (agg3 (show (⟨1, 0, 0⟩ : Nm) = nE from by rfl))

set_option maxRecDepth 100000 in
set_option maxHeartbeats 4000000 in
theorem single_c {V : HV} {n : Int} :
    FnC Try.prog 73 [(Value.int .i64 n)] V [] (fun v _ _ => v = (.agg #[(.int .i64 ((sgl n).l)), (.int .i64 ((sgl n).h)), (.int .i64 ((sgl n).s))])) := by
 refine fn_intro (N := 6) Try.func73 (by kernel_rfl) rfl rfl rfl (Nat.le_of_ble_eq_true rfl) ?_
 intro w0 D
 refine vc_seq ?_
 refine vc_region ?_
 refine ops_alloc Try.ti23 rfl (fun b1 => ?_)
 refine ops_nil ?_
 refine vc_seq ?_
 refine vc_res (σ' := [(Arr 23 b1 [(Value.int .i64 0), (Value.int .i64 0), (Value.int .i64 0)])]) rfl ?_
 refine vc_region ?_
 refine oq (qv_mv (Value.int .i64 n) rfl) ?_
 refine oq (qv_mv (Value.int .i64 n) rfl) ?_
 refine oq (qv_build (out := [(Value.int .i64 n), (Value.int .i64 n), (Value.int .i64 0)]) Try.build23 [(0, [(Value.int .i64 n)]), (1, [(Value.int .i64 n)])] rfl rfl) ?_
 refine ops_stw (k := 0) (vs := [(Value.int .i64 n), (Value.int .i64 n), (Value.int .i64 0)]) Try.size23 rfl rfl rfl rfl rfl rfl ?_
 refine ops_nil ?_
 refine vc_ret ?_
 refine rs1 _ (rv_c (vs := [(Value.int .i64 n), (Value.int .i64 n), (Value.int .i64 0)]) Try.agg23 rfl (inOc (k := 0) rfl) rfl rfl) ?_
 exact (agg3 (show (⟨n, n, 0⟩ : Nm) = sgl n from by rfl))

set_option maxRecDepth 100000 in
set_option maxHeartbeats 4000000 in
theorem inRange_c {V : HV} {n : Int} :
    FnC Try.prog 63 [(Value.int .i64 n)] V [] (fun v _ _ => v = (.bool (decide (fits n)))) := by
 refine fn_intro (N := 9) Try.func63 (by kernel_rfl) rfl rfl rfl (Nat.le_of_ble_eq_true rfl) ?_
 intro w0 D
 refine vc_seq ?_
 refine vc_region ?_
 refine oq (qv_as (Value.bool false) rfl) ?_
 refine ops_nil ?_
 refine vc_seq ?_
 refine vc_region ?_
 refine oq (qv_mv (Value.int .i64 n) rfl) ?_
 refine oq (qv_geq rfl rfl) ?_
 refine oq (qv_mv (.bool (decide (((-1099511627776)) ≤ n))) rfl) ?_
 by_cases g1 : ((-1099511627776)) ≤ n
 ·
  refine og (qv_mv (Value.int .i64 n) rfl) (want_t g1 rfl rfl rfl) ?_
  refine og (qv_leq rfl rfl) (want_t g1 rfl rfl rfl) ?_
  refine oq (qv_pick_t g1 rfl (rfl : ev _ _ = (.bool (decide (n ≤ 1099511627776))))) ?_
  refine oq (qv_as (.bool (decide (n ≤ 1099511627776))) rfl) ?_
  refine ops_nil ?_
  refine vc_ret ?_
  exact rq1 (.bool (decide (fits n))) (congrArg Value.bool (decide_eq_decide.2 (show (n ≤ 1099511627776) ↔ (fits n) from by unfold fits; omega))) rfl
 ·
  refine os (want_tn g1 rfl rfl rfl) ?_
  refine os (want_tn g1 rfl rfl rfl) ?_
  refine oq (qv_pick_f g1 rfl (rfl : ev _ _ = (Value.bool false))) ?_
  refine oq (qv_as (Value.bool false) rfl) ?_
  refine ops_nil ?_
  refine vc_ret ?_
  exact rq1 (.bool (decide (fits n))) (congrArg Value.bool (decide_eq_false (show ¬ (fits n) from by unfold fits; omega)).symm) rfl

set_option maxRecDepth 100000 in
set_option maxHeartbeats 4000000 in
theorem rFits_c {V : HV} {n : Int} :
    FnC Try.prog 54 [(Value.int .i64 n)] V [] (fun v _ _ => v = (.bool (decide (fits n)))) := by
 refine fn_intro (N := 9) Try.func54 (by kernel_rfl) rfl rfl rfl (Nat.le_of_ble_eq_true rfl) ?_
 intro w0 D
 refine vc_seq ?_
 refine vc_region ?_
 refine oq (qv_as (Value.bool false) rfl) ?_
 refine ops_nil ?_
 refine vc_seq ?_
 refine vc_region ?_
 refine oq (qv_mv (Value.int .i64 n) rfl) ?_
 refine oq (qv_geq rfl rfl) ?_
 refine oq (qv_mv (.bool (decide (((-1099511627776)) ≤ n))) rfl) ?_
 by_cases g1 : ((-1099511627776)) ≤ n
 ·
  refine og (qv_mv (Value.int .i64 n) rfl) (want_t g1 rfl rfl rfl) ?_
  refine og (qv_leq rfl rfl) (want_t g1 rfl rfl rfl) ?_
  refine oq (qv_pick_t g1 rfl (rfl : ev _ _ = (.bool (decide (n ≤ 1099511627776))))) ?_
  refine oq (qv_as (.bool (decide (n ≤ 1099511627776))) rfl) ?_
  refine ops_nil ?_
  refine vc_ret ?_
  exact rq1 (.bool (decide (fits n))) (congrArg Value.bool (decide_eq_decide.2 (show (n ≤ 1099511627776) ↔ (fits n) from by unfold fits; omega))) rfl
 ·
  refine os (want_tn g1 rfl rfl rfl) ?_
  refine os (want_tn g1 rfl rfl rfl) ?_
  refine oq (qv_pick_f g1 rfl (rfl : ev _ _ = (Value.bool false))) ?_
  refine oq (qv_as (Value.bool false) rfl) ?_
  refine ops_nil ?_
  refine vc_ret ?_
  exact rq1 (.bool (decide (fits n))) (congrArg Value.bool (decide_eq_false (show ¬ (fits n) from by unfold fits; omega)).symm) rfl

set_option maxRecDepth 100000 in
set_option maxHeartbeats 4000000 in
theorem isEmpty_c {V : HV} {a : Nm} :
    FnC Try.prog 57 [(.agg #[(.int .i64 a.l), (.int .i64 a.h), (.int .i64 a.s)])] V [] (fun v _ _ => v = (.bool (decide (a = nE)))) := by
 refine fn_intro (N := 6) Try.func57 (by kernel_rfl) rfl rfl rfl (Nat.le_of_ble_eq_true rfl) ?_
 intro w0 D
 refine vc_seq ?_
 refine vc_region ?_
 refine ops_box (v := (.agg #[(.int .i64 a.l), (.int .i64 a.h), (.int .i64 a.s)])) (cs := [(.int .i64 a.l), (.int .i64 a.h), (.int .i64 a.s)]) rfl rfl (fun b1 => ?_)
 refine oq (qv_as (Value.bool false) rfl) ?_
 refine ops_nil ?_
 refine vc_seq ?_
 refine vc_res (σ' := [(Arr 23 b1 [(.int .i64 a.l), (.int .i64 a.h), (.int .i64 a.s)])]) rfl ?_
 refine vc_region_any Try.mixed (by kernel_rfl) ?_
 refine qq (qv_ldm (vs := [(.int .i64 a.l), (.int .i64 a.h), (.int .i64 a.s)]) Try.agg23 rfl (inOc (k := 0) rfl) rfl rfl) ?_
 refine qq (qv_call (v := (.agg #[(.int .i64 nE.l), (.int .i64 nE.h), (.int .i64 nE.s)])) (none_c) rfl rfl) ?_
 refine qq (qv_eqls Try.eq23 [a.l, a.h, a.s] [nE.l, nE.h, nE.s] rfl rfl rfl rfl rfl rfl eq3) ?_
 refine qq (qv_as (.bool (decide (a.l = nE.l ∧ a.h = nE.h ∧ a.s = nE.s))) rfl) ?_
 refine qops_nil ?_
 refine vc_ret ?_
 exact rq1 (.bool (decide (a = nE))) (congrArg Value.bool (decide_eq_decide.2 (show (a.l = nE.l ∧ a.h = nE.h ∧ a.s = nE.s) ↔ (a = nE) from by rw [nE_iff]))) rfl

set_option maxRecDepth 100000 in
set_option maxHeartbeats 4000000 in
theorem Valid_c {V : HV} {a : Nm} :
    FnC Try.prog 31 [(.agg #[(.int .i64 a.l), (.int .i64 a.h), (.int .i64 a.s)])] V [] (fun v _ _ => v = (.bool (decide (vld a)))) := by
 refine fn_intro (N := 44) Try.func31 (by kernel_rfl) rfl rfl rfl (Nat.le_of_ble_eq_true rfl) ?_
 intro w0 D
 refine vc_seq ?_
 refine vc_region ?_
 refine ops_box (v := (.agg #[(.int .i64 a.l), (.int .i64 a.h), (.int .i64 a.s)])) (cs := [(.int .i64 a.l), (.int .i64 a.h), (.int .i64 a.s)]) rfl rfl (fun b1 => ?_)
 refine oq (qv_as (Value.bool false) rfl) ?_
 refine ops_nil ?_
 refine vc_seq ?_
 refine vc_seq ?_
 refine vc_res (σ' := [(Arr 23 b1 [(.int .i64 a.l), (.int .i64 a.h), (.int .i64 a.s)])]) rfl ?_
 refine vc_region ?_
 refine oq (qv_ldm (vs := [(.int .i64 a.l), (.int .i64 a.h), (.int .i64 a.s)]) Try.agg23 rfl (inOc (k := 0) rfl) rfl rfl) ?_
 refine oq (qv_call (v := (.bool (decide (a = nE)))) (isEmpty_c (a := a)) rfl rfl) ?_
 refine ops_nil ?_
 refine vc_if rfl (fun c1 => ?_) (fun c1 => ?_)
 ·
  refine vc_seq ?_
  refine vc_region ?_
  refine oq (qv_as (Value.bool true) rfl) ?_
  refine ops_nil ?_
  refine vc_ret ?_
  exact rq1 (.bool (decide (vld a))) (congrArg Value.bool (decide_eq_true (show (vld a) from by unfold vld; simp only [nE_iff] at *; unfold fits at *; omega)).symm) rfl
 ·
  refine vc_skip ?_
  refine vc_seq ?_
  refine vc_seq ?_
  refine vc_region ?_
  refine oq (qv_fa (off := 0) Try.field23_0 rfl) ?_
  refine oq (qv_ldp (v := (.int .i64 a.l)) Try.plain3 rfl (inOc (k := 0) rfl) rfl) ?_
  refine oq (qv_call (v := (.bool (decide (fits a.l)))) (inRange_c) rfl rfl) ?_
  refine oq (qv_not rfl) ?_
  refine oq (qv_mv (.bool (decide (¬ (fits a.l)))) rfl) ?_
  by_cases g1 : ¬ (fits a.l)
  ·
   refine os (want_fn g1 rfl rfl rfl) ?_
   refine os (want_fn g1 rfl rfl rfl) ?_
   refine os (want_fn g1 rfl rfl rfl) ?_
   refine os (want_fn g1 rfl rfl rfl) ?_
   refine oq (qv_pick_t g1 rfl (rfl : ev _ _ = (Value.bool true))) ?_
   refine oq (qv_mv (Value.bool true) rfl) ?_
   refine os (want_fnc rfl rfl rfl) ?_
   refine os (want_fnc rfl rfl rfl) ?_
   refine os (want_fnc rfl rfl rfl) ?_
   refine os (want_fnc rfl rfl rfl) ?_
   refine os (want_fnc rfl rfl rfl) ?_
   refine oq (qv_pick_tc rfl (rfl : ev _ _ = (Value.bool true))) ?_
   refine ops_nil ?_
   refine vc_tt rfl ?_
   refine vc_seq ?_
   refine vc_region ?_
   refine oq (qv_as (Value.bool false) rfl) ?_
   refine ops_nil ?_
   refine vc_ret ?_
   exact rq1 (.bool (decide (vld a))) (congrArg Value.bool (decide_eq_false (show ¬ (vld a) from by unfold vld; simp only [nE_iff] at *; unfold fits at *; omega)).symm) rfl
  ·
   refine og (qv_fa (off := 0) Try.field23_1 rfl) (want_f g1 rfl rfl rfl) ?_
   refine og (qv_ldp (v := (.int .i64 a.h)) Try.plain3 rfl (inOc (k := 0) rfl) rfl) (want_f g1 rfl rfl rfl) ?_
   refine og (qv_call (v := (.bool (decide (fits a.h)))) (inRange_c) rfl rfl) (want_f g1 rfl rfl rfl) ?_
   refine og (qv_not rfl) (want_f g1 rfl rfl rfl) ?_
   refine oq (qv_pick_f g1 rfl (rfl : ev _ _ = (.bool (decide (¬ (fits a.h)))))) ?_
   refine oq (qv_mv (.bool (decide (¬ (fits a.h)))) rfl) ?_
   by_cases g2 : ¬ (fits a.h)
   ·
    refine os (want_fn g2 rfl rfl rfl) ?_
    refine os (want_fn g2 rfl rfl rfl) ?_
    refine os (want_fn g2 rfl rfl rfl) ?_
    refine os (want_fn g2 rfl rfl rfl) ?_
    refine os (want_fn g2 rfl rfl rfl) ?_
    refine oq (qv_pick_t g2 rfl (rfl : ev _ _ = (Value.bool true))) ?_
    refine ops_nil ?_
    refine vc_tt rfl ?_
    refine vc_seq ?_
    refine vc_region ?_
    refine oq (qv_as (Value.bool false) rfl) ?_
    refine ops_nil ?_
    refine vc_ret ?_
    exact rq1 (.bool (decide (vld a))) (congrArg Value.bool (decide_eq_false (show ¬ (vld a) from by unfold vld; simp only [nE_iff] at *; unfold fits at *; omega)).symm) rfl
   ·
    refine og (qv_fa (off := 0) Try.field23_0 rfl) (want_f g2 rfl rfl rfl) ?_
    refine og (qv_ldp (v := (.int .i64 a.l)) Try.plain3 rfl (inOc (k := 0) rfl) rfl) (want_f g2 rfl rfl rfl) ?_
    refine og (qv_fa (off := 0) Try.field23_1 rfl) (want_f g2 rfl rfl rfl) ?_
    refine og (qv_ldp (v := (.int .i64 a.h)) Try.plain3 rfl (inOc (k := 0) rfl) rfl) (want_f g2 rfl rfl rfl) ?_
    refine og (qv_gtr rfl rfl) (want_f g2 rfl rfl rfl) ?_
    refine oq (qv_pick_f g2 rfl (rfl : ev _ _ = (.bool (decide (a.h < a.l))))) ?_
    refine ops_nil ?_
    refine vc_if rfl (fun c2 => ?_) (fun c2 => ?_)
    ·
     refine vc_seq ?_
     refine vc_region ?_
     refine oq (qv_as (Value.bool false) rfl) ?_
     refine ops_nil ?_
     refine vc_ret ?_
     exact rq1 (.bool (decide (vld a))) (congrArg Value.bool (decide_eq_false (show ¬ (vld a) from by unfold vld; simp only [nE_iff] at *; unfold fits at *; omega)).symm) rfl
    ·
     refine vc_skip ?_
     refine vc_seq ?_
     refine vc_seq ?_
     have hf1 : fits a.l := by simp only [fits] at *; omega
     have hf2 : fits a.h := by simp only [fits] at *; omega
     unfold fits at hf1 hf2
     refine vc_region ?_
     refine oq (qv_fa (off := 0) Try.field23_0 rfl) ?_
     refine oq (qv_ldp (v := (.int .i64 a.l)) Try.plain3 rfl (inOc (k := 0) rfl) rfl) ?_
     refine oq (qv_fa (off := 0) Try.field23_1 rfl) ?_
     refine oq (qv_ldp (v := (.int .i64 a.h)) Try.plain3 rfl (inOc (k := 0) rfl) rfl) ?_
     refine oq (qv_eql rfl rfl) ?_
     refine ops_nil ?_
     refine vc_if rfl (fun c3 => ?_) (fun c3 => ?_)
     ·
      refine vc_seq ?_
      refine vc_region ?_
      refine oq (qv_fa (off := 0) Try.field23_2 rfl) ?_
      refine oq (qv_ldp (v := (.int .i64 a.s)) Try.plain3 rfl (inOc (k := 0) rfl) rfl) ?_
      refine oq (qv_eql rfl rfl) ?_
      refine oq (qv_as (.bool (decide (a.s = 0))) rfl) ?_
      refine ops_nil ?_
      refine vc_ret ?_
      exact rq1 (.bool (decide (vld a))) (congrArg Value.bool (decide_eq_decide.2 (show (a.s = 0) ↔ (vld a) from by unfold vld; simp only [nE_iff] at *; unfold fits at *; omega))) rfl
     ·
      refine vc_skip ?_
      refine vc_seq ?_
      refine vc_region ?_
      refine oq (qv_fa (off := 0) Try.field23_2 rfl) ?_
      refine oq (qv_ldp (v := (.int .i64 a.s)) Try.plain3 rfl (inOc (k := 0) rfl) rfl) ?_
      refine oq (qv_geq rfl rfl) ?_
      refine oq (qv_mv (.bool (decide (1 ≤ a.s))) rfl) ?_
      by_cases g3 : 1 ≤ a.s
      ·
       refine og (qv_fa (off := 0) Try.field23_1 rfl) (want_t g3 rfl rfl rfl) ?_
       refine og (qv_ldp (v := (.int .i64 a.h)) Try.plain3 rfl (inOc (k := 0) rfl) rfl) (want_t g3 rfl rfl rfl) ?_
       refine og (qv_fa (off := 0) Try.field23_0 rfl) (want_t g3 rfl rfl rfl) ?_
       refine og (qv_ldp (v := (.int .i64 a.l)) Try.plain3 rfl (inOc (k := 0) rfl) rfl) (want_t g3 rfl rfl rfl) ?_
       refine og (qv_sub rfl rfl (by omega)) (want_t g3 rfl rfl rfl) ?_
       refine og (qv_fa (off := 0) Try.field23_2 rfl) (want_t g3 rfl rfl rfl) ?_
       refine og (qv_ldp (v := (.int .i64 a.s)) Try.plain3 rfl (inOc (k := 0) rfl) rfl) (want_t g3 rfl rfl rfl) ?_
       refine og (qv_rem rfl rfl (by omega) (by omega)) (want_t g3 rfl rfl rfl) ?_
       refine og (qv_eql rfl rfl) (want_t g3 rfl rfl rfl) ?_
       refine oq (qv_pick_t g3 rfl (rfl : ev _ _ = (.bool (decide (((a.h - a.l) % a.s) = 0))))) ?_
       refine oq (qv_as (.bool (decide (((a.h - a.l) % a.s) = 0))) rfl) ?_
       refine ops_nil ?_
       refine vc_ret ?_
       exact rq1 (.bool (decide (vld a))) (congrArg Value.bool (decide_eq_decide.2 (show (((a.h - a.l) % a.s) = 0) ↔ (vld a) from by unfold vld; simp only [nE_iff] at *; unfold fits at *; omega))) rfl
      ·
       refine os (want_tn g3 rfl rfl rfl) ?_
       refine os (want_tn g3 rfl rfl rfl) ?_
       refine os (want_tn g3 rfl rfl rfl) ?_
       refine os (want_tn g3 rfl rfl rfl) ?_
       refine os (want_tn g3 rfl rfl rfl) ?_
       refine os (want_tn g3 rfl rfl rfl) ?_
       refine os (want_tn g3 rfl rfl rfl) ?_
       refine os (want_tn g3 rfl rfl rfl) ?_
       refine os (want_tn g3 rfl rfl rfl) ?_
       refine oq (qv_pick_f g3 rfl (rfl : ev _ _ = (Value.bool false))) ?_
       refine oq (qv_as (Value.bool false) rfl) ?_
       refine ops_nil ?_
       refine vc_ret ?_
       exact rq1 (.bool (decide (vld a))) (congrArg Value.bool (decide_eq_false (show ¬ (vld a) from by unfold vld; simp only [nE_iff] at *; unfold fits at *; omega)).symm) rfl

set_option maxRecDepth 100000 in
set_option maxHeartbeats 4000000 in
theorem rValid_c {V : HV} {a : Nm} :
    FnC Try.prog 17 [(.agg #[(.int .i64 a.l), (.int .i64 a.h), (.int .i64 a.s)])] V [] (fun v _ _ => v = (.bool (decide (vld a)))) := by
 refine fn_intro (N := 45) Try.func17 (by kernel_rfl) rfl rfl rfl (Nat.le_of_ble_eq_true rfl) ?_
 intro w0 D
 refine vc_seq ?_
 refine vc_region ?_
 refine ops_box (v := (.agg #[(.int .i64 a.l), (.int .i64 a.h), (.int .i64 a.s)])) (cs := [(.int .i64 a.l), (.int .i64 a.h), (.int .i64 a.s)]) rfl rfl (fun b1 => ?_)
 refine oq (qv_as (Value.bool false) rfl) ?_
 refine ops_nil ?_
 refine vc_seq ?_
 refine vc_seq ?_
 refine vc_res (σ' := [(Arr 23 b1 [(.int .i64 a.l), (.int .i64 a.h), (.int .i64 a.s)])]) rfl ?_
 refine vc_region_any Try.mixed (by kernel_rfl) ?_
 refine qq (qv_ldm (vs := [(.int .i64 a.l), (.int .i64 a.h), (.int .i64 a.s)]) Try.agg23 rfl (inOc (k := 0) rfl) rfl rfl) ?_
 refine qq (qv_call (v := (.agg #[(.int .i64 nE.l), (.int .i64 nE.h), (.int .i64 nE.s)])) (rNone_c) rfl rfl) ?_
 refine qq (qv_eqls Try.eq23 [a.l, a.h, a.s] [nE.l, nE.h, nE.s] rfl rfl rfl rfl rfl rfl eq3) ?_
 refine qops_nil ?_
 refine vc_if rfl (fun c1 => ?_) (fun c1 => ?_)
 ·
  refine vc_seq ?_
  refine vc_region ?_
  refine oq (qv_as (Value.bool true) rfl) ?_
  refine ops_nil ?_
  refine vc_ret ?_
  exact rq1 (.bool (decide (vld a))) (congrArg Value.bool (decide_eq_true (show (vld a) from by unfold vld; simp only [fits] at *; omega)).symm) rfl
 ·
  refine vc_skip ?_
  refine vc_seq ?_
  refine vc_seq ?_
  refine vc_region ?_
  refine oq (qv_fa (off := 0) Try.field23_0 rfl) ?_
  refine oq (qv_ldp (v := (.int .i64 a.l)) Try.plain3 rfl (inOc (k := 0) rfl) rfl) ?_
  refine oq (qv_call (v := (.bool (decide (fits a.l)))) (rFits_c) rfl rfl) ?_
  refine oq (qv_not rfl) ?_
  refine oq (qv_mv (.bool (decide (¬ (fits a.l)))) rfl) ?_
  by_cases g1 : ¬ (fits a.l)
  ·
   refine os (want_fn g1 rfl rfl rfl) ?_
   refine os (want_fn g1 rfl rfl rfl) ?_
   refine os (want_fn g1 rfl rfl rfl) ?_
   refine os (want_fn g1 rfl rfl rfl) ?_
   refine oq (qv_pick_t g1 rfl (rfl : ev _ _ = (Value.bool true))) ?_
   refine ops_nil ?_
   refine vc_tt rfl ?_
   refine vc_seq ?_
   refine vc_region ?_
   refine oq (qv_as (Value.bool false) rfl) ?_
   refine ops_nil ?_
   refine vc_ret ?_
   exact rq1 (.bool (decide (vld a))) (congrArg Value.bool (decide_eq_false (show ¬ (vld a) from by unfold vld; simp only [fits] at *; omega)).symm) rfl
  ·
   refine og (qv_fa (off := 0) Try.field23_1 rfl) (want_f g1 rfl rfl rfl) ?_
   refine og (qv_ldp (v := (.int .i64 a.h)) Try.plain3 rfl (inOc (k := 0) rfl) rfl) (want_f g1 rfl rfl rfl) ?_
   refine og (qv_call (v := (.bool (decide (fits a.h)))) (rFits_c) rfl rfl) (want_f g1 rfl rfl rfl) ?_
   refine og (qv_not rfl) (want_f g1 rfl rfl rfl) ?_
   refine oq (qv_pick_f g1 rfl (rfl : ev _ _ = (.bool (decide (¬ (fits a.h)))))) ?_
   refine ops_nil ?_
   refine vc_if rfl (fun c2 => ?_) (fun c2 => ?_)
   ·
    refine vc_seq ?_
    refine vc_region ?_
    refine oq (qv_as (Value.bool false) rfl) ?_
    refine ops_nil ?_
    refine vc_ret ?_
    exact rq1 (.bool (decide (vld a))) (congrArg Value.bool (decide_eq_false (show ¬ (vld a) from by unfold vld; simp only [fits] at *; omega)).symm) rfl
   ·
    refine vc_skip ?_
    refine vc_seq ?_
    refine vc_seq ?_
    have hf1 : fits a.l := by simp only [fits] at *; omega
    have hf2 : fits a.h := by simp only [fits] at *; omega
    unfold fits at hf1 hf2
    refine vc_region ?_
    refine oq (qv_fa (off := 0) Try.field23_0 rfl) ?_
    refine oq (qv_ldp (v := (.int .i64 a.l)) Try.plain3 rfl (inOc (k := 0) rfl) rfl) ?_
    refine oq (qv_fa (off := 0) Try.field23_1 rfl) ?_
    refine oq (qv_ldp (v := (.int .i64 a.h)) Try.plain3 rfl (inOc (k := 0) rfl) rfl) ?_
    refine oq (qv_eql rfl rfl) ?_
    refine ops_nil ?_
    refine vc_if rfl (fun c3 => ?_) (fun c3 => ?_)
    ·
     refine vc_seq ?_
     refine vc_region ?_
     refine oq (qv_fa (off := 0) Try.field23_2 rfl) ?_
     refine oq (qv_ldp (v := (.int .i64 a.s)) Try.plain3 rfl (inOc (k := 0) rfl) rfl) ?_
     refine oq (qv_eql rfl rfl) ?_
     refine oq (qv_as (.bool (decide (a.s = 0))) rfl) ?_
     refine ops_nil ?_
     refine vc_ret ?_
     exact rq1 (.bool (decide (vld a))) (congrArg Value.bool (decide_eq_decide.2 (show (a.s = 0) ↔ (vld a) from by unfold vld; simp only [fits] at *; omega))) rfl
    ·
     refine vc_skip ?_
     refine vc_seq ?_
     refine vc_region ?_
     refine oq (qv_fa (off := 0) Try.field23_0 rfl) ?_
     refine oq (qv_ldp (v := (.int .i64 a.l)) Try.plain3 rfl (inOc (k := 0) rfl) rfl) ?_
     refine oq (qv_fa (off := 0) Try.field23_1 rfl) ?_
     refine oq (qv_ldp (v := (.int .i64 a.h)) Try.plain3 rfl (inOc (k := 0) rfl) rfl) ?_
     refine oq (qv_lss rfl rfl) ?_
     refine oq (qv_mv (.bool (decide (a.l < a.h))) rfl) ?_
     by_cases g2 : a.l < a.h
     ·
      refine og (qv_fa (off := 0) Try.field23_2 rfl) (want_t g2 rfl rfl rfl) ?_
      refine og (qv_ldp (v := (.int .i64 a.s)) Try.plain3 rfl (inOc (k := 0) rfl) rfl) (want_t g2 rfl rfl rfl) ?_
      refine og (qv_geq rfl rfl) (want_t g2 rfl rfl rfl) ?_
      refine oq (qv_pick_t g2 rfl (rfl : ev _ _ = (.bool (decide (1 ≤ a.s))))) ?_
      refine oq (qv_mv (.bool (decide (1 ≤ a.s))) rfl) ?_
      by_cases g3 : 1 ≤ a.s
      ·
       refine og (qv_fa (off := 0) Try.field23_1 rfl) (want_t g3 rfl rfl rfl) ?_
       refine og (qv_ldp (v := (.int .i64 a.h)) Try.plain3 rfl (inOc (k := 0) rfl) rfl) (want_t g3 rfl rfl rfl) ?_
       refine og (qv_fa (off := 0) Try.field23_0 rfl) (want_t g3 rfl rfl rfl) ?_
       refine og (qv_ldp (v := (.int .i64 a.l)) Try.plain3 rfl (inOc (k := 0) rfl) rfl) (want_t g3 rfl rfl rfl) ?_
       refine og (qv_sub rfl rfl (by omega)) (want_t g3 rfl rfl rfl) ?_
       refine og (qv_fa (off := 0) Try.field23_2 rfl) (want_t g3 rfl rfl rfl) ?_
       refine og (qv_ldp (v := (.int .i64 a.s)) Try.plain3 rfl (inOc (k := 0) rfl) rfl) (want_t g3 rfl rfl rfl) ?_
       refine og (qv_rem rfl rfl (by omega) (by omega)) (want_t g3 rfl rfl rfl) ?_
       refine og (qv_eql rfl rfl) (want_t g3 rfl rfl rfl) ?_
       refine oq (qv_pick_t g3 rfl (rfl : ev _ _ = (.bool (decide (((a.h - a.l) % a.s) = 0))))) ?_
       refine oq (qv_as (.bool (decide (((a.h - a.l) % a.s) = 0))) rfl) ?_
       refine ops_nil ?_
       refine vc_ret ?_
       exact rq1 (.bool (decide (vld a))) (congrArg Value.bool (decide_eq_decide.2 (show (((a.h - a.l) % a.s) = 0) ↔ (vld a) from by unfold vld; simp only [fits] at *; omega))) rfl
      ·
       refine os (want_tn g3 rfl rfl rfl) ?_
       refine os (want_tn g3 rfl rfl rfl) ?_
       refine os (want_tn g3 rfl rfl rfl) ?_
       refine os (want_tn g3 rfl rfl rfl) ?_
       refine os (want_tn g3 rfl rfl rfl) ?_
       refine os (want_tn g3 rfl rfl rfl) ?_
       refine os (want_tn g3 rfl rfl rfl) ?_
       refine os (want_tn g3 rfl rfl rfl) ?_
       refine os (want_tn g3 rfl rfl rfl) ?_
       refine oq (qv_pick_f g3 rfl (rfl : ev _ _ = (Value.bool false))) ?_
       refine oq (qv_as (Value.bool false) rfl) ?_
       refine ops_nil ?_
       refine vc_ret ?_
       exact rq1 (.bool (decide (vld a))) (congrArg Value.bool (decide_eq_false (show ¬ (vld a) from by unfold vld; simp only [fits] at *; omega)).symm) rfl
     ·
      refine os (want_tn g2 rfl rfl rfl) ?_
      refine os (want_tn g2 rfl rfl rfl) ?_
      refine os (want_tn g2 rfl rfl rfl) ?_
      refine oq (qv_pick_f g2 rfl (rfl : ev _ _ = (Value.bool false))) ?_
      refine oq (qv_mv (Value.bool false) rfl) ?_
      refine os (want_tnc rfl rfl rfl) ?_
      refine os (want_tnc rfl rfl rfl) ?_
      refine os (want_tnc rfl rfl rfl) ?_
      refine os (want_tnc rfl rfl rfl) ?_
      refine os (want_tnc rfl rfl rfl) ?_
      refine os (want_tnc rfl rfl rfl) ?_
      refine os (want_tnc rfl rfl rfl) ?_
      refine os (want_tnc rfl rfl rfl) ?_
      refine os (want_tnc rfl rfl rfl) ?_
      refine oq (qv_pick_fc rfl (rfl : ev _ _ = (Value.bool false))) ?_
      refine oq (qv_as (Value.bool false) rfl) ?_
      refine ops_nil ?_
      refine vc_ret ?_
      exact rq1 (.bool (decide (vld a))) (congrArg Value.bool (decide_eq_false (show ¬ (vld a) from by unfold vld; simp only [fits] at *; omega)).symm) rfl

set_option maxRecDepth 100000 in
set_option maxHeartbeats 4000000 in
theorem mag_c {V : HV} {n : Int} (h : fits n ∨ (-2199023255552 ≤ n ∧ n ≤ 2199023255552)) :
    FnC Try.prog 83 [(Value.int .i64 n)] V [] (fun v _ _ => v = (.int .i64 (mag n))) := by
 refine fn_intro (N := 7) Try.func83 (by kernel_rfl) rfl rfl rfl (Nat.le_of_ble_eq_true rfl) ?_
 intro w0 D
 unfold fits at h
 refine vc_seq ?_
 refine vc_region ?_
 refine oq (qv_as (Value.int .i64 0) rfl) ?_
 refine ops_nil ?_
 refine vc_seq ?_
 refine vc_region ?_
 refine oq (qv_mv (Value.int .i64 n) rfl) ?_
 refine oq (qv_mv (Value.int .i64 n) rfl) ?_
 refine oq (qv_neg rfl (by omega)) ?_
 refine oq (qv_max rfl rfl) ?_
 refine oq (qv_as (.int .i64 (if n < (-n) then -n else n)) rfl) ?_
 refine ops_nil ?_
 refine vc_ret ?_
 exact rq1 (.int .i64 (mag n)) (congrArg (Value.int .i64) (show (if n < (-n) then -n else n) = (mag n) from by rfl)) rfl

set_option maxRecDepth 100000 in
set_option maxHeartbeats 4000000 in
theorem span_c {V : HV} {lo hi st : Int} (hl : fits lo) (hh : fits hi) (hs : 0 ≤ st) :
    FnC Try.prog 64 [(Value.int .i64 lo), (Value.int .i64 hi), (Value.int .i64 st)] V [] (fun v _ _ => v = (.agg #[(.int .i64 ((spanF lo hi st).l)), (.int .i64 ((spanF lo hi st).h)), (.int .i64 ((spanF lo hi st).s))])) := by
 refine fn_intro (N := 33) Try.func64 (by kernel_rfl) rfl rfl rfl (Nat.le_of_ble_eq_true rfl) ?_
 intro w0 D
 unfold fits at hl hh
 refine vc_seq ?_
 refine vc_region ?_
 refine ops_alloc Try.ti23 rfl (fun b1 => ?_)
 refine ops_nil ?_
 refine vc_seq ?_
 refine vc_seq ?_
 refine vc_res (σ' := [(Arr 23 b1 [(Value.int .i64 0), (Value.int .i64 0), (Value.int .i64 0)])]) rfl ?_
 refine vc_region ?_
 refine oq (qv_mv (Value.int .i64 lo) rfl) ?_
 refine oq (qv_mv (Value.int .i64 hi) rfl) ?_
 refine oq (qv_gtr rfl rfl) ?_
 refine ops_nil ?_
 refine vc_if rfl (fun c1 => ?_) (fun c1 => ?_)
 ·
  refine vc_seq ?_
  refine vc_region ?_
  refine oq (qv_call (v := (.agg #[(.int .i64 nE.l), (.int .i64 nE.h), (.int .i64 nE.s)])) (none_c) rfl rfl) ?_
  refine ops_stw (k := 0) (vs := [(.int .i64 nE.l), (.int .i64 nE.h), (.int .i64 nE.s)]) Try.size23 rfl rfl rfl rfl rfl rfl ?_
  refine ops_nil ?_
  refine vc_ret ?_
  refine rs1 _ (rv_c (vs := [(.int .i64 nE.l), (.int .i64 nE.h), (.int .i64 nE.s)]) Try.agg23 rfl (inOc (k := 0) rfl) rfl rfl) ?_
  exact (agg3 (show nE = spanF lo hi st from by first | (rw [spanF_1 (by omega)]; done) | (rw [spanF_2 (by omega) (by omega)]; done) | (rw [spanF_3 (by omega) (by omega) (by omega)]; done) | (rw [spanF_4 (by omega) (by omega) (by omega)]; done)))
 ·
  refine vc_skip ?_
  refine vc_seq ?_
  refine vc_seq ?_
  refine vc_region ?_
  refine oq (qv_mv (Value.int .i64 st) rfl) ?_
  refine oq (qv_eql rfl rfl) ?_
  refine ops_nil ?_
  refine vc_if rfl (fun c2 => ?_) (fun c2 => ?_)
  ·
   refine vc_seq ?_
   refine vc_region ?_
   refine oq (qv_mv (Value.int .i64 lo) rfl) ?_
   refine oq (qv_call (v := (.agg #[(.int .i64 ((sgl lo).l)), (.int .i64 ((sgl lo).h)), (.int .i64 ((sgl lo).s))])) (single_c) rfl rfl) ?_
   refine ops_stw (k := 0) (vs := [(.int .i64 ((sgl lo).l)), (.int .i64 ((sgl lo).h)), (.int .i64 ((sgl lo).s))]) Try.size23 rfl rfl rfl rfl rfl rfl ?_
   refine ops_nil ?_
   refine vc_ret ?_
   refine rs1 _ (rv_c (vs := [(.int .i64 ((sgl lo).l)), (.int .i64 ((sgl lo).h)), (.int .i64 ((sgl lo).s))]) Try.agg23 rfl (inOc (k := 0) rfl) rfl rfl) ?_
   exact (agg3 (show sgl lo = spanF lo hi st from by first | (rw [spanF_1 (by omega)]; done) | (rw [spanF_2 (by omega) (by omega)]; done) | (rw [spanF_3 (by omega) (by omega) (by omega)]; done) | (rw [spanF_4 (by omega) (by omega) (by omega)]; done)))
  ·
   refine vc_skip ?_
   refine vc_seq ?_
   have e0 := Int.emod_add_mul_ediv (hi - lo) st
   rw [Int.mul_comm] at e0
   have e1 := Int.emod_nonneg (hi - lo) (show st ≠ 0 by omega)
   have e2 : 0 ≤ (hi - lo) / st := Int.ediv_nonneg (by omega) hs
   have e3 : 0 ≤ (hi - lo) / st * st := Int.mul_nonneg e2 hs
   have e4 : (hi - lo) / st ≤ hi - lo := Int.ediv_le_self _ (by omega)
   refine vc_region ?_
   refine oq (qv_mv (Value.int .i64 lo) rfl) ?_
   refine oq (qv_mv (Value.int .i64 hi) rfl) ?_
   refine oq (qv_mv (Value.int .i64 lo) rfl) ?_
   refine oq (qv_sub rfl rfl (by omega)) ?_
   refine oq (qv_mv (Value.int .i64 st) rfl) ?_
   refine oq (qv_quo rfl rfl (by omega) (by omega)) ?_
   refine oq (qv_mv (Value.int .i64 st) rfl) ?_
   refine oq (qv_mul rfl rfl (by omega)) ?_
   refine oq (qv_add rfl rfl (by omega)) ?_
   refine oq (qv_as (.int .i64 (lo + (((hi - lo) / st) * st))) rfl) ?_
   refine ops_nil ?_
   refine vc_seq ?_
   refine vc_seq ?_
   refine vc_region ?_
   refine oq (qv_mv (Value.int .i64 lo) rfl) ?_
   refine oq (qv_mv (.int .i64 (lo + (((hi - lo) / st) * st))) rfl) ?_
   refine oq (qv_eql rfl rfl) ?_
   refine ops_nil ?_
   refine vc_if rfl (fun c3 => ?_) (fun c3 => ?_)
   ·
    refine vc_seq ?_
    refine vc_region ?_
    refine oq (qv_mv (Value.int .i64 lo) rfl) ?_
    refine oq (qv_call (v := (.agg #[(.int .i64 ((sgl lo).l)), (.int .i64 ((sgl lo).h)), (.int .i64 ((sgl lo).s))])) (single_c) rfl rfl) ?_
    refine ops_stw (k := 0) (vs := [(.int .i64 ((sgl lo).l)), (.int .i64 ((sgl lo).h)), (.int .i64 ((sgl lo).s))]) Try.size23 rfl rfl rfl rfl rfl rfl ?_
    refine ops_nil ?_
    refine vc_ret ?_
    refine rs1 _ (rv_c (vs := [(.int .i64 ((sgl lo).l)), (.int .i64 ((sgl lo).h)), (.int .i64 ((sgl lo).s))]) Try.agg23 rfl (inOc (k := 0) rfl) rfl rfl) ?_
    exact (agg3 (show sgl lo = spanF lo hi st from by first | (rw [spanF_1 (by omega)]; done) | (rw [spanF_2 (by omega) (by omega)]; done) | (rw [spanF_3 (by omega) (by omega) (by omega)]; done) | (rw [spanF_4 (by omega) (by omega) (by omega)]; done)))
   ·
    refine vc_skip ?_
    refine vc_seq ?_
    refine vc_region ?_
    refine oq (qv_mv (Value.int .i64 lo) rfl) ?_
    refine oq (qv_mv (.int .i64 (lo + (((hi - lo) / st) * st))) rfl) ?_
    refine oq (qv_mv (Value.int .i64 st) rfl) ?_
    refine oq (qv_build (out := [(Value.int .i64 lo), (.int .i64 (lo + (((hi - lo) / st) * st))), (Value.int .i64 st)]) Try.build23 [(0, [(Value.int .i64 lo)]), (1, [(.int .i64 (lo + (((hi - lo) / st) * st)))]), (2, [(Value.int .i64 st)])] rfl rfl) ?_
    refine ops_stw (k := 0) (vs := [(Value.int .i64 lo), (.int .i64 (lo + (((hi - lo) / st) * st))), (Value.int .i64 st)]) Try.size23 rfl rfl rfl rfl rfl rfl ?_
    refine ops_nil ?_
    refine vc_ret ?_
    refine rs1 _ (rv_c (vs := [(Value.int .i64 lo), (.int .i64 (lo + (((hi - lo) / st) * st))), (Value.int .i64 st)]) Try.agg23 rfl (inOc (k := 0) rfl) rfl rfl) ?_
    exact (agg3 (show (⟨lo, lo + (((hi - lo) / st) * st), st⟩ : Nm) = spanF lo hi st from by first | (rw [spanF_1 (by omega)]; done) | (rw [spanF_2 (by omega) (by omega)]; done) | (rw [spanF_3 (by omega) (by omega) (by omega)]; done) | (rw [spanF_4 (by omega) (by omega) (by omega)]; done)))

set_option maxRecDepth 100000 in
set_option maxHeartbeats 4000000 in
theorem gcd_c {V : HV} {x : Value} {xs : List Int} (hs : Ints .i64 V x xs) (hn : ∀ i : Int, 0 ≤ i → i < xs.length → 0 ≤ gi xs i) :
    FnC Try.prog 65 [x] V [] (fun v _ _ => v = (.int .i64 (gcdF xs))) := by
 refine fn_intro (N := 20) Try.func65 (by kernel_rfl) rfl rfl rfl (Nat.le_of_ble_eq_true rfl) ?_
 intro w0 D
 have hbd := hs.bound
 refine vc_seq ?_
 refine vc_region ?_
 refine oq (qv_as (Value.int .i64 0) rfl) ?_
 refine ops_nil ?_
 refine vc_seq ?_
 refine vc_region ?_
 refine oq (qv_as (Value.int .i64 0) rfl) ?_
 refine ops_nil ?_
 refine vc_seq ?_
 refine vc_seq ?_
 refine vc_region ?_
 refine oq (qv_mv x rfl) ?_
 refine oq (qv_lenI Try.underlying37 rfl hs) ?_
 refine oq (qv_mv (Value.int .i64 0) rfl) ?_
 refine ops_nil ?_
 refine vc_block ?_
 refine vc_loop (α := Int) (fun (xx : Int) => [(0, x), (2, (Value.int .i64 0)), (6, x), (7, (.int .i64 ((xs.length : Int)))), (3, (.int .i64 (gcdF (xs.take xx.toNat)))), (8, (Value.int .i64 xx))]) (fun (xx : Int) V' σ' => V = V' ∧ [] = σ' ∧ 0 ≤ xx ∧ xx ≤ xs.length) (fun (xx : Int) => (xs.length - xx).toNat) (0) ?_ ?_ ?_
 · exact ⟨rfl, rfl, rfl, rfl, (congrArg (Value.int .i64) (show 0 = (gcdF (xs.take (0 : Int).toNat)) from by rfl)), rfl, trivial⟩
 · exact ⟨rfl, rfl, by omega, by omega⟩
 rintro p e1 V0l σ0l hI0
 obtain ⟨rfl, rfl, i1, i2⟩ : V = V0l ∧ [] = σ0l ∧ 0 ≤ p ∧ p ≤ xs.length := hI0
 refine vc_seq ?_
 refine vc_region ?_
 refine oq (qv_lss rfl rfl) ?_
 refine ops_nil ?_
 refine vc_seq ?_
 refine vc_if rfl (fun c1 => ?_) (fun c1 => ?_)
 ·
  refine vc_skip ?_
  refine vc_seq ?_
  refine vc_block ?_
  refine vc_seq ?_
  refine vc_region ?_
  refine oq (qv_iai (v := x) (i := p) Try.underlying37 Try.size3 rfl (inVi hs) rfl (by omega) (by omega)) ?_
  refine oq (qv_ldi (v := x) (i := p) Try.plain3 rfl (inVi hs) (by omega) (by omega)) ?_
  refine oq (qv_as (.int .i64 (gi xs (p))) rfl) ?_
  refine ops_nil ?_
  refine vc_block ?_
  refine vc_loop (α := Int × Int) (fun (xx : Int × Int) => [(0, x), (2, (Value.int .i64 0)), (6, x), (7, (.int .i64 ((xs.length : Int)))), (8, (Value.int .i64 p)), (9, (.bool (decide (p < ((xs.length : Int)))))), (3, (Value.int .i64 xx.1)), (5, (Value.int .i64 xx.2))]) (fun (xx : Int × Int) V' σ' => V = V' ∧ [] = σ' ∧ 0 ≤ xx.1 ∧ 0 ≤ xx.2 ∧ Int.gcd xx.1 xx.2 = Int.gcd (gcdF (xs.take p.toNat)) (gi xs p)) (fun (xx : Int × Int) => xx.2.toNat) (gcdF (xs.take p.toNat), gi xs p) ?_ ?_ ?_
  · exact ⟨rfl, rfl, rfl, rfl, rfl, rfl, (congrArg (Value.int .i64) (show (gcdF (xs.take p.toNat)) = ((gcdF (xs.take p.toNat))) from by rfl)), (congrArg (Value.int .i64) (show (gi xs (p)) = ((gi xs p)) from by rfl)), trivial⟩
  · exact ⟨rfl, rfl, gcdF_nn _, hn p (by omega) (by omega), rfl⟩
  rintro ⟨o, n⟩ e2 V1l σ1l hI1
  obtain ⟨rfl, rfl, i3, i4, hg⟩ : V = V1l ∧ [] = σ1l ∧ 0 ≤ o ∧ 0 ≤ n ∧ Int.gcd o n = Int.gcd (gcdF (xs.take p.toNat)) (gi xs p) := hI1
  change VC _ _ _ _ _ _ (upds 20 [(0, x), (2, (Value.int .i64 0)), (6, x), (7, (.int .i64 ((xs.length : Int)))), (8, (Value.int .i64 p)), (9, (.bool (decide (p < ((xs.length : Int)))))), (3, (Value.int .i64 o)), (5, (Value.int .i64 n))] e2) _ _
  refine vc_seq ?_
  refine vc_seq ?_
  refine vc_region ?_
  refine oq (qv_mv (Value.int .i64 n) rfl) ?_
  refine oq (qv_neq rfl rfl) ?_
  refine ops_nil ?_
  refine vc_if rfl (fun c2 => ?_) (fun c2 => ?_)
  ·
   refine vc_skip ?_
   refine vc_block ?_
   refine vc_region_any Try.mixed (by kernel_rfl) ?_
   refine qq (qv_mv (Value.int .i64 n) rfl) ?_
   refine qq (qv_mv (Value.int .i64 o) rfl) ?_
   refine qq (qv_mv (Value.int .i64 n) rfl) ?_
   refine qq (qv_rem rfl rfl (by omega) (by omega)) ?_
   refine qq (qv_as (Value.int .i64 n) rfl) ?_
   refine qq (qv_as (.int .i64 (o % n)) rfl) ?_
   refine qops_nil ?_
   have em := Int.emod_nonneg o (show n ≠ 0 by omega)
   have el := Int.emod_lt_of_pos o (show 0 < n by omega)
   refine ⟨(n, o % n), ⟨rfl, rfl, rfl, rfl, rfl, rfl, rfl, (congrArg (Value.int .i64) (show (o % n) = ((o % n)) from by rfl)), trivial⟩, ⟨rfl, rfl, by omega, by omega, by rw [gcd_step (by omega) (by omega)]; exact hg⟩, by omega⟩
  ·
   refine vc_exit ?_
   refine blockQ_hit ?_
   refine vc_region ?_
   refine oq (qv_add rfl rfl (by omega)) ?_
   refine oq (qv_mv (.int .i64 (p + 1)) rfl) ?_
   refine ops_nil ?_
   refine ⟨(p + 1), ⟨rfl, rfl, rfl, rfl, (congrArg (Value.int .i64) (show o = (gcdF (xs.take (p + 1 : Int).toNat)) from by rw [take_step (by omega) (by omega), gcdF_snoc, ← hg, show n = 0 by omega]; simp; omega)), (congrArg (Value.int .i64) (show (p + 1) = ((p + 1)) from by rfl)), trivial⟩, ⟨rfl, rfl, by omega, by omega⟩, by omega⟩
 ·
  refine vc_exit ?_
  refine blockQ_hit ?_
  refine vc_seq ?_
  refine vc_region ?_
  refine oq (qv_mv (.int .i64 (gcdF (xs.take p.toNat))) rfl) ?_
  refine oq (qv_as (.int .i64 (gcdF (xs.take p.toNat))) rfl) ?_
  refine ops_nil ?_
  refine vc_ret ?_
  exact rq1 (.int .i64 (gcdF xs)) (congrArg (Value.int .i64) (show (gcdF (xs.take p.toNat)) = (gcdF xs) from by rw [show p.toNat = xs.length by omega, List.take_length])) rfl

set_option maxRecDepth 100000 in
set_option maxHeartbeats 4000000 in
theorem rGcd_c {V : HV} {a b : Int} (h0 : 0 ≤ a) (h1 : 0 ≤ b) :
    FnC Try.prog 55 [(Value.int .i64 a), (Value.int .i64 b)] V [] (fun v _ _ => v = (.int .i64 ((Int.gcd a b : Int)))) := by
 refine fn_intro (N := 12) Try.func55 (by kernel_rfl) rfl rfl rfl (Nat.le_of_ble_eq_true rfl) ?_
 intro w0 D
 refine vc_seq ?_
 refine vc_region ?_
 refine oq (qv_as (Value.int .i64 0) rfl) ?_
 refine ops_nil ?_
 refine vc_seq ?_
 refine vc_block ?_
 refine vc_loop (α := Int × Int) (fun (xx : Int × Int) => [(4, (Value.int .i64 0)), (0, (Value.int .i64 xx.1)), (1, (Value.int .i64 xx.2))]) (fun (xx : Int × Int) V' σ' => V = V' ∧ [] = σ' ∧ 0 ≤ xx.1 ∧ 0 ≤ xx.2 ∧ Int.gcd xx.1 xx.2 = Int.gcd a b) (fun (xx : Int × Int) => xx.2.toNat) (a, b) ?_ ?_ ?_
 · exact ⟨rfl, rfl, rfl, trivial⟩
 · exact ⟨rfl, rfl, h0, h1, rfl⟩
 rintro ⟨o, n⟩ e1 V0l σ0l hI0
 obtain ⟨rfl, rfl, i1, i2, hg⟩ : V = V0l ∧ [] = σ0l ∧ 0 ≤ o ∧ 0 ≤ n ∧ Int.gcd o n = Int.gcd a b := hI0
 change VC _ _ _ _ _ _ (upds 12 [(4, (Value.int .i64 0)), (0, (Value.int .i64 o)), (1, (Value.int .i64 n))] e1) _ _
 refine vc_seq ?_
 refine vc_seq ?_
 refine vc_region ?_
 refine oq (qv_mv (Value.int .i64 n) rfl) ?_
 refine oq (qv_neq rfl rfl) ?_
 refine ops_nil ?_
 refine vc_if rfl (fun c1 => ?_) (fun c1 => ?_)
 ·
  refine vc_skip ?_
  refine vc_block ?_
  refine vc_region_any Try.mixed (by kernel_rfl) ?_
  refine qq (qv_mv (Value.int .i64 n) rfl) ?_
  refine qq (qv_mv (Value.int .i64 o) rfl) ?_
  refine qq (qv_mv (Value.int .i64 n) rfl) ?_
  refine qq (qv_rem rfl rfl (by omega) (by omega)) ?_
  refine qq (qv_as (Value.int .i64 n) rfl) ?_
  refine qq (qv_as (.int .i64 (o % n)) rfl) ?_
  refine qops_nil ?_
  have em := Int.emod_nonneg o (show n ≠ 0 by omega)
  have el := Int.emod_lt_of_pos o (show 0 < n by omega)
  refine ⟨(n, o % n), ⟨rfl, rfl, (congrArg (Value.int .i64) (show (o % n) = ((o % n)) from by rfl)), trivial⟩, ⟨rfl, rfl, by omega, by omega, by rw [gcd_step (by omega) (by omega)]; exact hg⟩, by omega⟩
 ·
  refine vc_exit ?_
  refine blockQ_hit ?_
  refine vc_seq ?_
  refine vc_region ?_
  refine oq (qv_mv (Value.int .i64 o) rfl) ?_
  refine oq (qv_as (Value.int .i64 o) rfl) ?_
  refine ops_nil ?_
  refine vc_ret ?_
  exact rq1 (.int .i64 ((Int.gcd a b : Int))) (congrArg (Value.int .i64) (show o = ((Int.gcd a b : Int)) from by rw [← hg, show n = 0 by omega]; simp; omega)) rfl

set_option maxRecDepth 100000 in
set_option maxHeartbeats 4000000 in
theorem rAway_c {V : HV} {a b : Int} (h0 : -4398046511104 ≤ a ∧ a ≤ 4398046511104) (h1 : -4398046511104 ≤ b ∧ b ≤ 4398046511104) :
    FnC Try.prog 56 [(Value.int .i64 a), (Value.int .i64 b)] V [] (fun v _ _ => v = (.int .i64 (aw a b))) := by
 refine fn_intro (N := 14) Try.func56 (by kernel_rfl) rfl rfl rfl (Nat.le_of_ble_eq_true rfl) ?_
 intro w0 D
 refine vc_seq ?_
 refine vc_region ?_
 refine oq (qv_as (Value.int .i64 0) rfl) ?_
 refine ops_nil ?_
 refine vc_seq ?_
 refine vc_seq ?_
 refine vc_region ?_
 refine oq (qv_mv (Value.int .i64 a) rfl) ?_
 refine oq (qv_mv (Value.int .i64 b) rfl) ?_
 refine oq (qv_lss rfl rfl) ?_
 refine ops_nil ?_
 refine vc_if rfl (fun c1 => ?_) (fun c1 => ?_)
 ·
  refine vc_seq ?_
  refine vc_region ?_
  refine oq (qv_mv (Value.int .i64 b) rfl) ?_
  refine oq (qv_mv (Value.int .i64 a) rfl) ?_
  refine oq (qv_sub rfl rfl (by omega)) ?_
  refine oq (qv_as (.int .i64 (b - a)) rfl) ?_
  refine ops_nil ?_
  refine vc_ret ?_
  exact rq1 (.int .i64 (aw a b)) (congrArg (Value.int .i64) (show (b - a) = (aw a b) from by first | (rw [aw_1 (by omega)]; done) | (rw [aw_0 (by omega)]; done))) rfl
 ·
  refine vc_skip ?_
  refine vc_seq ?_
  refine vc_region ?_
  refine oq (qv_mv (Value.int .i64 a) rfl) ?_
  refine oq (qv_mv (Value.int .i64 b) rfl) ?_
  refine oq (qv_sub rfl rfl (by omega)) ?_
  refine oq (qv_as (.int .i64 (a - b)) rfl) ?_
  refine ops_nil ?_
  refine vc_ret ?_
  exact rq1 (.int .i64 (aw a b)) (congrArg (Value.int .i64) (show (a - b) = (aw a b) from by first | (rw [aw_1 (by omega)]; done) | (rw [aw_0 (by omega)]; done))) rfl

end Go.Proofs.Ytapkilaikcihgaa
