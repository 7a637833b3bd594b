/- Walks of mtbdd: what each function returns. Printed by a program out of notes. -/
import Derived.Test.YtkmhjcjpohpiaaaMq
namespace Go.Proofs.Ytkmhjcjpohpiaaa
open Go.Vc
open Classical

set_option maxRecDepth 100000 in
set_option maxHeartbeats 4000000 in
theorem Checks_c {V : HV} {la na : Value} {A : Mg} (hA : Mt V la na A) :
    FnC Try.prog 3 [(.agg #[(.int .i64 A.v), la, na, (.int .i64 A.r)])] V [] (fun v _ _ => v = (Value.bool true)) := by
 refine fn_intro (N := 15) Try.func3 (by kernel_rfl) rfl rfl rfl (Nat.le_of_ble_eq_true rfl) ?_
 intro w0 D
 have hbl := Ints.bound hA.l
 have hbn := SlS.bound hA.n
 refine vc_seq ?_
 refine vc_region ?_
 refine ops_box (v := (.agg #[(.int .i64 A.v), la, na, (.int .i64 A.r)])) (cs := [(.int .i64 A.v), la, na, (.int .i64 A.r)]) rfl rfl (fun b1 => ?_)
 refine oq (qv_as (Value.bool false) rfl) ?_
 refine ops_nil ?_
 refine vc_seq ?_
 refine vc_seq ?_
 refine vc_res (σ' := [(Arr 25 b1 [(.int .i64 A.v), la, na, (.int .i64 A.r)])]) rfl ?_
 refine vc_region ?_
 refine oq (qv_call (v := (Value.bool true)) (known_c) rfl rfl) ?_
 refine oq (qv_notc rfl) ?_
 refine ops_nil ?_
 refine vc_ff rfl ?_
 refine vc_skip ?_
 refine vc_seq ?_
 refine vc_region_any Try.mixed (by kernel_rfl) ?_
 refine qq (qv_ldm (vs := [(.int .i64 A.v), la, na, (.int .i64 A.r)]) Try.agg25 rfl (inOc (k := 0) rfl) rfl rfl) ?_
 refine qq (qv_call (v := (.bool (decide (fewP A)))) (few_c hA) rfl rfl) ?_
 refine qq (qv_not rfl) ?_
 refine qq (qv_mv (.bool (decide (¬ (fewP A)))) rfl) ?_
 by_cases g1 : ¬ (fewP A)
 ·
  refine qs (want_fn g1 rfl rfl rfl) ?_
  refine qs (want_fn g1 rfl rfl rfl) ?_
  refine qs (want_fn g1 rfl rfl rfl) ?_
  refine qs (want_fn g1 rfl rfl rfl) ?_
  refine qs (want_fn g1 rfl rfl rfl) ?_
  refine qq (qv_pick_t g1 rfl (rfl : ev _ _ = (Value.bool true))) ?_
  refine qq (qv_as (Value.bool true) rfl) ?_
  refine qops_nil ?_
  refine vc_ret ?_
  exact rq1 (Value.bool true) rfl rfl
 ·
  refine qg (qv_ldm (vs := [(.int .i64 A.v), la, na, (.int .i64 A.r)]) Try.agg25 rfl (inOc (k := 0) rfl) rfl rfl) (want_f g1 rfl rfl rfl) ?_
  refine qg (qv_call (v := (.int .i64 (chkC A))) (Check_c hA) rfl rfl) (want_f g1 rfl rfl rfl) ?_
  refine qg (qv_ldm (vs := [(.int .i64 A.v), la, na, (.int .i64 A.r)]) Try.agg25 rfl (inOc (k := 0) rfl) rfl rfl) (want_f g1 rfl rfl rfl) ?_
  refine qg (qv_call (v := (.int .i64 (chkC A))) (check_c hA) rfl rfl) (want_f g1 rfl rfl rfl) ?_
  refine qg (qv_eql rfl rfl) (want_f g1 rfl rfl rfl) ?_
  refine qq (qv_pick_f g1 rfl (rfl : ev _ _ = (.bool (decide ((chkC A) = (chkC A)))))) ?_
  refine qq (qv_as (.bool (decide ((chkC A) = (chkC A)))) rfl) ?_
  refine qops_nil ?_
  refine vc_ret ?_
  exact rq1 (Value.bool true) (congrArg Value.bool (decide_eq_true (show ((chkC A) = (chkC A)) from by rfl))) rfl

end Go.Proofs.Ytkmhjcjpohpiaaa
