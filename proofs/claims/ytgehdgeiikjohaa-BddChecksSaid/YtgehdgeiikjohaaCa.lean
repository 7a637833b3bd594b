/- Walks of bdd: what each function returns. Printed by a program out of notes. -/
import Derived.Test.YtgehdgeiikjohaaBs
namespace Go.Proofs.Ytgehdgeiikjohaa
open Go.Vc
open Classical

set_option maxRecDepth 100000 in
set_option maxHeartbeats 4000000 in
theorem Checks_c {V : HV} {nv : Value} {N : List Fk} {vars root : Int} (hN : Fks V nv N) :
    FnC Try.prog 3 [(.agg #[(Value.int .i64 vars), nv, (Value.int .i64 root)])] V [] (fun v _ _ => v = (Value.bool true)) := by
 refine fn_intro (N := 14) Try.func3 (by kernel_rfl) rfl rfl rfl (Nat.le_of_ble_eq_true rfl) ?_
 intro w0 D
 refine vc_seq ?_
 refine vc_region ?_
 refine ops_box (v := (.agg #[(Value.int .i64 vars), nv, (Value.int .i64 root)])) (cs := [(Value.int .i64 vars), nv, (Value.int .i64 root)]) rfl rfl (fun b1 => ?_)
 refine oq (qv_as (Value.bool false) rfl) ?_
 refine ops_nil ?_
 refine vc_seq ?_
 refine vc_seq ?_
 refine vc_res (σ' := [(Arr 24 b1 [(Value.int .i64 vars), nv, (Value.int .i64 root)])]) rfl ?_
 refine vc_region ?_
 refine oq (qv_call (v := (Value.bool true)) (known_c) rfl rfl) ?_
 refine oq (qv_notc rfl) ?_
 refine ops_nil ?_
 refine vc_ff rfl ?_
 refine vc_skip ?_
 refine vc_seq ?_
 refine vc_seq ?_
 refine vc_region ?_
 refine oq (qv_fa (off := 0) Try.field24_1 rfl) ?_
 refine oq (qv_ldp (v := nv) Try.plain22 rfl (inOc (k := 0) rfl) rfl) ?_
 refine oq (qv_lenSS Try.underlying22 rfl hN) ?_
 refine oq (qv_gtr rfl rfl) ?_
 refine ops_nil ?_
 refine vc_if rfl (fun c1 => ?_) (fun c1 => ?_)
 ·
  refine vc_seq ?_
  refine vc_region ?_
  refine oq (qv_as (Value.bool true) rfl) ?_
  refine ops_nil ?_
  refine vc_ret ?_
  exact rq1 (Value.bool true) rfl rfl
 ·
  refine vc_skip ?_
  refine vc_seq ?_
  refine vc_region_any Try.mixed (by kernel_rfl) ?_
  refine qq (qv_ldm (vs := [(Value.int .i64 vars), nv, (Value.int .i64 root)]) Try.agg24 rfl (inOc (k := 0) rfl) rfl rfl) ?_
  refine qq (qv_call (v := (.int .i64 (chkC vars N root))) (Check_c hN) rfl rfl) ?_
  refine qq (qv_ldm (vs := [(Value.int .i64 vars), nv, (Value.int .i64 root)]) Try.agg24 rfl (inOc (k := 0) rfl) rfl rfl) ?_
  refine qq (qv_call (v := (.int .i64 (chkC vars N root))) (check_c hN) rfl rfl) ?_
  refine qq (qv_eql rfl rfl) ?_
  refine qq (qv_as (.bool (decide ((chkC vars N root) = (chkC vars N root)))) rfl) ?_
  refine qops_nil ?_
  refine vc_ret ?_
  exact rq1 (Value.bool true) (congrArg Value.bool (decide_eq_true (show ((chkC vars N root) = (chkC vars N root)) from by rfl))) rfl

end Go.Proofs.Ytgehdgeiikjohaa
