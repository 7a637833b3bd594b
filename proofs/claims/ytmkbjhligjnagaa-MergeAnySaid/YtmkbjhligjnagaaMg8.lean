/- Walks of merge: what each function returns. Printed by a program out of notes. -/
import Derived.Test.YtmkbjhligjnagaaMg7
namespace Go.Proofs.Ytmkbjhligjnagaa
open Go.Vc
open Classical

set_option maxRecDepth 100000 in
theorem MergeChecks_c {V : HV} {l : Value} {rv : List Value} {L : List (List Int)} (hl : Mat .i64 V l rv L) :
    FnC Try.prog 3 [l] V [] (fun v _ _ => v = (Value.bool true)) := by
  refine fn_intro (N := 13) Try.func3 (by kernel_rfl) rfl rfl rfl (Nat.le_of_ble_eq_true rfl) ?_
  intro w0 D
  refine vc_seq ?_
  refine vc_region ?_
  refine oq (qv_as (Value.bool false) rfl) ?_
  refine ops_nil ?_
  refine vc_seq ?_
  refine vc_seq ?_
  refine vc_region ?_
  refine oq (qv_call (v := (Value.bool true)) (known_c) rfl rfl) ?_
  refine oq (qv_notc rfl) ?_
  refine ops_nil ?_
  refine vc_ff rfl ?_
  refine vc_skip ?_
  refine vc_seq ?_
  refine vc_seq ?_
  refine vc_region ?_
  refine oq (qv_mv l rfl) ?_
  refine oq (qv_call (v := (Value.bool (decide (Few L 40)))) (few_c hl) rfl rfl) ?_
  refine oq (qv_not rfl) ?_
  refine ops_nil ?_
  refine vc_if rfl (fun c1 => ?_) (fun c1 => ?_)
  ·
    refine vc_seq ?_
    refine vc_region ?_
    refine oq (qv_as (Value.bool true) rfl) ?_
    refine ops_nil ?_
    refine vc_ret ?_
    exact rq1 (Value.bool true) rfl rfl
  ·
    refine vc_skip ?_
    refine vc_seq ?_
    refine vc_region ?_
    refine oq (qv_mv l rfl) ?_
    refine oq (qv_call (v := (Value.int .i64 (chk L))) (Check_c hl) rfl rfl) ?_
    refine oq (qv_mv l rfl) ?_
    refine oq (qv_call (v := (Value.int .i64 (chk L))) (check_c hl) rfl rfl) ?_
    refine oq (qv_eql rfl rfl) ?_
    refine oq (qv_as (Value.bool (decide ((chk L) = (chk L)))) rfl) ?_
    refine ops_nil ?_
    refine vc_ret ?_
    exact rq1 (Value.bool true) (congrArg Value.bool (decide_eq_true (show ((chk L) = (chk L)) from by rfl))) rfl

end Go.Proofs.Ytmkbjhligjnagaa
