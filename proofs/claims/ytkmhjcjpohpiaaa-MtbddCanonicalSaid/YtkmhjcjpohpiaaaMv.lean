import Derived.Test.YtkmhjcjpohpiaaaMu
import Derived.Test.YtkmhjcjpohpiaaaWn
/- Walks of mtbdd: what each function returns. Printed by a program out of notes. -/
namespace Go.Proofs.Ytkmhjcjpohpiaaa
open Go.Vc
open Classical
set_option maxRecDepth 100000
set_option maxHeartbeats 4000000
theorem small_c {V:HV} {la na:Value} {A:Mg} (hA:Mt V la na A) :
    FnC Try.prog 27 [(.agg #[(.int .i64 A.v),la,na,(.int .i64 A.r)])] V [] (fun v _ _=>v=(.bool (decide (fewP A∧(¬ chkC A=0 ∨ A.v≤8))))):=by
 refine fn_intro (N:=15) Try.func27 (by kernel_rfl) rfl rfl rfl (Nat.le_of_ble_eq_true rfl) ?_
 intro w0 D
 refine vc_seq ?_
 refine vc_region ?_
 refine ops_box (v:=(.agg #[(.int .i64 A.v),la,na,(.int .i64 A.r)])) (cs:=[(.int .i64 A.v),la,na,(.int .i64 A.r)]) rfl rfl (fun b1=>?_)
 refine oq (qv_as (Value.bool false) rfl) ?_
 refine ops_nil ?_
 refine vc_seq ?_
 refine vc_res (σ':=[(Arr 25 b1 [(.int .i64 A.v),la,na,(.int .i64 A.r)])]) rfl ?_
 refine vc_region ?_
 refine oq (qv_ldm (vs:=[(.int .i64 A.v),la,na,(.int .i64 A.r)]) Try.agg25 rfl (inOc (k:=0) rfl) rfl rfl) ?_
 refine oq (qv_call (v:=(.bool (decide (fewP A)))) (few_c hA) rfl rfl) ?_
 refine oq (qv_mv (.bool (decide (fewP A))) rfl) ?_
 by_cases g1:fewP A
 refine og (qv_ldm (vs:=[(.int .i64 A.v),la,na,(.int .i64 A.r)]) Try.agg25 rfl (inOc (k:=0) rfl) rfl rfl) (want_t g1 rfl rfl rfl) ?_
 refine og (qv_call (v:=(.int .i64 (chkC A))) (check_c hA) rfl rfl) (want_t g1 rfl rfl rfl) ?_
 refine og (qv_neq rfl rfl) (want_t g1 rfl rfl rfl) ?_
 refine og (qv_mv (.bool (decide ((chkC A) ≠ 0))) rfl) (want_t g1 rfl rfl rfl) ?_
 by_cases g2:(chkC A) ≠ 0
 refine os (want_fn g2 rfl rfl rfl) ?_
 refine os (want_fn g2 rfl rfl rfl) ?_
 refine os (want_fn g2 rfl rfl rfl) ?_
 refine og (qv_pick_t g2 rfl (rfl:ev _ _=(Value.bool true))) (want_t g1 rfl rfl rfl) ?_
 refine oq (qv_pick_t g1 rfl (rfl:ev _ _=(Value.bool true))) ?_
 refine oq (qv_as (Value.bool true) rfl) ?_
 refine ops_nil ?_
 refine vc_ret ?_
 exact rq1 (.bool (decide (fewP A∧(¬ chkC A=0 ∨ A.v≤8)))) (congrArg Value.bool (decide_eq_true (show (fewP A∧(¬ chkC A=0 ∨ A.v≤8)) from by exact ⟨by assumption,.inl (by assumption)⟩)).symm) rfl
 refine og (qv_fa (off:=0) Try.field25_0 rfl) (want_f g2 rfl rfl rfl) ?_
 refine og (qv_ldp (v:=(.int .i64 A.v)) Try.plain3 rfl (inOc (k:=0) rfl) rfl) (want_f g2 rfl rfl rfl) ?_
 refine og (qv_leq rfl rfl) (want_f g2 rfl rfl rfl) ?_
 refine og (qv_pick_f g2 rfl (rfl:ev _ _=(.bool (decide (A.v≤8))))) (want_t g1 rfl rfl rfl) ?_
 refine oq (qv_pick_t g1 rfl (rfl:ev _ _=(.bool (decide (A.v≤8))))) ?_
 refine oq (qv_as (.bool (decide (A.v≤8))) rfl) ?_
 refine ops_nil ?_
 refine vc_ret ?_
 exact rq1 (.bool (decide (fewP A∧(¬ chkC A=0 ∨ A.v≤8)))) (congrArg Value.bool (decide_eq_decide.2 (show (A.v≤8) ↔ (fewP A∧(¬ chkC A=0 ∨ A.v≤8)) from by exact ⟨fun q=>⟨by assumption,.inr q⟩,fun q=>q.2.elim (fun h=>absurd h (by assumption)) id⟩))) rfl
 refine os (want_tn g1 rfl rfl rfl) ?_
 refine os (want_tn g1 rfl rfl rfl) ?_
 refine os (want_tn g1 rfl rfl rfl) ?_
 refine os (want_tn g1 rfl rfl rfl) ?_
 refine os (want_u rfl rfl rfl) ?_
 refine os (want_u rfl rfl rfl) ?_
 refine os (want_u rfl rfl rfl) ?_
 refine os (want_tn g1 rfl rfl rfl) ?_
 refine oq (qv_pick_f g1 rfl (rfl:ev _ _=(Value.bool false))) ?_
 refine oq (qv_as (Value.bool false) rfl) ?_
 refine ops_nil ?_
 refine vc_ret ?_
 exact rq1 (.bool (decide (fewP A∧(¬ chkC A=0 ∨ A.v≤8)))) (congrArg Value.bool (decide_eq_false (show ¬ (fewP A∧(¬ chkC A=0 ∨ A.v≤8)) from by exact fun q=>absurd q.1 (by assumption))).symm) rfl
end Go.Proofs.Ytkmhjcjpohpiaaa
