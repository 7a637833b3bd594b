import Derived.Test.YtkmhjcjpohpiaaaMv
import Derived.Test.YtkmhjcjpohpiaaaWn
/- Walks of mtbdd: what each function returns. Printed by a program out of notes. -/
namespace Go.Proofs.Ytkmhjcjpohpiaaa
open Go.Vc
open Classical
set_option maxRecDepth 100000
set_option maxHeartbeats 4000000
theorem floor_c {V:HV} {x y:Int} (hx:inR x) (hy:inR y) :
    FnC Try.prog 111 [(Value.int .i64 x),(Value.int .i64 y)] V [] (fun v _ _=>v=(.int .i64 (flr x y))):=by
 refine fn_intro (N:=25) Try.func111 (by kernel_rfl) rfl rfl rfl (Nat.le_of_ble_eq_true rfl) ?_
 intro w0 D
 have hb:=tdiv_in (y:=y) hx
 refine vc_seq ?_
 refine vc_region ?_
 refine oq (qv_as (Value.int .i64 0) rfl) ?_
 refine ops_nil ?_
 refine vc_seq ?_
 refine vc_seq ?_
 refine vc_region ?_
 refine oq (qv_mv (Value.int .i64 y) rfl) ?_
 refine oq (qv_eql rfl rfl) ?_
 refine ops_nil ?_
 refine vc_if rfl (fun c1=>?_) (fun c1=>?_)
 refine vc_seq ?_
 refine vc_region ?_
 refine oq (qv_as (Value.int .i64 0) rfl) ?_
 refine ops_nil ?_
 refine vc_ret ?_
 exact rq1 (.int .i64 (flr x y)) (congrArg (Value.int .i64) (show 0=(flr x y) from by rw [flr_z (by omega)])) rfl
 refine vc_skip ?_
 refine vc_seq ?_
 refine vc_region ?_
 refine oq (qv_mv (Value.int .i64 x) rfl) ?_
 refine oq (qv_mv (Value.int .i64 y) rfl) ?_
 refine oq (qv_quok (r:=x.tdiv y) rfl rfl (by omega) (IntWalk.i64_in _ (by omega))) ?_
 refine oq (qv_as (.int .i64 (x.tdiv y)) rfl) ?_
 refine ops_nil ?_
 refine vc_seq ?_
 refine vc_seq ?_
 refine vc_region ?_
 refine oq (qv_mv (Value.int .i64 x) rfl) ?_
 refine oq (qv_mv (Value.int .i64 y) rfl) ?_
 refine oq (qv_remk (r:=x.tmod y) rfl rfl (by omega) rfl) ?_
 refine oq (qv_neq rfl rfl) ?_
 refine oq (qv_mv (.bool (decide ((x.tmod y) ≠ 0))) rfl) ?_
 by_cases g1:(x.tmod y) ≠ 0
 refine og (qv_mv (Value.int .i64 x) rfl) (want_t g1 rfl rfl rfl) ?_
 refine og (qv_lss rfl rfl) (want_t g1 rfl rfl rfl) ?_
 refine og (qv_mv (Value.int .i64 y) rfl) (want_t g1 rfl rfl rfl) ?_
 refine og (qv_lss rfl rfl) (want_t g1 rfl rfl rfl) ?_
 refine og (qv_niffb Try.underlying4 rfl rfl) (want_t g1 rfl rfl rfl) ?_
 refine oq (qv_pick_t g1 rfl (rfl:ev _ _=(.bool (decide (¬ ((x < 0) ↔ (y < 0))))))) ?_
 refine ops_nil ?_
 refine vc_if rfl (fun c2=>?_) (fun c2=>?_)
 refine vc_region ?_
 refine oq (qv_mv (.int .i64 (x.tdiv y)) rfl) ?_
 refine oq (qv_sub rfl rfl (by omega)) ?_
 refine oq (qv_as (.int .i64 ((x.tdiv y) - 1)) rfl) ?_
 refine ops_nil ?_
 refine vc_seq ?_
 refine vc_region ?_
 refine oq (qv_mv (.int .i64 ((x.tdiv y) - 1)) rfl) ?_
 refine oq (qv_as (.int .i64 ((x.tdiv y) - 1)) rfl) ?_
 refine ops_nil ?_
 refine vc_ret ?_
 exact rq1 (.int .i64 (flr x y)) (congrArg (Value.int .i64) (show ((x.tdiv y) - 1)=(flr x y) from by rw [flr_a (by omega) (by assumption) (by assumption)])) rfl
 refine vc_skip ?_
 refine vc_seq ?_
 refine vc_region ?_
 refine oq (qv_mv (.int .i64 (x.tdiv y)) rfl) ?_
 refine oq (qv_as (.int .i64 (x.tdiv y)) rfl) ?_
 refine ops_nil ?_
 refine vc_ret ?_
 exact rq1 (.int .i64 (flr x y)) (congrArg (Value.int .i64) (show (x.tdiv y)=(flr x y) from by rw [flr_n (by omega) (fun q=>by first | exact absurd q.1 (by assumption) | exact absurd q.2 (by assumption))])) rfl
 refine os (want_tn g1 rfl rfl rfl) ?_
 refine os (want_tn g1 rfl rfl rfl) ?_
 refine os (want_tn g1 rfl rfl rfl) ?_
 refine os (want_tn g1 rfl rfl rfl) ?_
 refine os (want_tn g1 rfl rfl rfl) ?_
 refine oq (qv_pick_f g1 rfl (rfl:ev _ _=(Value.bool false))) ?_
 refine ops_nil ?_
 refine vc_ff rfl ?_
 refine vc_skip ?_
 refine vc_seq ?_
 refine vc_region ?_
 refine oq (qv_mv (.int .i64 (x.tdiv y)) rfl) ?_
 refine oq (qv_as (.int .i64 (x.tdiv y)) rfl) ?_
 refine ops_nil ?_
 refine vc_ret ?_
 exact rq1 (.int .i64 (flr x y)) (congrArg (Value.int .i64) (show (x.tdiv y)=(flr x y) from by rw [flr_n (by omega) (fun q=>by first | exact absurd q.1 (by assumption) | exact absurd q.2 (by assumption))])) rfl
end Go.Proofs.Ytkmhjcjpohpiaaa
