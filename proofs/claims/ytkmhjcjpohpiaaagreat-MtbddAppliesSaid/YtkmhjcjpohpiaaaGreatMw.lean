import Derived.Test.YtkmhjcjpohpiaaaGreatMv
import Derived.Test.YtkmhjcjpohpiaaaGreatWn
/- Walks of mtbdd: what each function returns. Printed by a program out of notes. -/
namespace Go.Proofs.YtkmhjcjpohpiaaaGreat
open Go.Vc
open Classical

set_option maxRecDepth 100000 in
set_option maxHeartbeats 4000000 in
theorem floorR_c {V : HV} {x y : Int} (hx : inR x) (hy : inR y) :
    FnC Tryz.prog 82 [(Value.int .i64 x), (Value.int .i64 y)] V [] (fun v _ _ => v = (.int .i64 (flr x y))) := by
 refine fn_intro (N := 25) Tryz.func82 (by kernel_rfl) rfl rfl rfl (Nat.le_of_ble_eq_true rfl) ?_
 intro w0 D
 have hb := tdiv_in (y := y) hx
 refine vc_seq ?_
 refine vc_region ?_
 refine oq (qv_as (Value.int .i64 0) rfl) ?_
 refine ops_nil ?_
 refine vc_seq ?_
 refine vc_seq ?_
 refine vc_region ?_
 refine oq (qv_mv (Value.int .i64 y) rfl) ?_
 refine oq (qv_eql rfl rfl) ?_
 refine ops_nil ?_
 refine vc_if rfl (fun c1 => ?_) (fun c1 => ?_)
 ·
  refine vc_seq ?_
  refine vc_region ?_
  refine oq (qv_as (Value.int .i64 0) rfl) ?_
  refine ops_nil ?_
  refine vc_ret ?_
  exact rq1 (.int .i64 (flr x y)) (congrArg (Value.int .i64) (show 0 = (flr x y) from by rw [flr_z (by omega)])) rfl
 ·
  refine vc_skip ?_
  refine vc_seq ?_
  refine vc_region ?_
  refine oq (qv_mv (Value.int .i64 x) rfl) ?_
  refine oq (qv_mv (Value.int .i64 y) rfl) ?_
  refine oq (qv_quok (r := x.tdiv y) rfl rfl (by omega) (IntWalk.i64_in _ (by omega))) ?_
  refine oq (qv_as (.int .i64 (x.tdiv y)) rfl) ?_
  refine ops_nil ?_
  refine vc_seq ?_
  refine vc_seq ?_
  refine vc_region ?_
  refine oq (qv_mv (Value.int .i64 x) rfl) ?_
  refine oq (qv_mv (Value.int .i64 y) rfl) ?_
  refine oq (qv_remk (r := x.tmod y) rfl rfl (by omega) rfl) ?_
  refine oq (qv_neq rfl rfl) ?_
  refine oq (qv_mv (.bool (decide ((x.tmod y) ≠ 0))) rfl) ?_
  by_cases g1 : (x.tmod y) ≠ 0
  ·
   refine og (qv_mv (Value.int .i64 x) rfl) (want_t g1 rfl rfl rfl) ?_
   refine og (qv_lss rfl rfl) (want_t g1 rfl rfl rfl) ?_
   refine og (qv_mv (Value.int .i64 y) rfl) (want_t g1 rfl rfl rfl) ?_
   refine og (qv_lss rfl rfl) (want_t g1 rfl rfl rfl) ?_
   refine og (qv_niffb Tryz.underlying4 rfl rfl) (want_t g1 rfl rfl rfl) ?_
   refine oq (qv_pick_t g1 rfl (rfl : ev _ _ = (.bool (decide (¬ ((x < 0) ↔ (y < 0))))))) ?_
   refine ops_nil ?_
   refine vc_if rfl (fun c2 => ?_) (fun c2 => ?_)
   ·
    refine vc_region ?_
    refine oq (qv_mv (.int .i64 (x.tdiv y)) rfl) ?_
    refine oq (qv_sub rfl rfl (by omega)) ?_
    refine oq (qv_as (.int .i64 ((x.tdiv y) - 1)) rfl) ?_
    refine ops_nil ?_
    refine vc_seq ?_
    refine vc_region ?_
    refine oq (qv_mv (.int .i64 ((x.tdiv y) - 1)) rfl) ?_
    refine oq (qv_as (.int .i64 ((x.tdiv y) - 1)) rfl) ?_
    refine ops_nil ?_
    refine vc_ret ?_
    exact rq1 (.int .i64 (flr x y)) (congrArg (Value.int .i64) (show ((x.tdiv y) - 1) = (flr x y) from by rw [flr_a (by omega) (by assumption) (by assumption)])) rfl
   ·
    refine vc_skip ?_
    refine vc_seq ?_
    refine vc_region ?_
    refine oq (qv_mv (.int .i64 (x.tdiv y)) rfl) ?_
    refine oq (qv_as (.int .i64 (x.tdiv y)) rfl) ?_
    refine ops_nil ?_
    refine vc_ret ?_
    exact rq1 (.int .i64 (flr x y)) (congrArg (Value.int .i64) (show (x.tdiv y) = (flr x y) from by rw [flr_n (by omega) (fun q => by first | exact absurd q.1 (by assumption) | exact absurd q.2 (by assumption))])) rfl
  ·
   refine os (want_tn g1 rfl rfl rfl) ?_
   refine os (want_tn g1 rfl rfl rfl) ?_
   refine os (want_tn g1 rfl rfl rfl) ?_
   refine os (want_tn g1 rfl rfl rfl) ?_
   refine os (want_tn g1 rfl rfl rfl) ?_
   refine oq (qv_pick_f g1 rfl (rfl : ev _ _ = (Value.bool false))) ?_
   refine ops_nil ?_
   refine vc_ff rfl ?_
   refine vc_skip ?_
   refine vc_seq ?_
   refine vc_region ?_
   refine oq (qv_mv (.int .i64 (x.tdiv y)) rfl) ?_
   refine oq (qv_as (.int .i64 (x.tdiv y)) rfl) ?_
   refine ops_nil ?_
   refine vc_ret ?_
   exact rq1 (.int .i64 (flr x y)) (congrArg (Value.int .i64) (show (x.tdiv y) = (flr x y) from by rw [flr_n (by omega) (fun q => by first | exact absurd q.1 (by assumption) | exact absurd q.2 (by assumption))])) rfl

set_option maxRecDepth 100000 in
set_option maxHeartbeats 4000000 in
theorem floor_c {V : HV} {x y : Int} (hx : inR x) (hy : inR y) :
    FnC Tryz.prog 75 [(Value.int .i64 x), (Value.int .i64 y)] V [] (fun v _ _ => v = (.int .i64 (flr x y))) := by
 refine fn_intro (N := 25) Tryz.func75 (by kernel_rfl) rfl rfl rfl (Nat.le_of_ble_eq_true rfl) ?_
 intro w0 D
 have hb := tdiv_in (y := y) hx
 refine vc_seq ?_
 refine vc_region ?_
 refine oq (qv_as (Value.int .i64 0) rfl) ?_
 refine ops_nil ?_
 refine vc_seq ?_
 refine vc_seq ?_
 refine vc_region ?_
 refine oq (qv_mv (Value.int .i64 y) rfl) ?_
 refine oq (qv_eql rfl rfl) ?_
 refine ops_nil ?_
 refine vc_if rfl (fun c1 => ?_) (fun c1 => ?_)
 ·
  refine vc_seq ?_
  refine vc_region ?_
  refine oq (qv_as (Value.int .i64 0) rfl) ?_
  refine ops_nil ?_
  refine vc_ret ?_
  exact rq1 (.int .i64 (flr x y)) (congrArg (Value.int .i64) (show 0 = (flr x y) from by rw [flr_z (by omega)])) rfl
 ·
  refine vc_skip ?_
  refine vc_seq ?_
  refine vc_region ?_
  refine oq (qv_mv (Value.int .i64 x) rfl) ?_
  refine oq (qv_mv (Value.int .i64 y) rfl) ?_
  refine oq (qv_quok (r := x.tdiv y) rfl rfl (by omega) (IntWalk.i64_in _ (by omega))) ?_
  refine oq (qv_as (.int .i64 (x.tdiv y)) rfl) ?_
  refine ops_nil ?_
  refine vc_seq ?_
  refine vc_seq ?_
  refine vc_region ?_
  refine oq (qv_mv (Value.int .i64 x) rfl) ?_
  refine oq (qv_mv (Value.int .i64 y) rfl) ?_
  refine oq (qv_remk (r := x.tmod y) rfl rfl (by omega) rfl) ?_
  refine oq (qv_neq rfl rfl) ?_
  refine oq (qv_mv (.bool (decide ((x.tmod y) ≠ 0))) rfl) ?_
  by_cases g1 : (x.tmod y) ≠ 0
  ·
   refine og (qv_mv (Value.int .i64 x) rfl) (want_t g1 rfl rfl rfl) ?_
   refine og (qv_lss rfl rfl) (want_t g1 rfl rfl rfl) ?_
   refine og (qv_mv (Value.int .i64 y) rfl) (want_t g1 rfl rfl rfl) ?_
   refine og (qv_lss rfl rfl) (want_t g1 rfl rfl rfl) ?_
   refine og (qv_niffb Tryz.underlying4 rfl rfl) (want_t g1 rfl rfl rfl) ?_
   refine oq (qv_pick_t g1 rfl (rfl : ev _ _ = (.bool (decide (¬ ((x < 0) ↔ (y < 0))))))) ?_
   refine ops_nil ?_
   refine vc_if rfl (fun c2 => ?_) (fun c2 => ?_)
   ·
    refine vc_region ?_
    refine oq (qv_mv (.int .i64 (x.tdiv y)) rfl) ?_
    refine oq (qv_sub rfl rfl (by omega)) ?_
    refine oq (qv_as (.int .i64 ((x.tdiv y) - 1)) rfl) ?_
    refine ops_nil ?_
    refine vc_seq ?_
    refine vc_region ?_
    refine oq (qv_mv (.int .i64 ((x.tdiv y) - 1)) rfl) ?_
    refine oq (qv_as (.int .i64 ((x.tdiv y) - 1)) rfl) ?_
    refine ops_nil ?_
    refine vc_ret ?_
    exact rq1 (.int .i64 (flr x y)) (congrArg (Value.int .i64) (show ((x.tdiv y) - 1) = (flr x y) from by rw [flr_a (by omega) (by assumption) (by assumption)])) rfl
   ·
    refine vc_skip ?_
    refine vc_seq ?_
    refine vc_region ?_
    refine oq (qv_mv (.int .i64 (x.tdiv y)) rfl) ?_
    refine oq (qv_as (.int .i64 (x.tdiv y)) rfl) ?_
    refine ops_nil ?_
    refine vc_ret ?_
    exact rq1 (.int .i64 (flr x y)) (congrArg (Value.int .i64) (show (x.tdiv y) = (flr x y) from by rw [flr_n (by omega) (fun q => by first | exact absurd q.1 (by assumption) | exact absurd q.2 (by assumption))])) rfl
  ·
   refine os (want_tn g1 rfl rfl rfl) ?_
   refine os (want_tn g1 rfl rfl rfl) ?_
   refine os (want_tn g1 rfl rfl rfl) ?_
   refine os (want_tn g1 rfl rfl rfl) ?_
   refine os (want_tn g1 rfl rfl rfl) ?_
   refine oq (qv_pick_f g1 rfl (rfl : ev _ _ = (Value.bool false))) ?_
   refine ops_nil ?_
   refine vc_ff rfl ?_
   refine vc_skip ?_
   refine vc_seq ?_
   refine vc_region ?_
   refine oq (qv_mv (.int .i64 (x.tdiv y)) rfl) ?_
   refine oq (qv_as (.int .i64 (x.tdiv y)) rfl) ?_
   refine ops_nil ?_
   refine vc_ret ?_
   exact rq1 (.int .i64 (flr x y)) (congrArg (Value.int .i64) (show (x.tdiv y) = (flr x y) from by rw [flr_n (by omega) (fun q => by first | exact absurd q.1 (by assumption) | exact absurd q.2 (by assumption))])) rfl

set_option maxRecDepth 100000 in
set_option maxHeartbeats 4000000 in
theorem apply_c {V : HV} {op x y : Int} (hx : inR x) (hy : inR y) (h0 : 0 ≤ op) (h8 : op ≤ 8) :
    FnC Tryz.prog 35 [(Value.int .i64 op), (Value.int .i64 x), (Value.int .i64 y)] V [] (fun v _ σ' => σ' = [] ∧ ∃ r, v = .tuple #[.int .i64 r, .bool (decide (inR (opV op x y)))] ∧ (inR (opV op x y) → r = opV op x y)) := by
 refine fn_intro (N := 78) Tryz.func35 (by kernel_rfl) rfl rfl rfl (Nat.le_of_ble_eq_true rfl) ?_
 intro w0 D
 have hx1 := hx.1
 have hx2 := hx.2
 have hy1 := hy.1
 have hy2 := hy.2
 have hfm := flr_mul hx hy
 refine vc_seq ?_
 refine vc_region ?_
 refine oq (qv_as (Value.int .i64 0) rfl) ?_
 refine oq (qv_as (Value.bool false) rfl) ?_
 refine ops_nil ?_
 refine vc_seq ?_
 refine vc_region ?_
 refine oq (qv_as (Value.int .i64 0) rfl) ?_
 refine ops_nil ?_
 refine vc_seq ?_
 refine vc_seq ?_
 refine vc_region ?_
 refine oq (qv_mv (Value.int .i64 op) rfl) ?_
 refine ops_nil ?_
 refine vc_block ?_
 refine vc_seq ?_
 refine vc_region ?_
 refine oq (qv_eql rfl rfl) ?_
 refine oq (qv_as (.bool (decide (op = 0))) rfl) ?_
 refine ops_nil ?_
 refine vc_if rfl (fun c1 => ?_) (fun c1 => ?_)
 ·
  refine vc_region ?_
  refine oq (qv_mv (Value.int .i64 x) rfl) ?_
  refine oq (qv_mv (Value.int .i64 y) rfl) ?_
  refine oq (qv_add rfl rfl (by omega)) ?_
  refine oq (qv_as (.int .i64 (x + y)) rfl) ?_
  refine ops_nil ?_
  refine vc_seq ?_
  refine vc_region ?_
  refine oq (qv_mv (.int .i64 (x + y)) rfl) ?_
  refine oq (qv_mv (.int .i64 (x + y)) rfl) ?_
  refine oq (qv_call (v := (.bool (decide (inR (x + y))))) (inRangeR_c) rfl rfl) ?_
  refine oq (qv_as (.int .i64 (x + y)) rfl) ?_
  refine oq (qv_as (.bool (decide (inR (x + y)))) rfl) ?_
  refine ops_nil ?_
  refine vc_ret ?_
  refine rq2 (.int .i64 (x + y)) (.bool (decide (inR (x + y)))) rfl rfl ?_
  have ho : opV op x y = x + y := op0 c1
  rw [ho]
  exact ⟨rfl, _, rfl, fun _ => rfl⟩
 ·
  refine vc_seq ?_
  refine vc_region ?_
  refine oq (qv_eql rfl rfl) ?_
  refine oq (qv_as (.bool (decide (op = 1))) rfl) ?_
  refine ops_nil ?_
  refine vc_if rfl (fun c2 => ?_) (fun c2 => ?_)
  ·
   refine vc_region ?_
   refine oq (qv_mv (Value.int .i64 x) rfl) ?_
   refine oq (qv_mv (Value.int .i64 y) rfl) ?_
   refine oq (qv_sub rfl rfl (by omega)) ?_
   refine oq (qv_as (.int .i64 (x - y)) rfl) ?_
   refine ops_nil ?_
   refine vc_seq ?_
   refine vc_region ?_
   refine oq (qv_mv (.int .i64 (x - y)) rfl) ?_
   refine oq (qv_mv (.int .i64 (x - y)) rfl) ?_
   refine oq (qv_call (v := (.bool (decide (inR (x - y))))) (inRangeR_c) rfl rfl) ?_
   refine oq (qv_as (.int .i64 (x - y)) rfl) ?_
   refine oq (qv_as (.bool (decide (inR (x - y)))) rfl) ?_
   refine ops_nil ?_
   refine vc_ret ?_
   refine rq2 (.int .i64 (x - y)) (.bool (decide (inR (x - y)))) rfl rfl ?_
   have ho : opV op x y = x - y := op1 c2
   rw [ho]
   exact ⟨rfl, _, rfl, fun _ => rfl⟩
  ·
   refine vc_seq ?_
   refine vc_region ?_
   refine oq (qv_eql rfl rfl) ?_
   refine oq (qv_as (.bool (decide (op = 2))) rfl) ?_
   refine ops_nil ?_
   refine vc_if rfl (fun c3 => ?_) (fun c3 => ?_)
   ·
    refine vc_seq ?_
    refine vc_seq ?_
    refine vc_region ?_
    refine oq (qv_mv (Value.int .i64 x) rfl) ?_
    refine oq (qv_neq rfl rfl) ?_
    refine oq (qv_mv (.bool (decide (x ≠ 0))) rfl) ?_
    by_cases g1 : x ≠ 0
    ·
     refine og (qv_mv (Value.int .i64 y) rfl) (want_t g1 rfl rfl rfl) ?_
     refine og (qv_mv (Value.int .i64 y) rfl) (want_t g1 rfl rfl rfl) ?_
     refine og (qv_neg rfl (by omega)) (want_t g1 rfl rfl rfl) ?_
     refine og (qv_max rfl rfl) (want_t g1 rfl rfl rfl) ?_
     refine og (qv_mv (Value.int .i64 x) rfl) (want_t g1 rfl rfl rfl) ?_
     refine og (qv_mv (Value.int .i64 x) rfl) (want_t g1 rfl rfl rfl) ?_
     refine og (qv_neg rfl (by omega)) (want_t g1 rfl rfl rfl) ?_
     refine og (qv_max rfl rfl) (want_t g1 rfl rfl rfl) ?_
     refine og (qv_quo rfl rfl (by omega) (by omega)) (want_t g1 rfl rfl rfl) ?_
     refine og (qv_gtr rfl rfl) (want_t g1 rfl rfl rfl) ?_
     refine oq (qv_pick_t g1 rfl (rfl : ev _ _ = (.bool (decide ((1099511627776 / (if x < (-x) then -x else x)) < (if y < (-y) then -y else y)))))) ?_
     refine ops_nil ?_
     refine vc_if rfl (fun c4 => ?_) (fun c4 => ?_)
     ·
      refine vc_seq ?_
      refine vc_region ?_
      refine oq (qv_as (Value.int .i64 0) rfl) ?_
      refine oq (qv_as (Value.bool false) rfl) ?_
      refine ops_nil ?_
      refine vc_ret ?_
      refine blockQ_ret ?_
      refine rq2 (Value.int .i64 0) (Value.bool false) rfl rfl ?_
      have ho : opV op x y = 1099511627777 := op2a c3 ⟨g1, c4⟩
      rw [ho]
      exact ⟨rfl, 0, by rw [decide_eq_false ov_not], fun q => absurd q ov_not⟩
     ·
      refine vc_skip ?_
      have hmb := mul_bd (x := x) (y := y) (fun q => by first | exact absurd q.1 (by assumption) | exact absurd q.2 (by assumption))
      refine vc_region ?_
      refine oq (qv_mv (Value.int .i64 x) rfl) ?_
      refine oq (qv_mv (Value.int .i64 y) rfl) ?_
      refine oq (qv_mul rfl rfl (by omega)) ?_
      refine oq (qv_as (.int .i64 (x * y)) rfl) ?_
      refine ops_nil ?_
      refine vc_seq ?_
      refine vc_region ?_
      refine oq (qv_mv (.int .i64 (x * y)) rfl) ?_
      refine oq (qv_mv (.int .i64 (x * y)) rfl) ?_
      refine oq (qv_call (v := (.bool (decide (inR (x * y))))) (inRangeR_c) rfl rfl) ?_
      refine oq (qv_as (.int .i64 (x * y)) rfl) ?_
      refine oq (qv_as (.bool (decide (inR (x * y)))) rfl) ?_
      refine ops_nil ?_
      refine vc_ret ?_
      refine rq2 (.int .i64 (x * y)) (.bool (decide (inR (x * y)))) rfl rfl ?_
      have ho : opV op x y = x * y := op2b c3 (fun q => by first | exact absurd q.1 (by assumption) | exact absurd q.2 (by assumption))
      rw [ho]
      exact ⟨rfl, _, rfl, fun _ => rfl⟩
    ·
     refine os (want_tn g1 rfl rfl rfl) ?_
     refine os (want_tn g1 rfl rfl rfl) ?_
     refine os (want_tn g1 rfl rfl rfl) ?_
     refine os (want_tn g1 rfl rfl rfl) ?_
     refine os (want_tn g1 rfl rfl rfl) ?_
     refine os (want_tn g1 rfl rfl rfl) ?_
     refine os (want_tn g1 rfl rfl rfl) ?_
     refine os (want_tn g1 rfl rfl rfl) ?_
     refine os (want_tn g1 rfl rfl rfl) ?_
     refine os (want_tn g1 rfl rfl rfl) ?_
     refine oq (qv_pick_f g1 rfl (rfl : ev _ _ = (Value.bool false))) ?_
     refine ops_nil ?_
     refine vc_ff rfl ?_
     refine vc_skip ?_
     have hmb := mul_bd (x := x) (y := y) (fun q => by first | exact absurd q.1 (by assumption) | exact absurd q.2 (by assumption))
     refine vc_region ?_
     refine oq (qv_mv (Value.int .i64 x) rfl) ?_
     refine oq (qv_mv (Value.int .i64 y) rfl) ?_
     refine oq (qv_mul rfl rfl (by omega)) ?_
     refine oq (qv_as (.int .i64 (x * y)) rfl) ?_
     refine ops_nil ?_
     refine vc_seq ?_
     refine vc_region ?_
     refine oq (qv_mv (.int .i64 (x * y)) rfl) ?_
     refine oq (qv_mv (.int .i64 (x * y)) rfl) ?_
     refine oq (qv_call (v := (.bool (decide (inR (x * y))))) (inRangeR_c) rfl rfl) ?_
     refine oq (qv_as (.int .i64 (x * y)) rfl) ?_
     refine oq (qv_as (.bool (decide (inR (x * y)))) rfl) ?_
     refine ops_nil ?_
     refine vc_ret ?_
     refine rq2 (.int .i64 (x * y)) (.bool (decide (inR (x * y)))) rfl rfl ?_
     have ho : opV op x y = x * y := op2b c3 (fun q => by first | exact absurd q.1 (by assumption) | exact absurd q.2 (by assumption))
     rw [ho]
     exact ⟨rfl, _, rfl, fun _ => rfl⟩
   ·
    refine vc_seq ?_
    refine vc_region ?_
    refine oq (qv_eql rfl rfl) ?_
    refine oq (qv_as (.bool (decide (op = 3))) rfl) ?_
    refine ops_nil ?_
    refine vc_if rfl (fun c5 => ?_) (fun c5 => ?_)
    ·
     refine vc_region ?_
     refine oq (qv_mv (Value.int .i64 x) rfl) ?_
     refine oq (qv_mv (Value.int .i64 y) rfl) ?_
     refine oq (qv_call (v := (.int .i64 (flr x y))) (floorR_c hx hy) rfl rfl) ?_
     refine oq (qv_as (.int .i64 (flr x y)) rfl) ?_
     refine ops_nil ?_
     refine vc_seq ?_
     refine vc_region ?_
     refine oq (qv_mv (.int .i64 (flr x y)) rfl) ?_
     refine oq (qv_mv (.int .i64 (flr x y)) rfl) ?_
     refine oq (qv_call (v := (.bool (decide (inR (flr x y))))) (inRangeR_c) rfl rfl) ?_
     refine oq (qv_as (.int .i64 (flr x y)) rfl) ?_
     refine oq (qv_as (.bool (decide (inR (flr x y)))) rfl) ?_
     refine ops_nil ?_
     refine vc_ret ?_
     refine rq2 (.int .i64 (flr x y)) (.bool (decide (inR (flr x y)))) rfl rfl ?_
     have ho : opV op x y = flr x y := op3 c5
     rw [ho]
     exact ⟨rfl, _, rfl, fun _ => rfl⟩
    ·
     refine vc_seq ?_
     refine vc_region ?_
     refine oq (qv_eql rfl rfl) ?_
     refine oq (qv_as (.bool (decide (op = 4))) rfl) ?_
     refine ops_nil ?_
     refine vc_if rfl (fun c6 => ?_) (fun c6 => ?_)
     ·
      refine vc_seq ?_
      refine vc_region ?_
      refine oq (qv_mv (Value.int .i64 y) rfl) ?_
      refine oq (qv_neq rfl rfl) ?_
      refine ops_nil ?_
      refine vc_if rfl (fun c7 => ?_) (fun c7 => ?_)
      ·
       refine vc_region ?_
       refine oq (qv_mv (Value.int .i64 x) rfl) ?_
       refine oq (qv_mv (Value.int .i64 y) rfl) ?_
       refine oq (qv_mv (Value.int .i64 x) rfl) ?_
       refine oq (qv_mv (Value.int .i64 y) rfl) ?_
       refine oq (qv_call (v := (.int .i64 (flr x y))) (floorR_c hx hy) rfl rfl) ?_
       refine oq (qv_mul rfl rfl (by omega)) ?_
       refine oq (qv_sub rfl rfl (by omega)) ?_
       refine oq (qv_as (.int .i64 (x - (y * (flr x y)))) rfl) ?_
       refine ops_nil ?_
       refine vc_seq ?_
       refine vc_region ?_
       refine oq (qv_mv (.int .i64 (x - (y * (flr x y)))) rfl) ?_
       refine oq (qv_mv (.int .i64 (x - (y * (flr x y)))) rfl) ?_
       refine oq (qv_call (v := (.bool (decide (inR (x - (y * (flr x y))))))) (inRangeR_c) rfl rfl) ?_
       refine oq (qv_as (.int .i64 (x - (y * (flr x y)))) rfl) ?_
       refine oq (qv_as (.bool (decide (inR (x - (y * (flr x y)))))) rfl) ?_
       refine ops_nil ?_
       refine vc_ret ?_
       refine rq2 (.int .i64 (x - (y * (flr x y)))) (.bool (decide (inR (x - (y * (flr x y)))))) rfl rfl ?_
       have ho : opV op x y = x - (y * (flr x y)) := op4b c6 (by omega)
       rw [ho]
       exact ⟨rfl, _, rfl, fun _ => rfl⟩
      ·
       refine vc_skip ?_
       refine vc_seq ?_
       refine vc_region ?_
       refine oq (qv_mv (Value.int .i64 0) rfl) ?_
       refine oq (qv_mv (Value.int .i64 0) rfl) ?_
       refine oq (qv_call (v := (.bool (decide (inR (0))))) (inRangeR_c) rfl rfl) ?_
       refine oq (qv_as (Value.int .i64 0) rfl) ?_
       refine oq (qv_as (.bool (decide (inR (0)))) rfl) ?_
       refine ops_nil ?_
       refine vc_ret ?_
       refine rq2 (Value.int .i64 0) (.bool (decide (inR (0)))) rfl rfl ?_
       have ho : opV op x y = 0 := op4a c6 (by omega)
       rw [ho]
       exact ⟨rfl, _, rfl, fun _ => rfl⟩
     ·
      refine vc_seq ?_
      refine vc_region ?_
      refine oq (qv_eql rfl rfl) ?_
      refine oq (qv_as (.bool (decide (op = 5))) rfl) ?_
      refine ops_nil ?_
      refine vc_if rfl (fun c8 => ?_) (fun c8 => ?_)
      ·
       refine vc_region ?_
       refine oq (qv_mv (Value.int .i64 x) rfl) ?_
       refine oq (qv_mv (Value.int .i64 y) rfl) ?_
       refine oq (qv_min rfl rfl) ?_
       refine oq (qv_as (.int .i64 (if y < x then y else x)) rfl) ?_
       refine ops_nil ?_
       refine vc_seq ?_
       refine vc_region ?_
       refine oq (qv_mv (.int .i64 (if y < x then y else x)) rfl) ?_
       refine oq (qv_mv (.int .i64 (if y < x then y else x)) rfl) ?_
       refine oq (qv_call (v := (.bool (decide (inR (if y < x then y else x))))) (inRangeR_c) rfl rfl) ?_
       refine oq (qv_as (.int .i64 (if y < x then y else x)) rfl) ?_
       refine oq (qv_as (.bool (decide (inR (if y < x then y else x)))) rfl) ?_
       refine ops_nil ?_
       refine vc_ret ?_
       refine rq2 (.int .i64 (if y < x then y else x)) (.bool (decide (inR (if y < x then y else x)))) rfl rfl ?_
       have ho : opV op x y = if y < x then y else x := op5 c8
       rw [ho]
       exact ⟨rfl, _, rfl, fun _ => rfl⟩
      ·
       refine vc_seq ?_
       refine vc_region ?_
       refine oq (qv_eql rfl rfl) ?_
       refine oq (qv_as (.bool (decide (op = 6))) rfl) ?_
       refine ops_nil ?_
       refine vc_if rfl (fun c9 => ?_) (fun c9 => ?_)
       ·
        refine vc_region ?_
        refine oq (qv_mv (Value.int .i64 x) rfl) ?_
        refine oq (qv_mv (Value.int .i64 y) rfl) ?_
        refine oq (qv_max rfl rfl) ?_
        refine oq (qv_as (.int .i64 (if x < y then y else x)) rfl) ?_
        refine ops_nil ?_
        refine vc_seq ?_
        refine vc_region ?_
        refine oq (qv_mv (.int .i64 (if x < y then y else x)) rfl) ?_
        refine oq (qv_mv (.int .i64 (if x < y then y else x)) rfl) ?_
        refine oq (qv_call (v := (.bool (decide (inR (if x < y then y else x))))) (inRangeR_c) rfl rfl) ?_
        refine oq (qv_as (.int .i64 (if x < y then y else x)) rfl) ?_
        refine oq (qv_as (.bool (decide (inR (if x < y then y else x)))) rfl) ?_
        refine ops_nil ?_
        refine vc_ret ?_
        refine rq2 (.int .i64 (if x < y then y else x)) (.bool (decide (inR (if x < y then y else x)))) rfl rfl ?_
        have ho : opV op x y = if x < y then y else x := op6 c9
        rw [ho]
        exact ⟨rfl, _, rfl, fun _ => rfl⟩
       ·
        refine vc_seq ?_
        refine vc_region ?_
        refine oq (qv_eql rfl rfl) ?_
        refine oq (qv_as (.bool (decide (op = 7))) rfl) ?_
        refine ops_nil ?_
        refine vc_if rfl (fun c10 => ?_) (fun c10 => ?_)
        ·
         refine vc_seq ?_
         refine vc_region ?_
         refine oq (qv_mv (Value.int .i64 x) rfl) ?_
         refine oq (qv_mv (Value.int .i64 y) rfl) ?_
         refine oq (qv_lss rfl rfl) ?_
         refine ops_nil ?_
         refine vc_if rfl (fun c11 => ?_) (fun c11 => ?_)
         ·
          refine vc_region ?_
          refine oq (qv_as (Value.int .i64 1) rfl) ?_
          refine ops_nil ?_
          refine vc_seq ?_
          refine vc_region ?_
          refine oq (qv_mv (Value.int .i64 1) rfl) ?_
          refine oq (qv_mv (Value.int .i64 1) rfl) ?_
          refine oq (qv_call (v := (.bool (decide (inR (1))))) (inRangeR_c) rfl rfl) ?_
          refine oq (qv_as (Value.int .i64 1) rfl) ?_
          refine oq (qv_as (.bool (decide (inR (1)))) rfl) ?_
          refine ops_nil ?_
          refine vc_ret ?_
          refine rq2 (Value.int .i64 1) (.bool (decide (inR (1)))) rfl rfl ?_
          have ho : opV op x y = 1 := op7a c10 (by omega)
          rw [ho]
          exact ⟨rfl, _, rfl, fun _ => rfl⟩
         ·
          refine vc_skip ?_
          refine vc_seq ?_
          refine vc_region ?_
          refine oq (qv_mv (Value.int .i64 0) rfl) ?_
          refine oq (qv_mv (Value.int .i64 0) rfl) ?_
          refine oq (qv_call (v := (.bool (decide (inR (0))))) (inRangeR_c) rfl rfl) ?_
          refine oq (qv_as (Value.int .i64 0) rfl) ?_
          refine oq (qv_as (.bool (decide (inR (0)))) rfl) ?_
          refine ops_nil ?_
          refine vc_ret ?_
          refine rq2 (Value.int .i64 0) (.bool (decide (inR (0)))) rfl rfl ?_
          have ho : opV op x y = 0 := op7b c10 (by omega)
          rw [ho]
          exact ⟨rfl, _, rfl, fun _ => rfl⟩
        ·
         refine vc_seq ?_
         refine vc_region ?_
         refine oq (qv_eql rfl rfl) ?_
         refine oq (qv_as (.bool (decide (op = 8))) rfl) ?_
         refine ops_nil ?_
         refine vc_if rfl (fun c12 => ?_) (fun c12 => ?_)
         ·
          refine vc_seq ?_
          refine vc_region ?_
          refine oq (qv_mv (Value.int .i64 x) rfl) ?_
          refine oq (qv_mv (Value.int .i64 y) rfl) ?_
          refine oq (qv_eql rfl rfl) ?_
          refine ops_nil ?_
          refine vc_if rfl (fun c13 => ?_) (fun c13 => ?_)
          ·
           refine vc_region ?_
           refine oq (qv_as (Value.int .i64 1) rfl) ?_
           refine ops_nil ?_
           refine vc_seq ?_
           refine vc_region ?_
           refine oq (qv_mv (Value.int .i64 1) rfl) ?_
           refine oq (qv_mv (Value.int .i64 1) rfl) ?_
           refine oq (qv_call (v := (.bool (decide (inR (1))))) (inRangeR_c) rfl rfl) ?_
           refine oq (qv_as (Value.int .i64 1) rfl) ?_
           refine oq (qv_as (.bool (decide (inR (1)))) rfl) ?_
           refine ops_nil ?_
           refine vc_ret ?_
           refine rq2 (Value.int .i64 1) (.bool (decide (inR (1)))) rfl rfl ?_
           have ho : opV op x y = 1 := op8a c12 (by omega)
           rw [ho]
           exact ⟨rfl, _, rfl, fun _ => rfl⟩
          ·
           refine vc_skip ?_
           refine vc_seq ?_
           refine vc_region ?_
           refine oq (qv_mv (Value.int .i64 0) rfl) ?_
           refine oq (qv_mv (Value.int .i64 0) rfl) ?_
           refine oq (qv_call (v := (.bool (decide (inR (0))))) (inRangeR_c) rfl rfl) ?_
           refine oq (qv_as (Value.int .i64 0) rfl) ?_
           refine oq (qv_as (.bool (decide (inR (0)))) rfl) ?_
           refine ops_nil ?_
           refine vc_ret ?_
           refine rq2 (Value.int .i64 0) (.bool (decide (inR (0)))) rfl rfl ?_
           have ho : opV op x y = 0 := op8b c12 (by omega)
           rw [ho]
           exact ⟨rfl, _, rfl, fun _ => rfl⟩
         ·
          refine vc_skip ?_
          refine vc_seq ?_
          refine vc_region ?_
          refine oq (qv_mv (Value.int .i64 0) rfl) ?_
          refine oq (qv_mv (Value.int .i64 0) rfl) ?_
          refine oq (qv_call (v := (.bool (decide (inR (0))))) (inRangeR_c) rfl rfl) ?_
          refine oq (qv_as (Value.int .i64 0) rfl) ?_
          refine oq (qv_as (.bool (decide (inR (0)))) rfl) ?_
          refine ops_nil ?_
          refine vc_ret ?_
          refine rq2 (Value.int .i64 0) (.bool (decide (inR (0)))) rfl rfl ?_
          exact absurd h8 (by omega)

set_option maxRecDepth 100000 in
set_option maxHeartbeats 4000000 in
theorem combined_c {V : HV} {vars op : Int} {g1 g2 : (Int → Bool) → Int} {sv tv : Value} (hs : Ints .i64 V sv (tabv vars g1)) (ht : Ints .i64 V tv (tabv vars g2)) (h00 : 0 ≤ vars) (h12 : vars ≤ 12) (h0 : 0 ≤ op) (h8 : op ≤ 8) (hr1 : ∀ e, inR (g1 e)) (hr2 : ∀ e, inR (g2 e)) :
    FnC Tryz.prog 11 [(Value.int .i64 vars), (Value.int .i64 op), sv, tv] V [] (fun v V' σ' => σ' = [] ∧ MRs V' v (mkD vars (tabv vars (fun e => opV op (g1 e) (g2 e)))) (mkE vars (tabv vars (fun e => opV op (g1 e) (g2 e))))) := by
 refine fn_intro (N := 43) Tryz.func11 (by kernel_rfl) rfl rfl rfl (Nat.le_of_ble_eq_true rfl) ?_
 intro w0 D
 have l1 := tabv_lenI (g := g1) h00
 have l2 := tabv_lenI (g := g2) h00
 have hpw := pow2_12 (n := vars.toNat) (by omega)
 refine vc_seq ?_
 refine vc_region ?_
 refine ops_alloc Tryz.ti25 rfl (fun b1 => ?_)
 refine oq (qv_as (Value.int .i64 0) rfl) ?_
 refine ops_nil ?_
 refine vc_seq ?_
 refine vc_res (σ' := [(Arr 25 b1 [(Value.int .i64 0), (Value.slice none 0 0), (Value.slice none 0 0), (Value.int .i64 0)])]) rfl ?_
 refine vc_nil 3 1 ?_
 refine vc_region ?_
 refine oq (qv_as (Value.slice none 0 0) rfl) ?_
 refine ops_nil ?_
 refine vc_seq ?_
 refine vc_seq ?_
 refine vc_res (σ' := [(Arr 25 b1 [(Value.int .i64 0), (Value.slice none 0 0), (Value.slice none 0 0), (Value.int .i64 0)]), (Gr 3 1 ((Value.slice none 0 0)) 0 ([]))]) rfl ?_
 refine vc_region ?_
 refine oq (qv_mv sv rfl) ?_
 refine oq (qv_lenI Tryz.underlying22 rfl hs) ?_
 refine oq (qv_mv (Value.int .i64 0) rfl) ?_
 refine ops_nil ?_
 refine vc_block ?_
 refine vc_loop (α := Int × Value) (fun (xx : Int × Value) => [(0, (Value.int .i64 vars)), (1, (Value.int .i64 op)), (2, sv), (3, tv), (8, (Value.pointer (some ⟨b1, 0, none⟩))), (15, (.int .i64 ((((tabv vars g1)).length : Int)))), (10, xx.2), (16, (Value.int .i64 xx.1))]) (fun (xx : Int × Value) V' σ' => [(Arr 25 b1 [(Value.int .i64 0), (Value.slice none 0 0), (Value.slice none 0 0), (Value.int .i64 0)]), (Gr 3 1 xx.2 ((tkN vars (fun e => opV op (g1 e) (g2 e)) xx.1.toNat).length) (((tkN vars (fun e => opV op (g1 e) (g2 e)) xx.1.toNat).map (Value.int .i64))))] = σ' ∧ Ints .i64 V' sv (tabv vars g1) ∧ Ints .i64 V' tv (tabv vars g2) ∧ 0 ≤ xx.1 ∧ xx.1 ≤ (2 : Int) ^ vars.toNat ∧ ∀ x : Int, 0 ≤ x → x < xx.1 → inR ((fun e => opV op (g1 e) (g2 e)) (asg vars x))) (fun (xx : Int × Value) => ((2 : Int) ^ vars.toNat - xx.1).toNat) (0, (Value.slice none 0 0)) ?_ ?_ ?_
 · exact ⟨rfl, rfl, rfl, rfl, rfl, rfl, (by first | rfl | (first | omega | simp)), rfl, trivial⟩
 · exact ⟨(show [(Arr 25 b1 [(Value.int .i64 0), (Value.slice none 0 0), (Value.slice none 0 0), (Value.int .i64 0)]), (Gr 3 1 ((Value.slice none 0 0)) ((tkN vars (fun e => opV op (g1 e) (g2 e)) (0 : Int).toNat).length) (((tkN vars (fun e => opV op (g1 e) (g2 e)) (0 : Int).toNat).map (Value.int .i64))))] = [(Arr 25 b1 [(Value.int .i64 0), (Value.slice none 0 0), (Value.slice none 0 0), (Value.int .i64 0)]), (Gr 3 1 ((Value.slice none 0 0)) 0 ([]))] from by rfl), hs, ht, by omega, by omega, fun x a b => by omega⟩
 rintro ⟨k, ov⟩ e1 V0l σ0l hI0
 obtain ⟨rfl, hs, ht, i1, i2, hin⟩ : [(Arr 25 b1 [(Value.int .i64 0), (Value.slice none 0 0), (Value.slice none 0 0), (Value.int .i64 0)]), (Gr 3 1 ov ((tkN vars (fun e => opV op (g1 e) (g2 e)) k.toNat).length) (((tkN vars (fun e => opV op (g1 e) (g2 e)) k.toNat).map (Value.int .i64))))] = σ0l ∧ Ints .i64 V0l sv (tabv vars g1) ∧ Ints .i64 V0l tv (tabv vars g2) ∧ 0 ≤ k ∧ k ≤ (2 : Int) ^ vars.toNat ∧ ∀ x : Int, 0 ≤ x → x < k → inR ((fun e => opV op (g1 e) (g2 e)) (asg vars x)) := hI0
 change VC _ _ _ _ _ _ (upds 43 [(0, (Value.int .i64 vars)), (1, (Value.int .i64 op)), (2, sv), (3, tv), (8, (Value.pointer (some ⟨b1, 0, none⟩))), (15, (.int .i64 ((((tabv vars g1)).length : Int)))), (10, ov), (16, (Value.int .i64 k))] e1) _ _
 refine vc_seq ?_
 refine vc_res (σ' := [(Arr 25 b1 [(Value.int .i64 0), (Value.slice none 0 0), (Value.slice none 0 0), (Value.int .i64 0)]), (Gr 3 1 ov ((tkN vars (fun e => opV op (g1 e) (g2 e)) k.toNat).length) (((tkN vars (fun e => opV op (g1 e) (g2 e)) k.toNat).map (Value.int .i64))))]) rfl ?_
 refine vc_region ?_
 refine oq (qv_lss rfl rfl) ?_
 refine ops_nil ?_
 refine vc_seq ?_
 refine vc_if rfl (fun c1 => ?_) (fun c1 => ?_)
 ·
  refine vc_skip ?_
  refine vc_seq ?_
  refine vc_block ?_
  refine vc_seq ?_
  refine vc_region ?_
  refine oq (qv_mv (Value.int .i64 k) rfl) ?_
  refine oq (qv_as (Value.int .i64 k) rfl) ?_
  refine ops_nil ?_
  refine vc_seq ?_
  have e1 := tabv_gi (g := g1) h00 (k := k) (by omega) (by omega)
  have e2 := tabv_gi (g := g2) h00 (k := k) (by omega) (by omega)
  refine vc_region_order (τ := []) [(0, false), (1, false), (2, false), (3, false), (4, false), (5, false), (6, false), (7, false), (8, false), (9, true), (10, false), (11, false), (12, false), (13, false), (14, false)] [(Arr 25 b1 [(Value.int .i64 0), (Value.slice none 0 0), (Value.slice none 0 0), (Value.int .i64 0)]), (Gr 3 1 ov ((tkN vars (fun e => opV op (g1 e) (g2 e)) k.toNat).length) (((tkN vars (fun e => opV op (g1 e) (g2 e)) k.toNat).map (Value.int .i64))))] Tryz.mixed (perm_nil _) (by kernel_rfl) ?_
  refine rq rfl (qv_mv (Value.int .i64 op) rfl) ?_
  refine rq rfl (qv_mv sv rfl) ?_
  refine rq rfl (qv_mv (Value.int .i64 k) rfl) ?_
  refine rq rfl (qv_iai (v := sv) (i := k) Tryz.underlying22 Tryz.size3 rfl (inVi hs) rfl (by omega) (by omega)) ?_
  refine rq rfl (qv_ldi (v := sv) (i := k) Tryz.plain3 rfl (inVi hs) (by omega) (by omega)) ?_
  refine rq rfl (qv_mv tv rfl) ?_
  refine rq rfl (qv_mv (Value.int .i64 k) rfl) ?_
  refine rq rfl (qv_iai (v := tv) (i := k) Tryz.underlying22 Tryz.size3 rfl (inVi ht) rfl (by omega) (by omega)) ?_
  refine rq rfl (qv_ldi (v := tv) (i := k) Tryz.plain3 rfl (inVi ht) (by omega) (by omega)) ?_
  refine rl rfl ?_
  refine ops_call (σa := []) (σr := [(Arr 25 b1 [(Value.int .i64 0), (Value.slice none 0 0), (Value.slice none 0 0), (Value.int .i64 0)]), (Gr 3 1 ov ((tkN vars (fun e => opV op (g1 e) (g2 e)) k.toNat).length) (((tkN vars (fun e => opV op (g1 e) (g2 e)) k.toNat).map (Value.int .i64))))]) (apply_c (op := op) (x := gi (tabv vars g1) (k)) (y := gi (tabv vars g2) (k)) (by rw [e1]; exact hr1 _) (by rw [e2]; exact hr2 _) h0 h8) rfl rfl (.refl _) (fun r1 V1 sg1 hV1 hp1 => ?_)
  obtain ⟨rfl, r1, rfl, hr⟩ := hp1
  have hs := hs.mono hV1
  have ht := ht.mono hV1
  refine ops_nil ⟨[(Arr 25 b1 [(Value.int .i64 0), (Value.slice none 0 0), (Value.slice none 0 0), (Value.int .i64 0)]), (Gr 3 1 ov ((tkN vars (fun e => opV op (g1 e) (g2 e)) k.toNat).length) (((tkN vars (fun e => opV op (g1 e) (g2 e)) k.toNat).map (Value.int .i64))))], [], hV1, perm_nil _, ⟨[], (.refl _)⟩, ?_⟩
  refine rq rfl (qv_mv (.tuple #[(Value.int .i64 r1), (.bool (decide (inR (opV op (gi (tabv vars g1) (k)) (gi (tabv vars g2) (k))))))]) rfl) ?_
  refine rq rfl (qv_ext (Value.int .i64 r1) rfl rfl) ?_
  refine rq rfl (qv_ext (.bool (decide (inR (opV op (gi (tabv vars g1) (k)) (gi (tabv vars g2) (k)))))) rfl rfl) ?_
  refine rq rfl (qv_as (Value.int .i64 r1) rfl) ?_
  refine rq rfl (qv_as (.bool (decide (inR (opV op (gi (tabv vars g1) (k)) (gi (tabv vars g2) (k)))))) rfl) ?_
  refine rnil ?_
  refine vc_seq ?_
  refine vc_seq ?_
  refine vc_region ?_
  refine oq (qv_mv (.bool (decide (inR (opV op (gi (tabv vars g1) (k)) (gi (tabv vars g2) (k)))))) rfl) ?_
  refine oq (qv_not rfl) ?_
  refine ops_nil ?_
  refine vc_if rfl (fun c2 => ?_) (fun c2 => ?_)
  ·
   refine vc_seq ?_
   have hbad : ∃ z ∈ tabv vars (fun e => opV op (g1 e) (g2 e)), ¬ inR z := ⟨_, tabv_in (g := (fun e => opV op (g1 e) (g2 e))) h00 (by omega) (show k < _ by omega), by show ¬ inR (opV op (g1 (asg vars k)) (g2 (asg vars k))); rw [← e1, ← e2]; assumption⟩
   have hm3 := mkE_3 (vars := vars) hbad
   refine vc_region ?_
   refine oq (qv_build (out := [(Value.int .i64 0), (Value.slice none 0 0), (Value.slice none 0 0), (Value.int .i64 0)]) Tryz.build25 [] rfl rfl) ?_
   refine ops_stw (k := 0) (vs := [(Value.int .i64 0), (Value.slice none 0 0), (Value.slice none 0 0), (Value.int .i64 0)]) Tryz.size25 rfl rfl rfl rfl rfl rfl ?_
   refine oq (qv_as (Value.int .i64 3) rfl) ?_
   refine ops_nil ?_
   refine vc_freeze (b := b1) (o := .cells ([(Value.int .i64 0), (Value.slice none 0 0), (Value.slice none 0 0), (Value.int .i64 0)] : List Value).toArray 25 (0, 0)) (σr := [(Gr 3 1 ov ((tkN vars (fun e => opV op (g1 e) (g2 e)) k.toNat).length) (((tkN vars (fun e => opV op (g1 e) (g2 e)) k.toNat).map (Value.int .i64))))]) (List.perm_middle (l₁ := []) (l₂ := [(Gr 3 1 ov ((tkN vars (fun e => opV op (g1 e) (g2 e)) k.toNat).length) (((tkN vars (fun e => opV op (g1 e) (g2 e)) k.toNat).map (Value.int .i64))))])) (fun Vf1 hVf1 hb1 => ?_)
   have hc1 : Cells Vf1 b1 [(Value.int .i64 0), (Value.slice none 0 0), (Value.slice none 0 0), (Value.int .i64 0)] := ⟨_, _, hb1⟩
   have hs := hs.mono hVf1
   have ht := ht.mono hVf1
   refine vc_drop [] [(Gr 3 1 ov ((tkN vars (fun e => opV op (g1 e) (g2 e)) k.toNat).length) (((tkN vars (fun e => opV op (g1 e) (g2 e)) k.toNat).map (Value.int .i64))))] (.refl _) ?_
   refine vc_ret ?_
   refine blockQ_ret ?_
   refine blockQ_ret ?_
   refine rs2 _ (Value.int .i64 3) (rv_c (vs := [(Value.int .i64 0), (Value.slice none 0 0), (Value.slice none 0 0), (Value.int .i64 0)]) Tryz.agg25 rfl (inVc hc1) rfl rfl) (rv_t rfl) ?_
   rw [hm3, mkD_n (by omega)]
   exact ⟨rfl, MRs.zero⟩
  ·
   refine vc_skip ?_
   have hok1 : inR (opV op (gi (tabv vars g1) (k)) (gi (tabv vars g2) (k))) := Classical.not_not.1 c2
   have hrg : r1 = opV op (g1 (asg vars k)) (g2 (asg vars k)) := by rw [hr hok1, e1, e2]
   have hgi : inR ((fun e => opV op (g1 e) (g2 e)) (asg vars k)) := by show inR (opV op (g1 (asg vars k)) (g2 (asg vars k))); rw [← hrg, hr hok1]; exact hok1
   have htk := tkN_len (g := (fun e => opV op (g1 e) (g2 e))) (vars := vars) (k := k) (by omega) (by omega)
   refine vc_region ?_
   refine oq (qv_mv ov rfl) ?_
   refine oq (qv_mv (Value.int .i64 r1) rfl) ?_
   refine ops_lit (n := 1) (s := 1) (cs := [(Value.int .i64 r1)]) Tryz.underlying22 Tryz.ti3 (Nat.le_of_ble_eq_true rfl) rfl rfl rfl (Nat.le_of_ble_eq_true rfl) rfl (fun b2 => ?_)
   refine ops_append (k := 1) (n := (tkN vars (fun e => opV op (g1 e) (g2 e)) k.toNat).length) (s := 1) (m := 1) (v := ov) (xs := ((tkN vars (fun e => opV op (g1 e) (g2 e)) k.toNat).map (Value.int .i64))) (news := [(Value.int .i64 r1)]) Tryz.underlying22 Tryz.ti3 rfl (Nat.le_of_ble_eq_true rfl) rfl rfl rfl rfl (news_own (j := 2) rfl) (by simp [Value.oneCell']) (by omega) (by simp only [maxLen]; omega) (fun v1 hn1 => ?_)
   refine oq (qv_as v1 rfl) ?_
   refine ops_nil ?_
   refine vc_res (σ' := [(Arr 25 b1 [(Value.int .i64 0), (Value.slice none 0 0), (Value.slice none 0 0), (Value.int .i64 0)]), (Gr 3 1 v1 (((tkN vars (fun e => opV op (g1 e) (g2 e)) k.toNat).length + 1)) ((((tkN vars (fun e => opV op (g1 e) (g2 e)) k.toNat).map (Value.int .i64)) ++ [(Value.int .i64 r1)]))), (Arr 3 b2 [(Value.int .i64 r1)])]) rfl ?_
   refine vc_drop [(Arr 25 b1 [(Value.int .i64 0), (Value.slice none 0 0), (Value.slice none 0 0), (Value.int .i64 0)]), (Gr 3 1 v1 (((tkN vars (fun e => opV op (g1 e) (g2 e)) k.toNat).length + 1)) ((((tkN vars (fun e => opV op (g1 e) (g2 e)) k.toNat).map (Value.int .i64)) ++ [(Value.int .i64 r1)])))] [(Arr 3 b2 [(Value.int .i64 r1)])] ((List.perm_middle (l₁ := [(Arr 25 b1 [(Value.int .i64 0), (Value.slice none 0 0), (Value.slice none 0 0), (Value.int .i64 0)]), (Gr 3 1 v1 (((tkN vars (fun e => opV op (g1 e) (g2 e)) k.toNat).length + 1)) ((((tkN vars (fun e => opV op (g1 e) (g2 e)) k.toNat).map (Value.int .i64)) ++ [(Value.int .i64 r1)])))]) (l₂ := [])).trans (List.perm_append_comm (l₁ := [(Arr 3 b2 [(Value.int .i64 r1)])]))) ?_
   refine vc_region ?_
   refine oq (qv_add rfl rfl (by omega)) ?_
   refine oq (qv_mv (.int .i64 (k + 1)) rfl) ?_
   refine ops_nil ?_
   refine ⟨(k + 1, v1), ⟨rfl, rfl, rfl, rfl, rfl, rfl, rfl, (congrArg (Value.int .i64) (show (k + 1) = ((k + 1)) from by omega)), trivial⟩, ⟨(show [(Arr 25 b1 [(Value.int .i64 0), (Value.slice none 0 0), (Value.slice none 0 0), (Value.int .i64 0)]), (Gr 3 1 v1 ((tkN vars (fun e => opV op (g1 e) (g2 e)) (k + 1 : Int).toNat).length) (((tkN vars (fun e => opV op (g1 e) (g2 e)) (k + 1 : Int).toNat).map (Value.int .i64))))] = [(Arr 25 b1 [(Value.int .i64 0), (Value.slice none 0 0), (Value.slice none 0 0), (Value.int .i64 0)]), (Gr 3 1 v1 (((tkN vars (fun e => opV op (g1 e) (g2 e)) k.toNat).length + 1)) ((((tkN vars (fun e => opV op (g1 e) (g2 e)) k.toNat).map (Value.int .i64)) ++ [(Value.int .i64 r1)])))] from by rw [← tkN_step (g := (fun e => opV op (g1 e) (g2 e))) (by omega) (by omega), List.map_append, List.length_append, ← hrg]; rfl), hs, ht, by omega, by omega, all_snoc hin hgi⟩, by omega⟩
 ·
  refine vc_exit ?_
  refine blockQ_hit ?_
  refine vc_seq ?_
  have hms := mk_small (vars := vars) (t := tabv vars (fun e => opV op (g1 e) (g2 e))) h12 (tabv_len _) (tabv_all h00 (fun x a b => hin x a (by omega)))
  have htk := tkN_all (g := (fun e => opV op (g1 e) (g2 e))) (vars := vars) (k := k) h00 (by omega)
  refine vc_freezeG (v := ov) (E := 3) (n := (tkN vars (fun e => opV op (g1 e) (g2 e)) k.toNat).length) (xs := ((tkN vars (fun e => opV op (g1 e) (g2 e)) k.toNat).map (Value.int .i64))) (σr := [(Arr 25 b1 [(Value.int .i64 0), (Value.slice none 0 0), (Value.slice none 0 0), (Value.int .i64 0)])]) (List.perm_middle (l₁ := [(Arr 25 b1 [(Value.int .i64 0), (Value.slice none 0 0), (Value.slice none 0 0), (Value.int .i64 0)])]) (l₂ := [])) (fun Vf2 hVf2 hc2 => ?_)
  have hs := hs.mono hVf2
  have ht := ht.mono hVf2
  refine vc_region ?_
  have hqq := hc2
  rw [htk] at hqq
  refine oq (qv_mv (Value.int .i64 vars) rfl) ?_
  refine oq (qv_mv ov rfl) ?_
  refine ops_call (σa := []) (σr := [(Arr 25 b1 [(Value.int .i64 0), (Value.slice none 0 0), (Value.slice none 0 0), (Value.int .i64 0)])]) (by have h := diagram_c (vars := vars) (t := tabv vars (fun e => opV op (g1 e) (g2 e))) hqq h00 h12 (tabv_len _); exact h) rfl rfl (.refl _) (fun r2 V2 sg2 hV2 hp2 => ?_)
  obtain ⟨rfl, lv2, nv2, rfl, hDg2⟩ := hp2
  have hs := hs.mono hV2
  have ht := ht.mono hV2
  have hc2 := hc2.mono hV2
  refine ops_stw (k := 0) (vs := [(.int .i64 ((dg vars (tabv vars (fun e => opV op (g1 e) (g2 e)))).v)), lv2, nv2, (.int .i64 ((dg vars (tabv vars (fun e => opV op (g1 e) (g2 e)))).r))]) Tryz.size25 rfl rfl rfl (allc rfl (allc (Sl.one hDg2.l) (allc (SlS.one hDg2.n) (allc rfl rfl)))) rfl rfl ?_
  refine oq (qv_as (Value.int .i64 0) rfl) ?_
  refine ops_nil ?_
  refine vc_freeze (b := b1) (o := .cells ([(Value.int .i64 ((dg vars (tabv vars (fun e => opV op (g1 e) (g2 e)))).v)), lv2, nv2, (Value.int .i64 ((dg vars (tabv vars (fun e => opV op (g1 e) (g2 e)))).r))] : List Value).toArray 25 (0, 0)) (σr := []) (List.perm_middle (l₁ := []) (l₂ := [])) (fun Vf3 hVf3 hb3 => ?_)
  have hc3 : Cells Vf3 b1 [(.int .i64 ((dg vars (tabv vars (fun e => opV op (g1 e) (g2 e)))).v)), lv2, nv2, (.int .i64 ((dg vars (tabv vars (fun e => opV op (g1 e) (g2 e)))).r))] := ⟨_, _, hb3⟩
  have hs := hs.mono hVf3
  have ht := ht.mono hVf3
  have hc2 := hc2.mono hVf3
  have hDg2 := hDg2.mono hVf3
  refine vc_ret ?_
  refine rs2 _ (Value.int .i64 0) (rv_c (vs := [(.int .i64 ((dg vars (tabv vars (fun e => opV op (g1 e) (g2 e)))).v)), lv2, nv2, (.int .i64 ((dg vars (tabv vars (fun e => opV op (g1 e) (g2 e)))).r))]) Tryz.agg25 rfl (inVc hc3) rfl rfl) (rv_t rfl) ?_
  rw [hms.1, hms.2]
  exact ⟨rfl, lv2, nv2, rfl, hDg2⟩

end Go.Proofs.YtkmhjcjpohpiaaaGreat
