/- Walks of numeric: what each function returns. Printed by a program out of notes. -/
import Derived.Test.YtapkilaikcihgaaNk
import Derived.Test.YtapkilaikcihgaaNmP
import Derived.Test.YtapkilaikcihgaaVcY
namespace Go.Proofs.Ytapkilaikcihgaa
open Go.Vc
open Classical

set_option maxRecDepth 100000 in
set_option maxHeartbeats 4000000 in
theorem floor_c {V : HV} {x y : Int} (hx : fits x) :
    FnC Try.prog 95 [(Value.int .i64 x), (Value.int .i64 y)] V [] (fun v _ _ => v = (.int .i64 (divF x y))) := by
 refine fn_intro (N := 25) Try.func95 (by kernel_rfl) rfl rfl rfl (Nat.le_of_ble_eq_true rfl) ?_
 intro w0 D
 have hb := tdiv_bd (y := y) hx
 refine vc_seq ?_
 refine vc_region ?_
 refine oq (qv_as (Value.int .i64 0) rfl) ?_
 refine ops_nil ?_
 refine vc_seq ?_
 refine vc_seq ?_
 refine vc_region ?_
 refine oq (qv_mv (Value.int .i64 y) rfl) ?_
 refine oq (qv_eql rfl rfl) ?_
 refine ops_nil ?_
 refine vc_if rfl (fun c1 => ?_) (fun c1 => ?_)
 ·
  refine vc_seq ?_
  refine vc_region ?_
  refine oq (qv_as (Value.int .i64 0) rfl) ?_
  refine ops_nil ?_
  refine vc_ret ?_
  exact rq1 (.int .i64 (divF x y)) (congrArg (Value.int .i64) (show 0 = (divF x y) from by first | (rw [divF_0 (by omega)]; done) | (rw [divF_adj (by omega) (by omega) (by assumption)]; done) | (rw [divF_no (by omega) (by first | exact Or.inl (by omega) | exact Or.inr (Decidable.not_not.1 (by assumption)))]; done))) rfl
 ·
  refine vc_skip ?_
  refine vc_seq ?_
  refine vc_region ?_
  refine oq (qv_mv (Value.int .i64 x) rfl) ?_
  refine oq (qv_mv (Value.int .i64 y) rfl) ?_
  refine oq (qv_quok (r := x.tdiv y) rfl rfl (by omega) (IntWalk.i64_in _ (by omega))) ?_
  refine oq (qv_as (.int .i64 (x.tdiv y)) rfl) ?_
  refine ops_nil ?_
  refine vc_seq ?_
  refine vc_seq ?_
  refine vc_region ?_
  refine oq (qv_mv (Value.int .i64 x) rfl) ?_
  refine oq (qv_mv (Value.int .i64 y) rfl) ?_
  refine oq (qv_remk (r := x.tmod y) rfl rfl (by omega) rfl) ?_
  refine oq (qv_neq rfl rfl) ?_
  refine oq (qv_mv (.bool (decide ((x.tmod y) ≠ 0))) rfl) ?_
  by_cases g1 : (x.tmod y) ≠ 0
  ·
   refine og (qv_mv (Value.int .i64 x) rfl) (want_t g1 rfl rfl rfl) ?_
   refine og (qv_lss rfl rfl) (want_t g1 rfl rfl rfl) ?_
   refine og (qv_mv (Value.int .i64 y) rfl) (want_t g1 rfl rfl rfl) ?_
   refine og (qv_lss rfl rfl) (want_t g1 rfl rfl rfl) ?_
   refine og (qv_niffb Try.underlying4 rfl rfl) (want_t g1 rfl rfl rfl) ?_
   refine oq (qv_pick_t g1 rfl (rfl : ev _ _ = (.bool (decide (¬ ((x < 0) ↔ (y < 0))))))) ?_
   refine ops_nil ?_
   refine vc_if rfl (fun c2 => ?_) (fun c2 => ?_)
   ·
    refine vc_region ?_
    refine oq (qv_mv (.int .i64 (x.tdiv y)) rfl) ?_
    refine oq (qv_sub rfl rfl (by omega)) ?_
    refine oq (qv_as (.int .i64 ((x.tdiv y) - 1)) rfl) ?_
    refine ops_nil ?_
    refine vc_seq ?_
    refine vc_region ?_
    refine oq (qv_mv (.int .i64 ((x.tdiv y) - 1)) rfl) ?_
    refine oq (qv_as (.int .i64 ((x.tdiv y) - 1)) rfl) ?_
    refine ops_nil ?_
    refine vc_ret ?_
    exact rq1 (.int .i64 (divF x y)) (congrArg (Value.int .i64) (show ((x.tdiv y) - 1) = (divF x y) from by first | (rw [divF_0 (by omega)]; done) | (rw [divF_adj (by omega) (by omega) (by assumption)]; done) | (rw [divF_no (by omega) (by first | exact Or.inl (by omega) | exact Or.inr (Decidable.not_not.1 (by assumption)))]; done))) rfl
   ·
    refine vc_skip ?_
    refine vc_seq ?_
    refine vc_region ?_
    refine oq (qv_mv (.int .i64 (x.tdiv y)) rfl) ?_
    refine oq (qv_as (.int .i64 (x.tdiv y)) rfl) ?_
    refine ops_nil ?_
    refine vc_ret ?_
    exact rq1 (.int .i64 (divF x y)) (congrArg (Value.int .i64) (show (x.tdiv y) = (divF x y) from by first | (rw [divF_0 (by omega)]; done) | (rw [divF_adj (by omega) (by omega) (by assumption)]; done) | (rw [divF_no (by omega) (by first | exact Or.inl (by omega) | exact Or.inr (Decidable.not_not.1 (by assumption)))]; done))) rfl
  ·
   refine os (want_tn g1 rfl rfl rfl) ?_
   refine os (want_tn g1 rfl rfl rfl) ?_
   refine os (want_tn g1 rfl rfl rfl) ?_
   refine os (want_tn g1 rfl rfl rfl) ?_
   refine os (want_tn g1 rfl rfl rfl) ?_
   refine oq (qv_pick_f g1 rfl (rfl : ev _ _ = (Value.bool false))) ?_
   refine ops_nil ?_
   refine vc_ff rfl ?_
   refine vc_skip ?_
   refine vc_seq ?_
   refine vc_region ?_
   refine oq (qv_mv (.int .i64 (x.tdiv y)) rfl) ?_
   refine oq (qv_as (.int .i64 (x.tdiv y)) rfl) ?_
   refine ops_nil ?_
   refine vc_ret ?_
   exact rq1 (.int .i64 (divF x y)) (congrArg (Value.int .i64) (show (x.tdiv y) = (divF x y) from by first | (rw [divF_0 (by omega)]; done) | (rw [divF_adj (by omega) (by omega) (by assumption)]; done) | (rw [divF_no (by omega) (by first | exact Or.inl (by omega) | exact Or.inr (Decidable.not_not.1 (by assumption)))]; done))) rfl

set_option maxRecDepth 100000 in
set_option maxHeartbeats 4000000 in
theorem rDivide_c {V : HV} {x y : Int} (hx : fits x) :
    FnC Try.prog 76 [(Value.int .i64 x), (Value.int .i64 y)] V [] (fun v _ _ => v = (.int .i64 (divF x y))) := by
 refine fn_intro (N := 25) Try.func76 (by kernel_rfl) rfl rfl rfl (Nat.le_of_ble_eq_true rfl) ?_
 intro w0 D
 have hb := tdiv_bd (y := y) hx
 refine vc_seq ?_
 refine vc_region ?_
 refine oq (qv_as (Value.int .i64 0) rfl) ?_
 refine ops_nil ?_
 refine vc_seq ?_
 refine vc_seq ?_
 refine vc_region ?_
 refine oq (qv_mv (Value.int .i64 y) rfl) ?_
 refine oq (qv_eql rfl rfl) ?_
 refine ops_nil ?_
 refine vc_if rfl (fun c1 => ?_) (fun c1 => ?_)
 ·
  refine vc_seq ?_
  refine vc_region ?_
  refine oq (qv_as (Value.int .i64 0) rfl) ?_
  refine ops_nil ?_
  refine vc_ret ?_
  exact rq1 (.int .i64 (divF x y)) (congrArg (Value.int .i64) (show 0 = (divF x y) from by first | (rw [divF_0 (by omega)]; done) | (rw [divF_adj (by omega) (by omega) (by assumption)]; done) | (rw [divF_no (by omega) (by first | exact Or.inl (by omega) | exact Or.inr (Decidable.not_not.1 (by assumption)))]; done))) rfl
 ·
  refine vc_skip ?_
  refine vc_seq ?_
  refine vc_region ?_
  refine oq (qv_mv (Value.int .i64 x) rfl) ?_
  refine oq (qv_mv (Value.int .i64 y) rfl) ?_
  refine oq (qv_quok (r := x.tdiv y) rfl rfl (by omega) (IntWalk.i64_in _ (by omega))) ?_
  refine oq (qv_as (.int .i64 (x.tdiv y)) rfl) ?_
  refine ops_nil ?_
  refine vc_seq ?_
  refine vc_seq ?_
  refine vc_region ?_
  refine oq (qv_mv (Value.int .i64 x) rfl) ?_
  refine oq (qv_mv (Value.int .i64 y) rfl) ?_
  refine oq (qv_remk (r := x.tmod y) rfl rfl (by omega) rfl) ?_
  refine oq (qv_neq rfl rfl) ?_
  refine oq (qv_mv (.bool (decide ((x.tmod y) ≠ 0))) rfl) ?_
  by_cases g1 : (x.tmod y) ≠ 0
  ·
   refine og (qv_mv (Value.int .i64 x) rfl) (want_t g1 rfl rfl rfl) ?_
   refine og (qv_lss rfl rfl) (want_t g1 rfl rfl rfl) ?_
   refine og (qv_mv (Value.int .i64 y) rfl) (want_t g1 rfl rfl rfl) ?_
   refine og (qv_lss rfl rfl) (want_t g1 rfl rfl rfl) ?_
   refine og (qv_niffb Try.underlying4 rfl rfl) (want_t g1 rfl rfl rfl) ?_
   refine oq (qv_pick_t g1 rfl (rfl : ev _ _ = (.bool (decide (¬ ((x < 0) ↔ (y < 0))))))) ?_
   refine ops_nil ?_
   refine vc_if rfl (fun c2 => ?_) (fun c2 => ?_)
   ·
    refine vc_region ?_
    refine oq (qv_mv (.int .i64 (x.tdiv y)) rfl) ?_
    refine oq (qv_sub rfl rfl (by omega)) ?_
    refine oq (qv_as (.int .i64 ((x.tdiv y) - 1)) rfl) ?_
    refine ops_nil ?_
    refine vc_seq ?_
    refine vc_region ?_
    refine oq (qv_mv (.int .i64 ((x.tdiv y) - 1)) rfl) ?_
    refine oq (qv_as (.int .i64 ((x.tdiv y) - 1)) rfl) ?_
    refine ops_nil ?_
    refine vc_ret ?_
    exact rq1 (.int .i64 (divF x y)) (congrArg (Value.int .i64) (show ((x.tdiv y) - 1) = (divF x y) from by first | (rw [divF_0 (by omega)]; done) | (rw [divF_adj (by omega) (by omega) (by assumption)]; done) | (rw [divF_no (by omega) (by first | exact Or.inl (by omega) | exact Or.inr (Decidable.not_not.1 (by assumption)))]; done))) rfl
   ·
    refine vc_skip ?_
    refine vc_seq ?_
    refine vc_region ?_
    refine oq (qv_mv (.int .i64 (x.tdiv y)) rfl) ?_
    refine oq (qv_as (.int .i64 (x.tdiv y)) rfl) ?_
    refine ops_nil ?_
    refine vc_ret ?_
    exact rq1 (.int .i64 (divF x y)) (congrArg (Value.int .i64) (show (x.tdiv y) = (divF x y) from by first | (rw [divF_0 (by omega)]; done) | (rw [divF_adj (by omega) (by omega) (by assumption)]; done) | (rw [divF_no (by omega) (by first | exact Or.inl (by omega) | exact Or.inr (Decidable.not_not.1 (by assumption)))]; done))) rfl
  ·
   refine os (want_tn g1 rfl rfl rfl) ?_
   refine os (want_tn g1 rfl rfl rfl) ?_
   refine os (want_tn g1 rfl rfl rfl) ?_
   refine os (want_tn g1 rfl rfl rfl) ?_
   refine os (want_tn g1 rfl rfl rfl) ?_
   refine oq (qv_pick_f g1 rfl (rfl : ev _ _ = (Value.bool false))) ?_
   refine ops_nil ?_
   refine vc_ff rfl ?_
   refine vc_skip ?_
   refine vc_seq ?_
   refine vc_region ?_
   refine oq (qv_mv (.int .i64 (x.tdiv y)) rfl) ?_
   refine oq (qv_as (.int .i64 (x.tdiv y)) rfl) ?_
   refine ops_nil ?_
   refine vc_ret ?_
   exact rq1 (.int .i64 (divF x y)) (congrArg (Value.int .i64) (show (x.tdiv y) = (divF x y) from by first | (rw [divF_0 (by omega)]; done) | (rw [divF_adj (by omega) (by omega) (by assumption)]; done) | (rw [divF_no (by omega) (by first | exact Or.inl (by omega) | exact Or.inr (Decidable.not_not.1 (by assumption)))]; done))) rfl

set_option maxRecDepth 100000 in
set_option maxHeartbeats 4000000 in
theorem value_c {V : HV} {op x y : Int} (hx : fits x) (hy : fits y) (ho : op = 11 ∨ op = 12 ∨ op = 21 ∨ op = 22) :
    FnC Try.prog 89 [(Value.int .i64 op), (Value.int .i64 x), (Value.int .i64 y)] V [] (fun v _ _ => v = (.int .i64 (valF op x y))) := by
 refine fn_intro (N := 32) Try.func89 (by kernel_rfl) rfl rfl rfl (Nat.le_of_ble_eq_true rfl) ?_
 intro w0 D
 refine vc_seq ?_
 refine vc_region ?_
 refine oq (qv_as (Value.int .i64 0) rfl) ?_
 refine ops_nil ?_
 refine vc_seq ?_
 refine vc_seq ?_
 refine vc_region ?_
 refine oq (qv_mv (Value.int .i64 op) rfl) ?_
 refine ops_nil ?_
 refine vc_block ?_
 refine vc_seq ?_
 refine vc_region ?_
 refine oq (qv_eql rfl rfl) ?_
 refine oq (qv_as (.bool (decide (op = 11))) rfl) ?_
 refine ops_nil ?_
 refine vc_if rfl (fun c1 => ?_) (fun c1 => ?_)
 ·
  refine vc_seq ?_
  refine vc_region ?_
  refine oq (qv_mv (Value.int .i64 x) rfl) ?_
  refine oq (qv_mv (Value.int .i64 y) rfl) ?_
  refine oq (qv_call (v := (.int .i64 (divF x y))) (floor_c (by assumption)) rfl rfl) ?_
  refine oq (qv_as (.int .i64 (divF x y)) rfl) ?_
  refine ops_nil ?_
  refine vc_ret ?_
  refine blockQ_ret ?_
  exact rq1 (.int .i64 (valF op x y)) (congrArg (Value.int .i64) (show (divF x y) = (valF op x y) from by first | (rw [val11 (by omega)]; done) | (rw [val12 (by omega), modF_0 (by omega)]; done) | (rw [val12 (by omega), hme]; done) | (rw [val21 (by omega)]; rfl) | (rw [val22 (by omega)]; rfl))) rfl
 ·
  refine vc_seq ?_
  refine vc_region ?_
  refine oq (qv_eql rfl rfl) ?_
  refine oq (qv_as (.bool (decide (op = 12))) rfl) ?_
  refine ops_nil ?_
  refine vc_if rfl (fun c2 => ?_) (fun c2 => ?_)
  ·
   refine vc_seq ?_
   refine vc_seq ?_
   refine vc_region ?_
   refine oq (qv_mv (Value.int .i64 y) rfl) ?_
   refine oq (qv_eql rfl rfl) ?_
   refine ops_nil ?_
   refine vc_if rfl (fun c3 => ?_) (fun c3 => ?_)
   ·
    refine vc_seq ?_
    refine vc_region ?_
    refine oq (qv_as (Value.int .i64 0) rfl) ?_
    refine ops_nil ?_
    refine vc_ret ?_
    refine blockQ_ret ?_
    exact rq1 (.int .i64 (valF op x y)) (congrArg (Value.int .i64) (show 0 = (valF op x y) from by first | (rw [val11 (by omega)]; done) | (rw [val12 (by omega), modF_0 (by omega)]; done) | (rw [val12 (by omega), hme]; done) | (rw [val21 (by omega)]; rfl) | (rw [val22 (by omega)]; rfl))) rfl
   ·
    refine vc_skip ?_
    refine vc_seq ?_
    have hmf := modF_fits hx hy
    have hme := modF_n (x := x) (show y ≠ 0 by omega)
    have hx1 := hx
    have hy1 := hy
    unfold fits at hmf hx1 hy1
    refine vc_region ?_
    refine oq (qv_mv (Value.int .i64 x) rfl) ?_
    refine oq (qv_mv (Value.int .i64 y) rfl) ?_
    refine oq (qv_mv (Value.int .i64 x) rfl) ?_
    refine oq (qv_mv (Value.int .i64 y) rfl) ?_
    refine oq (qv_call (v := (.int .i64 (divF x y))) (floor_c (by assumption)) rfl rfl) ?_
    refine oq (qv_mul rfl rfl (by omega)) ?_
    refine oq (qv_sub rfl rfl (by omega)) ?_
    refine oq (qv_as (.int .i64 (x - (y * (divF x y)))) rfl) ?_
    refine ops_nil ?_
    refine vc_ret ?_
    refine blockQ_ret ?_
    exact rq1 (.int .i64 (valF op x y)) (congrArg (Value.int .i64) (show (x - (y * (divF x y))) = (valF op x y) from by first | (rw [val11 (by omega)]; done) | (rw [val12 (by omega), modF_0 (by omega)]; done) | (rw [val12 (by omega), hme]; done) | (rw [val21 (by omega)]; rfl) | (rw [val22 (by omega)]; rfl))) rfl
  ·
   refine vc_seq ?_
   refine vc_region ?_
   refine oq (qv_eql rfl rfl) ?_
   refine oq (qv_as (.bool (decide (op = 21))) rfl) ?_
   refine ops_nil ?_
   refine vc_if rfl (fun c4 => ?_) (fun c4 => ?_)
   ·
    refine vc_seq ?_
    refine vc_region ?_
    refine oq (qv_mv (Value.int .i64 x) rfl) ?_
    refine oq (qv_mv (Value.int .i64 y) rfl) ?_
    refine oq (qv_min rfl rfl) ?_
    refine oq (qv_as (.int .i64 (if y < x then y else x)) rfl) ?_
    refine ops_nil ?_
    refine vc_ret ?_
    refine blockQ_ret ?_
    exact rq1 (.int .i64 (valF op x y)) (congrArg (Value.int .i64) (show (if y < x then y else x) = (valF op x y) from by first | (rw [val11 (by omega)]; done) | (rw [val12 (by omega), modF_0 (by omega)]; done) | (rw [val12 (by omega), hme]; done) | (rw [val21 (by omega)]; rfl) | (rw [val22 (by omega)]; rfl))) rfl
   ·
    refine vc_skip ?_
    refine vc_seq ?_
    refine vc_region ?_
    refine oq (qv_mv (Value.int .i64 x) rfl) ?_
    refine oq (qv_mv (Value.int .i64 y) rfl) ?_
    refine oq (qv_max rfl rfl) ?_
    refine oq (qv_as (.int .i64 (if x < y then y else x)) rfl) ?_
    refine ops_nil ?_
    refine vc_ret ?_
    exact rq1 (.int .i64 (valF op x y)) (congrArg (Value.int .i64) (show (if x < y then y else x) = (valF op x y) from by first | (rw [val11 (by omega)]; done) | (rw [val12 (by omega), modF_0 (by omega)]; done) | (rw [val12 (by omega), hme]; done) | (rw [val21 (by omega)]; rfl) | (rw [val22 (by omega)]; rfl))) rfl

set_option maxRecDepth 100000 in
set_option maxHeartbeats 4000000 in
theorem rFlag_c {V : HV} {p : Prop} {ip : Decidable p} :
    FnC Try.prog 77 [(.bool (@decide p ip))] V [] (fun v _ _ => v = (.int .i64 (flg p))) := by
 refine fn_intro (N := 4) Try.func77 (by kernel_rfl) rfl rfl rfl (Nat.le_of_ble_eq_true rfl) ?_
 intro w0 D
 refine vc_seq ?_
 refine vc_region ?_
 refine oq (qv_as (Value.int .i64 0) rfl) ?_
 refine ops_nil ?_
 refine vc_seq ?_
 refine vc_seq ?_
 refine vc_region ?_
 refine oq (qv_mv (.bool (@decide p ip)) rfl) ?_
 refine ops_nil ?_
 refine vc_if rfl (fun c1 => ?_) (fun c1 => ?_)
 ·
  refine vc_seq ?_
  refine vc_region ?_
  refine oq (qv_as (Value.int .i64 1) rfl) ?_
  refine ops_nil ?_
  refine vc_ret ?_
  exact rq1 (.int .i64 (flg p)) (congrArg (Value.int .i64) (show 1 = (flg p) from by first | (rw [flg_1 (by assumption)]; done) | (rw [flg_0 (by assumption)]; done))) rfl
 ·
  refine vc_skip ?_
  refine vc_seq ?_
  refine vc_region ?_
  refine oq (qv_as (Value.int .i64 0) rfl) ?_
  refine ops_nil ?_
  refine vc_ret ?_
  exact rq1 (.int .i64 (flg p)) (congrArg (Value.int .i64) (show 0 = (flg p) from by first | (rw [flg_1 (by assumption)]; done) | (rw [flg_0 (by assumption)]; done))) rfl

set_option maxRecDepth 100000 in
set_option maxHeartbeats 4000000 in
theorem rProduct_c {V : HV} {x y : Int} (hx : fits x) (hy : fits y) :
    FnC Try.prog 75 [(Value.int .i64 x), (Value.int .i64 y)] V [] (fun v _ _ => v = .tuple #[(.int .i64 (prF x y)), (.bool (decide (fits (x * y))))]) := by
 refine fn_intro (N := 23) Try.func75 (by kernel_rfl) rfl rfl rfl (Nat.le_of_ble_eq_true rfl) ?_
 intro w0 D
 have hx1 := hx
 have hy1 := hy
 unfold fits at hx1 hy1
 have ax := aw0 x
 have ay := aw0 y
 refine vc_seq ?_
 refine vc_region ?_
 refine oq (qv_as (Value.int .i64 0) rfl) ?_
 refine oq (qv_as (Value.bool false) rfl) ?_
 refine ops_nil ?_
 refine vc_seq ?_
 refine vc_seq ?_
 refine vc_region ?_
 refine oq (qv_mv (Value.int .i64 x) rfl) ?_
 refine oq (qv_neq rfl rfl) ?_
 refine oq (qv_mv (.bool (decide (x ≠ 0))) rfl) ?_
 by_cases g1 : x ≠ 0
 ·
  refine og (qv_mv (Value.int .i64 y) rfl) (want_t g1 rfl rfl rfl) ?_
  refine og (qv_neq rfl rfl) (want_t g1 rfl rfl rfl) ?_
  refine oq (qv_pick_t g1 rfl (rfl : ev _ _ = (.bool (decide (y ≠ 0))))) ?_
  refine oq (qv_mv (.bool (decide (y ≠ 0))) rfl) ?_
  by_cases g2 : y ≠ 0
  ·
   refine og (qv_mv (Value.int .i64 x) rfl) (want_t g2 rfl rfl rfl) ?_
   refine og (qv_call (v := (.int .i64 (aw x 0))) (rAway_c (by omega) (by omega)) rfl rfl) (want_t g2 rfl rfl rfl) ?_
   refine og (qv_mv (Value.int .i64 y) rfl) (want_t g2 rfl rfl rfl) ?_
   refine og (qv_call (v := (.int .i64 (aw y 0))) (rAway_c (by omega) (by omega)) rfl rfl) (want_t g2 rfl rfl rfl) ?_
   refine og (qv_quo rfl rfl (by omega) (by rw [ay]; exact mag_pos (by omega))) (want_t g2 rfl rfl rfl) ?_
   refine og (qv_gtr rfl rfl) (want_t g2 rfl rfl rfl) ?_
   refine oq (qv_pick_t g2 rfl (rfl : ev _ _ = (.bool (decide ((1099511627776 / (aw y 0)) < (aw x 0)))))) ?_
   refine ops_nil ?_
   refine vc_if rfl (fun c1 => ?_) (fun c1 => ?_)
   ·
    refine vc_seq ?_
    have hno : ¬ fits (x * y) := pr_no (by omega) (by rw [← ax, ← ay]; omega)
    refine vc_region ?_
    refine oq (qv_as (Value.int .i64 0) rfl) ?_
    refine oq (qv_as (Value.bool false) rfl) ?_
    refine ops_nil ?_
    refine vc_ret ?_
    exact rq2 (.int .i64 (prF x y)) (.bool (decide (fits (x * y)))) (congrArg (Value.int .i64) (show 0 = (prF x y) from by rw [prF_0 hno])) (congrArg Value.bool (decide_eq_false (show ¬ (fits (x * y)) from by assumption)).symm) rfl
   ·
    refine vc_skip ?_
    refine vc_seq ?_
    have hok : fits (x * y) := pr_yes (by rw [← ax, ← ay]; omega)
    have hok1 := hok
    unfold fits at hok1
    refine vc_region ?_
    refine oq (qv_mv (Value.int .i64 x) rfl) ?_
    refine oq (qv_mv (Value.int .i64 y) rfl) ?_
    refine oq (qv_mul rfl rfl (by omega)) ?_
    refine oq (qv_as (.int .i64 (x * y)) rfl) ?_
    refine oq (qv_as (Value.bool true) rfl) ?_
    refine ops_nil ?_
    refine vc_ret ?_
    exact rq2 (.int .i64 (prF x y)) (.bool (decide (fits (x * y)))) (congrArg (Value.int .i64) (show (x * y) = (prF x y) from by rw [prF_1 hok])) (congrArg Value.bool (decide_eq_true (show (fits (x * y)) from by assumption)).symm) rfl
  ·
   refine os (want_tn g2 rfl rfl rfl) ?_
   refine os (want_tn g2 rfl rfl rfl) ?_
   refine os (want_tn g2 rfl rfl rfl) ?_
   refine os (want_tn g2 rfl rfl rfl) ?_
   refine os (want_tn g2 rfl rfl rfl) ?_
   refine os (want_tn g2 rfl rfl rfl) ?_
   refine oq (qv_pick_f g2 rfl (rfl : ev _ _ = (Value.bool false))) ?_
   refine ops_nil ?_
   refine vc_ff rfl ?_
   refine vc_skip ?_
   refine vc_seq ?_
   have hok : fits (x * y) := pr_yes (by rw [← ax, ← ay]; omega)
   have hok1 := hok
   unfold fits at hok1
   refine vc_region ?_
   refine oq (qv_mv (Value.int .i64 x) rfl) ?_
   refine oq (qv_mv (Value.int .i64 y) rfl) ?_
   refine oq (qv_mul rfl rfl (by omega)) ?_
   refine oq (qv_as (.int .i64 (x * y)) rfl) ?_
   refine oq (qv_as (Value.bool true) rfl) ?_
   refine ops_nil ?_
   refine vc_ret ?_
   exact rq2 (.int .i64 (prF x y)) (.bool (decide (fits (x * y)))) (congrArg (Value.int .i64) (show (x * y) = (prF x y) from by rw [prF_1 hok])) (congrArg Value.bool (decide_eq_true (show (fits (x * y)) from by assumption)).symm) rfl
 ·
  refine os (want_tn g1 rfl rfl rfl) ?_
  refine os (want_tn g1 rfl rfl rfl) ?_
  refine oq (qv_pick_f g1 rfl (rfl : ev _ _ = (Value.bool false))) ?_
  refine oq (qv_mv (Value.bool false) rfl) ?_
  refine os (want_tnc rfl rfl rfl) ?_
  refine os (want_tnc rfl rfl rfl) ?_
  refine os (want_tnc rfl rfl rfl) ?_
  refine os (want_tnc rfl rfl rfl) ?_
  refine os (want_tnc rfl rfl rfl) ?_
  refine os (want_tnc rfl rfl rfl) ?_
  refine oq (qv_pick_fc rfl (rfl : ev _ _ = (Value.bool false))) ?_
  refine ops_nil ?_
  refine vc_ff rfl ?_
  refine vc_skip ?_
  refine vc_seq ?_
  have hok : fits (x * y) := pr_yes (by rw [← ax, ← ay]; omega)
  have hok1 := hok
  unfold fits at hok1
  refine vc_region ?_
  refine oq (qv_mv (Value.int .i64 x) rfl) ?_
  refine oq (qv_mv (Value.int .i64 y) rfl) ?_
  refine oq (qv_mul rfl rfl (by omega)) ?_
  refine oq (qv_as (.int .i64 (x * y)) rfl) ?_
  refine oq (qv_as (Value.bool true) rfl) ?_
  refine ops_nil ?_
  refine vc_ret ?_
  exact rq2 (.int .i64 (prF x y)) (.bool (decide (fits (x * y)))) (congrArg (Value.int .i64) (show (x * y) = (prF x y) from by rw [prF_1 hok])) (congrArg Value.bool (decide_eq_true (show (fits (x * y)) from by assumption)).symm) rfl

set_option maxRecDepth 100000 in
set_option maxHeartbeats 4000000 in
theorem rValue_c {V : HV} {op x y : Int} (hx : fits x) (hy : fits y) :
    FnC Try.prog 36 [(Value.int .i64 op), (Value.int .i64 x), (Value.int .i64 y)] V [] (fun v _ _ => v = .tuple #[(.int .i64 (vN op x y)), (.bool (decide (valOk op x y)))]) := by
 refine fn_intro (N := 116) Try.func36 (by kernel_rfl) rfl rfl rfl (Nat.le_of_ble_eq_true rfl) ?_
 intro w0 D
 have hx1 := hx
 have hy1 := hy
 unfold fits at hx1 hy1
 refine vc_seq ?_
 refine vc_region ?_
 refine oq (qv_as (Value.int .i64 0) rfl) ?_
 refine oq (qv_as (Value.bool false) rfl) ?_
 refine ops_nil ?_
 refine vc_seq ?_
 refine vc_seq ?_
 refine vc_region ?_
 refine oq (qv_mv (Value.int .i64 op) rfl) ?_
 refine ops_nil ?_
 refine vc_block ?_
 refine vc_seq ?_
 refine vc_region ?_
 refine oq (qv_eql rfl rfl) ?_
 refine oq (qv_as (.bool (decide (op = 8))) rfl) ?_
 refine ops_nil ?_
 refine vc_if rfl (fun c1 => ?_) (fun c1 => ?_)
 ·
  refine vc_seq ?_
  refine vc_region ?_
  refine oq (qv_mv (Value.int .i64 x) rfl) ?_
  refine oq (qv_mv (Value.int .i64 y) rfl) ?_
  refine oq (qv_add rfl rfl (by omega)) ?_
  refine oq (qv_mv (Value.int .i64 x) rfl) ?_
  refine oq (qv_mv (Value.int .i64 y) rfl) ?_
  refine oq (qv_add rfl rfl (by omega)) ?_
  refine oq (qv_call (v := (.bool (decide (fits (x + y))))) (rFits_c) rfl rfl) ?_
  refine oq (qv_as (.int .i64 (x + y)) rfl) ?_
  refine oq (qv_as (.bool (decide (fits (x + y)))) rfl) ?_
  refine ops_nil ?_
  refine vc_ret ?_
  refine blockQ_ret ?_
  exact rq2 (.int .i64 (vN op x y)) (.bool (decide (valOk op x y))) (congrArg (Value.int .i64) (show (x + y) = (vN op x y) from by rw [vN_o (by omega), val8 (by omega)])) (congrArg Value.bool (decide_eq_decide.2 (show (fits (x + y)) ↔ (valOk op x y) from by exact (valOk_8 (by omega)).symm))) rfl
 ·
  refine vc_seq ?_
  refine vc_region ?_
  refine oq (qv_eql rfl rfl) ?_
  refine oq (qv_as (.bool (decide (op = 9))) rfl) ?_
  refine ops_nil ?_
  refine vc_if rfl (fun c2 => ?_) (fun c2 => ?_)
  ·
   refine vc_seq ?_
   refine vc_region ?_
   refine oq (qv_mv (Value.int .i64 x) rfl) ?_
   refine oq (qv_mv (Value.int .i64 y) rfl) ?_
   refine oq (qv_sub rfl rfl (by omega)) ?_
   refine oq (qv_mv (Value.int .i64 x) rfl) ?_
   refine oq (qv_mv (Value.int .i64 y) rfl) ?_
   refine oq (qv_sub rfl rfl (by omega)) ?_
   refine oq (qv_call (v := (.bool (decide (fits (x - y))))) (rFits_c) rfl rfl) ?_
   refine oq (qv_as (.int .i64 (x - y)) rfl) ?_
   refine oq (qv_as (.bool (decide (fits (x - y)))) rfl) ?_
   refine ops_nil ?_
   refine vc_ret ?_
   refine blockQ_ret ?_
   exact rq2 (.int .i64 (vN op x y)) (.bool (decide (valOk op x y))) (congrArg (Value.int .i64) (show (x - y) = (vN op x y) from by rw [vN_o (by omega), val9 (by omega)])) (congrArg Value.bool (decide_eq_decide.2 (show (fits (x - y)) ↔ (valOk op x y) from by exact (valOk_9 (by omega)).symm))) rfl
  ·
   refine vc_seq ?_
   refine vc_region ?_
   refine oq (qv_eql rfl rfl) ?_
   refine oq (qv_as (.bool (decide (op = 10))) rfl) ?_
   refine ops_nil ?_
   refine vc_if rfl (fun c3 => ?_) (fun c3 => ?_)
   ·
    refine vc_seq ?_
    refine vc_region ?_
    refine oq (qv_mv (Value.int .i64 x) rfl) ?_
    refine oq (qv_mv (Value.int .i64 y) rfl) ?_
    refine oq (qv_call (v := (.tuple #[(.int .i64 (prF x y)), (.bool (decide (fits (x * y))))])) (rProduct_c hx hy) rfl rfl) ?_
    refine oq (qv_ext (.int .i64 (prF x y)) rfl rfl) ?_
    refine oq (qv_ext (.bool (decide (fits (x * y)))) rfl rfl) ?_
    refine oq (qv_as (.int .i64 (prF x y)) rfl) ?_
    refine oq (qv_as (.bool (decide (fits (x * y)))) rfl) ?_
    refine ops_nil ?_
    refine vc_ret ?_
    refine blockQ_ret ?_
    exact rq2 (.int .i64 (vN op x y)) (.bool (decide (valOk op x y))) (congrArg (Value.int .i64) (show (prF x y) = (vN op x y) from by rw [vN_10 (by omega)])) (congrArg Value.bool (decide_eq_decide.2 (show (fits (x * y)) ↔ (valOk op x y) from by exact (valOk_10 (by omega)).symm))) rfl
   ·
    refine vc_seq ?_
    refine vc_region ?_
    refine oq (qv_eql rfl rfl) ?_
    refine oq (qv_as (.bool (decide (op = 11))) rfl) ?_
    refine ops_nil ?_
    refine vc_if rfl (fun c4 => ?_) (fun c4 => ?_)
    ·
     refine vc_seq ?_
     refine vc_region ?_
     refine oq (qv_mv (Value.int .i64 x) rfl) ?_
     refine oq (qv_mv (Value.int .i64 y) rfl) ?_
     refine oq (qv_call (v := (.int .i64 (divF x y))) (rDivide_c (by assumption)) rfl rfl) ?_
     refine oq (qv_as (.int .i64 (divF x y)) rfl) ?_
     refine oq (qv_as (Value.bool true) rfl) ?_
     refine ops_nil ?_
     refine vc_ret ?_
     refine blockQ_ret ?_
     exact rq2 (.int .i64 (vN op x y)) (.bool (decide (valOk op x y))) (congrArg (Value.int .i64) (show (divF x y) = (vN op x y) from by rw [vN_o (by omega), val11 (by omega)])) (congrArg Value.bool (decide_eq_true (show (valOk op x y) from by exact valOk_o (by omega))).symm) rfl
    ·
     refine vc_seq ?_
     refine vc_region ?_
     refine oq (qv_eql rfl rfl) ?_
     refine oq (qv_as (.bool (decide (op = 12))) rfl) ?_
     refine ops_nil ?_
     refine vc_if rfl (fun c5 => ?_) (fun c5 => ?_)
     ·
      refine vc_seq ?_
      refine vc_seq ?_
      refine vc_region ?_
      refine oq (qv_mv (Value.int .i64 y) rfl) ?_
      refine oq (qv_eql rfl rfl) ?_
      refine ops_nil ?_
      refine vc_if rfl (fun c6 => ?_) (fun c6 => ?_)
      ·
       refine vc_seq ?_
       refine vc_region ?_
       refine oq (qv_as (Value.int .i64 0) rfl) ?_
       refine oq (qv_as (Value.bool true) rfl) ?_
       refine ops_nil ?_
       refine vc_ret ?_
       refine blockQ_ret ?_
       exact rq2 (.int .i64 (vN op x y)) (.bool (decide (valOk op x y))) (congrArg (Value.int .i64) (show 0 = (vN op x y) from by first | (rw [vN_o (by omega), val12 (by omega), modF_0 (by omega)]; done) | (rw [vN_o (by omega), val12 (by omega), hme]; done))) (congrArg Value.bool (decide_eq_true (show (valOk op x y) from by exact valOk_o (by omega))).symm) rfl
      ·
       refine vc_skip ?_
       refine vc_seq ?_
       have hmf := modF_fits hx hy
       have hme := modF_n (x := x) (show y ≠ 0 by omega)
       have hx1 := hx
       have hy1 := hy
       unfold fits at hmf hx1 hy1
       refine vc_region ?_
       refine oq (qv_mv (Value.int .i64 x) rfl) ?_
       refine oq (qv_mv (Value.int .i64 y) rfl) ?_
       refine oq (qv_mv (Value.int .i64 x) rfl) ?_
       refine oq (qv_mv (Value.int .i64 y) rfl) ?_
       refine oq (qv_call (v := (.int .i64 (divF x y))) (rDivide_c (by assumption)) rfl rfl) ?_
       refine oq (qv_mul rfl rfl (by omega)) ?_
       refine oq (qv_sub rfl rfl (by omega)) ?_
       refine oq (qv_as (.int .i64 (x - (y * (divF x y)))) rfl) ?_
       refine oq (qv_as (Value.bool true) rfl) ?_
       refine ops_nil ?_
       refine vc_ret ?_
       refine blockQ_ret ?_
       exact rq2 (.int .i64 (vN op x y)) (.bool (decide (valOk op x y))) (congrArg (Value.int .i64) (show (x - (y * (divF x y))) = (vN op x y) from by first | (rw [vN_o (by omega), val12 (by omega), modF_0 (by omega)]; done) | (rw [vN_o (by omega), val12 (by omega), hme]; done))) (congrArg Value.bool (decide_eq_true (show (valOk op x y) from by exact valOk_o (by omega))).symm) rfl
     ·
      refine vc_seq ?_
      refine vc_region ?_
      refine oq (qv_eql rfl rfl) ?_
      refine oq (qv_as (.bool (decide (op = 13))) rfl) ?_
      refine ops_nil ?_
      refine vc_if rfl (fun c7 => ?_) (fun c7 => ?_)
      ·
       refine vc_seq ?_
       refine vc_region ?_
       refine oq (qv_mv (Value.int .i64 x) rfl) ?_
       refine oq (qv_mv (Value.int .i64 y) rfl) ?_
       refine oq (qv_eql rfl rfl) ?_
       refine oq (qv_call (v := (.int .i64 (flg (x = y)))) (rFlag_c (p := x = y)) rfl rfl) ?_
       refine oq (qv_as (.int .i64 (flg (x = y))) rfl) ?_
       refine oq (qv_as (Value.bool true) rfl) ?_
       refine ops_nil ?_
       refine vc_ret ?_
       refine blockQ_ret ?_
       exact rq2 (.int .i64 (vN op x y)) (.bool (decide (valOk op x y))) (congrArg (Value.int .i64) (show (flg (x = y)) = (vN op x y) from by rw [vN_o (by omega), val13 (by omega)])) (congrArg Value.bool (decide_eq_true (show (valOk op x y) from by exact valOk_o (by omega))).symm) rfl
      ·
       refine vc_seq ?_
       refine vc_region ?_
       refine oq (qv_eql rfl rfl) ?_
       refine oq (qv_as (.bool (decide (op = 14))) rfl) ?_
       refine ops_nil ?_
       refine vc_if rfl (fun c8 => ?_) (fun c8 => ?_)
       ·
        refine vc_seq ?_
        refine vc_region ?_
        refine oq (qv_mv (Value.int .i64 x) rfl) ?_
        refine oq (qv_mv (Value.int .i64 y) rfl) ?_
        refine oq (qv_neq rfl rfl) ?_
        refine oq (qv_call (v := (.int .i64 (flg (x ≠ y)))) (rFlag_c (p := x ≠ y)) rfl rfl) ?_
        refine oq (qv_as (.int .i64 (flg (x ≠ y))) rfl) ?_
        refine oq (qv_as (Value.bool true) rfl) ?_
        refine ops_nil ?_
        refine vc_ret ?_
        refine blockQ_ret ?_
        exact rq2 (.int .i64 (vN op x y)) (.bool (decide (valOk op x y))) (congrArg (Value.int .i64) (show (flg (x ≠ y)) = (vN op x y) from by rw [vN_o (by omega), val14 (by omega)])) (congrArg Value.bool (decide_eq_true (show (valOk op x y) from by exact valOk_o (by omega))).symm) rfl
       ·
        refine vc_seq ?_
        refine vc_region ?_
        refine oq (qv_eql rfl rfl) ?_
        refine oq (qv_as (.bool (decide (op = 15))) rfl) ?_
        refine ops_nil ?_
        refine vc_if rfl (fun c9 => ?_) (fun c9 => ?_)
        ·
         refine vc_seq ?_
         refine vc_region ?_
         refine oq (qv_mv (Value.int .i64 x) rfl) ?_
         refine oq (qv_mv (Value.int .i64 y) rfl) ?_
         refine oq (qv_lss rfl rfl) ?_
         refine oq (qv_call (v := (.int .i64 (flg (x < y)))) (rFlag_c (p := x < y)) rfl rfl) ?_
         refine oq (qv_as (.int .i64 (flg (x < y))) rfl) ?_
         refine oq (qv_as (Value.bool true) rfl) ?_
         refine ops_nil ?_
         refine vc_ret ?_
         refine blockQ_ret ?_
         exact rq2 (.int .i64 (vN op x y)) (.bool (decide (valOk op x y))) (congrArg (Value.int .i64) (show (flg (x < y)) = (vN op x y) from by rw [vN_o (by omega), val15 (by omega)])) (congrArg Value.bool (decide_eq_true (show (valOk op x y) from by exact valOk_o (by omega))).symm) rfl
        ·
         refine vc_seq ?_
         refine vc_region ?_
         refine oq (qv_eql rfl rfl) ?_
         refine oq (qv_as (.bool (decide (op = 16))) rfl) ?_
         refine ops_nil ?_
         refine vc_if rfl (fun c10 => ?_) (fun c10 => ?_)
         ·
          refine vc_seq ?_
          refine vc_region ?_
          refine oq (qv_mv (Value.int .i64 x) rfl) ?_
          refine oq (qv_mv (Value.int .i64 y) rfl) ?_
          refine oq (qv_leq rfl rfl) ?_
          refine oq (qv_call (v := (.int .i64 (flg (x ≤ y)))) (rFlag_c (p := x ≤ y)) rfl rfl) ?_
          refine oq (qv_as (.int .i64 (flg (x ≤ y))) rfl) ?_
          refine oq (qv_as (Value.bool true) rfl) ?_
          refine ops_nil ?_
          refine vc_ret ?_
          refine blockQ_ret ?_
          exact rq2 (.int .i64 (vN op x y)) (.bool (decide (valOk op x y))) (congrArg (Value.int .i64) (show (flg (x ≤ y)) = (vN op x y) from by rw [vN_o (by omega), val16 (by omega)])) (congrArg Value.bool (decide_eq_true (show (valOk op x y) from by exact valOk_o (by omega))).symm) rfl
         ·
          refine vc_seq ?_
          refine vc_region ?_
          refine oq (qv_eql rfl rfl) ?_
          refine oq (qv_as (.bool (decide (op = 17))) rfl) ?_
          refine ops_nil ?_
          refine vc_if rfl (fun c11 => ?_) (fun c11 => ?_)
          ·
           refine vc_seq ?_
           refine vc_region ?_
           refine oq (qv_mv (Value.int .i64 x) rfl) ?_
           refine oq (qv_mv (Value.int .i64 y) rfl) ?_
           refine oq (qv_gtr rfl rfl) ?_
           refine oq (qv_call (v := (.int .i64 (flg (y < x)))) (rFlag_c (p := y < x)) rfl rfl) ?_
           refine oq (qv_as (.int .i64 (flg (y < x))) rfl) ?_
           refine oq (qv_as (Value.bool true) rfl) ?_
           refine ops_nil ?_
           refine vc_ret ?_
           refine blockQ_ret ?_
           exact rq2 (.int .i64 (vN op x y)) (.bool (decide (valOk op x y))) (congrArg (Value.int .i64) (show (flg (y < x)) = (vN op x y) from by rw [vN_o (by omega), val17 (by omega)])) (congrArg Value.bool (decide_eq_true (show (valOk op x y) from by exact valOk_o (by omega))).symm) rfl
          ·
           refine vc_seq ?_
           refine vc_region ?_
           refine oq (qv_eql rfl rfl) ?_
           refine oq (qv_as (.bool (decide (op = 18))) rfl) ?_
           refine ops_nil ?_
           refine vc_if rfl (fun c12 => ?_) (fun c12 => ?_)
           ·
            refine vc_seq ?_
            refine vc_region ?_
            refine oq (qv_mv (Value.int .i64 x) rfl) ?_
            refine oq (qv_mv (Value.int .i64 y) rfl) ?_
            refine oq (qv_geq rfl rfl) ?_
            refine oq (qv_call (v := (.int .i64 (flg (y ≤ x)))) (rFlag_c (p := y ≤ x)) rfl rfl) ?_
            refine oq (qv_as (.int .i64 (flg (y ≤ x))) rfl) ?_
            refine oq (qv_as (Value.bool true) rfl) ?_
            refine ops_nil ?_
            refine vc_ret ?_
            refine blockQ_ret ?_
            exact rq2 (.int .i64 (vN op x y)) (.bool (decide (valOk op x y))) (congrArg (Value.int .i64) (show (flg (y ≤ x)) = (vN op x y) from by rw [vN_o (by omega), val18 (by omega)])) (congrArg Value.bool (decide_eq_true (show (valOk op x y) from by exact valOk_o (by omega))).symm) rfl
           ·
            refine vc_seq ?_
            refine vc_region ?_
            refine oq (qv_eql rfl rfl) ?_
            refine oq (qv_as (.bool (decide (op = 19))) rfl) ?_
            refine ops_nil ?_
            refine vc_if rfl (fun c13 => ?_) (fun c13 => ?_)
            ·
             refine vc_seq ?_
             refine vc_region ?_
             refine oq (qv_mv (Value.int .i64 x) rfl) ?_
             refine oq (qv_neq rfl rfl) ?_
             refine oq (qv_mv (.bool (decide (x ≠ 0))) rfl) ?_
             by_cases g1 : x ≠ 0
             ·
              refine og (qv_mv (Value.int .i64 y) rfl) (want_t g1 rfl rfl rfl) ?_
              refine og (qv_neq rfl rfl) (want_t g1 rfl rfl rfl) ?_
              refine oq (qv_pick_t g1 rfl (rfl : ev _ _ = (.bool (decide (y ≠ 0))))) ?_
              refine oq (qv_call (v := (.int .i64 (flg (y ≠ 0)))) (rFlag_c (p := y ≠ 0)) rfl rfl) ?_
              refine oq (qv_as (.int .i64 (flg (y ≠ 0))) rfl) ?_
              refine oq (qv_as (Value.bool true) rfl) ?_
              refine ops_nil ?_
              refine vc_ret ?_
              refine blockQ_ret ?_
              exact rq2 (.int .i64 (vN op x y)) (.bool (decide (valOk op x y))) (congrArg (Value.int .i64) (show (flg (y ≠ 0)) = (vN op x y) from by first | (rw [vN_o (by omega), val19 (by omega), flg_1 (by omega), flg_1 (by omega)]; done) | (rw [vN_o (by omega), val19 (by omega), flg_0 (by omega), flg_0 (by omega)]; done) | (rw [vN_o (by omega), val19 (by omega), flg_1 trivial, flg_1 (by omega)]; done) | (rw [vN_o (by omega), val19 (by omega), flg_0 id, flg_0 (by omega)]; done) | (rw [vN_o (by omega), val19 (by omega)]; exact flg_iff (by omega)))) (congrArg Value.bool (decide_eq_true (show (valOk op x y) from by exact valOk_o (by omega))).symm) rfl
             ·
              refine os (want_tn g1 rfl rfl rfl) ?_
              refine os (want_tn g1 rfl rfl rfl) ?_
              refine oq (qv_pick_f g1 rfl (rfl : ev _ _ = (Value.bool false))) ?_
              refine oq (qv_call (v := (.int .i64 (flg False))) (rFlag_c (p := False) (ip := instDecidableFalse)) rfl rfl) ?_
              refine oq (qv_as (.int .i64 (flg False)) rfl) ?_
              refine oq (qv_as (Value.bool true) rfl) ?_
              refine ops_nil ?_
              refine vc_ret ?_
              refine blockQ_ret ?_
              exact rq2 (.int .i64 (vN op x y)) (.bool (decide (valOk op x y))) (congrArg (Value.int .i64) (show (flg False) = (vN op x y) from by first | (rw [vN_o (by omega), val19 (by omega), flg_1 (by omega), flg_1 (by omega)]; done) | (rw [vN_o (by omega), val19 (by omega), flg_0 (by omega), flg_0 (by omega)]; done) | (rw [vN_o (by omega), val19 (by omega), flg_1 trivial, flg_1 (by omega)]; done) | (rw [vN_o (by omega), val19 (by omega), flg_0 id, flg_0 (by omega)]; done) | (rw [vN_o (by omega), val19 (by omega)]; exact flg_iff (by omega)))) (congrArg Value.bool (decide_eq_true (show (valOk op x y) from by exact valOk_o (by omega))).symm) rfl
            ·
             refine vc_seq ?_
             refine vc_region ?_
             refine oq (qv_eql rfl rfl) ?_
             refine oq (qv_as (.bool (decide (op = 20))) rfl) ?_
             refine ops_nil ?_
             refine vc_if rfl (fun c14 => ?_) (fun c14 => ?_)
             ·
              refine vc_seq ?_
              refine vc_region ?_
              refine oq (qv_mv (Value.int .i64 x) rfl) ?_
              refine oq (qv_neq rfl rfl) ?_
              refine oq (qv_mv (.bool (decide (x ≠ 0))) rfl) ?_
              by_cases g2 : x ≠ 0
              ·
               refine os (want_fn g2 rfl rfl rfl) ?_
               refine os (want_fn g2 rfl rfl rfl) ?_
               refine oq (qv_pick_t g2 rfl (rfl : ev _ _ = (Value.bool true))) ?_
               refine oq (qv_call (v := (.int .i64 (flg True))) (rFlag_c (p := True) (ip := instDecidableTrue)) rfl rfl) ?_
               refine oq (qv_as (.int .i64 (flg True)) rfl) ?_
               refine oq (qv_as (Value.bool true) rfl) ?_
               refine ops_nil ?_
               refine vc_ret ?_
               refine blockQ_ret ?_
               exact rq2 (.int .i64 (vN op x y)) (.bool (decide (valOk op x y))) (congrArg (Value.int .i64) (show (flg True) = (vN op x y) from by first | (rw [vN_o (by omega), val20 (by omega), flg_1 (by omega), flg_1 (by omega)]; done) | (rw [vN_o (by omega), val20 (by omega), flg_0 (by omega), flg_0 (by omega)]; done) | (rw [vN_o (by omega), val20 (by omega), flg_1 trivial, flg_1 (by omega)]; done) | (rw [vN_o (by omega), val20 (by omega), flg_0 id, flg_0 (by omega)]; done) | (rw [vN_o (by omega), val20 (by omega)]; exact flg_iff (by omega)))) (congrArg Value.bool (decide_eq_true (show (valOk op x y) from by exact valOk_o (by omega))).symm) rfl
              ·
               refine og (qv_mv (Value.int .i64 y) rfl) (want_f g2 rfl rfl rfl) ?_
               refine og (qv_neq rfl rfl) (want_f g2 rfl rfl rfl) ?_
               refine oq (qv_pick_f g2 rfl (rfl : ev _ _ = (.bool (decide (y ≠ 0))))) ?_
               refine oq (qv_call (v := (.int .i64 (flg (y ≠ 0)))) (rFlag_c (p := y ≠ 0)) rfl rfl) ?_
               refine oq (qv_as (.int .i64 (flg (y ≠ 0))) rfl) ?_
               refine oq (qv_as (Value.bool true) rfl) ?_
               refine ops_nil ?_
               refine vc_ret ?_
               refine blockQ_ret ?_
               exact rq2 (.int .i64 (vN op x y)) (.bool (decide (valOk op x y))) (congrArg (Value.int .i64) (show (flg (y ≠ 0)) = (vN op x y) from by first | (rw [vN_o (by omega), val20 (by omega), flg_1 (by omega), flg_1 (by omega)]; done) | (rw [vN_o (by omega), val20 (by omega), flg_0 (by omega), flg_0 (by omega)]; done) | (rw [vN_o (by omega), val20 (by omega), flg_1 trivial, flg_1 (by omega)]; done) | (rw [vN_o (by omega), val20 (by omega), flg_0 id, flg_0 (by omega)]; done) | (rw [vN_o (by omega), val20 (by omega)]; exact flg_iff (by omega)))) (congrArg Value.bool (decide_eq_true (show (valOk op x y) from by exact valOk_o (by omega))).symm) rfl
             ·
              refine vc_seq ?_
              refine vc_region ?_
              refine oq (qv_eql rfl rfl) ?_
              refine oq (qv_as (.bool (decide (op = 21))) rfl) ?_
              refine ops_nil ?_
              refine vc_if rfl (fun c15 => ?_) (fun c15 => ?_)
              ·
               refine vc_seq ?_
               refine vc_seq ?_
               refine vc_region ?_
               refine oq (qv_mv (Value.int .i64 x) rfl) ?_
               refine oq (qv_mv (Value.int .i64 y) rfl) ?_
               refine oq (qv_lss rfl rfl) ?_
               refine ops_nil ?_
               refine vc_if rfl (fun c16 => ?_) (fun c16 => ?_)
               ·
                refine vc_seq ?_
                refine vc_region ?_
                refine oq (qv_mv (Value.int .i64 x) rfl) ?_
                refine oq (qv_as (Value.int .i64 x) rfl) ?_
                refine oq (qv_as (Value.bool true) rfl) ?_
                refine ops_nil ?_
                refine vc_ret ?_
                refine blockQ_ret ?_
                exact rq2 (.int .i64 (vN op x y)) (.bool (decide (valOk op x y))) (congrArg (Value.int .i64) (show x = (vN op x y) from by first | (rw [vN_o (by omega), val21 (by omega), mn_1 (by omega)]; done) | (rw [vN_o (by omega), val21 (by omega), mn_0 (by omega)]; done) | (rw [vN_o (by omega), val21 (by omega)]; first | exact mn_lt (by omega) | exact mn_ge (by omega)))) (congrArg Value.bool (decide_eq_true (show (valOk op x y) from by exact valOk_o (by omega))).symm) rfl
               ·
                refine vc_skip ?_
                refine vc_seq ?_
                refine vc_region ?_
                refine oq (qv_mv (Value.int .i64 y) rfl) ?_
                refine oq (qv_as (Value.int .i64 y) rfl) ?_
                refine oq (qv_as (Value.bool true) rfl) ?_
                refine ops_nil ?_
                refine vc_ret ?_
                refine blockQ_ret ?_
                exact rq2 (.int .i64 (vN op x y)) (.bool (decide (valOk op x y))) (congrArg (Value.int .i64) (show y = (vN op x y) from by first | (rw [vN_o (by omega), val21 (by omega), mn_1 (by omega)]; done) | (rw [vN_o (by omega), val21 (by omega), mn_0 (by omega)]; done) | (rw [vN_o (by omega), val21 (by omega)]; first | exact mn_lt (by omega) | exact mn_ge (by omega)))) (congrArg Value.bool (decide_eq_true (show (valOk op x y) from by exact valOk_o (by omega))).symm) rfl
              ·
               refine vc_skip ?_
               refine vc_seq ?_
               refine vc_seq ?_
               refine vc_region ?_
               refine oq (qv_mv (Value.int .i64 x) rfl) ?_
               refine oq (qv_mv (Value.int .i64 y) rfl) ?_
               refine oq (qv_gtr rfl rfl) ?_
               refine ops_nil ?_
               refine vc_if rfl (fun c17 => ?_) (fun c17 => ?_)
               ·
                refine vc_seq ?_
                refine vc_region ?_
                refine oq (qv_mv (Value.int .i64 x) rfl) ?_
                refine oq (qv_as (Value.int .i64 x) rfl) ?_
                refine oq (qv_as (Value.bool true) rfl) ?_
                refine ops_nil ?_
                refine vc_ret ?_
                exact rq2 (.int .i64 (vN op x y)) (.bool (decide (valOk op x y))) (congrArg (Value.int .i64) (show x = (vN op x y) from by first | (rw [vN_o (by omega), val22 (by omega), mx_1 (by omega)]; done) | (rw [vN_o (by omega), val22 (by omega), mx_0 (by omega)]; done) | (rw [vN_o (by omega), val22 (by omega)]; first | exact mx_gt (by omega) | exact mx_le (by omega) | rfl))) (congrArg Value.bool (decide_eq_true (show (valOk op x y) from by exact valOk_o (by omega))).symm) rfl
               ·
                refine vc_skip ?_
                refine vc_seq ?_
                refine vc_region ?_
                refine oq (qv_mv (Value.int .i64 y) rfl) ?_
                refine oq (qv_as (Value.int .i64 y) rfl) ?_
                refine oq (qv_as (Value.bool true) rfl) ?_
                refine ops_nil ?_
                refine vc_ret ?_
                exact rq2 (.int .i64 (vN op x y)) (.bool (decide (valOk op x y))) (congrArg (Value.int .i64) (show y = (vN op x y) from by first | (rw [vN_o (by omega), val22 (by omega), mx_1 (by omega)]; done) | (rw [vN_o (by omega), val22 (by omega), mx_0 (by omega)]; done) | (rw [vN_o (by omega), val22 (by omega)]; first | exact mx_gt (by omega) | exact mx_le (by omega) | rfl))) (congrArg Value.bool (decide_eq_true (show (valOk op x y) from by exact valOk_o (by omega))).symm) rfl

end Go.Proofs.Ytapkilaikcihgaa
