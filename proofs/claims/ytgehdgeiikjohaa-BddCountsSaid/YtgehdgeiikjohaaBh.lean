/- Walks of bdd: what each function returns. Printed by a program out of notes. -/
import Derived.Test.YtgehdgeiikjohaaBg
import Derived.Test.YtgehdgeiikjohaaWd
namespace Go.Proofs.Ytgehdgeiikjohaa
open Go.Vc
open Classical

set_option maxRecDepth 100000 in
set_option maxHeartbeats 4000000 in
theorem Apply1_c {V : HV} {op : Int} (h0 : 0 ≤ op) (h1 : op ≤ 15) {p0 p1 p2 : Prop} [Decidable p0] [Decidable p1] [Decidable p2] {b : Nat} (hb : Cells V b [Value.int .i64 op]) :
    FnC Try.prog 56 [(.agg #[(.bool (decide (p0))), (.bool (decide (p1))), (.bool (decide (p2)))]), (Value.pointer (some ⟨b, 0, none⟩))] V [] (fun v _ _ => v = .bool (opF op (decide p0) (decide p1) (decide p2))) := by
 refine fn_intro (N := 18) Try.func56 (by kernel_rfl) rfl rfl rfl (Nat.le_of_ble_eq_true rfl) ?_
 intro w0 D
 refine vc_seq ?_
 refine vc_region ?_
 refine ops_box (v := (.agg #[(.bool (decide (p0))), (.bool (decide (p1))), (.bool (decide (p2)))])) (cs := [(.bool (decide (p0))), (.bool (decide (p1))), (.bool (decide (p2)))]) rfl rfl (fun b1 => ?_)
 refine oq (qv_as (Value.bool false) rfl) ?_
 refine ops_nil ?_
 refine vc_seq ?_
 refine vc_res (σ' := [(Arr 84 b1 [(.bool (decide (p0))), (.bool (decide (p1))), (.bool (decide (p2)))])]) rfl ?_
 refine vc_region ?_
 refine oq (qv_as (Value.int .i64 0) rfl) ?_
 refine ops_nil ?_
 refine vc_seq ?_
 refine vc_seq ?_
 refine vc_region ?_
 refine oq (qv_iaa (i := 0) (off := 0) Try.underlying84 Try.size4 rfl rfl (by omega) (by omega) rfl) ?_
 refine oq (qv_ldp (v := (.bool (decide (p0)))) Try.plain4 rfl (inOc (k := 0) rfl) rfl) ?_
 refine ops_nil ?_
 refine vc_if rfl (fun c1 => ?_) (fun c1 => ?_)
 ·
  refine vc_region ?_
  refine oq (qv_mv (Value.int .i64 0) rfl) ?_
  refine oq (qv_add rfl rfl (by omega)) ?_
  refine oq (qv_as (.int .i64 (0 + 2)) rfl) ?_
  refine ops_nil ?_
  refine vc_seq ?_
  refine vc_seq ?_
  refine vc_region ?_
  refine oq (qv_iaa (i := 1) (off := 0) Try.underlying84 Try.size4 rfl rfl (by omega) (by omega) rfl) ?_
  refine oq (qv_ldp (v := (.bool (decide (p1)))) Try.plain4 rfl (inOc (k := 0) rfl) rfl) ?_
  refine ops_nil ?_
  refine vc_if rfl (fun c2 => ?_) (fun c2 => ?_)
  ·
   refine vc_region ?_
   refine oq (qv_mv (.int .i64 (0 + 2)) rfl) ?_
   refine oq (qv_add rfl rfl (by omega)) ?_
   refine oq (qv_as (.int .i64 ((0 + 2) + 1)) rfl) ?_
   refine ops_nil ?_
   refine vc_seq ?_
   refine vc_region ?_
   refine oq (qv_ldp (v := (Value.int .i64 op)) Try.plain3 rfl (inVc hb) rfl) ?_
   refine oq (qv_mv (.int .i64 ((0 + 2) + 1)) rfl) ?_
   refine oq (qv_shri rfl rfl (by omega) (by omega)) ?_
   refine oq (qv_and1 rfl rfl (Int.ediv_nonneg (by omega) (Int.le_of_lt (Int.pow_pos (by omega))))) ?_
   refine oq (qv_eql rfl rfl) ?_
   refine oq (qv_as (.bool (decide (((op / 2 ^ ((0 + 2) + 1 : Int).toNat) % 2) = 1))) rfl) ?_
   refine ops_nil ?_
   refine vc_ret ?_
   refine rq1 (.bool (decide (((op / 2 ^ ((0 + 2) + 1 : Int).toNat) % 2) = 1))) rfl ?_
   show Value.bool _ = Value.bool _
   unfold opF
   rw [decide_eq_true c1, decide_eq_true c2]
   rfl
  ·
   refine vc_skip ?_
   refine vc_seq ?_
   refine vc_region ?_
   refine oq (qv_ldp (v := (Value.int .i64 op)) Try.plain3 rfl (inVc hb) rfl) ?_
   refine oq (qv_mv (.int .i64 (0 + 2)) rfl) ?_
   refine oq (qv_shri rfl rfl (by omega) (by omega)) ?_
   refine oq (qv_and1 rfl rfl (Int.ediv_nonneg (by omega) (Int.le_of_lt (Int.pow_pos (by omega))))) ?_
   refine oq (qv_eql rfl rfl) ?_
   refine oq (qv_as (.bool (decide (((op / 2 ^ (0 + 2 : Int).toNat) % 2) = 1))) rfl) ?_
   refine ops_nil ?_
   refine vc_ret ?_
   refine rq1 (.bool (decide (((op / 2 ^ (0 + 2 : Int).toNat) % 2) = 1))) rfl ?_
   show Value.bool _ = Value.bool _
   unfold opF
   rw [decide_eq_true c1, decide_eq_false c2]
   rfl
 ·
  refine vc_skip ?_
  refine vc_seq ?_
  refine vc_seq ?_
  refine vc_region ?_
  refine oq (qv_iaa (i := 1) (off := 0) Try.underlying84 Try.size4 rfl rfl (by omega) (by omega) rfl) ?_
  refine oq (qv_ldp (v := (.bool (decide (p1)))) Try.plain4 rfl (inOc (k := 0) rfl) rfl) ?_
  refine ops_nil ?_
  refine vc_if rfl (fun c3 => ?_) (fun c3 => ?_)
  ·
   refine vc_region ?_
   refine oq (qv_mv (Value.int .i64 0) rfl) ?_
   refine oq (qv_add rfl rfl (by omega)) ?_
   refine oq (qv_as (.int .i64 (0 + 1)) rfl) ?_
   refine ops_nil ?_
   refine vc_seq ?_
   refine vc_region ?_
   refine oq (qv_ldp (v := (Value.int .i64 op)) Try.plain3 rfl (inVc hb) rfl) ?_
   refine oq (qv_mv (.int .i64 (0 + 1)) rfl) ?_
   refine oq (qv_shri rfl rfl (by omega) (by omega)) ?_
   refine oq (qv_and1 rfl rfl (Int.ediv_nonneg (by omega) (Int.le_of_lt (Int.pow_pos (by omega))))) ?_
   refine oq (qv_eql rfl rfl) ?_
   refine oq (qv_as (.bool (decide (((op / 2 ^ (0 + 1 : Int).toNat) % 2) = 1))) rfl) ?_
   refine ops_nil ?_
   refine vc_ret ?_
   refine rq1 (.bool (decide (((op / 2 ^ (0 + 1 : Int).toNat) % 2) = 1))) rfl ?_
   show Value.bool _ = Value.bool _
   unfold opF
   rw [decide_eq_false c1, decide_eq_true c3]
   rfl
  ·
   refine vc_skip ?_
   refine vc_seq ?_
   refine vc_region ?_
   refine oq (qv_ldp (v := (Value.int .i64 op)) Try.plain3 rfl (inVc hb) rfl) ?_
   refine oq (qv_mv (Value.int .i64 0) rfl) ?_
   refine oq (qv_shri rfl rfl (by omega) (by omega)) ?_
   refine oq (qv_and1 rfl rfl (Int.ediv_nonneg (by omega) (Int.le_of_lt (Int.pow_pos (by omega))))) ?_
   refine oq (qv_eql rfl rfl) ?_
   refine oq (qv_as (.bool (decide (((op / 2 ^ (0 : Int).toNat) % 2) = 1))) rfl) ?_
   refine ops_nil ?_
   refine vc_ret ?_
   refine rq1 (.bool (decide (((op / 2 ^ (0 : Int).toNat) % 2) = 1))) rfl ?_
   show Value.bool _ = Value.bool _
   unfold opF
   rw [decide_eq_false c1, decide_eq_false c3]
   rfl

set_option maxRecDepth 100000 in
set_option maxHeartbeats 4000000 in
theorem Not1_c {V : HV} {p0 p1 p2 : Prop} [Decidable p0] [Decidable p1] [Decidable p2] :
    FnC Try.prog 57 [(.agg #[(.bool (decide (p0))), (.bool (decide (p1))), (.bool (decide (p2)))])] V [] (fun v _ _ => v = .bool (notF (decide p0) (decide p1) (decide p2))) := by
 refine fn_intro (N := 6) Try.func57 (by kernel_rfl) rfl rfl rfl (Nat.le_of_ble_eq_true rfl) ?_
 intro w0 D
 refine vc_seq ?_
 refine vc_region ?_
 refine ops_box (v := (.agg #[(.bool (decide (p0))), (.bool (decide (p1))), (.bool (decide (p2)))])) (cs := [(.bool (decide (p0))), (.bool (decide (p1))), (.bool (decide (p2)))]) rfl rfl (fun b1 => ?_)
 refine oq (qv_as (Value.bool false) rfl) ?_
 refine ops_nil ?_
 refine vc_seq ?_
 refine vc_res (σ' := [(Arr 84 b1 [(.bool (decide (p0))), (.bool (decide (p1))), (.bool (decide (p2)))])]) rfl ?_
 refine vc_region ?_
 refine oq (qv_iaa (i := 0) (off := 0) Try.underlying84 Try.size4 rfl rfl (by omega) (by omega) rfl) ?_
 refine oq (qv_ldp (v := (.bool (decide (p0)))) Try.plain4 rfl (inOc (k := 0) rfl) rfl) ?_
 refine oq (qv_not rfl) ?_
 refine oq (qv_as (.bool (decide (¬ (p0)))) rfl) ?_
 refine ops_nil ?_
 refine vc_ret ?_
 refine rq1 (.bool (decide (¬ (p0)))) rfl ?_
 show Value.bool _ = Value.bool _
 unfold notF
 by_cases q0 : p0 <;> by_cases q1 : p1 <;> by_cases q2 : p2 <;> simp [q0, q1, q2]

set_option maxRecDepth 100000 in
set_option maxHeartbeats 4000000 in
theorem choose1_c {V : HV} {p0 p1 p2 : Prop} [Decidable p0] [Decidable p1] [Decidable p2] :
    FnC Try.prog 77 [(.agg #[(.bool (decide (p0))), (.bool (decide (p1))), (.bool (decide (p2)))])] V [] (fun v _ _ => v = .bool (iteF (decide p0) (decide p1) (decide p2))) := by
 refine fn_intro (N := 9) Try.func77 (by kernel_rfl) rfl rfl rfl (Nat.le_of_ble_eq_true rfl) ?_
 intro w0 D
 refine vc_seq ?_
 refine vc_region ?_
 refine ops_box (v := (.agg #[(.bool (decide (p0))), (.bool (decide (p1))), (.bool (decide (p2)))])) (cs := [(.bool (decide (p0))), (.bool (decide (p1))), (.bool (decide (p2)))]) rfl rfl (fun b1 => ?_)
 refine oq (qv_as (Value.bool false) rfl) ?_
 refine ops_nil ?_
 refine vc_seq ?_
 refine vc_seq ?_
 refine vc_res (σ' := [(Arr 84 b1 [(.bool (decide (p0))), (.bool (decide (p1))), (.bool (decide (p2)))])]) rfl ?_
 refine vc_region ?_
 refine oq (qv_iaa (i := 0) (off := 0) Try.underlying84 Try.size4 rfl rfl (by omega) (by omega) rfl) ?_
 refine oq (qv_ldp (v := (.bool (decide (p0)))) Try.plain4 rfl (inOc (k := 0) rfl) rfl) ?_
 refine ops_nil ?_
 refine vc_if rfl (fun c1 => ?_) (fun c1 => ?_)
 ·
  refine vc_seq ?_
  refine vc_region ?_
  refine oq (qv_iaa (i := 1) (off := 0) Try.underlying84 Try.size4 rfl rfl (by omega) (by omega) rfl) ?_
  refine oq (qv_ldp (v := (.bool (decide (p1)))) Try.plain4 rfl (inOc (k := 0) rfl) rfl) ?_
  refine oq (qv_as (.bool (decide (p1))) rfl) ?_
  refine ops_nil ?_
  refine vc_ret ?_
  refine rq1 (.bool (decide (p1))) rfl ?_
  show Value.bool _ = Value.bool _
  unfold iteF
  rw [decide_eq_true c1]
  by_cases q0 : p0 <;> by_cases q1 : p1 <;> by_cases q2 : p2 <;> simp [q0, q1, q2]
 ·
  refine vc_skip ?_
  refine vc_seq ?_
  refine vc_region ?_
  refine oq (qv_iaa (i := 2) (off := 0) Try.underlying84 Try.size4 rfl rfl (by omega) (by omega) rfl) ?_
  refine oq (qv_ldp (v := (.bool (decide (p2)))) Try.plain4 rfl (inOc (k := 0) rfl) rfl) ?_
  refine oq (qv_as (.bool (decide (p2))) rfl) ?_
  refine ops_nil ?_
  refine vc_ret ?_
  refine rq1 (.bool (decide (p2))) rfl ?_
  show Value.bool _ = Value.bool _
  unfold iteF
  rw [decide_eq_false c1]
  by_cases q0 : p0 <;> by_cases q1 : p1 <;> by_cases q2 : p2 <;> simp [q0, q1, q2]

set_option maxRecDepth 100000 in
set_option maxHeartbeats 4000000 in
theorem Implies1_c {V : HV} {p0 p1 p2 : Prop} [Decidable p0] [Decidable p1] [Decidable p2] :
    FnC Try.prog 63 [(.agg #[(.bool (decide (p0))), (.bool (decide (p1))), (.bool (decide (p2)))])] V [] (fun v _ _ => v = .bool (impF (decide p0) (decide p1) (decide p2))) := by
 refine fn_intro (N := 10) Try.func63 (by kernel_rfl) rfl rfl rfl (Nat.le_of_ble_eq_true rfl) ?_
 intro w0 D
 refine vc_seq ?_
 refine vc_region ?_
 refine ops_box (v := (.agg #[(.bool (decide (p0))), (.bool (decide (p1))), (.bool (decide (p2)))])) (cs := [(.bool (decide (p0))), (.bool (decide (p1))), (.bool (decide (p2)))]) rfl rfl (fun b1 => ?_)
 refine oq (qv_as (Value.bool false) rfl) ?_
 refine ops_nil ?_
 refine vc_seq ?_
 refine vc_res (σ' := [(Arr 84 b1 [(.bool (decide (p0))), (.bool (decide (p1))), (.bool (decide (p2)))])]) rfl ?_
 refine vc_region ?_
 refine oq (qv_iaa (i := 0) (off := 0) Try.underlying84 Try.size4 rfl rfl (by omega) (by omega) rfl) ?_
 refine oq (qv_ldp (v := (.bool (decide (p0)))) Try.plain4 rfl (inOc (k := 0) rfl) rfl) ?_
 refine oq (qv_mv (.bool (decide (p0))) rfl) ?_
 by_cases g1 : p0
 ·
  refine og (qv_iaa (i := 1) (off := 0) Try.underlying84 Try.size4 rfl rfl (by omega) (by omega) rfl) (want_t g1 rfl rfl rfl) ?_
  refine og (qv_ldp (v := (.bool (decide (p1)))) Try.plain4 rfl (inOc (k := 0) rfl) rfl) (want_t g1 rfl rfl rfl) ?_
  refine og (qv_not rfl) (want_t g1 rfl rfl rfl) ?_
  refine oq (qv_pick_t g1 rfl (rfl : ev _ _ = (.bool (decide (¬ (p1)))))) ?_
  refine oq (qv_as (.bool (decide (¬ (p1)))) rfl) ?_
  refine ops_nil ?_
  refine vc_ret ?_
  refine rq1 (.bool (decide (¬ (p1)))) rfl ?_
  show Value.bool _ = Value.bool _
  unfold impF
  rw [decide_eq_true g1]
  by_cases q0 : p0 <;> by_cases q1 : p1 <;> by_cases q2 : p2 <;> simp [q0, q1, q2]
 ·
  refine os (want_tn g1 rfl rfl rfl) ?_
  refine os (want_tn g1 rfl rfl rfl) ?_
  refine os (want_tn g1 rfl rfl rfl) ?_
  refine oq (qv_pick_f g1 rfl (rfl : ev _ _ = (Value.bool false))) ?_
  refine oq (qv_as (Value.bool false) rfl) ?_
  refine ops_nil ?_
  refine vc_ret ?_
  refine rq1 (Value.bool false) rfl ?_
  show Value.bool _ = Value.bool _
  unfold impF
  rw [decide_eq_false g1]
  by_cases q0 : p0 <;> by_cases q1 : p1 <;> by_cases q2 : p2 <;> simp [q0, q1, q2]

set_option maxRecDepth 100000 in
set_option maxHeartbeats 4000000 in
theorem Exists1_c {V : HV} {p0 p1 p2 : Prop} [Decidable p0] [Decidable p1] [Decidable p2] :
    FnC Try.prog 69 [(.agg #[(.bool (decide (p0))), (.bool (decide (p1))), (.bool (decide (p2)))])] V [] (fun v _ _ => v = .bool (orF (decide p0) (decide p1) (decide p2))) := by
 refine fn_intro (N := 9) Try.func69 (by kernel_rfl) rfl rfl rfl (Nat.le_of_ble_eq_true rfl) ?_
 intro w0 D
 refine vc_seq ?_
 refine vc_region ?_
 refine ops_box (v := (.agg #[(.bool (decide (p0))), (.bool (decide (p1))), (.bool (decide (p2)))])) (cs := [(.bool (decide (p0))), (.bool (decide (p1))), (.bool (decide (p2)))]) rfl rfl (fun b1 => ?_)
 refine oq (qv_as (Value.bool false) rfl) ?_
 refine ops_nil ?_
 refine vc_seq ?_
 refine vc_res (σ' := [(Arr 84 b1 [(.bool (decide (p0))), (.bool (decide (p1))), (.bool (decide (p2)))])]) rfl ?_
 refine vc_region ?_
 refine oq (qv_iaa (i := 0) (off := 0) Try.underlying84 Try.size4 rfl rfl (by omega) (by omega) rfl) ?_
 refine oq (qv_ldp (v := (.bool (decide (p0)))) Try.plain4 rfl (inOc (k := 0) rfl) rfl) ?_
 refine oq (qv_mv (.bool (decide (p0))) rfl) ?_
 by_cases g1 : p0
 ·
  refine os (want_fn g1 rfl rfl rfl) ?_
  refine os (want_fn g1 rfl rfl rfl) ?_
  refine oq (qv_pick_t g1 rfl (rfl : ev _ _ = (Value.bool true))) ?_
  refine oq (qv_as (Value.bool true) rfl) ?_
  refine ops_nil ?_
  refine vc_ret ?_
  refine rq1 (Value.bool true) rfl ?_
  show Value.bool _ = Value.bool _
  unfold orF
  rw [decide_eq_true g1]
  by_cases q0 : p0 <;> by_cases q1 : p1 <;> by_cases q2 : p2 <;> simp [q0, q1, q2]
 ·
  refine og (qv_iaa (i := 1) (off := 0) Try.underlying84 Try.size4 rfl rfl (by omega) (by omega) rfl) (want_f g1 rfl rfl rfl) ?_
  refine og (qv_ldp (v := (.bool (decide (p1)))) Try.plain4 rfl (inOc (k := 0) rfl) rfl) (want_f g1 rfl rfl rfl) ?_
  refine oq (qv_pick_f g1 rfl (rfl : ev _ _ = (.bool (decide (p1))))) ?_
  refine oq (qv_as (.bool (decide (p1))) rfl) ?_
  refine ops_nil ?_
  refine vc_ret ?_
  refine rq1 (.bool (decide (p1))) rfl ?_
  show Value.bool _ = Value.bool _
  unfold orF
  rw [decide_eq_false g1]
  by_cases q0 : p0 <;> by_cases q1 : p1 <;> by_cases q2 : p2 <;> simp [q0, q1, q2]

set_option maxRecDepth 100000 in
set_option maxHeartbeats 4000000 in
theorem Forall1_c {V : HV} {p0 p1 p2 : Prop} [Decidable p0] [Decidable p1] [Decidable p2] :
    FnC Try.prog 70 [(.agg #[(.bool (decide (p0))), (.bool (decide (p1))), (.bool (decide (p2)))])] V [] (fun v _ _ => v = .bool (andF (decide p0) (decide p1) (decide p2))) := by
 refine fn_intro (N := 9) Try.func70 (by kernel_rfl) rfl rfl rfl (Nat.le_of_ble_eq_true rfl) ?_
 intro w0 D
 refine vc_seq ?_
 refine vc_region ?_
 refine ops_box (v := (.agg #[(.bool (decide (p0))), (.bool (decide (p1))), (.bool (decide (p2)))])) (cs := [(.bool (decide (p0))), (.bool (decide (p1))), (.bool (decide (p2)))]) rfl rfl (fun b1 => ?_)
 refine oq (qv_as (Value.bool false) rfl) ?_
 refine ops_nil ?_
 refine vc_seq ?_
 refine vc_res (σ' := [(Arr 84 b1 [(.bool (decide (p0))), (.bool (decide (p1))), (.bool (decide (p2)))])]) rfl ?_
 refine vc_region ?_
 refine oq (qv_iaa (i := 0) (off := 0) Try.underlying84 Try.size4 rfl rfl (by omega) (by omega) rfl) ?_
 refine oq (qv_ldp (v := (.bool (decide (p0)))) Try.plain4 rfl (inOc (k := 0) rfl) rfl) ?_
 refine oq (qv_mv (.bool (decide (p0))) rfl) ?_
 by_cases g1 : p0
 ·
  refine og (qv_iaa (i := 1) (off := 0) Try.underlying84 Try.size4 rfl rfl (by omega) (by omega) rfl) (want_t g1 rfl rfl rfl) ?_
  refine og (qv_ldp (v := (.bool (decide (p1)))) Try.plain4 rfl (inOc (k := 0) rfl) rfl) (want_t g1 rfl rfl rfl) ?_
  refine oq (qv_pick_t g1 rfl (rfl : ev _ _ = (.bool (decide (p1))))) ?_
  refine oq (qv_as (.bool (decide (p1))) rfl) ?_
  refine ops_nil ?_
  refine vc_ret ?_
  refine rq1 (.bool (decide (p1))) rfl ?_
  show Value.bool _ = Value.bool _
  unfold andF
  rw [decide_eq_true g1]
  by_cases q0 : p0 <;> by_cases q1 : p1 <;> by_cases q2 : p2 <;> simp [q0, q1, q2]
 ·
  refine os (want_tn g1 rfl rfl rfl) ?_
  refine os (want_tn g1 rfl rfl rfl) ?_
  refine oq (qv_pick_f g1 rfl (rfl : ev _ _ = (Value.bool false))) ?_
  refine oq (qv_as (Value.bool false) rfl) ?_
  refine ops_nil ?_
  refine vc_ret ?_
  refine rq1 (Value.bool false) rfl ?_
  show Value.bool _ = Value.bool _
  unfold andF
  rw [decide_eq_false g1]
  by_cases q0 : p0 <;> by_cases q1 : p1 <;> by_cases q2 : p2 <;> simp [q0, q1, q2]

end Go.Proofs.Ytgehdgeiikjohaa
