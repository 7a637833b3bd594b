/- Walks of numeric: what each function returns. Printed by a program out of notes. -/
import Derived.Test.YtapkilaikcihgaaNx
namespace Go.Proofs.Ytapkilaikcihgaa
open Go.Vc
open Classical

set_option maxRecDepth 100000 in
set_option maxHeartbeats 4000000 in
theorem NumericMonotone_n {V : HV} {op : Int} {a c b : Nm} :
    FnC Try.prog 7 [(Value.int .i64 op), (.agg #[(.int .i64 a.l), (.int .i64 a.h), (.int .i64 a.s), (.int .i64 c.l), (.int .i64 c.h), (.int .i64 c.s)]), (.agg #[(.int .i64 b.l), (.int .i64 b.h), (.int .i64 b.s)])] V [] (fun v _ _ => v = (Value.bool true)) := by
 refine fn_intro (N := 77) Try.func7 (by kernel_rfl) rfl rfl rfl (Nat.le_of_ble_eq_true rfl) ?_
 intro w0 D
 refine vc_seq ?_
 refine vc_region ?_
 refine ops_box (v := (.agg #[(.int .i64 a.l), (.int .i64 a.h), (.int .i64 a.s), (.int .i64 c.l), (.int .i64 c.h), (.int .i64 c.s)])) (cs := [(.int .i64 a.l), (.int .i64 a.h), (.int .i64 a.s), (.int .i64 c.l), (.int .i64 c.h), (.int .i64 c.s)]) rfl rfl (fun b1 => ?_)
 refine ops_box (v := (.agg #[(.int .i64 b.l), (.int .i64 b.h), (.int .i64 b.s)])) (cs := [(.int .i64 b.l), (.int .i64 b.h), (.int .i64 b.s)]) rfl rfl (fun b2 => ?_)
 refine oq (qv_as (Value.bool false) rfl) ?_
 refine ops_nil ?_
 refine vc_seq ?_
 refine vc_seq ?_
 refine vc_res (σ' := [(Arr 44 b1 [(.int .i64 a.l), (.int .i64 a.h), (.int .i64 a.s), (.int .i64 c.l), (.int .i64 c.h), (.int .i64 c.s)]), (Arr 23 b2 [(.int .i64 b.l), (.int .i64 b.h), (.int .i64 b.s)])]) rfl ?_
 refine vc_region ?_
 refine oq (qv_call (v := (Value.bool true)) (known_c) rfl rfl) ?_
 refine oq (qv_notc rfl) ?_
 refine ops_nil ?_
 refine vc_ff rfl ?_
 refine vc_skip ?_
 refine vc_seq ?_
 refine vc_seq ?_
 refine vc_region ?_
 refine oq (qv_iaa (i := 0) (off := 0) Try.underlying44 Try.size23 rfl rfl (by omega) (by omega) rfl) ?_
 refine oq (qv_ldm (vs := [(.int .i64 a.l), (.int .i64 a.h), (.int .i64 a.s)]) Try.agg23 rfl (inOc (k := 0) rfl) rfl rfl) ?_
 refine oq (qv_iaa (i := 1) (off := 0) Try.underlying44 Try.size23 rfl rfl (by omega) (by omega) rfl) ?_
 refine oq (qv_ldm (vs := [(.int .i64 c.l), (.int .i64 c.h), (.int .i64 c.s)]) Try.agg23 rfl (inOc (k := 0) rfl) rfl rfl) ?_
 refine oq (qv_call (v := (.bool (decide (vld a ∧ vld c ∧ sub a c)))) (rSubset_c (a := a) (b := c)) rfl rfl) ?_
 refine oq (qv_not rfl) ?_
 refine ops_nil ?_
 refine vc_if rfl (fun c1 => ?_) (fun c1 => ?_)
 ·
  refine vc_seq ?_
  refine vc_region ?_
  refine oq (qv_as (Value.bool true) rfl) ?_
  refine ops_nil ?_
  refine vc_ret ?_
  exact rq1 (Value.bool true) rfl rfl
 ·
  refine vc_skip ?_
  refine vc_seq ?_
  have hs : vld a ∧ vld c ∧ sub a c := Decidable.not_not.1 (by assumption)
  refine vc_region ?_
  refine oq (qv_mv (Value.int .i64 op) rfl) ?_
  refine oq (qv_iaa (i := 0) (off := 0) Try.underlying44 Try.size23 rfl rfl (by omega) (by omega) rfl) ?_
  refine oq (qv_ldm (vs := [(.int .i64 a.l), (.int .i64 a.h), (.int .i64 a.s)]) Try.agg23 rfl (inOc (k := 0) rfl) rfl rfl) ?_
  refine oq (qv_ldm (vs := [(.int .i64 b.l), (.int .i64 b.h), (.int .i64 b.s)]) Try.agg23 rfl (inOc (k := 1) rfl) rfl rfl) ?_
  refine oq (qv_call (v := (.tuple #[(.agg #[(.int .i64 ((biN op a b).l)), (.int .i64 ((biN op a b).h)), (.int .i64 ((biN op a b).s))]), (.int .i64 (biE op a b))])) (Binary_c (a := a) (b := b)) rfl rfl) ?_
  refine oq (qv_mv (.tuple #[(.agg #[(.int .i64 ((biN op a b).l)), (.int .i64 ((biN op a b).h)), (.int .i64 ((biN op a b).s))]), (.int .i64 (biE op a b))]) rfl) ?_
  refine oq (qv_ext (.agg #[(.int .i64 ((biN op a b).l)), (.int .i64 ((biN op a b).h)), (.int .i64 ((biN op a b).s))]) rfl rfl) ?_
  refine oq (qv_ext (.int .i64 (biE op a b)) rfl rfl) ?_
  refine ops_alloc Try.ti23 rfl (fun b3 => ?_)
  refine ops_stw (k := 2) (vs := [(.int .i64 ((biN op a b).l)), (.int .i64 ((biN op a b).h)), (.int .i64 ((biN op a b).s))]) Try.size23 rfl rfl rfl rfl rfl rfl ?_
  refine oq (qv_as (.int .i64 (biE op a b)) rfl) ?_
  refine ops_nil ?_
  refine vc_seq ?_
  refine vc_res (σ' := [(Arr 44 b1 [(.int .i64 a.l), (.int .i64 a.h), (.int .i64 a.s), (.int .i64 c.l), (.int .i64 c.h), (.int .i64 c.s)]), (Arr 23 b2 [(.int .i64 b.l), (.int .i64 b.h), (.int .i64 b.s)]), (Arr 23 b3 [(.int .i64 ((biN op a b).l)), (.int .i64 ((biN op a b).h)), (.int .i64 ((biN op a b).s))])]) rfl ?_
  refine vc_region ?_
  refine oq (qv_mv (Value.int .i64 op) rfl) ?_
  refine oq (qv_iaa (i := 1) (off := 0) Try.underlying44 Try.size23 rfl rfl (by omega) (by omega) rfl) ?_
  refine oq (qv_ldm (vs := [(.int .i64 c.l), (.int .i64 c.h), (.int .i64 c.s)]) Try.agg23 rfl (inOc (k := 0) rfl) rfl rfl) ?_
  refine oq (qv_ldm (vs := [(.int .i64 b.l), (.int .i64 b.h), (.int .i64 b.s)]) Try.agg23 rfl (inOc (k := 1) rfl) rfl rfl) ?_
  refine oq (qv_call (v := (.tuple #[(.agg #[(.int .i64 ((biN op c b).l)), (.int .i64 ((biN op c b).h)), (.int .i64 ((biN op c b).s))]), (.int .i64 (biE op c b))])) (Binary_c (a := c) (b := b)) rfl rfl) ?_
  refine oq (qv_mv (.tuple #[(.agg #[(.int .i64 ((biN op c b).l)), (.int .i64 ((biN op c b).h)), (.int .i64 ((biN op c b).s))]), (.int .i64 (biE op c b))]) rfl) ?_
  refine oq (qv_ext (.agg #[(.int .i64 ((biN op c b).l)), (.int .i64 ((biN op c b).h)), (.int .i64 ((biN op c b).s))]) rfl rfl) ?_
  refine oq (qv_ext (.int .i64 (biE op c b)) rfl rfl) ?_
  refine ops_alloc Try.ti23 rfl (fun b4 => ?_)
  refine ops_stw (k := 3) (vs := [(.int .i64 ((biN op c b).l)), (.int .i64 ((biN op c b).h)), (.int .i64 ((biN op c b).s))]) Try.size23 rfl rfl rfl rfl rfl rfl ?_
  refine oq (qv_as (.int .i64 (biE op c b)) rfl) ?_
  refine ops_nil ?_
  refine vc_seq ?_
  refine vc_res (σ' := [(Arr 44 b1 [(.int .i64 a.l), (.int .i64 a.h), (.int .i64 a.s), (.int .i64 c.l), (.int .i64 c.h), (.int .i64 c.s)]), (Arr 23 b2 [(.int .i64 b.l), (.int .i64 b.h), (.int .i64 b.s)]), (Arr 23 b3 [(.int .i64 ((biN op a b).l)), (.int .i64 ((biN op a b).h)), (.int .i64 ((biN op a b).s))]), (Arr 23 b4 [(.int .i64 ((biN op c b).l)), (.int .i64 ((biN op c b).h)), (.int .i64 ((biN op c b).s))])]) rfl ?_
  refine vc_region ?_
  refine oq (qv_mv (Value.int .i64 op) rfl) ?_
  refine oq (qv_iaa (i := 0) (off := 0) Try.underlying44 Try.size23 rfl rfl (by omega) (by omega) rfl) ?_
  refine oq (qv_ldm (vs := [(.int .i64 a.l), (.int .i64 a.h), (.int .i64 a.s)]) Try.agg23 rfl (inOc (k := 0) rfl) rfl rfl) ?_
  refine oq (qv_call (v := (.tuple #[(.agg #[(.int .i64 ((unN op a).l)), (.int .i64 ((unN op a).h)), (.int .i64 ((unN op a).s))]), (.int .i64 (unE op a))])) (Unary_c (a := a)) rfl rfl) ?_
  refine oq (qv_mv (.tuple #[(.agg #[(.int .i64 ((unN op a).l)), (.int .i64 ((unN op a).h)), (.int .i64 ((unN op a).s))]), (.int .i64 (unE op a))]) rfl) ?_
  refine oq (qv_ext (.agg #[(.int .i64 ((unN op a).l)), (.int .i64 ((unN op a).h)), (.int .i64 ((unN op a).s))]) rfl rfl) ?_
  refine oq (qv_ext (.int .i64 (unE op a)) rfl rfl) ?_
  refine ops_alloc Try.ti23 rfl (fun b5 => ?_)
  refine ops_stw (k := 4) (vs := [(.int .i64 ((unN op a).l)), (.int .i64 ((unN op a).h)), (.int .i64 ((unN op a).s))]) Try.size23 rfl rfl rfl rfl rfl rfl ?_
  refine oq (qv_as (.int .i64 (unE op a)) rfl) ?_
  refine ops_nil ?_
  refine vc_seq ?_
  refine vc_res (σ' := [(Arr 44 b1 [(.int .i64 a.l), (.int .i64 a.h), (.int .i64 a.s), (.int .i64 c.l), (.int .i64 c.h), (.int .i64 c.s)]), (Arr 23 b2 [(.int .i64 b.l), (.int .i64 b.h), (.int .i64 b.s)]), (Arr 23 b3 [(.int .i64 ((biN op a b).l)), (.int .i64 ((biN op a b).h)), (.int .i64 ((biN op a b).s))]), (Arr 23 b4 [(.int .i64 ((biN op c b).l)), (.int .i64 ((biN op c b).h)), (.int .i64 ((biN op c b).s))]), (Arr 23 b5 [(.int .i64 ((unN op a).l)), (.int .i64 ((unN op a).h)), (.int .i64 ((unN op a).s))])]) rfl ?_
  refine vc_region ?_
  refine oq (qv_mv (Value.int .i64 op) rfl) ?_
  refine oq (qv_iaa (i := 1) (off := 0) Try.underlying44 Try.size23 rfl rfl (by omega) (by omega) rfl) ?_
  refine oq (qv_ldm (vs := [(.int .i64 c.l), (.int .i64 c.h), (.int .i64 c.s)]) Try.agg23 rfl (inOc (k := 0) rfl) rfl rfl) ?_
  refine oq (qv_call (v := (.tuple #[(.agg #[(.int .i64 ((unN op c).l)), (.int .i64 ((unN op c).h)), (.int .i64 ((unN op c).s))]), (.int .i64 (unE op c))])) (Unary_c (a := c)) rfl rfl) ?_
  refine oq (qv_mv (.tuple #[(.agg #[(.int .i64 ((unN op c).l)), (.int .i64 ((unN op c).h)), (.int .i64 ((unN op c).s))]), (.int .i64 (unE op c))]) rfl) ?_
  refine oq (qv_ext (.agg #[(.int .i64 ((unN op c).l)), (.int .i64 ((unN op c).h)), (.int .i64 ((unN op c).s))]) rfl rfl) ?_
  refine oq (qv_ext (.int .i64 (unE op c)) rfl rfl) ?_
  refine ops_alloc Try.ti23 rfl (fun b6 => ?_)
  refine ops_stw (k := 5) (vs := [(.int .i64 ((unN op c).l)), (.int .i64 ((unN op c).h)), (.int .i64 ((unN op c).s))]) Try.size23 rfl rfl rfl rfl rfl rfl ?_
  refine oq (qv_as (.int .i64 (unE op c)) rfl) ?_
  refine ops_nil ?_
  refine vc_seq ?_
  refine vc_seq ?_
  refine vc_res (σ' := [(Arr 44 b1 [(.int .i64 a.l), (.int .i64 a.h), (.int .i64 a.s), (.int .i64 c.l), (.int .i64 c.h), (.int .i64 c.s)]), (Arr 23 b2 [(.int .i64 b.l), (.int .i64 b.h), (.int .i64 b.s)]), (Arr 23 b3 [(.int .i64 ((biN op a b).l)), (.int .i64 ((biN op a b).h)), (.int .i64 ((biN op a b).s))]), (Arr 23 b4 [(.int .i64 ((biN op c b).l)), (.int .i64 ((biN op c b).h)), (.int .i64 ((biN op c b).s))]), (Arr 23 b5 [(.int .i64 ((unN op a).l)), (.int .i64 ((unN op a).h)), (.int .i64 ((unN op a).s))]), (Arr 23 b6 [(.int .i64 ((unN op c).l)), (.int .i64 ((unN op c).h)), (.int .i64 ((unN op c).s))])]) rfl ?_
  refine vc_region ?_
  refine oq (qv_mv (.int .i64 (biE op c b)) rfl) ?_
  refine oq (qv_eql rfl rfl) ?_
  refine oq (qv_mv (.bool (decide ((biE op c b) = 0))) rfl) ?_
  by_cases g1 : (biE op c b) = 0
  ·
   refine og (qv_mv (.int .i64 (biE op a b)) rfl) (want_t g1 rfl rfl rfl) ?_
   refine og (qv_neq rfl rfl) (want_t g1 rfl rfl rfl) ?_
   refine og (qv_mv (.bool (decide ((biE op a b) ≠ 0))) rfl) (want_t g1 rfl rfl rfl) ?_
   by_cases g2 : (biE op a b) ≠ 0
   ·
    exact absurd (bi_mono hs.1 hs.2.2 (by assumption)).1 g2
   ·
    refine og (qv_ldm (vs := [(.int .i64 ((biN op a b).l)), (.int .i64 ((biN op a b).h)), (.int .i64 ((biN op a b).s))]) Try.agg23 rfl (inOc (k := 2) rfl) rfl rfl) (want_f g2 rfl rfl rfl) ?_
    refine og (qv_ldm (vs := [(.int .i64 ((biN op c b).l)), (.int .i64 ((biN op c b).h)), (.int .i64 ((biN op c b).s))]) Try.agg23 rfl (inOc (k := 3) rfl) rfl rfl) (want_f g2 rfl rfl rfl) ?_
    refine og (qv_call (v := (.bool (decide (vld (biN op a b) ∧ vld (biN op c b) ∧ sub (biN op a b) (biN op c b))))) (Subset_c (a := biN op a b) (b := biN op c b)) rfl rfl) (want_f g2 rfl rfl rfl) ?_
    refine og (qv_not rfl) (want_f g2 rfl rfl rfl) ?_
    refine og (qv_pick_f g2 rfl (rfl : ev _ _ = (.bool (decide (¬ (vld (biN op a b) ∧ vld (biN op c b) ∧ sub (biN op a b) (biN op c b))))))) (want_t g1 rfl rfl rfl) ?_
    refine oq (qv_pick_t g1 rfl (rfl : ev _ _ = (.bool (decide (¬ (vld (biN op a b) ∧ vld (biN op c b) ∧ sub (biN op a b) (biN op c b))))))) ?_
    refine ops_nil ?_
    refine vc_if rfl (fun c2 => ?_) (fun c2 => ?_)
    ·
     exact absurd (bi_mono hs.1 hs.2.2 (by assumption)).2 c2
    ·
     refine vc_skip ?_
     refine vc_seq ?_
     refine vc_region ?_
     refine oq (qv_mv (.int .i64 (unE op a)) rfl) ?_
     refine oq (qv_mv (.int .i64 (unE op c)) rfl) ?_
     refine oq (qv_eql rfl rfl) ?_
     refine oq (qv_mv (.bool (decide ((unE op a) = (unE op c)))) rfl) ?_
     by_cases g3 : (unE op a) = (unE op c)
     ·
      refine og (qv_mv (.int .i64 (unE op a)) rfl) (want_t g3 rfl rfl rfl) ?_
      refine og (qv_neq rfl rfl) (want_t g3 rfl rfl rfl) ?_
      refine og (qv_mv (.bool (decide ((unE op a) ≠ 0))) rfl) (want_t g3 rfl rfl rfl) ?_
      by_cases g4 : (unE op a) ≠ 0
      ·
       refine os (want_fn g4 rfl rfl rfl) ?_
       refine os (want_fn g4 rfl rfl rfl) ?_
       refine os (want_fn g4 rfl rfl rfl) ?_
       refine og (qv_pick_t g4 rfl (rfl : ev _ _ = (Value.bool true))) (want_t g3 rfl rfl rfl) ?_
       refine oq (qv_pick_t g3 rfl (rfl : ev _ _ = (Value.bool true))) ?_
       refine oq (qv_as (Value.bool true) rfl) ?_
       refine ops_nil ?_
       refine vc_ret ?_
       exact rq1 (Value.bool true) rfl rfl
      ·
       refine og (qv_ldm (vs := [(.int .i64 ((unN op a).l)), (.int .i64 ((unN op a).h)), (.int .i64 ((unN op a).s))]) Try.agg23 rfl (inOc (k := 4) rfl) rfl rfl) (want_f g4 rfl rfl rfl) ?_
       refine og (qv_ldm (vs := [(.int .i64 ((unN op c).l)), (.int .i64 ((unN op c).h)), (.int .i64 ((unN op c).s))]) Try.agg23 rfl (inOc (k := 5) rfl) rfl rfl) (want_f g4 rfl rfl rfl) ?_
       refine og (qv_call (v := (.bool (decide (vld (unN op a) ∧ vld (unN op c) ∧ sub (unN op a) (unN op c))))) (Subset_c (a := unN op a) (b := unN op c)) rfl rfl) (want_f g4 rfl rfl rfl) ?_
       refine og (qv_pick_f g4 rfl (rfl : ev _ _ = (.bool (decide (vld (unN op a) ∧ vld (unN op c) ∧ sub (unN op a) (unN op c)))))) (want_t g3 rfl rfl rfl) ?_
       refine oq (qv_pick_t g3 rfl (rfl : ev _ _ = (.bool (decide (vld (unN op a) ∧ vld (unN op c) ∧ sub (unN op a) (unN op c)))))) ?_
       refine oq (qv_as (.bool (decide (vld (unN op a) ∧ vld (unN op c) ∧ sub (unN op a) (unN op c)))) rfl) ?_
       refine ops_nil ?_
       refine vc_ret ?_
       exact rq1 (Value.bool true) (congrArg Value.bool (decide_eq_true (show (vld (unN op a) ∧ vld (unN op c) ∧ sub (unN op a) (unN op c)) from by exact un_mono hs.1 hs.2.2 (by omega)))) rfl
     ·
      exact absurd (un_same hs.1 hs.2.1) g3
  ·
   refine os (want_tn g1 rfl rfl rfl) ?_
   refine os (want_tn g1 rfl rfl rfl) ?_
   refine os (want_tn g1 rfl rfl rfl) ?_
   refine os (want_u rfl rfl rfl) ?_
   refine os (want_u rfl rfl rfl) ?_
   refine os (want_u rfl rfl rfl) ?_
   refine os (want_u rfl rfl rfl) ?_
   refine os (want_tn g1 rfl rfl rfl) ?_
   refine oq (qv_pick_f g1 rfl (rfl : ev _ _ = (Value.bool false))) ?_
   refine ops_nil ?_
   refine vc_ff rfl ?_
   refine vc_skip ?_
   refine vc_seq ?_
   refine vc_region ?_
   refine oq (qv_mv (.int .i64 (unE op a)) rfl) ?_
   refine oq (qv_mv (.int .i64 (unE op c)) rfl) ?_
   refine oq (qv_eql rfl rfl) ?_
   refine oq (qv_mv (.bool (decide ((unE op a) = (unE op c)))) rfl) ?_
   by_cases g5 : (unE op a) = (unE op c)
   ·
    refine og (qv_mv (.int .i64 (unE op a)) rfl) (want_t g5 rfl rfl rfl) ?_
    refine og (qv_neq rfl rfl) (want_t g5 rfl rfl rfl) ?_
    refine og (qv_mv (.bool (decide ((unE op a) ≠ 0))) rfl) (want_t g5 rfl rfl rfl) ?_
    by_cases g6 : (unE op a) ≠ 0
    ·
     refine os (want_fn g6 rfl rfl rfl) ?_
     refine os (want_fn g6 rfl rfl rfl) ?_
     refine os (want_fn g6 rfl rfl rfl) ?_
     refine og (qv_pick_t g6 rfl (rfl : ev _ _ = (Value.bool true))) (want_t g5 rfl rfl rfl) ?_
     refine oq (qv_pick_t g5 rfl (rfl : ev _ _ = (Value.bool true))) ?_
     refine oq (qv_as (Value.bool true) rfl) ?_
     refine ops_nil ?_
     refine vc_ret ?_
     exact rq1 (Value.bool true) rfl rfl
    ·
     refine og (qv_ldm (vs := [(.int .i64 ((unN op a).l)), (.int .i64 ((unN op a).h)), (.int .i64 ((unN op a).s))]) Try.agg23 rfl (inOc (k := 4) rfl) rfl rfl) (want_f g6 rfl rfl rfl) ?_
     refine og (qv_ldm (vs := [(.int .i64 ((unN op c).l)), (.int .i64 ((unN op c).h)), (.int .i64 ((unN op c).s))]) Try.agg23 rfl (inOc (k := 5) rfl) rfl rfl) (want_f g6 rfl rfl rfl) ?_
     refine og (qv_call (v := (.bool (decide (vld (unN op a) ∧ vld (unN op c) ∧ sub (unN op a) (unN op c))))) (Subset_c (a := unN op a) (b := unN op c)) rfl rfl) (want_f g6 rfl rfl rfl) ?_
     refine og (qv_pick_f g6 rfl (rfl : ev _ _ = (.bool (decide (vld (unN op a) ∧ vld (unN op c) ∧ sub (unN op a) (unN op c)))))) (want_t g5 rfl rfl rfl) ?_
     refine oq (qv_pick_t g5 rfl (rfl : ev _ _ = (.bool (decide (vld (unN op a) ∧ vld (unN op c) ∧ sub (unN op a) (unN op c)))))) ?_
     refine oq (qv_as (.bool (decide (vld (unN op a) ∧ vld (unN op c) ∧ sub (unN op a) (unN op c)))) rfl) ?_
     refine ops_nil ?_
     refine vc_ret ?_
     exact rq1 (Value.bool true) (congrArg Value.bool (decide_eq_true (show (vld (unN op a) ∧ vld (unN op c) ∧ sub (unN op a) (unN op c)) from by exact un_mono hs.1 hs.2.2 (by omega)))) rfl
   ·
    exact absurd (un_same hs.1 hs.2.1) g5

theorem NumericMonotone_c {V : HV} {op al ah ax bl bh bx cl ch cx : Int} : FnC Try.prog 7 [.int .i64 op, Value.agg #[.int .i64 al, .int .i64 ah, .int .i64 ax, .int .i64 bl, .int .i64 bh, .int .i64 bx], Value.agg #[.int .i64 cl, .int .i64 ch, .int .i64 cx]] V [] (fun v _ _ => v = .bool true) := NumericMonotone_n (a := ⟨al, ah, ax⟩) (c := ⟨bl, bh, bx⟩) (b := ⟨cl, ch, cx⟩)
end Go.Proofs.Ytapkilaikcihgaa
