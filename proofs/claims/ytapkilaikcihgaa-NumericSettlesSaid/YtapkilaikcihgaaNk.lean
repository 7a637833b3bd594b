/- Walks of numeric: what each function returns. Printed by a program out of notes. -/
import Derived.Test.YtapkilaikcihgaaNj
namespace Go.Proofs.Ytapkilaikcihgaa
open Go.Vc
open Classical

set_option maxRecDepth 100000 in
set_option maxHeartbeats 4000000 in
theorem meet0_c {V : HV} {a b : Nm} (ha : vld a) (hb : vld b) (h0 : a.s = 0) :
    FnC Try.prog 52 [(Value.agg #[(Value.int .i64 (a.l)), (Value.int .i64 (a.h)), (Value.int .i64 (a.s))]), (Value.agg #[(Value.int .i64 (b.l)), (Value.int .i64 (b.h)), (Value.int .i64 (b.s))])] V [] (fun v _ _ => v = (Value.agg #[(Value.int .i64 ((meetF a b).l)), (Value.int .i64 ((meetF a b).h)), (Value.int .i64 ((meetF a b).s))])) := by
  refine fn_intro (N := 33) Try.func52 (by kernel_rfl) rfl rfl rfl (Nat.le_of_ble_eq_true rfl) ?_
  intro w0 D
  refine vc_seq ?_
  refine vc_region ?_
  refine ops_box (v := (Value.agg #[(Value.int .i64 (a.l)), (Value.int .i64 (a.h)), (Value.int .i64 (a.s))])) (cs := [(Value.int .i64 (a.l)), (Value.int .i64 (a.h)), (Value.int .i64 (a.s))]) rfl rfl (fun b1 => ?_)
  refine ops_box (v := (Value.agg #[(Value.int .i64 (b.l)), (Value.int .i64 (b.h)), (Value.int .i64 (b.s))])) (cs := [(Value.int .i64 (b.l)), (Value.int .i64 (b.h)), (Value.int .i64 (b.s))]) rfl rfl (fun b2 => ?_)
  refine ops_alloc Try.ti23 rfl (fun b3 => ?_)
  refine ops_nil ?_
  refine vc_seq ?_
  refine vc_block ?_
  refine vc_seq ?_
  refine vc_res (σ' := [(Arr 23 b1 [(Value.int .i64 (a.l)), (Value.int .i64 (a.h)), (Value.int .i64 (a.s))]), (Arr 23 b2 [(Value.int .i64 (b.l)), (Value.int .i64 (b.h)), (Value.int .i64 (b.s))]), (Arr 23 b3 [(Value.int .i64 0), (Value.int .i64 0), (Value.int .i64 0)])]) rfl ?_
  refine vc_region ?_
  refine oq (qv_ldm (vs := [(Value.int .i64 (a.l)), (Value.int .i64 (a.h)), (Value.int .i64 (a.s))]) Try.agg23 rfl (inOc (k := 0) rfl) rfl rfl) ?_
  refine oq (qv_call (v := (Value.bool (decide (a = nE)))) (isEmpty_c (a := a)) rfl rfl) ?_
  refine oq (qv_mv (Value.bool (decide (a = nE))) rfl) ?_
  by_cases g1 : a = nE
  ·
    refine os (want_fn g1 rfl rfl rfl) ?_
    refine os (want_fn g1 rfl rfl rfl) ?_
    refine oq (qv_pick_t g1 rfl (rfl : ev _ _ = (Value.bool true))) ?_
    refine oq (qv_as (Value.bool true) rfl) ?_
    refine ops_nil ?_
    refine vc_tt rfl ?_
    refine vc_seq ?_
    refine vc_region ?_
    refine oq (qv_call (v := (Value.agg #[(Value.int .i64 (nE.l)), (Value.int .i64 (nE.h)), (Value.int .i64 (nE.s))])) (none_c) rfl rfl) ?_
    refine ops_stm (k := 2) (off := 0) (v := (Value.agg #[(Value.int .i64 (nE.l)), (Value.int .i64 (nE.h)), (Value.int .i64 (nE.s))])) (vs := [(Value.int .i64 (nE.l)), (Value.int .i64 (nE.h)), (Value.int .i64 (nE.s))]) (cs := [(Value.int .i64 0), (Value.int .i64 0), (Value.int .i64 0)]) (cs' := [(Value.int .i64 (nE.l)), (Value.int .i64 (nE.h)), (Value.int .i64 (nE.s))]) Try.size23 rfl rfl rfl rfl rfl rfl (Nat.le_of_ble_eq_true rfl) rfl ?_
    refine ops_nil ?_
    refine vc_ret ?_
    refine blockQ_ret ?_
    refine rs1 (Value.agg #[(Value.int .i64 (nE.l)), (Value.int .i64 (nE.h)), (Value.int .i64 (nE.s))]) (rv_c (vs := [(Value.int .i64 (nE.l)), (Value.int .i64 (nE.h)), (Value.int .i64 (nE.s))]) Try.agg23 rfl (inOc (k := 2) rfl) rfl rfl) ?_
    exact (aggc (consc (congrArg (Value.int .i64) (show nE.l = ((meetF a b).l) from by first | (rw [meet_e ha (by first | exact Or.inl (by assumption) | exact Or.inr (by assumption))]; done) | (rw [meet_in ha hb he (by assumption) (by assumption)]; done) | (rw [meet_out ha he (by assumption) (by assumption)]; done) | (rw [meet_comm ha hb]; done))) (consc (congrArg (Value.int .i64) (show nE.h = ((meetF a b).h) from by first | (rw [meet_e ha (by first | exact Or.inl (by assumption) | exact Or.inr (by assumption))]; done) | (rw [meet_in ha hb he (by assumption) (by assumption)]; done) | (rw [meet_out ha he (by assumption) (by assumption)]; done) | (rw [meet_comm ha hb]; done))) (consc (congrArg (Value.int .i64) (show nE.s = ((meetF a b).s) from by first | (rw [meet_e ha (by first | exact Or.inl (by assumption) | exact Or.inr (by assumption))]; done) | (rw [meet_in ha hb he (by assumption) (by assumption)]; done) | (rw [meet_out ha he (by assumption) (by assumption)]; done) | (rw [meet_comm ha hb]; done))) rfl))))
  ·
    refine og (qv_ldm (vs := [(Value.int .i64 (b.l)), (Value.int .i64 (b.h)), (Value.int .i64 (b.s))]) Try.agg23 rfl (inOc (k := 1) rfl) rfl rfl) (want_f g1 rfl rfl rfl) ?_
    refine og (qv_call (v := (Value.bool (decide (b = nE)))) (isEmpty_c (a := b)) rfl rfl) (want_f g1 rfl rfl rfl) ?_
    refine oq (qv_pick_f g1 rfl (rfl : ev _ _ = (Value.bool (decide (b = nE))))) ?_
    refine oq (qv_as (Value.bool (decide (b = nE))) rfl) ?_
    refine ops_nil ?_
    refine vc_if rfl (fun c1 => ?_) (fun c1 => ?_)
    ·
      refine vc_seq ?_
      refine vc_region ?_
      refine oq (qv_call (v := (Value.agg #[(Value.int .i64 (nE.l)), (Value.int .i64 (nE.h)), (Value.int .i64 (nE.s))])) (none_c) rfl rfl) ?_
      refine ops_stm (k := 2) (off := 0) (v := (Value.agg #[(Value.int .i64 (nE.l)), (Value.int .i64 (nE.h)), (Value.int .i64 (nE.s))])) (vs := [(Value.int .i64 (nE.l)), (Value.int .i64 (nE.h)), (Value.int .i64 (nE.s))]) (cs := [(Value.int .i64 0), (Value.int .i64 0), (Value.int .i64 0)]) (cs' := [(Value.int .i64 (nE.l)), (Value.int .i64 (nE.h)), (Value.int .i64 (nE.s))]) Try.size23 rfl rfl rfl rfl rfl rfl (Nat.le_of_ble_eq_true rfl) rfl ?_
      refine ops_nil ?_
      refine vc_ret ?_
      refine blockQ_ret ?_
      refine rs1 (Value.agg #[(Value.int .i64 (nE.l)), (Value.int .i64 (nE.h)), (Value.int .i64 (nE.s))]) (rv_c (vs := [(Value.int .i64 (nE.l)), (Value.int .i64 (nE.h)), (Value.int .i64 (nE.s))]) Try.agg23 rfl (inOc (k := 2) rfl) rfl rfl) ?_
      exact (aggc (consc (congrArg (Value.int .i64) (show nE.l = ((meetF a b).l) from by first | (rw [meet_e ha (by first | exact Or.inl (by assumption) | exact Or.inr (by assumption))]; done) | (rw [meet_in ha hb he (by assumption) (by assumption)]; done) | (rw [meet_out ha he (by assumption) (by assumption)]; done) | (rw [meet_comm ha hb]; done))) (consc (congrArg (Value.int .i64) (show nE.h = ((meetF a b).h) from by first | (rw [meet_e ha (by first | exact Or.inl (by assumption) | exact Or.inr (by assumption))]; done) | (rw [meet_in ha hb he (by assumption) (by assumption)]; done) | (rw [meet_out ha he (by assumption) (by assumption)]; done) | (rw [meet_comm ha hb]; done))) (consc (congrArg (Value.int .i64) (show nE.s = ((meetF a b).s) from by first | (rw [meet_e ha (by first | exact Or.inl (by assumption) | exact Or.inr (by assumption))]; done) | (rw [meet_in ha hb he (by assumption) (by assumption)]; done) | (rw [meet_out ha he (by assumption) (by assumption)]; done) | (rw [meet_comm ha hb]; done))) rfl))))
    ·
      refine vc_seq ?_
      have he : a ≠ nE := by assumption
      have hf : b ≠ nE := by assumption
      refine vc_region ?_
      refine oq (qv_fa (off := 0) Try.field23_2 rfl) ?_
      refine oq (qv_ldp (v := (Value.int .i64 (a.s))) Try.plain3 rfl (inOc (k := 0) rfl) rfl) ?_
      refine oq (qv_eql rfl rfl) ?_
      refine oq (qv_as (Value.bool (decide (a.s = 0))) rfl) ?_
      refine ops_nil ?_
      refine vc_if rfl (fun c2 => ?_) (fun c2 => ?_)
      ·
        refine vc_seq ?_
        refine vc_seq ?_
        refine vc_region ?_
        refine oq (qv_ldm (vs := [(Value.int .i64 (b.l)), (Value.int .i64 (b.h)), (Value.int .i64 (b.s))]) Try.agg23 rfl (inOc (k := 1) rfl) rfl rfl) ?_
        refine oq (qv_fa (off := 0) Try.field23_0 rfl) ?_
        refine oq (qv_ldp (v := (Value.int .i64 (a.l))) Try.plain3 rfl (inOc (k := 0) rfl) rfl) ?_
        refine oq (qv_call (v := (Value.bool (decide (mem b a.l)))) (has_c (a := b) (by assumption)) rfl rfl) ?_
        refine ops_nil ?_
        refine vc_if rfl (fun c3 => ?_) (fun c3 => ?_)
        ·
          refine vc_seq ?_
          refine vc_region ?_
          refine oq (qv_ldm (vs := [(Value.int .i64 (a.l)), (Value.int .i64 (a.h)), (Value.int .i64 (a.s))]) Try.agg23 rfl (inOc (k := 0) rfl) rfl rfl) ?_
          refine ops_stm (k := 2) (off := 0) (v := (Value.agg #[(Value.int .i64 (a.l)), (Value.int .i64 (a.h)), (Value.int .i64 (a.s))])) (vs := [(Value.int .i64 (a.l)), (Value.int .i64 (a.h)), (Value.int .i64 (a.s))]) (cs := [(Value.int .i64 0), (Value.int .i64 0), (Value.int .i64 0)]) (cs' := [(Value.int .i64 (a.l)), (Value.int .i64 (a.h)), (Value.int .i64 (a.s))]) Try.size23 rfl rfl rfl rfl rfl rfl (Nat.le_of_ble_eq_true rfl) rfl ?_
          refine ops_nil ?_
          refine vc_ret ?_
          refine blockQ_ret ?_
          refine rs1 (Value.agg #[(Value.int .i64 (a.l)), (Value.int .i64 (a.h)), (Value.int .i64 (a.s))]) (rv_c (vs := [(Value.int .i64 (a.l)), (Value.int .i64 (a.h)), (Value.int .i64 (a.s))]) Try.agg23 rfl (inOc (k := 2) rfl) rfl rfl) ?_
          exact (aggc (consc (congrArg (Value.int .i64) (show a.l = ((meetF a b).l) from by first | (rw [meet_e ha (by first | exact Or.inl (by assumption) | exact Or.inr (by assumption))]; done) | (rw [meet_in ha hb he (by assumption) (by assumption)]; done) | (rw [meet_out ha he (by assumption) (by assumption)]; done) | (rw [meet_comm ha hb]; done))) (consc (congrArg (Value.int .i64) (show a.h = ((meetF a b).h) from by first | (rw [meet_e ha (by first | exact Or.inl (by assumption) | exact Or.inr (by assumption))]; done) | (rw [meet_in ha hb he (by assumption) (by assumption)]; done) | (rw [meet_out ha he (by assumption) (by assumption)]; done) | (rw [meet_comm ha hb]; done))) (consc (congrArg (Value.int .i64) (show a.s = ((meetF a b).s) from by first | (rw [meet_e ha (by first | exact Or.inl (by assumption) | exact Or.inr (by assumption))]; done) | (rw [meet_in ha hb he (by assumption) (by assumption)]; done) | (rw [meet_out ha he (by assumption) (by assumption)]; done) | (rw [meet_comm ha hb]; done))) rfl))))
        ·
          refine vc_skip ?_
          refine vc_seq ?_
          refine vc_region ?_
          refine oq (qv_call (v := (Value.agg #[(Value.int .i64 (nE.l)), (Value.int .i64 (nE.h)), (Value.int .i64 (nE.s))])) (none_c) rfl rfl) ?_
          refine ops_stm (k := 2) (off := 0) (v := (Value.agg #[(Value.int .i64 (nE.l)), (Value.int .i64 (nE.h)), (Value.int .i64 (nE.s))])) (vs := [(Value.int .i64 (nE.l)), (Value.int .i64 (nE.h)), (Value.int .i64 (nE.s))]) (cs := [(Value.int .i64 0), (Value.int .i64 0), (Value.int .i64 0)]) (cs' := [(Value.int .i64 (nE.l)), (Value.int .i64 (nE.h)), (Value.int .i64 (nE.s))]) Try.size23 rfl rfl rfl rfl rfl rfl (Nat.le_of_ble_eq_true rfl) rfl ?_
          refine ops_nil ?_
          refine vc_ret ?_
          refine blockQ_ret ?_
          refine rs1 (Value.agg #[(Value.int .i64 (nE.l)), (Value.int .i64 (nE.h)), (Value.int .i64 (nE.s))]) (rv_c (vs := [(Value.int .i64 (nE.l)), (Value.int .i64 (nE.h)), (Value.int .i64 (nE.s))]) Try.agg23 rfl (inOc (k := 2) rfl) rfl rfl) ?_
          exact (aggc (consc (congrArg (Value.int .i64) (show nE.l = ((meetF a b).l) from by first | (rw [meet_e ha (by first | exact Or.inl (by assumption) | exact Or.inr (by assumption))]; done) | (rw [meet_in ha hb he (by assumption) (by assumption)]; done) | (rw [meet_out ha he (by assumption) (by assumption)]; done) | (rw [meet_comm ha hb]; done))) (consc (congrArg (Value.int .i64) (show nE.h = ((meetF a b).h) from by first | (rw [meet_e ha (by first | exact Or.inl (by assumption) | exact Or.inr (by assumption))]; done) | (rw [meet_in ha hb he (by assumption) (by assumption)]; done) | (rw [meet_out ha he (by assumption) (by assumption)]; done) | (rw [meet_comm ha hb]; done))) (consc (congrArg (Value.int .i64) (show nE.s = ((meetF a b).s) from by first | (rw [meet_e ha (by first | exact Or.inl (by assumption) | exact Or.inr (by assumption))]; done) | (rw [meet_in ha hb he (by assumption) (by assumption)]; done) | (rw [meet_out ha he (by assumption) (by assumption)]; done) | (rw [meet_comm ha hb]; done))) rfl))))
      ·
        exact absurd h0 c2

set_option maxRecDepth 100000 in
set_option maxHeartbeats 4000000 in
theorem meet_c {V : HV} {a b : Nm} (ha : vld a) (hb : vld b) :
    FnC Try.prog 52 [(Value.agg #[(Value.int .i64 (a.l)), (Value.int .i64 (a.h)), (Value.int .i64 (a.s))]), (Value.agg #[(Value.int .i64 (b.l)), (Value.int .i64 (b.h)), (Value.int .i64 (b.s))])] V [] (fun v _ _ => v = (Value.agg #[(Value.int .i64 ((meetF a b).l)), (Value.int .i64 ((meetF a b).h)), (Value.int .i64 ((meetF a b).s))])) := by
  refine fn_intro (N := 33) Try.func52 (by kernel_rfl) rfl rfl rfl (Nat.le_of_ble_eq_true rfl) ?_
  intro w0 D
  refine vc_seq ?_
  refine vc_region ?_
  refine ops_box (v := (Value.agg #[(Value.int .i64 (a.l)), (Value.int .i64 (a.h)), (Value.int .i64 (a.s))])) (cs := [(Value.int .i64 (a.l)), (Value.int .i64 (a.h)), (Value.int .i64 (a.s))]) rfl rfl (fun b1 => ?_)
  refine ops_box (v := (Value.agg #[(Value.int .i64 (b.l)), (Value.int .i64 (b.h)), (Value.int .i64 (b.s))])) (cs := [(Value.int .i64 (b.l)), (Value.int .i64 (b.h)), (Value.int .i64 (b.s))]) rfl rfl (fun b2 => ?_)
  refine ops_alloc Try.ti23 rfl (fun b3 => ?_)
  refine ops_nil ?_
  refine vc_seq ?_
  refine vc_block ?_
  refine vc_seq ?_
  refine vc_res (σ' := [(Arr 23 b1 [(Value.int .i64 (a.l)), (Value.int .i64 (a.h)), (Value.int .i64 (a.s))]), (Arr 23 b2 [(Value.int .i64 (b.l)), (Value.int .i64 (b.h)), (Value.int .i64 (b.s))]), (Arr 23 b3 [(Value.int .i64 0), (Value.int .i64 0), (Value.int .i64 0)])]) rfl ?_
  refine vc_region ?_
  refine oq (qv_ldm (vs := [(Value.int .i64 (a.l)), (Value.int .i64 (a.h)), (Value.int .i64 (a.s))]) Try.agg23 rfl (inOc (k := 0) rfl) rfl rfl) ?_
  refine oq (qv_call (v := (Value.bool (decide (a = nE)))) (isEmpty_c (a := a)) rfl rfl) ?_
  refine oq (qv_mv (Value.bool (decide (a = nE))) rfl) ?_
  by_cases g1 : a = nE
  ·
    refine os (want_fn g1 rfl rfl rfl) ?_
    refine os (want_fn g1 rfl rfl rfl) ?_
    refine oq (qv_pick_t g1 rfl (rfl : ev _ _ = (Value.bool true))) ?_
    refine oq (qv_as (Value.bool true) rfl) ?_
    refine ops_nil ?_
    refine vc_tt rfl ?_
    refine vc_seq ?_
    refine vc_region ?_
    refine oq (qv_call (v := (Value.agg #[(Value.int .i64 (nE.l)), (Value.int .i64 (nE.h)), (Value.int .i64 (nE.s))])) (none_c) rfl rfl) ?_
    refine ops_stm (k := 2) (off := 0) (v := (Value.agg #[(Value.int .i64 (nE.l)), (Value.int .i64 (nE.h)), (Value.int .i64 (nE.s))])) (vs := [(Value.int .i64 (nE.l)), (Value.int .i64 (nE.h)), (Value.int .i64 (nE.s))]) (cs := [(Value.int .i64 0), (Value.int .i64 0), (Value.int .i64 0)]) (cs' := [(Value.int .i64 (nE.l)), (Value.int .i64 (nE.h)), (Value.int .i64 (nE.s))]) Try.size23 rfl rfl rfl rfl rfl rfl (Nat.le_of_ble_eq_true rfl) rfl ?_
    refine ops_nil ?_
    refine vc_ret ?_
    refine blockQ_ret ?_
    refine rs1 (Value.agg #[(Value.int .i64 (nE.l)), (Value.int .i64 (nE.h)), (Value.int .i64 (nE.s))]) (rv_c (vs := [(Value.int .i64 (nE.l)), (Value.int .i64 (nE.h)), (Value.int .i64 (nE.s))]) Try.agg23 rfl (inOc (k := 2) rfl) rfl rfl) ?_
    exact (aggc (consc (congrArg (Value.int .i64) (show nE.l = ((meetF a b).l) from by first | rfl | (rw [meet_e ha (by first | exact Or.inl (by assumption) | exact Or.inr (by assumption))]; done) | (rw [meet_in ha hb he (by assumption) (by assumption)]; done) | (rw [meet_out ha he (by assumption) (by assumption)]; done) | (rw [meet_comm ha hb]; done))) (consc (congrArg (Value.int .i64) (show nE.h = ((meetF a b).h) from by first | rfl | (rw [meet_e ha (by first | exact Or.inl (by assumption) | exact Or.inr (by assumption))]; done) | (rw [meet_in ha hb he (by assumption) (by assumption)]; done) | (rw [meet_out ha he (by assumption) (by assumption)]; done) | (rw [meet_comm ha hb]; done))) (consc (congrArg (Value.int .i64) (show nE.s = ((meetF a b).s) from by first | rfl | (rw [meet_e ha (by first | exact Or.inl (by assumption) | exact Or.inr (by assumption))]; done) | (rw [meet_in ha hb he (by assumption) (by assumption)]; done) | (rw [meet_out ha he (by assumption) (by assumption)]; done) | (rw [meet_comm ha hb]; done))) rfl))))
  ·
    refine og (qv_ldm (vs := [(Value.int .i64 (b.l)), (Value.int .i64 (b.h)), (Value.int .i64 (b.s))]) Try.agg23 rfl (inOc (k := 1) rfl) rfl rfl) (want_f g1 rfl rfl rfl) ?_
    refine og (qv_call (v := (Value.bool (decide (b = nE)))) (isEmpty_c (a := b)) rfl rfl) (want_f g1 rfl rfl rfl) ?_
    refine oq (qv_pick_f g1 rfl (rfl : ev _ _ = (Value.bool (decide (b = nE))))) ?_
    refine oq (qv_as (Value.bool (decide (b = nE))) rfl) ?_
    refine ops_nil ?_
    refine vc_if rfl (fun c1 => ?_) (fun c1 => ?_)
    ·
      refine vc_seq ?_
      refine vc_region ?_
      refine oq (qv_call (v := (Value.agg #[(Value.int .i64 (nE.l)), (Value.int .i64 (nE.h)), (Value.int .i64 (nE.s))])) (none_c) rfl rfl) ?_
      refine ops_stm (k := 2) (off := 0) (v := (Value.agg #[(Value.int .i64 (nE.l)), (Value.int .i64 (nE.h)), (Value.int .i64 (nE.s))])) (vs := [(Value.int .i64 (nE.l)), (Value.int .i64 (nE.h)), (Value.int .i64 (nE.s))]) (cs := [(Value.int .i64 0), (Value.int .i64 0), (Value.int .i64 0)]) (cs' := [(Value.int .i64 (nE.l)), (Value.int .i64 (nE.h)), (Value.int .i64 (nE.s))]) Try.size23 rfl rfl rfl rfl rfl rfl (Nat.le_of_ble_eq_true rfl) rfl ?_
      refine ops_nil ?_
      refine vc_ret ?_
      refine blockQ_ret ?_
      refine rs1 (Value.agg #[(Value.int .i64 (nE.l)), (Value.int .i64 (nE.h)), (Value.int .i64 (nE.s))]) (rv_c (vs := [(Value.int .i64 (nE.l)), (Value.int .i64 (nE.h)), (Value.int .i64 (nE.s))]) Try.agg23 rfl (inOc (k := 2) rfl) rfl rfl) ?_
      exact (aggc (consc (congrArg (Value.int .i64) (show nE.l = ((meetF a b).l) from by first | rfl | (rw [meet_e ha (by first | exact Or.inl (by assumption) | exact Or.inr (by assumption))]; done) | (rw [meet_in ha hb he (by assumption) (by assumption)]; done) | (rw [meet_out ha he (by assumption) (by assumption)]; done) | (rw [meet_comm ha hb]; done))) (consc (congrArg (Value.int .i64) (show nE.h = ((meetF a b).h) from by first | rfl | (rw [meet_e ha (by first | exact Or.inl (by assumption) | exact Or.inr (by assumption))]; done) | (rw [meet_in ha hb he (by assumption) (by assumption)]; done) | (rw [meet_out ha he (by assumption) (by assumption)]; done) | (rw [meet_comm ha hb]; done))) (consc (congrArg (Value.int .i64) (show nE.s = ((meetF a b).s) from by first | rfl | (rw [meet_e ha (by first | exact Or.inl (by assumption) | exact Or.inr (by assumption))]; done) | (rw [meet_in ha hb he (by assumption) (by assumption)]; done) | (rw [meet_out ha he (by assumption) (by assumption)]; done) | (rw [meet_comm ha hb]; done))) rfl))))
    ·
      refine vc_seq ?_
      have he : a ≠ nE := by assumption
      have hf : b ≠ nE := by assumption
      refine vc_region ?_
      refine oq (qv_fa (off := 0) Try.field23_2 rfl) ?_
      refine oq (qv_ldp (v := (Value.int .i64 (a.s))) Try.plain3 rfl (inOc (k := 0) rfl) rfl) ?_
      refine oq (qv_eql rfl rfl) ?_
      refine oq (qv_as (Value.bool (decide (a.s = 0))) rfl) ?_
      refine ops_nil ?_
      refine vc_if rfl (fun c2 => ?_) (fun c2 => ?_)
      ·
        refine vc_seq ?_
        refine vc_seq ?_
        refine vc_region ?_
        refine oq (qv_ldm (vs := [(Value.int .i64 (b.l)), (Value.int .i64 (b.h)), (Value.int .i64 (b.s))]) Try.agg23 rfl (inOc (k := 1) rfl) rfl rfl) ?_
        refine oq (qv_fa (off := 0) Try.field23_0 rfl) ?_
        refine oq (qv_ldp (v := (Value.int .i64 (a.l))) Try.plain3 rfl (inOc (k := 0) rfl) rfl) ?_
        refine oq (qv_call (v := (Value.bool (decide (mem b a.l)))) (has_c (a := b) (by assumption)) rfl rfl) ?_
        refine ops_nil ?_
        refine vc_if rfl (fun c3 => ?_) (fun c3 => ?_)
        ·
          refine vc_seq ?_
          refine vc_region ?_
          refine oq (qv_ldm (vs := [(Value.int .i64 (a.l)), (Value.int .i64 (a.h)), (Value.int .i64 (a.s))]) Try.agg23 rfl (inOc (k := 0) rfl) rfl rfl) ?_
          refine ops_stm (k := 2) (off := 0) (v := (Value.agg #[(Value.int .i64 (a.l)), (Value.int .i64 (a.h)), (Value.int .i64 (a.s))])) (vs := [(Value.int .i64 (a.l)), (Value.int .i64 (a.h)), (Value.int .i64 (a.s))]) (cs := [(Value.int .i64 0), (Value.int .i64 0), (Value.int .i64 0)]) (cs' := [(Value.int .i64 (a.l)), (Value.int .i64 (a.h)), (Value.int .i64 (a.s))]) Try.size23 rfl rfl rfl rfl rfl rfl (Nat.le_of_ble_eq_true rfl) rfl ?_
          refine ops_nil ?_
          refine vc_ret ?_
          refine blockQ_ret ?_
          refine rs1 (Value.agg #[(Value.int .i64 (a.l)), (Value.int .i64 (a.h)), (Value.int .i64 (a.s))]) (rv_c (vs := [(Value.int .i64 (a.l)), (Value.int .i64 (a.h)), (Value.int .i64 (a.s))]) Try.agg23 rfl (inOc (k := 2) rfl) rfl rfl) ?_
          exact (aggc (consc (congrArg (Value.int .i64) (show a.l = ((meetF a b).l) from by first | rfl | (rw [meet_e ha (by first | exact Or.inl (by assumption) | exact Or.inr (by assumption))]; done) | (rw [meet_in ha hb he (by assumption) (by assumption)]; done) | (rw [meet_out ha he (by assumption) (by assumption)]; done) | (rw [meet_comm ha hb]; done))) (consc (congrArg (Value.int .i64) (show a.h = ((meetF a b).h) from by first | rfl | (rw [meet_e ha (by first | exact Or.inl (by assumption) | exact Or.inr (by assumption))]; done) | (rw [meet_in ha hb he (by assumption) (by assumption)]; done) | (rw [meet_out ha he (by assumption) (by assumption)]; done) | (rw [meet_comm ha hb]; done))) (consc (congrArg (Value.int .i64) (show a.s = ((meetF a b).s) from by first | rfl | (rw [meet_e ha (by first | exact Or.inl (by assumption) | exact Or.inr (by assumption))]; done) | (rw [meet_in ha hb he (by assumption) (by assumption)]; done) | (rw [meet_out ha he (by assumption) (by assumption)]; done) | (rw [meet_comm ha hb]; done))) rfl))))
        ·
          refine vc_skip ?_
          refine vc_seq ?_
          refine vc_region ?_
          refine oq (qv_call (v := (Value.agg #[(Value.int .i64 (nE.l)), (Value.int .i64 (nE.h)), (Value.int .i64 (nE.s))])) (none_c) rfl rfl) ?_
          refine ops_stm (k := 2) (off := 0) (v := (Value.agg #[(Value.int .i64 (nE.l)), (Value.int .i64 (nE.h)), (Value.int .i64 (nE.s))])) (vs := [(Value.int .i64 (nE.l)), (Value.int .i64 (nE.h)), (Value.int .i64 (nE.s))]) (cs := [(Value.int .i64 0), (Value.int .i64 0), (Value.int .i64 0)]) (cs' := [(Value.int .i64 (nE.l)), (Value.int .i64 (nE.h)), (Value.int .i64 (nE.s))]) Try.size23 rfl rfl rfl rfl rfl rfl (Nat.le_of_ble_eq_true rfl) rfl ?_
          refine ops_nil ?_
          refine vc_ret ?_
          refine blockQ_ret ?_
          refine rs1 (Value.agg #[(Value.int .i64 (nE.l)), (Value.int .i64 (nE.h)), (Value.int .i64 (nE.s))]) (rv_c (vs := [(Value.int .i64 (nE.l)), (Value.int .i64 (nE.h)), (Value.int .i64 (nE.s))]) Try.agg23 rfl (inOc (k := 2) rfl) rfl rfl) ?_
          exact (aggc (consc (congrArg (Value.int .i64) (show nE.l = ((meetF a b).l) from by first | rfl | (rw [meet_e ha (by first | exact Or.inl (by assumption) | exact Or.inr (by assumption))]; done) | (rw [meet_in ha hb he (by assumption) (by assumption)]; done) | (rw [meet_out ha he (by assumption) (by assumption)]; done) | (rw [meet_comm ha hb]; done))) (consc (congrArg (Value.int .i64) (show nE.h = ((meetF a b).h) from by first | rfl | (rw [meet_e ha (by first | exact Or.inl (by assumption) | exact Or.inr (by assumption))]; done) | (rw [meet_in ha hb he (by assumption) (by assumption)]; done) | (rw [meet_out ha he (by assumption) (by assumption)]; done) | (rw [meet_comm ha hb]; done))) (consc (congrArg (Value.int .i64) (show nE.s = ((meetF a b).s) from by first | rfl | (rw [meet_e ha (by first | exact Or.inl (by assumption) | exact Or.inr (by assumption))]; done) | (rw [meet_in ha hb he (by assumption) (by assumption)]; done) | (rw [meet_out ha he (by assumption) (by assumption)]; done) | (rw [meet_comm ha hb]; done))) rfl))))
      ·
        refine vc_seq ?_
        refine vc_region ?_
        refine oq (qv_fa (off := 0) Try.field23_2 rfl) ?_
        refine oq (qv_ldp (v := (Value.int .i64 (b.s))) Try.plain3 rfl (inOc (k := 1) rfl) rfl) ?_
        refine oq (qv_eql rfl rfl) ?_
        refine oq (qv_as (Value.bool (decide (b.s = 0))) rfl) ?_
        refine ops_nil ?_
        refine vc_if rfl (fun c4 => ?_) (fun c4 => ?_)
        ·
          refine vc_seq ?_
          refine vc_region ?_
          refine oq (qv_ldm (vs := [(Value.int .i64 (b.l)), (Value.int .i64 (b.h)), (Value.int .i64 (b.s))]) Try.agg23 rfl (inOc (k := 1) rfl) rfl rfl) ?_
          refine oq (qv_ldm (vs := [(Value.int .i64 (a.l)), (Value.int .i64 (a.h)), (Value.int .i64 (a.s))]) Try.agg23 rfl (inOc (k := 0) rfl) rfl rfl) ?_
          refine oq (qv_call (v := (Value.agg #[(Value.int .i64 ((meetF b a).l)), (Value.int .i64 ((meetF b a).h)), (Value.int .i64 ((meetF b a).s))])) (meet0_c (a := b) (b := a) hb ha (by assumption)) rfl rfl) ?_
          refine ops_stm (k := 2) (off := 0) (v := (Value.agg #[(Value.int .i64 ((meetF b a).l)), (Value.int .i64 ((meetF b a).h)), (Value.int .i64 ((meetF b a).s))])) (vs := [(Value.int .i64 ((meetF b a).l)), (Value.int .i64 ((meetF b a).h)), (Value.int .i64 ((meetF b a).s))]) (cs := [(Value.int .i64 0), (Value.int .i64 0), (Value.int .i64 0)]) (cs' := [(Value.int .i64 ((meetF b a).l)), (Value.int .i64 ((meetF b a).h)), (Value.int .i64 ((meetF b a).s))]) Try.size23 rfl rfl rfl rfl rfl rfl (Nat.le_of_ble_eq_true rfl) rfl ?_
          refine ops_nil ?_
          refine vc_ret ?_
          refine blockQ_ret ?_
          refine rs1 (Value.agg #[(Value.int .i64 ((meetF b a).l)), (Value.int .i64 ((meetF b a).h)), (Value.int .i64 ((meetF b a).s))]) (rv_c (vs := [(Value.int .i64 ((meetF b a).l)), (Value.int .i64 ((meetF b a).h)), (Value.int .i64 ((meetF b a).s))]) Try.agg23 rfl (inOc (k := 2) rfl) rfl rfl) ?_
          exact (aggc (consc (congrArg (Value.int .i64) (show ((meetF b a).l) = ((meetF a b).l) from by first | rfl | (rw [meet_e ha (by first | exact Or.inl (by assumption) | exact Or.inr (by assumption))]; done) | (rw [meet_in ha hb he (by assumption) (by assumption)]; done) | (rw [meet_out ha he (by assumption) (by assumption)]; done) | (rw [meet_comm ha hb]; done))) (consc (congrArg (Value.int .i64) (show ((meetF b a).h) = ((meetF a b).h) from by first | rfl | (rw [meet_e ha (by first | exact Or.inl (by assumption) | exact Or.inr (by assumption))]; done) | (rw [meet_in ha hb he (by assumption) (by assumption)]; done) | (rw [meet_out ha he (by assumption) (by assumption)]; done) | (rw [meet_comm ha hb]; done))) (consc (congrArg (Value.int .i64) (show ((meetF b a).s) = ((meetF a b).s) from by first | rfl | (rw [meet_e ha (by first | exact Or.inl (by assumption) | exact Or.inr (by assumption))]; done) | (rw [meet_in ha hb he (by assumption) (by assumption)]; done) | (rw [meet_out ha he (by assumption) (by assumption)]; done) | (rw [meet_comm ha hb]; done))) rfl))))
        ·
          refine vc_skip ?_
          refine vc_seq ?_
          refine vc_region ?_
          refine oq (qv_ldm (vs := [(Value.int .i64 (a.l)), (Value.int .i64 (a.h)), (Value.int .i64 (a.s))]) Try.agg23 rfl (inOc (k := 0) rfl) rfl rfl) ?_
          refine oq (qv_ldm (vs := [(Value.int .i64 (b.l)), (Value.int .i64 (b.h)), (Value.int .i64 (b.s))]) Try.agg23 rfl (inOc (k := 1) rfl) rfl rfl) ?_
          refine oq (qv_call (v := (Value.agg #[(Value.int .i64 ((meetF a b).l)), (Value.int .i64 ((meetF a b).h)), (Value.int .i64 ((meetF a b).s))])) (common_c (com_of ha hb he hf (by assumption) (by assumption))) rfl rfl) ?_
          refine ops_stm (k := 2) (off := 0) (v := (Value.agg #[(Value.int .i64 ((meetF a b).l)), (Value.int .i64 ((meetF a b).h)), (Value.int .i64 ((meetF a b).s))])) (vs := [(Value.int .i64 ((meetF a b).l)), (Value.int .i64 ((meetF a b).h)), (Value.int .i64 ((meetF a b).s))]) (cs := [(Value.int .i64 0), (Value.int .i64 0), (Value.int .i64 0)]) (cs' := [(Value.int .i64 ((meetF a b).l)), (Value.int .i64 ((meetF a b).h)), (Value.int .i64 ((meetF a b).s))]) Try.size23 rfl rfl rfl rfl rfl rfl (Nat.le_of_ble_eq_true rfl) rfl ?_
          refine ops_nil ?_
          refine vc_ret ?_
          refine rs1 (Value.agg #[(Value.int .i64 ((meetF a b).l)), (Value.int .i64 ((meetF a b).h)), (Value.int .i64 ((meetF a b).s))]) (rv_c (vs := [(Value.int .i64 ((meetF a b).l)), (Value.int .i64 ((meetF a b).h)), (Value.int .i64 ((meetF a b).s))]) Try.agg23 rfl (inOc (k := 2) rfl) rfl rfl) ?_
          exact rfl

set_option maxRecDepth 100000 in
set_option maxHeartbeats 4000000 in
theorem Meet_c {V : HV} {a b : Nm} :
    FnC Try.prog 14 [(Value.agg #[(Value.int .i64 (a.l)), (Value.int .i64 (a.h)), (Value.int .i64 (a.s))]), (Value.agg #[(Value.int .i64 (b.l)), (Value.int .i64 (b.h)), (Value.int .i64 (b.s))])] V [] (fun v _ _ => v = .tuple #[(Value.agg #[(Value.int .i64 ((mtN a b).l)), (Value.int .i64 ((mtN a b).h)), (Value.int .i64 ((mtN a b).s))]), (Value.int .i64 (jE a b))]) := by
  refine fn_intro (N := 18) Try.func14 (by kernel_rfl) rfl rfl rfl (Nat.le_of_ble_eq_true rfl) ?_
  intro w0 D
  refine vc_seq ?_
  refine vc_region ?_
  refine ops_box (v := (Value.agg #[(Value.int .i64 (a.l)), (Value.int .i64 (a.h)), (Value.int .i64 (a.s))])) (cs := [(Value.int .i64 (a.l)), (Value.int .i64 (a.h)), (Value.int .i64 (a.s))]) rfl rfl (fun b1 => ?_)
  refine ops_box (v := (Value.agg #[(Value.int .i64 (b.l)), (Value.int .i64 (b.h)), (Value.int .i64 (b.s))])) (cs := [(Value.int .i64 (b.l)), (Value.int .i64 (b.h)), (Value.int .i64 (b.s))]) rfl rfl (fun b2 => ?_)
  refine ops_alloc Try.ti23 rfl (fun b3 => ?_)
  refine oq (qv_as (Value.int .i64 0) rfl) ?_
  refine ops_nil ?_
  refine vc_seq ?_
  refine vc_seq ?_
  refine vc_res (σ' := [(Arr 23 b1 [(Value.int .i64 (a.l)), (Value.int .i64 (a.h)), (Value.int .i64 (a.s))]), (Arr 23 b2 [(Value.int .i64 (b.l)), (Value.int .i64 (b.h)), (Value.int .i64 (b.s))]), (Arr 23 b3 [(Value.int .i64 0), (Value.int .i64 0), (Value.int .i64 0)])]) rfl ?_
  refine vc_region ?_
  refine oq (qv_ldm (vs := [(Value.int .i64 (a.l)), (Value.int .i64 (a.h)), (Value.int .i64 (a.s))]) Try.agg23 rfl (inOc (k := 0) rfl) rfl rfl) ?_
  refine oq (qv_call (v := (Value.bool (decide (vld a)))) (Valid_c (a := a)) rfl rfl) ?_
  refine oq (qv_not rfl) ?_
  refine oq (qv_mv (Value.bool (decide (¬ (vld a)))) rfl) ?_
  by_cases g1 : ¬ (vld a)
  ·
    refine os (want_fn g1 rfl rfl rfl) ?_
    refine os (want_fn g1 rfl rfl rfl) ?_
    refine os (want_fn g1 rfl rfl rfl) ?_
    refine oq (qv_pick_t g1 rfl (rfl : ev _ _ = (Value.bool true))) ?_
    refine ops_nil ?_
    refine vc_tt rfl ?_
    refine vc_seq ?_
    have hj : ¬ jOk a b := fun h => by first | exact absurd h.1 (by assumption) | exact absurd h.2 (by assumption)
    refine vc_region ?_
    refine oq (qv_build (out := [(Value.int .i64 0), (Value.int .i64 0), (Value.int .i64 0)]) Try.build23 [] rfl rfl) ?_
    refine ops_stm (k := 2) (off := 0) (v := (Value.agg #[(Value.int .i64 0), (Value.int .i64 0), (Value.int .i64 0)])) (vs := [(Value.int .i64 0), (Value.int .i64 0), (Value.int .i64 0)]) (cs := [(Value.int .i64 0), (Value.int .i64 0), (Value.int .i64 0)]) (cs' := [(Value.int .i64 0), (Value.int .i64 0), (Value.int .i64 0)]) Try.size23 rfl rfl rfl rfl rfl rfl (Nat.le_of_ble_eq_true rfl) rfl ?_
    refine oq (qv_as (Value.int .i64 1) rfl) ?_
    refine ops_nil ?_
    refine vc_ret ?_
    refine rs2 (Value.agg #[(Value.int .i64 0), (Value.int .i64 0), (Value.int .i64 0)]) (Value.int .i64 1) (rv_c (vs := [(Value.int .i64 0), (Value.int .i64 0), (Value.int .i64 0)]) Try.agg23 rfl (inOc (k := 2) rfl) rfl rfl) (rv_t rfl) ?_
    exact tup2 (aggc (consc (congrArg (Value.int .i64) (show 0 = ((mtN a b).l) from by rw [mtN_0 hj])) (consc (congrArg (Value.int .i64) (show 0 = ((mtN a b).h) from by rw [mtN_0 hj])) (consc (congrArg (Value.int .i64) (show 0 = ((mtN a b).s) from by rw [mtN_0 hj])) rfl)))) (congrArg (Value.int .i64) (show 1 = (jE a b) from by rw [jE_0 hj]))
  ·
    refine og (qv_ldm (vs := [(Value.int .i64 (b.l)), (Value.int .i64 (b.h)), (Value.int .i64 (b.s))]) Try.agg23 rfl (inOc (k := 1) rfl) rfl rfl) (want_f g1 rfl rfl rfl) ?_
    refine og (qv_call (v := (Value.bool (decide (vld b)))) (Valid_c (a := b)) rfl rfl) (want_f g1 rfl rfl rfl) ?_
    refine og (qv_not rfl) (want_f g1 rfl rfl rfl) ?_
    refine oq (qv_pick_f g1 rfl (rfl : ev _ _ = (Value.bool (decide (¬ (vld b)))))) ?_
    refine ops_nil ?_
    refine vc_if rfl (fun c1 => ?_) (fun c1 => ?_)
    ·
      refine vc_seq ?_
      have hj : ¬ jOk a b := fun h => by first | exact absurd h.1 (by assumption) | exact absurd h.2 (by assumption)
      refine vc_region ?_
      refine oq (qv_build (out := [(Value.int .i64 0), (Value.int .i64 0), (Value.int .i64 0)]) Try.build23 [] rfl rfl) ?_
      refine ops_stm (k := 2) (off := 0) (v := (Value.agg #[(Value.int .i64 0), (Value.int .i64 0), (Value.int .i64 0)])) (vs := [(Value.int .i64 0), (Value.int .i64 0), (Value.int .i64 0)]) (cs := [(Value.int .i64 0), (Value.int .i64 0), (Value.int .i64 0)]) (cs' := [(Value.int .i64 0), (Value.int .i64 0), (Value.int .i64 0)]) Try.size23 rfl rfl rfl rfl rfl rfl (Nat.le_of_ble_eq_true rfl) rfl ?_
      refine oq (qv_as (Value.int .i64 1) rfl) ?_
      refine ops_nil ?_
      refine vc_ret ?_
      refine rs2 (Value.agg #[(Value.int .i64 0), (Value.int .i64 0), (Value.int .i64 0)]) (Value.int .i64 1) (rv_c (vs := [(Value.int .i64 0), (Value.int .i64 0), (Value.int .i64 0)]) Try.agg23 rfl (inOc (k := 2) rfl) rfl rfl) (rv_t rfl) ?_
      exact tup2 (aggc (consc (congrArg (Value.int .i64) (show 0 = ((mtN a b).l) from by rw [mtN_0 hj])) (consc (congrArg (Value.int .i64) (show 0 = ((mtN a b).h) from by rw [mtN_0 hj])) (consc (congrArg (Value.int .i64) (show 0 = ((mtN a b).s) from by rw [mtN_0 hj])) rfl)))) (congrArg (Value.int .i64) (show 1 = (jE a b) from by rw [jE_0 hj]))
    ·
      refine vc_skip ?_
      refine vc_seq ?_
      have hj : jOk a b := ⟨Decidable.not_not.1 (by assumption), Decidable.not_not.1 (by assumption)⟩
      refine vc_region ?_
      refine oq (qv_ldm (vs := [(Value.int .i64 (a.l)), (Value.int .i64 (a.h)), (Value.int .i64 (a.s))]) Try.agg23 rfl (inOc (k := 0) rfl) rfl rfl) ?_
      refine oq (qv_ldm (vs := [(Value.int .i64 (b.l)), (Value.int .i64 (b.h)), (Value.int .i64 (b.s))]) Try.agg23 rfl (inOc (k := 1) rfl) rfl rfl) ?_
      refine oq (qv_call (v := (Value.agg #[(Value.int .i64 ((meetF a b).l)), (Value.int .i64 ((meetF a b).h)), (Value.int .i64 ((meetF a b).s))])) (meet_c (a := a) (b := b) hj.1 hj.2) rfl rfl) ?_
      refine ops_stm (k := 2) (off := 0) (v := (Value.agg #[(Value.int .i64 ((meetF a b).l)), (Value.int .i64 ((meetF a b).h)), (Value.int .i64 ((meetF a b).s))])) (vs := [(Value.int .i64 ((meetF a b).l)), (Value.int .i64 ((meetF a b).h)), (Value.int .i64 ((meetF a b).s))]) (cs := [(Value.int .i64 0), (Value.int .i64 0), (Value.int .i64 0)]) (cs' := [(Value.int .i64 ((meetF a b).l)), (Value.int .i64 ((meetF a b).h)), (Value.int .i64 ((meetF a b).s))]) Try.size23 rfl rfl rfl rfl rfl rfl (Nat.le_of_ble_eq_true rfl) rfl ?_
      refine oq (qv_as (Value.int .i64 0) rfl) ?_
      refine ops_nil ?_
      refine vc_ret ?_
      refine rs2 (Value.agg #[(Value.int .i64 ((meetF a b).l)), (Value.int .i64 ((meetF a b).h)), (Value.int .i64 ((meetF a b).s))]) (Value.int .i64 0) (rv_c (vs := [(Value.int .i64 ((meetF a b).l)), (Value.int .i64 ((meetF a b).h)), (Value.int .i64 ((meetF a b).s))]) Try.agg23 rfl (inOc (k := 2) rfl) rfl rfl) (rv_t rfl) ?_
      exact tup2 (aggc (consc (congrArg (Value.int .i64) (show ((meetF a b).l) = ((mtN a b).l) from by rw [mtN_1 hj])) (consc (congrArg (Value.int .i64) (show ((meetF a b).h) = ((mtN a b).h) from by rw [mtN_1 hj])) (consc (congrArg (Value.int .i64) (show ((meetF a b).s) = ((mtN a b).s) from by rw [mtN_1 hj])) rfl)))) (congrArg (Value.int .i64) (show 0 = (jE a b) from by rw [jE_1 hj]))

set_option maxRecDepth 100000 in
set_option maxHeartbeats 4000000 in
theorem Subset_c {V : HV} {a b : Nm} :
    FnC Try.prog 15 [(Value.agg #[(Value.int .i64 (a.l)), (Value.int .i64 (a.h)), (Value.int .i64 (a.s))]), (Value.agg #[(Value.int .i64 (b.l)), (Value.int .i64 (b.h)), (Value.int .i64 (b.s))])] V [] (fun v _ _ => v = (Value.bool (decide (vld a ∧ vld b ∧ sub a b)))) := by
  refine fn_intro (N := 18) Try.func15 (by kernel_rfl) rfl rfl rfl (Nat.le_of_ble_eq_true rfl) ?_
  intro w0 D
  refine vc_seq ?_
  refine vc_region ?_
  refine ops_box (v := (Value.agg #[(Value.int .i64 (a.l)), (Value.int .i64 (a.h)), (Value.int .i64 (a.s))])) (cs := [(Value.int .i64 (a.l)), (Value.int .i64 (a.h)), (Value.int .i64 (a.s))]) rfl rfl (fun b1 => ?_)
  refine ops_box (v := (Value.agg #[(Value.int .i64 (b.l)), (Value.int .i64 (b.h)), (Value.int .i64 (b.s))])) (cs := [(Value.int .i64 (b.l)), (Value.int .i64 (b.h)), (Value.int .i64 (b.s))]) rfl rfl (fun b2 => ?_)
  refine oq (qv_as (Value.bool false) rfl) ?_
  refine ops_nil ?_
  refine vc_seq ?_
  refine vc_res (σ' := [(Arr 23 b1 [(Value.int .i64 (a.l)), (Value.int .i64 (a.h)), (Value.int .i64 (a.s))]), (Arr 23 b2 [(Value.int .i64 (b.l)), (Value.int .i64 (b.h)), (Value.int .i64 (b.s))])]) rfl ?_
  refine vc_region_any Try.mixed (by kernel_rfl) ?_
  refine qq (qv_ldm (vs := [(Value.int .i64 (a.l)), (Value.int .i64 (a.h)), (Value.int .i64 (a.s))]) Try.agg23 rfl (inOc (k := 0) rfl) rfl rfl) ?_
  refine qq (qv_call (v := (Value.bool (decide (vld a)))) (Valid_c (a := a)) rfl rfl) ?_
  refine qq (qv_mv (Value.bool (decide (vld a))) rfl) ?_
  by_cases g1 : vld a
  ·
    refine qg (qv_ldm (vs := [(Value.int .i64 (b.l)), (Value.int .i64 (b.h)), (Value.int .i64 (b.s))]) Try.agg23 rfl (inOc (k := 1) rfl) rfl rfl) (want_t g1 rfl rfl rfl) ?_
    refine qg (qv_call (v := (Value.bool (decide (vld b)))) (Valid_c (a := b)) rfl rfl) (want_t g1 rfl rfl rfl) ?_
    refine qq (qv_pick_t g1 rfl (rfl : ev _ _ = (Value.bool (decide (vld b))))) ?_
    refine qq (qv_mv (Value.bool (decide (vld b))) rfl) ?_
    by_cases g2 : vld b
    ·
      refine qg (qv_ldm (vs := [(Value.int .i64 (a.l)), (Value.int .i64 (a.h)), (Value.int .i64 (a.s))]) Try.agg23 rfl (inOc (k := 0) rfl) rfl rfl) (want_t g2 rfl rfl rfl) ?_
      refine qg (qv_ldm (vs := [(Value.int .i64 (b.l)), (Value.int .i64 (b.h)), (Value.int .i64 (b.s))]) Try.agg23 rfl (inOc (k := 1) rfl) rfl rfl) (want_t g2 rfl rfl rfl) ?_
      refine qg (qv_call (v := (Value.agg #[(Value.int .i64 ((meetF a b).l)), (Value.int .i64 ((meetF a b).h)), (Value.int .i64 ((meetF a b).s))])) (meet_c (a := a) (b := b) (by assumption) (by assumption)) rfl rfl) (want_t g2 rfl rfl rfl) ?_
      refine qg (qv_ldm (vs := [(Value.int .i64 (a.l)), (Value.int .i64 (a.h)), (Value.int .i64 (a.s))]) Try.agg23 rfl (inOc (k := 0) rfl) rfl rfl) (want_t g2 rfl rfl rfl) ?_
      refine qg (qv_eqls Try.eq23 [(meetF a b).l, (meetF a b).h, (meetF a b).s] [a.l, a.h, a.s] rfl rfl rfl rfl rfl rfl eq3) (want_t g2 rfl rfl rfl) ?_
      refine qq (qv_pick_t g2 rfl (rfl : ev _ _ = (Value.bool (decide (((meetF a b).l) = a.l ∧ ((meetF a b).h) = a.h ∧ ((meetF a b).s) = a.s))))) ?_
      refine qq (qv_as (Value.bool (decide (((meetF a b).l) = a.l ∧ ((meetF a b).h) = a.h ∧ ((meetF a b).s) = a.s))) rfl) ?_
      refine qops_nil ?_
      refine vc_ret ?_
      exact rq1 (Value.bool (decide (vld a ∧ vld b ∧ sub a b))) (congrArg Value.bool (decide_eq_decide.2 (show (((meetF a b).l) = a.l ∧ ((meetF a b).h) = a.h ∧ ((meetF a b).s) = a.s) ↔ (vld a ∧ vld b ∧ sub a b) from by rw [← nm_iff, meet_sub (by assumption) (by assumption)]; exact ⟨fun m => ⟨by assumption, by assumption, m⟩, fun m => m.2.2⟩))) rfl
    ·
      refine qs (want_tn g2 rfl rfl rfl) ?_
      refine qs (want_tn g2 rfl rfl rfl) ?_
      refine qs (want_tn g2 rfl rfl rfl) ?_
      refine qs (want_tn g2 rfl rfl rfl) ?_
      refine qs (want_tn g2 rfl rfl rfl) ?_
      refine qq (qv_pick_f g2 rfl (rfl : ev _ _ = (Value.bool false))) ?_
      refine qq (qv_as (Value.bool false) rfl) ?_
      refine qops_nil ?_
      refine vc_ret ?_
      exact rq1 (Value.bool (decide (vld a ∧ vld b ∧ sub a b))) (congrArg Value.bool (decide_eq_false (show ¬ (vld a ∧ vld b ∧ sub a b) from by exact fun m => by first | exact absurd m.1 (by assumption) | exact absurd m.2.1 (by assumption))).symm) rfl
  ·
    refine qs (want_tn g1 rfl rfl rfl) ?_
    refine qs (want_tn g1 rfl rfl rfl) ?_
    refine qq (qv_pick_f g1 rfl (rfl : ev _ _ = (Value.bool false))) ?_
    refine qq (qv_mv (Value.bool false) rfl) ?_
    refine qs (want_tnc rfl rfl rfl) ?_
    refine qs (want_tnc rfl rfl rfl) ?_
    refine qs (want_tnc rfl rfl rfl) ?_
    refine qs (want_tnc rfl rfl rfl) ?_
    refine qs (want_tnc rfl rfl rfl) ?_
    refine qq (qv_pick_fc rfl (rfl : ev _ _ = (Value.bool false))) ?_
    refine qq (qv_as (Value.bool false) rfl) ?_
    refine qops_nil ?_
    refine vc_ret ?_
    exact rq1 (Value.bool (decide (vld a ∧ vld b ∧ sub a b))) (congrArg Value.bool (decide_eq_false (show ¬ (vld a ∧ vld b ∧ sub a b) from by exact fun m => by first | exact absurd m.1 (by assumption) | exact absurd m.2.1 (by assumption))).symm) rfl

set_option maxRecDepth 100000 in
set_option maxHeartbeats 4000000 in
theorem rSubset_c {V : HV} {a b : Nm} :
    FnC Try.prog 16 [(Value.agg #[(Value.int .i64 (a.l)), (Value.int .i64 (a.h)), (Value.int .i64 (a.s))]), (Value.agg #[(Value.int .i64 (b.l)), (Value.int .i64 (b.h)), (Value.int .i64 (b.s))])] V [] (fun v _ _ => v = (Value.bool (decide (vld a ∧ vld b ∧ sub a b)))) := by
  refine fn_intro (N := 38) Try.func16 (by kernel_rfl) rfl rfl rfl (Nat.le_of_ble_eq_true rfl) ?_
  intro w0 D
  refine vc_seq ?_
  refine vc_region ?_
  refine ops_box (v := (Value.agg #[(Value.int .i64 (a.l)), (Value.int .i64 (a.h)), (Value.int .i64 (a.s))])) (cs := [(Value.int .i64 (a.l)), (Value.int .i64 (a.h)), (Value.int .i64 (a.s))]) rfl rfl (fun b1 => ?_)
  refine ops_box (v := (Value.agg #[(Value.int .i64 (b.l)), (Value.int .i64 (b.h)), (Value.int .i64 (b.s))])) (cs := [(Value.int .i64 (b.l)), (Value.int .i64 (b.h)), (Value.int .i64 (b.s))]) rfl rfl (fun b2 => ?_)
  refine oq (qv_as (Value.bool false) rfl) ?_
  refine ops_nil ?_
  refine vc_seq ?_
  refine vc_seq ?_
  refine vc_res (σ' := [(Arr 23 b1 [(Value.int .i64 (a.l)), (Value.int .i64 (a.h)), (Value.int .i64 (a.s))]), (Arr 23 b2 [(Value.int .i64 (b.l)), (Value.int .i64 (b.h)), (Value.int .i64 (b.s))])]) rfl ?_
  refine vc_region ?_
  refine oq (qv_ldm (vs := [(Value.int .i64 (a.l)), (Value.int .i64 (a.h)), (Value.int .i64 (a.s))]) Try.agg23 rfl (inOc (k := 0) rfl) rfl rfl) ?_
  refine oq (qv_call (v := (Value.bool (decide (vld a)))) (rValid_c (a := a)) rfl rfl) ?_
  refine oq (qv_not rfl) ?_
  refine oq (qv_mv (Value.bool (decide (¬ (vld a)))) rfl) ?_
  by_cases g1 : ¬ (vld a)
  ·
    refine os (want_fn g1 rfl rfl rfl) ?_
    refine os (want_fn g1 rfl rfl rfl) ?_
    refine os (want_fn g1 rfl rfl rfl) ?_
    refine oq (qv_pick_t g1 rfl (rfl : ev _ _ = (Value.bool true))) ?_
    refine ops_nil ?_
    refine vc_tt rfl ?_
    refine vc_seq ?_
    refine vc_region ?_
    refine oq (qv_as (Value.bool false) rfl) ?_
    refine ops_nil ?_
    refine vc_ret ?_
    exact rq1 (Value.bool (decide (vld a ∧ vld b ∧ sub a b))) (congrArg Value.bool (decide_eq_false (show ¬ (vld a ∧ vld b ∧ sub a b) from by exact fun m => by first | exact absurd m.1 (by assumption) | exact absurd m.2.1 (by assumption) | exact absurd (show vld b ∧ mem b a.l from ⟨hw, (hsi.1 m.2.2).1⟩) (by assumption) | exact absurd (show vld b ∧ mem b a.h from ⟨hw, (hsi.1 m.2.2).2.1⟩) (by assumption))).symm) rfl
  ·
    refine og (qv_ldm (vs := [(Value.int .i64 (b.l)), (Value.int .i64 (b.h)), (Value.int .i64 (b.s))]) Try.agg23 rfl (inOc (k := 1) rfl) rfl rfl) (want_f g1 rfl rfl rfl) ?_
    refine og (qv_call (v := (Value.bool (decide (vld b)))) (rValid_c (a := b)) rfl rfl) (want_f g1 rfl rfl rfl) ?_
    refine og (qv_not rfl) (want_f g1 rfl rfl rfl) ?_
    refine oq (qv_pick_f g1 rfl (rfl : ev _ _ = (Value.bool (decide (¬ (vld b)))))) ?_
    refine ops_nil ?_
    refine vc_if rfl (fun c1 => ?_) (fun c1 => ?_)
    ·
      refine vc_seq ?_
      refine vc_region ?_
      refine oq (qv_as (Value.bool false) rfl) ?_
      refine ops_nil ?_
      refine vc_ret ?_
      exact rq1 (Value.bool (decide (vld a ∧ vld b ∧ sub a b))) (congrArg Value.bool (decide_eq_false (show ¬ (vld a ∧ vld b ∧ sub a b) from by exact fun m => by first | exact absurd m.1 (by assumption) | exact absurd m.2.1 (by assumption) | exact absurd (show vld b ∧ mem b a.l from ⟨hw, (hsi.1 m.2.2).1⟩) (by assumption) | exact absurd (show vld b ∧ mem b a.h from ⟨hw, (hsi.1 m.2.2).2.1⟩) (by assumption))).symm) rfl
    ·
      refine vc_skip ?_
      refine vc_seq ?_
      refine vc_seq ?_
      refine vc_region ?_
      refine oq (qv_ldm (vs := [(Value.int .i64 (a.l)), (Value.int .i64 (a.h)), (Value.int .i64 (a.s))]) Try.agg23 rfl (inOc (k := 0) rfl) rfl rfl) ?_
      refine oq (qv_call (v := (Value.bool (decide (a.h < a.l)))) (rempty_c (a := a)) rfl rfl) ?_
      refine ops_nil ?_
      refine vc_if rfl (fun c2 => ?_) (fun c2 => ?_)
      ·
        refine vc_seq ?_
        have hv : vld a := Decidable.not_not.1 (by assumption)
        have hw : vld b := Decidable.not_not.1 (by assumption)
        have he : a = nE := (vld_lt hv).1 (by assumption)
        refine vc_region ?_
        refine oq (qv_as (Value.bool true) rfl) ?_
        refine ops_nil ?_
        refine vc_ret ?_
        exact rq1 (Value.bool (decide (vld a ∧ vld b ∧ sub a b))) (congrArg Value.bool (decide_eq_true (show (vld a ∧ vld b ∧ sub a b) from by first | exact ⟨hv, hw, fun n m => by rw [he] at m; exact absurd m mem_nE⟩ | exact ⟨hv, hw, hsi.2 ⟨(hv).2, (hv).2, by rw [show a.s = 0 by assumption]; exact Int.dvd_zero _⟩⟩)).symm) rfl
      ·
        refine vc_skip ?_
        refine vc_seq ?_
        have hv : vld a := Decidable.not_not.1 (by assumption)
        have hw : vld b := Decidable.not_not.1 (by assumption)
        have he : ¬ a = nE := fun e => absurd ((vld_lt hv).2 e) (by assumption)
        have hsi := sub_iff (b := b) hv he
        have ba := (vld_bd hv).2.2
        refine vc_region ?_
        refine oq (qv_ldm (vs := [(Value.int .i64 (b.l)), (Value.int .i64 (b.h)), (Value.int .i64 (b.s))]) Try.agg23 rfl (inOc (k := 1) rfl) rfl rfl) ?_
        refine oq (qv_fa (off := 0) Try.field23_0 rfl) ?_
        refine oq (qv_ldp (v := (Value.int .i64 (a.l))) Try.plain3 rfl (inOc (k := 0) rfl) rfl) ?_
        refine oq (qv_call (v := (Value.bool (decide (vld b ∧ mem b a.l)))) (rHas_c (a := b)) rfl rfl) ?_
        refine oq (qv_mv (Value.bool (decide (vld b ∧ mem b a.l))) rfl) ?_
        by_cases g2 : vld b ∧ mem b a.l
        ·
          refine og (qv_ldm (vs := [(Value.int .i64 (b.l)), (Value.int .i64 (b.h)), (Value.int .i64 (b.s))]) Try.agg23 rfl (inOc (k := 1) rfl) rfl rfl) (want_t g2 rfl rfl rfl) ?_
          refine og (qv_fa (off := 0) Try.field23_1 rfl) (want_t g2 rfl rfl rfl) ?_
          refine og (qv_ldp (v := (Value.int .i64 (a.h))) Try.plain3 rfl (inOc (k := 0) rfl) rfl) (want_t g2 rfl rfl rfl) ?_
          refine og (qv_call (v := (Value.bool (decide (vld b ∧ mem b a.h)))) (rHas_c (a := b)) rfl rfl) (want_t g2 rfl rfl rfl) ?_
          refine oq (qv_pick_t g2 rfl (rfl : ev _ _ = (Value.bool (decide (vld b ∧ mem b a.h))))) ?_
          refine oq (qv_mv (Value.bool (decide (vld b ∧ mem b a.h))) rfl) ?_
          by_cases g3 : vld b ∧ mem b a.h
          ·
            refine og (qv_fa (off := 0) Try.field23_2 rfl) (want_t g3 rfl rfl rfl) ?_
            refine og (qv_ldp (v := (Value.int .i64 (a.s))) Try.plain3 rfl (inOc (k := 0) rfl) rfl) (want_t g3 rfl rfl rfl) ?_
            refine og (qv_eql rfl rfl) (want_t g3 rfl rfl rfl) ?_
            refine og (qv_mv (Value.bool (decide (a.s = 0))) rfl) (want_t g3 rfl rfl rfl) ?_
            by_cases g4 : a.s = 0
            ·
              refine os (want_fn g4 rfl rfl rfl) ?_
              refine os (want_fn g4 rfl rfl rfl) ?_
              refine os (want_fn g4 rfl rfl rfl) ?_
              refine os (want_fn g4 rfl rfl rfl) ?_
              
              refine os (want_fn g4 rfl rfl rfl) ?_
              refine os (want_fn g4 rfl rfl rfl) ?_
              refine og (qv_pick_t g4 rfl (rfl : ev _ _ = (Value.bool true))) (want_t g3 rfl rfl rfl) ?_
              refine oq (qv_pick_t g3 rfl (rfl : ev _ _ = (Value.bool true))) ?_
              refine oq (qv_as (Value.bool true) rfl) ?_
              refine ops_nil ?_
              refine vc_ret ?_
              exact rq1 (Value.bool (decide (vld a ∧ vld b ∧ sub a b))) (congrArg Value.bool (decide_eq_true (show (vld a ∧ vld b ∧ sub a b) from by first | exact ⟨hv, hw, fun n m => by rw [he] at m; exact absurd m mem_nE⟩ | exact ⟨hv, hw, hsi.2 ⟨(g2).2, (g3).2, by rw [show a.s = 0 by assumption]; exact Int.dvd_zero _⟩⟩)).symm) rfl
            ·
              refine og (qv_fa (off := 0) Try.field23_2 rfl) (want_f g4 rfl rfl rfl) ?_
              refine og (qv_ldp (v := (Value.int .i64 (a.s))) Try.plain3 rfl (inOc (k := 0) rfl) rfl) (want_f g4 rfl rfl rfl) ?_
              refine og (qv_fa (off := 0) Try.field23_2 rfl) (want_f g4 rfl rfl rfl) ?_
              refine og (qv_ldp (v := (Value.int .i64 (b.s))) Try.plain3 rfl (inOc (k := 1) rfl) rfl) (want_f g4 rfl rfl rfl) ?_
              have hbs : 0 < b.s := two_step hv hw he (by assumption) (g2).2 (g3).2
              refine og (qv_rem rfl rfl (by omega) (by omega)) (want_f g4 rfl rfl rfl) ?_
              refine og (qv_eql rfl rfl) (want_f g4 rfl rfl rfl) ?_
              refine og (qv_pick_f g4 rfl (rfl : ev _ _ = (Value.bool (decide ((a.s % b.s) = 0))))) (want_t g3 rfl rfl rfl) ?_
              refine oq (qv_pick_t g3 rfl (rfl : ev _ _ = (Value.bool (decide ((a.s % b.s) = 0))))) ?_
              refine oq (qv_as (Value.bool (decide ((a.s % b.s) = 0))) rfl) ?_
              refine ops_nil ?_
              refine vc_ret ?_
              exact rq1 (Value.bool (decide (vld a ∧ vld b ∧ sub a b))) (congrArg Value.bool (decide_eq_decide.2 (show ((a.s % b.s) = 0) ↔ (vld a ∧ vld b ∧ sub a b) from by rw [hsi, Int.dvd_iff_emod_eq_zero]; exact ⟨fun m => ⟨hv, hw, (g2).2, (g3).2, m⟩, fun m => m.2.2.2.2⟩))) rfl
          ·
            refine os (want_tn g3 rfl rfl rfl) ?_
            refine os (want_tn g3 rfl rfl rfl) ?_
            refine os (want_tn g3 rfl rfl rfl) ?_
            refine os (want_tn g3 rfl rfl rfl) ?_
            refine os (want_u rfl rfl rfl) ?_
            refine os (want_u rfl rfl rfl) ?_
            refine os (want_u rfl rfl rfl) ?_
            refine os (want_u rfl rfl rfl) ?_
            
            refine os (want_u rfl rfl rfl) ?_
            refine os (want_u rfl rfl rfl) ?_
            refine os (want_tn g3 rfl rfl rfl) ?_
            refine oq (qv_pick_f g3 rfl (rfl : ev _ _ = (Value.bool false))) ?_
            refine oq (qv_as (Value.bool false) rfl) ?_
            refine ops_nil ?_
            refine vc_ret ?_
            exact rq1 (Value.bool (decide (vld a ∧ vld b ∧ sub a b))) (congrArg Value.bool (decide_eq_false (show ¬ (vld a ∧ vld b ∧ sub a b) from by exact fun m => by first | exact absurd m.1 (by assumption) | exact absurd m.2.1 (by assumption) | exact absurd (show vld b ∧ mem b a.l from ⟨hw, (hsi.1 m.2.2).1⟩) (by assumption) | exact absurd (show vld b ∧ mem b a.h from ⟨hw, (hsi.1 m.2.2).2.1⟩) (by assumption))).symm) rfl
        ·
          refine os (want_tn g2 rfl rfl rfl) ?_
          refine os (want_tn g2 rfl rfl rfl) ?_
          refine os (want_tn g2 rfl rfl rfl) ?_
          refine os (want_tn g2 rfl rfl rfl) ?_
          refine oq (qv_pick_f g2 rfl (rfl : ev _ _ = (Value.bool false))) ?_
          refine oq (qv_mv (Value.bool false) rfl) ?_
          refine os (want_tnc rfl rfl rfl) ?_
          refine os (want_tnc rfl rfl rfl) ?_
          refine os (want_tnc rfl rfl rfl) ?_
          refine os (want_tnc rfl rfl rfl) ?_
          refine os (want_u rfl rfl rfl) ?_
          refine os (want_u rfl rfl rfl) ?_
          refine os (want_u rfl rfl rfl) ?_
          refine os (want_u rfl rfl rfl) ?_
          
          refine os (want_u rfl rfl rfl) ?_
          refine os (want_u rfl rfl rfl) ?_
          refine os (want_tnc rfl rfl rfl) ?_
          refine oq (qv_pick_fc rfl (rfl : ev _ _ = (Value.bool false))) ?_
          refine oq (qv_as (Value.bool false) rfl) ?_
          refine ops_nil ?_
          refine vc_ret ?_
          exact rq1 (Value.bool (decide (vld a ∧ vld b ∧ sub a b))) (congrArg Value.bool (decide_eq_false (show ¬ (vld a ∧ vld b ∧ sub a b) from by exact fun m => by first | exact absurd m.1 (by assumption) | exact absurd m.2.1 (by assumption) | exact absurd (show vld b ∧ mem b a.l from ⟨hw, (hsi.1 m.2.2).1⟩) (by assumption) | exact absurd (show vld b ∧ mem b a.h from ⟨hw, (hsi.1 m.2.2).2.1⟩) (by assumption))).symm) rfl

set_option maxRecDepth 100000 in
set_option maxHeartbeats 4000000 in
theorem rMeet_c {V : HV} {a b : Nm} (ha : vld a) (hb : vld b) (hz : sizeF a ≤ 4096) :
    FnC Try.prog 20 [(Value.agg #[(Value.int .i64 (a.l)), (Value.int .i64 (a.h)), (Value.int .i64 (a.s))]), (Value.agg #[(Value.int .i64 (b.l)), (Value.int .i64 (b.h)), (Value.int .i64 (b.s))])] V [] (fun v _ _ => v = (Value.agg #[(Value.int .i64 ((meetF a b).l)), (Value.int .i64 ((meetF a b).h)), (Value.int .i64 ((meetF a b).s))])) := by
  refine fn_intro (N := 33) Try.func20 (by kernel_rfl) rfl rfl rfl (Nat.le_of_ble_eq_true rfl) ?_
  intro w0 D
  have hsz := sizeV_1 ha
  refine vc_seq ?_
  refine vc_region ?_
  refine ops_box (v := (Value.agg #[(Value.int .i64 (a.l)), (Value.int .i64 (a.h)), (Value.int .i64 (a.s))])) (cs := [(Value.int .i64 (a.l)), (Value.int .i64 (a.h)), (Value.int .i64 (a.s))]) rfl rfl (fun b1 => ?_)
  refine ops_box (v := (Value.agg #[(Value.int .i64 (b.l)), (Value.int .i64 (b.h)), (Value.int .i64 (b.s))])) (cs := [(Value.int .i64 (b.l)), (Value.int .i64 (b.h)), (Value.int .i64 (b.s))]) rfl rfl (fun b2 => ?_)
  refine ops_alloc Try.ti23 rfl (fun b3 => ?_)
  refine ops_nil ?_
  refine vc_seq ?_
  refine vc_res (σ' := [(Arr 23 b1 [(Value.int .i64 (a.l)), (Value.int .i64 (a.h)), (Value.int .i64 (a.s))]), (Arr 23 b2 [(Value.int .i64 (b.l)), (Value.int .i64 (b.h)), (Value.int .i64 (b.s))]), (Arr 23 b3 [(Value.int .i64 0), (Value.int .i64 0), (Value.int .i64 0)])]) rfl ?_
  refine vc_region ?_
  refine ops_lit (n := 0) (s := 1) (cs := []) Try.underlying37 Try.ti3 (Nat.le_of_ble_eq_true rfl) rfl rfl rfl (Nat.le_of_ble_eq_true rfl) rfl (fun b4 => ?_)
  refine oq (qv_as (Value.slice (some ⟨b4, 0, none⟩) 0 0) rfl) ?_
  refine ops_nil ?_
  refine vc_seq ?_
  refine vc_seq ?_
  refine vc_res (σ' := [(Arr 23 b1 [(Value.int .i64 (a.l)), (Value.int .i64 (a.h)), (Value.int .i64 (a.s))]), (Arr 23 b2 [(Value.int .i64 (b.l)), (Value.int .i64 (b.h)), (Value.int .i64 (b.s))]), (Arr 23 b3 [(Value.int .i64 0), (Value.int .i64 0), (Value.int .i64 0)]), (Arr 3 b4 [])]) rfl ?_
  refine vc_region ?_
  refine ops_to_gr (k := 3) (b := b4) (n := 0) (cap := 0) (cs := #[]) 1 [] rfl rfl (Nat.le_refl _) (Nat.zero_le _) rfl rfl ?_
  refine oq (qv_as (Value.int .i64 0) rfl) ?_
  refine ops_nil ?_
  refine vc_block ?_
  refine vc_loop (α := Int × Value × List Int) (fun (xx : Int × Value × List Int) => [(0, (Value.agg #[(Value.int .i64 (a.l)), (Value.int .i64 (a.h)), (Value.int .i64 (a.s))])), (1, (Value.agg #[(Value.int .i64 (b.l)), (Value.int .i64 (b.h)), (Value.int .i64 (b.s))])), (2, (Value.pointer (some ⟨b1, 0, none⟩))), (3, (Value.pointer (some ⟨b2, 0, none⟩))), (4, (Value.pointer (some ⟨b3, 0, none⟩))), (5, xx.2.1), (6, (Value.int .i64 xx.1))]) (fun (xx : Int × Value × List Int) V' σ' => V = V' ∧ [(Arr 23 b1 [(Value.int .i64 (a.l)), (Value.int .i64 (a.h)), (Value.int .i64 (a.s))]), (Arr 23 b2 [(Value.int .i64 (b.l)), (Value.int .i64 (b.h)), (Value.int .i64 (b.s))]), (Arr 23 b3 [(Value.int .i64 0), (Value.int .i64 0), (Value.int .i64 0)]), (Gr 3 1 xx.2.1 xx.2.2.length ((xx.2.2.map (Value.int .i64))))] = σ' ∧ 0 ≤ xx.1 ∧ xx.1 ≤ sizeF a ∧ xx.2.2 = (memP a xx.1.toNat).filter (fun n => decide (mem b n)) ∧ xx.2.2.length ≤ xx.1) (fun (xx : Int × Value × List Int) => (sizeF a - xx.1).toNat) (0, (Value.slice (some ⟨b4, 0, none⟩) 0 0), []) ?_ ?_ ?_
  · exact ⟨rfl, rfl, rfl, rfl, rfl, (by first | rfl | (first | omega | simp)), rfl, trivial⟩
  · exact (show V = V ∧ [(Arr 23 b1 [(Value.int .i64 (a.l)), (Value.int .i64 (a.h)), (Value.int .i64 (a.s))]), (Arr 23 b2 [(Value.int .i64 (b.l)), (Value.int .i64 (b.h)), (Value.int .i64 (b.s))]), (Arr 23 b3 [(Value.int .i64 0), (Value.int .i64 0), (Value.int .i64 0)]), (Gr 3 1 ((Value.slice (some ⟨b4, 0, none⟩) 0 0) : Value) ([] : List Int).length ((([] : List Int).map (Value.int .i64))))] = [(Arr 23 b1 [(Value.int .i64 (a.l)), (Value.int .i64 (a.h)), (Value.int .i64 (a.s))]), (Arr 23 b2 [(Value.int .i64 (b.l)), (Value.int .i64 (b.h)), (Value.int .i64 (b.s))]), (Arr 23 b3 [(Value.int .i64 0), (Value.int .i64 0), (Value.int .i64 0)]), (Gr 3 1 ((Value.slice (some ⟨b4, 0, none⟩) 0 0)) 0 ([]))] ∧ 0 ≤ (0 : Int) ∧ (0 : Int) ≤ sizeF a ∧ ([] : List Int) = (memP a (0 : Int).toNat).filter (fun n => decide (mem b n)) ∧ ([] : List Int).length ≤ (0 : Int) from ⟨rfl, (show [(Arr 23 b1 [(Value.int .i64 (a.l)), (Value.int .i64 (a.h)), (Value.int .i64 (a.s))]), (Arr 23 b2 [(Value.int .i64 (b.l)), (Value.int .i64 (b.h)), (Value.int .i64 (b.s))]), (Arr 23 b3 [(Value.int .i64 0), (Value.int .i64 0), (Value.int .i64 0)]), (Gr 3 1 ((Value.slice (some ⟨b4, 0, none⟩) 0 0)) ([] : List Int).length ((([] : List Int).map (Value.int .i64))))] = [(Arr 23 b1 [(Value.int .i64 (a.l)), (Value.int .i64 (a.h)), (Value.int .i64 (a.s))]), (Arr 23 b2 [(Value.int .i64 (b.l)), (Value.int .i64 (b.h)), (Value.int .i64 (b.s))]), (Arr 23 b3 [(Value.int .i64 0), (Value.int .i64 0), (Value.int .i64 0)]), (Gr 3 1 ((Value.slice (some ⟨b4, 0, none⟩) 0 0)) 0 ([]))] from by rfl), by omega, (size_bd ha).1, rfl, by simp⟩)
  rintro ⟨i, v, xs⟩ e1 V0l σ0l hI0
  obtain ⟨rfl, rfl, i1, hi, hx, i2⟩ : V = V0l ∧ [(Arr 23 b1 [(Value.int .i64 (a.l)), (Value.int .i64 (a.h)), (Value.int .i64 (a.s))]), (Arr 23 b2 [(Value.int .i64 (b.l)), (Value.int .i64 (b.h)), (Value.int .i64 (b.s))]), (Arr 23 b3 [(Value.int .i64 0), (Value.int .i64 0), (Value.int .i64 0)]), (Gr 3 1 v xs.length ((xs.map (Value.int .i64))))] = σ0l ∧ 0 ≤ i ∧ i ≤ sizeF a ∧ xs = (memP a i.toNat).filter (fun n => decide (mem b n)) ∧ xs.length ≤ i := hI0
  change VC _ _ _ _ _ _ (upds 33 [(0, (Value.agg #[(Value.int .i64 (a.l)), (Value.int .i64 (a.h)), (Value.int .i64 (a.s))])), (1, (Value.agg #[(Value.int .i64 (b.l)), (Value.int .i64 (b.h)), (Value.int .i64 (b.s))])), (2, (Value.pointer (some ⟨b1, 0, none⟩))), (3, (Value.pointer (some ⟨b2, 0, none⟩))), (4, (Value.pointer (some ⟨b3, 0, none⟩))), (5, v), (6, (Value.int .i64 i))] e1) _ _
  refine vc_seq ?_
  refine vc_seq ?_
  refine vc_res (σ' := [(Arr 23 b1 [(Value.int .i64 (a.l)), (Value.int .i64 (a.h)), (Value.int .i64 (a.s))]), (Arr 23 b2 [(Value.int .i64 (b.l)), (Value.int .i64 (b.h)), (Value.int .i64 (b.s))]), (Arr 23 b3 [(Value.int .i64 0), (Value.int .i64 0), (Value.int .i64 0)]), (Gr 3 1 v xs.length ((xs.map (Value.int .i64))))]) rfl ?_
  refine vc_region ?_
  refine oq (qv_mv (Value.int .i64 i) rfl) ?_
  refine oq (qv_ldm (vs := [(Value.int .i64 (a.l)), (Value.int .i64 (a.h)), (Value.int .i64 (a.s))]) Try.agg23 rfl (inOc (k := 0) rfl) rfl rfl) ?_
  refine oq (qv_call (v := (Value.int .i64 (sizeV a))) (rSize_c (a := a)) rfl rfl) ?_
  refine oq (qv_lss rfl rfl) ?_
  refine ops_nil ?_
  refine vc_if rfl (fun c1 => ?_) (fun c1 => ?_)
  ·
    refine vc_skip ?_
    refine vc_seq ?_
    refine vc_block ?_
    refine vc_seq ?_
    refine vc_region_any Try.mixed (by kernel_rfl) ?_
    refine qq (qv_ldm (vs := [(Value.int .i64 (b.l)), (Value.int .i64 (b.h)), (Value.int .i64 (b.s))]) Try.agg23 rfl (inOc (k := 1) rfl) rfl rfl) ?_
    refine qq (qv_ldm (vs := [(Value.int .i64 (a.l)), (Value.int .i64 (a.h)), (Value.int .i64 (a.s))]) Try.agg23 rfl (inOc (k := 0) rfl) rfl rfl) ?_
    refine qq (qv_mv (Value.int .i64 i) rfl) ?_
    refine qq (qv_call (v := (Value.int .i64 (a.l + i * a.s))) (rAt_c ha (by omega) (by omega)) rfl rfl) ?_
    refine qq (qv_call (v := (Value.bool (decide (vld b ∧ mem b (a.l + i * a.s))))) (rHas_c (a := b)) rfl rfl) ?_
    refine qops_nil ?_
    refine vc_if rfl (fun c2 => ?_) (fun c2 => ?_)
    ·
      have hm := size_mul ha (show 0 ≤ i by omega) (by omega)
      refine vc_region ?_
      refine oq (qv_mv v rfl) ?_
      refine oq (qv_ldm (vs := [(Value.int .i64 (a.l)), (Value.int .i64 (a.h)), (Value.int .i64 (a.s))]) Try.agg23 rfl (inOc (k := 0) rfl) rfl rfl) ?_
      refine oq (qv_mv (Value.int .i64 i) rfl) ?_
      refine oq (qv_call (v := (Value.int .i64 (a.l + i * a.s))) (rAt_c ha (by omega) (by omega)) rfl rfl) ?_
      refine ops_lit (n := 1) (s := 1) (cs := [(Value.int .i64 (a.l + i * a.s))]) Try.underlying37 Try.ti3 (Nat.le_of_ble_eq_true rfl) rfl rfl rfl (Nat.le_of_ble_eq_true rfl) rfl (fun b5 => ?_)
      refine ops_append (k := 3) (n := xs.length) (s := 1) (m := 1) (v := v) (xs := (xs.map (Value.int .i64))) (news := [(Value.int .i64 (a.l + i * a.s))]) Try.underlying37 Try.ti3 rfl (Nat.le_of_ble_eq_true rfl) rfl rfl rfl rfl (news_own (j := 4) rfl) (by simp [Value.oneCell']) (by omega) (by simp only [maxLen]; omega) (fun v1 hn1 => ?_)
      refine oq (qv_as v1 rfl) ?_
      refine ops_nil ?_
      refine vc_res (σ' := [(Arr 23 b1 [(Value.int .i64 (a.l)), (Value.int .i64 (a.h)), (Value.int .i64 (a.s))]), (Arr 23 b2 [(Value.int .i64 (b.l)), (Value.int .i64 (b.h)), (Value.int .i64 (b.s))]), (Arr 23 b3 [(Value.int .i64 0), (Value.int .i64 0), (Value.int .i64 0)]), (Gr 3 1 v1 ((xs.length + 1)) (((xs.map (Value.int .i64)) ++ [(Value.int .i64 (a.l + i * a.s))]))), (Arr 3 b5 [(Value.int .i64 (a.l + i * a.s))])]) rfl ?_
      refine vc_drop [(Arr 23 b1 [(Value.int .i64 (a.l)), (Value.int .i64 (a.h)), (Value.int .i64 (a.s))]), (Arr 23 b2 [(Value.int .i64 (b.l)), (Value.int .i64 (b.h)), (Value.int .i64 (b.s))]), (Arr 23 b3 [(Value.int .i64 0), (Value.int .i64 0), (Value.int .i64 0)]), (Gr 3 1 v1 ((xs.length + 1)) (((xs.map (Value.int .i64)) ++ [(Value.int .i64 (a.l + i * a.s))])))] [(Arr 3 b5 [(Value.int .i64 (a.l + i * a.s))])] ((List.perm_middle (l₁ := [(Arr 23 b1 [(Value.int .i64 (a.l)), (Value.int .i64 (a.h)), (Value.int .i64 (a.s))]), (Arr 23 b2 [(Value.int .i64 (b.l)), (Value.int .i64 (b.h)), (Value.int .i64 (b.s))]), (Arr 23 b3 [(Value.int .i64 0), (Value.int .i64 0), (Value.int .i64 0)]), (Gr 3 1 v1 ((xs.length + 1)) (((xs.map (Value.int .i64)) ++ [(Value.int .i64 (a.l + i * a.s))])))]) (l₂ := [])).trans (List.perm_append_comm (l₁ := [(Arr 3 b5 [(Value.int .i64 (a.l + i * a.s))])]))) ?_
      refine vc_region ?_
      refine oq (qv_mv (Value.int .i64 i) rfl) ?_
      refine oq (qv_add rfl rfl (by omega)) ?_
      refine oq (qv_as (Value.int .i64 (i + 1)) rfl) ?_
      refine ops_nil ?_
      refine ⟨(i + 1, v1, xs ++ [a.l + i * a.s]), ⟨rfl, rfl, rfl, rfl, rfl, rfl, (congrArg (Value.int .i64) (show (i + 1) = ((i + 1)) from by omega)), trivial⟩, (show V = V ∧ [(Arr 23 b1 [(Value.int .i64 (a.l)), (Value.int .i64 (a.h)), (Value.int .i64 (a.s))]), (Arr 23 b2 [(Value.int .i64 (b.l)), (Value.int .i64 (b.h)), (Value.int .i64 (b.s))]), (Arr 23 b3 [(Value.int .i64 0), (Value.int .i64 0), (Value.int .i64 0)]), (Gr 3 1 v1 (xs ++ [a.l + i * a.s] : List Int).length (((xs ++ [a.l + i * a.s] : List Int).map (Value.int .i64))))] = [(Arr 23 b1 [(Value.int .i64 (a.l)), (Value.int .i64 (a.h)), (Value.int .i64 (a.s))]), (Arr 23 b2 [(Value.int .i64 (b.l)), (Value.int .i64 (b.h)), (Value.int .i64 (b.s))]), (Arr 23 b3 [(Value.int .i64 0), (Value.int .i64 0), (Value.int .i64 0)]), (Gr 3 1 v1 ((xs.length + 1)) (((xs.map (Value.int .i64)) ++ [(Value.int .i64 (a.l + i * a.s))])))] ∧ 0 ≤ (i + 1 : Int) ∧ (i + 1 : Int) ≤ sizeF a ∧ (xs ++ [a.l + i * a.s] : List Int) = (memP a (i + 1 : Int).toNat).filter (fun n => decide (mem b n)) ∧ (xs ++ [a.l + i * a.s] : List Int).length ≤ (i + 1 : Int) from ⟨rfl, (show [(Arr 23 b1 [(Value.int .i64 (a.l)), (Value.int .i64 (a.h)), (Value.int .i64 (a.s))]), (Arr 23 b2 [(Value.int .i64 (b.l)), (Value.int .i64 (b.h)), (Value.int .i64 (b.s))]), (Arr 23 b3 [(Value.int .i64 0), (Value.int .i64 0), (Value.int .i64 0)]), (Gr 3 1 v1 (xs ++ [a.l + i * a.s] : List Int).length (((xs ++ [a.l + i * a.s] : List Int).map (Value.int .i64))))] = [(Arr 23 b1 [(Value.int .i64 (a.l)), (Value.int .i64 (a.h)), (Value.int .i64 (a.s))]), (Arr 23 b2 [(Value.int .i64 (b.l)), (Value.int .i64 (b.h)), (Value.int .i64 (b.s))]), (Arr 23 b3 [(Value.int .i64 0), (Value.int .i64 0), (Value.int .i64 0)]), (Gr 3 1 v1 ((xs.length + 1)) (((xs.map (Value.int .i64)) ++ [(Value.int .i64 (a.l + i * a.s))])))] from by first | rfl | simp), by omega, by omega, by rw [com_step (by omega), if_pos (c2).2, hx], by first | omega | (simp; omega)⟩), show (sizeF a - (i + 1)).toNat < (sizeF a - i).toNat from by omega⟩
    ·
      refine vc_skip ?_
      refine vc_region ?_
      refine oq (qv_mv (Value.int .i64 i) rfl) ?_
      refine oq (qv_add rfl rfl (by omega)) ?_
      refine oq (qv_as (Value.int .i64 (i + 1)) rfl) ?_
      refine ops_nil ?_
      refine ⟨(i + 1, v, xs), ⟨rfl, rfl, rfl, rfl, rfl, rfl, (congrArg (Value.int .i64) (show (i + 1) = ((i + 1)) from by omega)), trivial⟩, (show V = V ∧ [(Arr 23 b1 [(Value.int .i64 (a.l)), (Value.int .i64 (a.h)), (Value.int .i64 (a.s))]), (Arr 23 b2 [(Value.int .i64 (b.l)), (Value.int .i64 (b.h)), (Value.int .i64 (b.s))]), (Arr 23 b3 [(Value.int .i64 0), (Value.int .i64 0), (Value.int .i64 0)]), (Gr 3 1 v xs.length ((xs.map (Value.int .i64))))] = [(Arr 23 b1 [(Value.int .i64 (a.l)), (Value.int .i64 (a.h)), (Value.int .i64 (a.s))]), (Arr 23 b2 [(Value.int .i64 (b.l)), (Value.int .i64 (b.h)), (Value.int .i64 (b.s))]), (Arr 23 b3 [(Value.int .i64 0), (Value.int .i64 0), (Value.int .i64 0)]), (Gr 3 1 v xs.length ((xs.map (Value.int .i64))))] ∧ 0 ≤ (i + 1 : Int) ∧ (i + 1 : Int) ≤ sizeF a ∧ xs = (memP a (i + 1 : Int).toNat).filter (fun n => decide (mem b n)) ∧ xs.length ≤ (i + 1 : Int) from ⟨rfl, (show [(Arr 23 b1 [(Value.int .i64 (a.l)), (Value.int .i64 (a.h)), (Value.int .i64 (a.s))]), (Arr 23 b2 [(Value.int .i64 (b.l)), (Value.int .i64 (b.h)), (Value.int .i64 (b.s))]), (Arr 23 b3 [(Value.int .i64 0), (Value.int .i64 0), (Value.int .i64 0)]), (Gr 3 1 v (xs : List Int).length (((xs : List Int).map (Value.int .i64))))] = [(Arr 23 b1 [(Value.int .i64 (a.l)), (Value.int .i64 (a.h)), (Value.int .i64 (a.s))]), (Arr 23 b2 [(Value.int .i64 (b.l)), (Value.int .i64 (b.h)), (Value.int .i64 (b.s))]), (Arr 23 b3 [(Value.int .i64 0), (Value.int .i64 0), (Value.int .i64 0)]), (Gr 3 1 v xs.length ((xs.map (Value.int .i64))))] from by first | rfl | simp), by omega, by omega, by rw [com_step (by omega), if_neg (fun m => absurd (show vld b ∧ mem b (a.l + i * a.s) from ⟨hb, m⟩) (by assumption)), hx], by first | omega | (simp; omega)⟩), show (sizeF a - (i + 1)).toNat < (sizeF a - i).toNat from by omega⟩
  ·
    refine vc_exit ?_
    refine blockQ_hit ?_
    refine vc_seq ?_
    refine vc_freezeG (v := v) (E := 3) (n := xs.length) (xs := (xs.map (Value.int .i64))) (σr := [(Arr 23 b1 [(Value.int .i64 (a.l)), (Value.int .i64 (a.h)), (Value.int .i64 (a.s))]), (Arr 23 b2 [(Value.int .i64 (b.l)), (Value.int .i64 (b.h)), (Value.int .i64 (b.s))]), (Arr 23 b3 [(Value.int .i64 0), (Value.int .i64 0), (Value.int .i64 0)])]) (List.perm_middle (l₁ := [(Arr 23 b1 [(Value.int .i64 (a.l)), (Value.int .i64 (a.h)), (Value.int .i64 (a.s))]), (Arr 23 b2 [(Value.int .i64 (b.l)), (Value.int .i64 (b.h)), (Value.int .i64 (b.s))]), (Arr 23 b3 [(Value.int .i64 0), (Value.int .i64 0), (Value.int .i64 0)])]) (l₂ := [])) (fun Vf1 hVf1 hc1 => ?_)
    refine vc_region ?_
    refine oq (qv_mv v rfl) ?_
    have hcl : xs = comL a b := by rw [hx, show i.toNat = (sizeF a).toNat by omega]; rfl
    refine oq (qv_call (v := (Value.tuple #[(Value.agg #[(Value.int .i64 ((ofN xs).l)), (Value.int .i64 ((ofN xs).h)), (Value.int .i64 ((ofN xs).s))]), (Value.int .i64 (ofE xs))])) (rOf_c hc1) rfl rfl) ?_
    refine oq (qv_mv (Value.tuple #[(Value.agg #[(Value.int .i64 ((ofN xs).l)), (Value.int .i64 ((ofN xs).h)), (Value.int .i64 ((ofN xs).s))]), (Value.int .i64 (ofE xs))]) rfl) ?_
    refine oq (qv_ext (Value.agg #[(Value.int .i64 ((ofN xs).l)), (Value.int .i64 ((ofN xs).h)), (Value.int .i64 ((ofN xs).s))]) rfl rfl) ?_
    refine oq (qv_ext (Value.int .i64 (ofE xs)) rfl rfl) ?_
    refine ops_alloc Try.ti23 rfl (fun b6 => ?_)
    refine ops_stm (k := 3) (off := 0) (v := (Value.agg #[(Value.int .i64 ((ofN xs).l)), (Value.int .i64 ((ofN xs).h)), (Value.int .i64 ((ofN xs).s))])) (vs := [(Value.int .i64 ((ofN xs).l)), (Value.int .i64 ((ofN xs).h)), (Value.int .i64 ((ofN xs).s))]) (cs := [(Value.int .i64 0), (Value.int .i64 0), (Value.int .i64 0)]) (cs' := [(Value.int .i64 ((ofN xs).l)), (Value.int .i64 ((ofN xs).h)), (Value.int .i64 ((ofN xs).s))]) Try.size23 rfl rfl rfl rfl rfl rfl (Nat.le_of_ble_eq_true rfl) rfl ?_
    refine oq (qv_as (Value.int .i64 (ofE xs)) rfl) ?_
    refine ops_nil ?_
    refine vc_seq ?_
    refine vc_res (σ' := [(Arr 23 b1 [(Value.int .i64 (a.l)), (Value.int .i64 (a.h)), (Value.int .i64 (a.s))]), (Arr 23 b2 [(Value.int .i64 (b.l)), (Value.int .i64 (b.h)), (Value.int .i64 (b.s))]), (Arr 23 b3 [(Value.int .i64 0), (Value.int .i64 0), (Value.int .i64 0)]), (Arr 23 b6 [(Value.int .i64 ((ofN xs).l)), (Value.int .i64 ((ofN xs).h)), (Value.int .i64 ((ofN xs).s))])]) rfl ?_
    refine vc_region ?_
    refine oq (qv_ldm (vs := [(Value.int .i64 ((ofN xs).l)), (Value.int .i64 ((ofN xs).h)), (Value.int .i64 ((ofN xs).s))]) Try.agg23 rfl (inOc (k := 3) rfl) rfl rfl) ?_
    refine ops_stm (k := 2) (off := 0) (v := (Value.agg #[(Value.int .i64 ((ofN xs).l)), (Value.int .i64 ((ofN xs).h)), (Value.int .i64 ((ofN xs).s))])) (vs := [(Value.int .i64 ((ofN xs).l)), (Value.int .i64 ((ofN xs).h)), (Value.int .i64 ((ofN xs).s))]) (cs := [(Value.int .i64 0), (Value.int .i64 0), (Value.int .i64 0)]) (cs' := [(Value.int .i64 ((ofN xs).l)), (Value.int .i64 ((ofN xs).h)), (Value.int .i64 ((ofN xs).s))]) Try.size23 rfl rfl rfl rfl rfl rfl (Nat.le_of_ble_eq_true rfl) rfl ?_
    refine ops_nil ?_
    refine vc_ret ?_
    refine rs1 (Value.agg #[(Value.int .i64 ((ofN xs).l)), (Value.int .i64 ((ofN xs).h)), (Value.int .i64 ((ofN xs).s))]) (rv_c (vs := [(Value.int .i64 ((ofN xs).l)), (Value.int .i64 ((ofN xs).h)), (Value.int .i64 ((ofN xs).s))]) Try.agg23 rfl (inOc (k := 2) rfl) rfl rfl) ?_
    exact (aggc (consc (congrArg (Value.int .i64) (show ((ofN xs).l) = ((meetF a b).l) from by rw [hcl, ofN_com ha])) (consc (congrArg (Value.int .i64) (show ((ofN xs).h) = ((meetF a b).h) from by rw [hcl, ofN_com ha])) (consc (congrArg (Value.int .i64) (show ((ofN xs).s) = ((meetF a b).s) from by rw [hcl, ofN_com ha])) rfl))))

set_option maxRecDepth 100000 in
set_option maxHeartbeats 4000000 in
theorem NumericJoins_n {V : HV} {a b : Nm} :
    FnC Try.prog 3 [(Value.agg #[(Value.int .i64 (a.l)), (Value.int .i64 (a.h)), (Value.int .i64 (a.s))]), (Value.agg #[(Value.int .i64 (b.l)), (Value.int .i64 (b.h)), (Value.int .i64 (b.s))])] V [] (fun v _ _ => v = (Value.bool true)) := by
  refine fn_intro (N := 85) Try.func3 (by kernel_rfl) rfl rfl rfl (Nat.le_of_ble_eq_true rfl) ?_
  intro w0 D
  refine vc_seq ?_
  refine vc_region ?_
  refine ops_box (v := (Value.agg #[(Value.int .i64 (a.l)), (Value.int .i64 (a.h)), (Value.int .i64 (a.s))])) (cs := [(Value.int .i64 (a.l)), (Value.int .i64 (a.h)), (Value.int .i64 (a.s))]) rfl rfl (fun b1 => ?_)
  refine ops_box (v := (Value.agg #[(Value.int .i64 (b.l)), (Value.int .i64 (b.h)), (Value.int .i64 (b.s))])) (cs := [(Value.int .i64 (b.l)), (Value.int .i64 (b.h)), (Value.int .i64 (b.s))]) rfl rfl (fun b2 => ?_)
  refine oq (qv_as (Value.bool false) rfl) ?_
  refine ops_nil ?_
  refine vc_seq ?_
  refine vc_seq ?_
  refine vc_res (σ' := [(Arr 23 b1 [(Value.int .i64 (a.l)), (Value.int .i64 (a.h)), (Value.int .i64 (a.s))]), (Arr 23 b2 [(Value.int .i64 (b.l)), (Value.int .i64 (b.h)), (Value.int .i64 (b.s))])]) rfl ?_
  refine vc_region ?_
  refine oq (qv_call (v := (Value.bool true)) (known_c) rfl rfl) ?_
  refine oq (qv_notc rfl) ?_
  refine ops_nil ?_
  refine vc_ff rfl ?_
  refine vc_skip ?_
  refine vc_seq ?_
  refine vc_region ?_
  refine oq (qv_ldm (vs := [(Value.int .i64 (a.l)), (Value.int .i64 (a.h)), (Value.int .i64 (a.s))]) Try.agg23 rfl (inOc (k := 0) rfl) rfl rfl) ?_
  refine oq (qv_ldm (vs := [(Value.int .i64 (b.l)), (Value.int .i64 (b.h)), (Value.int .i64 (b.s))]) Try.agg23 rfl (inOc (k := 1) rfl) rfl rfl) ?_
  refine oq (qv_call (v := (Value.tuple #[(Value.agg #[(Value.int .i64 ((jN a b).l)), (Value.int .i64 ((jN a b).h)), (Value.int .i64 ((jN a b).s))]), (Value.int .i64 (jE a b))])) (Join_c (a := a) (b := b)) rfl rfl) ?_
  refine oq (qv_mv (Value.tuple #[(Value.agg #[(Value.int .i64 ((jN a b).l)), (Value.int .i64 ((jN a b).h)), (Value.int .i64 ((jN a b).s))]), (Value.int .i64 (jE a b))]) rfl) ?_
  refine oq (qv_ext (Value.agg #[(Value.int .i64 ((jN a b).l)), (Value.int .i64 ((jN a b).h)), (Value.int .i64 ((jN a b).s))]) rfl rfl) ?_
  refine oq (qv_ext (Value.int .i64 (jE a b)) rfl rfl) ?_
  refine ops_alloc Try.ti23 rfl (fun b3 => ?_)
  refine ops_stm (k := 2) (off := 0) (v := (Value.agg #[(Value.int .i64 ((jN a b).l)), (Value.int .i64 ((jN a b).h)), (Value.int .i64 ((jN a b).s))])) (vs := [(Value.int .i64 ((jN a b).l)), (Value.int .i64 ((jN a b).h)), (Value.int .i64 ((jN a b).s))]) (cs := [(Value.int .i64 0), (Value.int .i64 0), (Value.int .i64 0)]) (cs' := [(Value.int .i64 ((jN a b).l)), (Value.int .i64 ((jN a b).h)), (Value.int .i64 ((jN a b).s))]) Try.size23 rfl rfl rfl rfl rfl rfl (Nat.le_of_ble_eq_true rfl) rfl ?_
  refine oq (qv_as (Value.int .i64 (jE a b)) rfl) ?_
  refine ops_nil ?_
  refine vc_seq ?_
  refine vc_res (σ' := [(Arr 23 b1 [(Value.int .i64 (a.l)), (Value.int .i64 (a.h)), (Value.int .i64 (a.s))]), (Arr 23 b2 [(Value.int .i64 (b.l)), (Value.int .i64 (b.h)), (Value.int .i64 (b.s))]), (Arr 23 b3 [(Value.int .i64 ((jN a b).l)), (Value.int .i64 ((jN a b).h)), (Value.int .i64 ((jN a b).s))])]) rfl ?_
  refine vc_region ?_
  refine oq (qv_ldm (vs := [(Value.int .i64 (a.l)), (Value.int .i64 (a.h)), (Value.int .i64 (a.s))]) Try.agg23 rfl (inOc (k := 0) rfl) rfl rfl) ?_
  refine oq (qv_ldm (vs := [(Value.int .i64 (b.l)), (Value.int .i64 (b.h)), (Value.int .i64 (b.s))]) Try.agg23 rfl (inOc (k := 1) rfl) rfl rfl) ?_
  refine oq (qv_call (v := (Value.tuple #[(Value.agg #[(Value.int .i64 ((mtN a b).l)), (Value.int .i64 ((mtN a b).h)), (Value.int .i64 ((mtN a b).s))]), (Value.int .i64 (jE a b))])) (Meet_c (a := a) (b := b)) rfl rfl) ?_
  refine oq (qv_mv (Value.tuple #[(Value.agg #[(Value.int .i64 ((mtN a b).l)), (Value.int .i64 ((mtN a b).h)), (Value.int .i64 ((mtN a b).s))]), (Value.int .i64 (jE a b))]) rfl) ?_
  refine oq (qv_ext (Value.agg #[(Value.int .i64 ((mtN a b).l)), (Value.int .i64 ((mtN a b).h)), (Value.int .i64 ((mtN a b).s))]) rfl rfl) ?_
  refine oq (qv_ext (Value.int .i64 (jE a b)) rfl rfl) ?_
  refine ops_alloc Try.ti23 rfl (fun b4 => ?_)
  refine ops_stm (k := 3) (off := 0) (v := (Value.agg #[(Value.int .i64 ((mtN a b).l)), (Value.int .i64 ((mtN a b).h)), (Value.int .i64 ((mtN a b).s))])) (vs := [(Value.int .i64 ((mtN a b).l)), (Value.int .i64 ((mtN a b).h)), (Value.int .i64 ((mtN a b).s))]) (cs := [(Value.int .i64 0), (Value.int .i64 0), (Value.int .i64 0)]) (cs' := [(Value.int .i64 ((mtN a b).l)), (Value.int .i64 ((mtN a b).h)), (Value.int .i64 ((mtN a b).s))]) Try.size23 rfl rfl rfl rfl rfl rfl (Nat.le_of_ble_eq_true rfl) rfl ?_
  refine oq (qv_as (Value.int .i64 (jE a b)) rfl) ?_
  refine ops_nil ?_
  refine vc_seq ?_
  refine vc_seq ?_
  refine vc_res (σ' := [(Arr 23 b1 [(Value.int .i64 (a.l)), (Value.int .i64 (a.h)), (Value.int .i64 (a.s))]), (Arr 23 b2 [(Value.int .i64 (b.l)), (Value.int .i64 (b.h)), (Value.int .i64 (b.s))]), (Arr 23 b3 [(Value.int .i64 ((jN a b).l)), (Value.int .i64 ((jN a b).h)), (Value.int .i64 ((jN a b).s))]), (Arr 23 b4 [(Value.int .i64 ((mtN a b).l)), (Value.int .i64 ((mtN a b).h)), (Value.int .i64 ((mtN a b).s))])]) rfl ?_
  refine vc_region_any Try.mixed (by kernel_rfl) ?_
  refine qq (qv_ldm (vs := [(Value.int .i64 (a.l)), (Value.int .i64 (a.h)), (Value.int .i64 (a.s))]) Try.agg23 rfl (inOc (k := 0) rfl) rfl rfl) ?_
  refine qq (qv_ldm (vs := [(Value.int .i64 (b.l)), (Value.int .i64 (b.h)), (Value.int .i64 (b.s))]) Try.agg23 rfl (inOc (k := 1) rfl) rfl rfl) ?_
  refine qq (qv_call (v := (Value.bool (decide (vld a ∧ vld b ∧ sub a b)))) (Subset_c (a := a) (b := b)) rfl rfl) ?_
  refine qq (qv_ldm (vs := [(Value.int .i64 (a.l)), (Value.int .i64 (a.h)), (Value.int .i64 (a.s))]) Try.agg23 rfl (inOc (k := 0) rfl) rfl rfl) ?_
  refine qq (qv_ldm (vs := [(Value.int .i64 (b.l)), (Value.int .i64 (b.h)), (Value.int .i64 (b.s))]) Try.agg23 rfl (inOc (k := 1) rfl) rfl rfl) ?_
  refine qq (qv_call (v := (Value.bool (decide (vld a ∧ vld b ∧ sub a b)))) (rSubset_c (a := a) (b := b)) rfl rfl) ?_
  refine qq (qv_niffb Try.underlying4 rfl rfl) ?_
  refine qops_nil ?_
  refine vc_if rfl (fun c1 => ?_) (fun c1 => ?_)
  ·
    exact absurd Iff.rfl c1
  ·
    refine vc_skip ?_
    refine vc_seq ?_
    refine vc_seq ?_
    refine vc_region ?_
    refine oq (qv_ldm (vs := [(Value.int .i64 (a.l)), (Value.int .i64 (a.h)), (Value.int .i64 (a.s))]) Try.agg23 rfl (inOc (k := 0) rfl) rfl rfl) ?_
    refine oq (qv_call (v := (Value.bool (decide (vld a)))) (rValid_c (a := a)) rfl rfl) ?_
    refine oq (qv_not rfl) ?_
    refine oq (qv_mv (Value.bool (decide (¬ (vld a)))) rfl) ?_
    by_cases g1 : ¬ (vld a)
    ·
      refine os (want_fn g1 rfl rfl rfl) ?_
      refine os (want_fn g1 rfl rfl rfl) ?_
      refine os (want_fn g1 rfl rfl rfl) ?_
      refine oq (qv_pick_t g1 rfl (rfl : ev _ _ = (Value.bool true))) ?_
      refine ops_nil ?_
      refine vc_tt rfl ?_
      refine vc_seq ?_
      have hj : ¬ jOk a b := fun h => by first | exact absurd h.1 (by assumption) | exact absurd h.2 (by assumption)
      have q1 := jE_0 hj
      have q2 := nm_iff.1 (jN_0 hj)
      have q3 := nm_iff.1 (mtN_0 hj)
      refine vc_region ?_
      refine oq (qv_mv (Value.int .i64 (jE a b)) rfl) ?_
      refine oq (qv_eql rfl rfl) ?_
      refine oq (qv_mv (Value.bool (decide ((jE a b) = 1))) rfl) ?_
      by_cases g2 : (jE a b) = 1
      ·
        refine og (qv_mv (Value.int .i64 (jE a b)) rfl) (want_t g2 rfl rfl rfl) ?_
        refine og (qv_eql rfl rfl) (want_t g2 rfl rfl rfl) ?_
        refine oq (qv_pick_t g2 rfl (rfl : ev _ _ = (Value.bool (decide ((jE a b) = 1))))) ?_
        refine oq (qv_mv (Value.bool (decide ((jE a b) = 1))) rfl) ?_
        refine og (qv_ldm (vs := [(Value.int .i64 ((jN a b).l)), (Value.int .i64 ((jN a b).h)), (Value.int .i64 ((jN a b).s))]) Try.agg23 rfl (inOc (k := 2) rfl) rfl rfl) (want_t g2 rfl rfl rfl) ?_
        refine og (qv_build (out := [(Value.int .i64 0), (Value.int .i64 0), (Value.int .i64 0)]) Try.build23 [] rfl rfl) (want_t g2 rfl rfl rfl) ?_
        refine og (qv_eqls Try.eq23 [(jN a b).l, (jN a b).h, (jN a b).s] [0, 0, 0] rfl rfl rfl rfl rfl rfl eq3) (want_t g2 rfl rfl rfl) ?_
        refine oq (qv_pick_t g2 rfl (rfl : ev _ _ = (Value.bool (decide (((jN a b).l) = 0 ∧ ((jN a b).h) = 0 ∧ ((jN a b).s) = 0))))) ?_
        refine oq (qv_mv (Value.bool (decide (((jN a b).l) = 0 ∧ ((jN a b).h) = 0 ∧ ((jN a b).s) = 0))) rfl) ?_
        by_cases g3 : ((jN a b).l) = 0 ∧ ((jN a b).h) = 0 ∧ ((jN a b).s) = 0
        ·
          refine og (qv_ldm (vs := [(Value.int .i64 ((mtN a b).l)), (Value.int .i64 ((mtN a b).h)), (Value.int .i64 ((mtN a b).s))]) Try.agg23 rfl (inOc (k := 3) rfl) rfl rfl) (want_t g3 rfl rfl rfl) ?_
          refine og (qv_build (out := [(Value.int .i64 0), (Value.int .i64 0), (Value.int .i64 0)]) Try.build23 [] rfl rfl) (want_t g3 rfl rfl rfl) ?_
          refine og (qv_eqls Try.eq23 [(mtN a b).l, (mtN a b).h, (mtN a b).s] [0, 0, 0] rfl rfl rfl rfl rfl rfl eq3) (want_t g3 rfl rfl rfl) ?_
          refine oq (qv_pick_t g3 rfl (rfl : ev _ _ = (Value.bool (decide (((mtN a b).l) = 0 ∧ ((mtN a b).h) = 0 ∧ ((mtN a b).s) = 0))))) ?_
          refine oq (qv_as (Value.bool (decide (((mtN a b).l) = 0 ∧ ((mtN a b).h) = 0 ∧ ((mtN a b).s) = 0))) rfl) ?_
          refine ops_nil ?_
          refine vc_ret ?_
          exact rq1 (Value.bool true) (congrArg Value.bool (decide_eq_true (show (((mtN a b).l) = 0 ∧ ((mtN a b).h) = 0 ∧ ((mtN a b).s) = 0) from by first | exact q3 | exact q4))) rfl
        ·
          exact absurd q2 g3
      ·
        exact absurd q1 g2
    ·
      refine og (qv_ldm (vs := [(Value.int .i64 (b.l)), (Value.int .i64 (b.h)), (Value.int .i64 (b.s))]) Try.agg23 rfl (inOc (k := 1) rfl) rfl rfl) (want_f g1 rfl rfl rfl) ?_
      refine og (qv_call (v := (Value.bool (decide (vld b)))) (rValid_c (a := b)) rfl rfl) (want_f g1 rfl rfl rfl) ?_
      refine og (qv_not rfl) (want_f g1 rfl rfl rfl) ?_
      refine oq (qv_pick_f g1 rfl (rfl : ev _ _ = (Value.bool (decide (¬ (vld b)))))) ?_
      refine ops_nil ?_
      refine vc_if rfl (fun c2 => ?_) (fun c2 => ?_)
      ·
        refine vc_seq ?_
        have hj : ¬ jOk a b := fun h => by first | exact absurd h.1 (by assumption) | exact absurd h.2 (by assumption)
        have q1 := jE_0 hj
        have q2 := nm_iff.1 (jN_0 hj)
        have q3 := nm_iff.1 (mtN_0 hj)
        refine vc_region ?_
        refine oq (qv_mv (Value.int .i64 (jE a b)) rfl) ?_
        refine oq (qv_eql rfl rfl) ?_
        refine oq (qv_mv (Value.bool (decide ((jE a b) = 1))) rfl) ?_
        by_cases g4 : (jE a b) = 1
        ·
          refine og (qv_mv (Value.int .i64 (jE a b)) rfl) (want_t g4 rfl rfl rfl) ?_
          refine og (qv_eql rfl rfl) (want_t g4 rfl rfl rfl) ?_
          refine oq (qv_pick_t g4 rfl (rfl : ev _ _ = (Value.bool (decide ((jE a b) = 1))))) ?_
          refine oq (qv_mv (Value.bool (decide ((jE a b) = 1))) rfl) ?_
          refine og (qv_ldm (vs := [(Value.int .i64 ((jN a b).l)), (Value.int .i64 ((jN a b).h)), (Value.int .i64 ((jN a b).s))]) Try.agg23 rfl (inOc (k := 2) rfl) rfl rfl) (want_t g4 rfl rfl rfl) ?_
          refine og (qv_build (out := [(Value.int .i64 0), (Value.int .i64 0), (Value.int .i64 0)]) Try.build23 [] rfl rfl) (want_t g4 rfl rfl rfl) ?_
          refine og (qv_eqls Try.eq23 [(jN a b).l, (jN a b).h, (jN a b).s] [0, 0, 0] rfl rfl rfl rfl rfl rfl eq3) (want_t g4 rfl rfl rfl) ?_
          refine oq (qv_pick_t g4 rfl (rfl : ev _ _ = (Value.bool (decide (((jN a b).l) = 0 ∧ ((jN a b).h) = 0 ∧ ((jN a b).s) = 0))))) ?_
          refine oq (qv_mv (Value.bool (decide (((jN a b).l) = 0 ∧ ((jN a b).h) = 0 ∧ ((jN a b).s) = 0))) rfl) ?_
          by_cases g5 : ((jN a b).l) = 0 ∧ ((jN a b).h) = 0 ∧ ((jN a b).s) = 0
          ·
            refine og (qv_ldm (vs := [(Value.int .i64 ((mtN a b).l)), (Value.int .i64 ((mtN a b).h)), (Value.int .i64 ((mtN a b).s))]) Try.agg23 rfl (inOc (k := 3) rfl) rfl rfl) (want_t g5 rfl rfl rfl) ?_
            refine og (qv_build (out := [(Value.int .i64 0), (Value.int .i64 0), (Value.int .i64 0)]) Try.build23 [] rfl rfl) (want_t g5 rfl rfl rfl) ?_
            refine og (qv_eqls Try.eq23 [(mtN a b).l, (mtN a b).h, (mtN a b).s] [0, 0, 0] rfl rfl rfl rfl rfl rfl eq3) (want_t g5 rfl rfl rfl) ?_
            refine oq (qv_pick_t g5 rfl (rfl : ev _ _ = (Value.bool (decide (((mtN a b).l) = 0 ∧ ((mtN a b).h) = 0 ∧ ((mtN a b).s) = 0))))) ?_
            refine oq (qv_as (Value.bool (decide (((mtN a b).l) = 0 ∧ ((mtN a b).h) = 0 ∧ ((mtN a b).s) = 0))) rfl) ?_
            refine ops_nil ?_
            refine vc_ret ?_
            exact rq1 (Value.bool true) (congrArg Value.bool (decide_eq_true (show (((mtN a b).l) = 0 ∧ ((mtN a b).h) = 0 ∧ ((mtN a b).s) = 0) from by first | exact q3 | exact q4))) rfl
          ·
            exact absurd q2 g5
        ·
          exact absurd q1 g4
      ·
        refine vc_skip ?_
        refine vc_seq ?_
        refine vc_seq ?_
        have hj : jOk a b := ⟨Decidable.not_not.1 (by assumption), Decidable.not_not.1 (by assumption)⟩
        have q1 := jE_1 hj
        have q2 := nm_iff.1 (jN_1 hj)
        have q3 := nm_iff.1 (mtN_1 hj)
        have q4 := nm_iff.1 ((mtN_1 hj).trans (meet_comm hj.1 hj.2))
        have z1 := sizeV_1 hj.1
        have z2 := sizeV_1 hj.2
        refine vc_region_any Try.mixed (by kernel_rfl) ?_
        refine qq (qv_mv (Value.int .i64 (jE a b)) rfl) ?_
        refine qq (qv_neq rfl rfl) ?_
        refine qq (qv_mv (Value.bool (decide ((jE a b) ≠ 0))) rfl) ?_
        by_cases g6 : (jE a b) ≠ 0
        ·
          exact absurd q1 g6
        ·
          refine qg (qv_mv (Value.int .i64 (jE a b)) rfl) (want_f g6 rfl rfl rfl) ?_
          refine qg (qv_neq rfl rfl) (want_f g6 rfl rfl rfl) ?_
          refine qq (qv_pick_f g6 rfl (rfl : ev _ _ = (Value.bool (decide ((jE a b) ≠ 0))))) ?_
          refine qq (qv_mv (Value.bool (decide ((jE a b) ≠ 0))) rfl) ?_
          refine qg (qv_ldm (vs := [(Value.int .i64 ((jN a b).l)), (Value.int .i64 ((jN a b).h)), (Value.int .i64 ((jN a b).s))]) Try.agg23 rfl (inOc (k := 2) rfl) rfl rfl) (want_f g6 rfl rfl rfl) ?_
          refine qg (qv_ldm (vs := [(Value.int .i64 (a.l)), (Value.int .i64 (a.h)), (Value.int .i64 (a.s))]) Try.agg23 rfl (inOc (k := 0) rfl) rfl rfl) (want_f g6 rfl rfl rfl) ?_
          refine qg (qv_ldm (vs := [(Value.int .i64 (b.l)), (Value.int .i64 (b.h)), (Value.int .i64 (b.s))]) Try.agg23 rfl (inOc (k := 1) rfl) rfl rfl) (want_f g6 rfl rfl rfl) ?_
          refine qg (qv_call (v := (Value.agg #[(Value.int .i64 ((joinF a b).l)), (Value.int .i64 ((joinF a b).h)), (Value.int .i64 ((joinF a b).s))])) (rJoin_c (a := a) (b := b) (hj.1) (hj.2)) rfl rfl) (want_f g6 rfl rfl rfl) ?_
          refine qg (qv_neqs Try.eq23 [(jN a b).l, (jN a b).h, (jN a b).s] [(joinF a b).l, (joinF a b).h, (joinF a b).s] rfl rfl rfl rfl rfl rfl eq3) (want_f g6 rfl rfl rfl) ?_
          refine qq (qv_pick_f g6 rfl (rfl : ev _ _ = (Value.bool (decide (¬ (((jN a b).l) = ((joinF a b).l) ∧ ((jN a b).h) = ((joinF a b).h) ∧ ((jN a b).s) = ((joinF a b).s))))))) ?_
          refine qops_nil ?_
          refine vc_if rfl (fun c3 => ?_) (fun c3 => ?_)
          ·
            exact absurd q2 c3
          ·
            refine vc_skip ?_
            refine vc_seq ?_
            refine vc_seq ?_
            refine vc_region ?_
            refine oq (qv_ldm (vs := [(Value.int .i64 (a.l)), (Value.int .i64 (a.h)), (Value.int .i64 (a.s))]) Try.agg23 rfl (inOc (k := 0) rfl) rfl rfl) ?_
            refine oq (qv_call (v := (Value.int .i64 (sizeV a))) (rSize_c (a := a)) rfl rfl) ?_
            refine oq (qv_leq rfl rfl) ?_
            refine ops_nil ?_
            refine vc_if rfl (fun c4 => ?_) (fun c4 => ?_)
            ·
              refine vc_seq ?_
              refine vc_region_any Try.mixed (by kernel_rfl) ?_
              refine qq (qv_ldm (vs := [(Value.int .i64 ((mtN a b).l)), (Value.int .i64 ((mtN a b).h)), (Value.int .i64 ((mtN a b).s))]) Try.agg23 rfl (inOc (k := 3) rfl) rfl rfl) ?_
              refine qq (qv_ldm (vs := [(Value.int .i64 (a.l)), (Value.int .i64 (a.h)), (Value.int .i64 (a.s))]) Try.agg23 rfl (inOc (k := 0) rfl) rfl rfl) ?_
              refine qq (qv_ldm (vs := [(Value.int .i64 (b.l)), (Value.int .i64 (b.h)), (Value.int .i64 (b.s))]) Try.agg23 rfl (inOc (k := 1) rfl) rfl rfl) ?_
              refine qq (qv_call (v := (Value.agg #[(Value.int .i64 ((meetF a b).l)), (Value.int .i64 ((meetF a b).h)), (Value.int .i64 ((meetF a b).s))])) (rMeet_c (a := a) (b := b) hj.1 hj.2 (by omega)) rfl rfl) ?_
              refine qq (qv_eqls Try.eq23 [(mtN a b).l, (mtN a b).h, (mtN a b).s] [(meetF a b).l, (meetF a b).h, (meetF a b).s] rfl rfl rfl rfl rfl rfl eq3) ?_
              refine qq (qv_as (Value.bool (decide (((mtN a b).l) = ((meetF a b).l) ∧ ((mtN a b).h) = ((meetF a b).h) ∧ ((mtN a b).s) = ((meetF a b).s)))) rfl) ?_
              refine qops_nil ?_
              refine vc_ret ?_
              exact rq1 (Value.bool true) (congrArg Value.bool (decide_eq_true (show (((mtN a b).l) = ((meetF a b).l) ∧ ((mtN a b).h) = ((meetF a b).h) ∧ ((mtN a b).s) = ((meetF a b).s)) from by first | exact q3 | exact q4))) rfl
            ·
              refine vc_skip ?_
              refine vc_seq ?_
              refine vc_region_any Try.mixed (by kernel_rfl) ?_
              refine qq (qv_ldm (vs := [(Value.int .i64 (b.l)), (Value.int .i64 (b.h)), (Value.int .i64 (b.s))]) Try.agg23 rfl (inOc (k := 1) rfl) rfl rfl) ?_
              refine qq (qv_call (v := (Value.int .i64 (sizeV b))) (rSize_c (a := b)) rfl rfl) ?_
              refine qq (qv_gtr rfl rfl) ?_
              refine qq (qv_mv (Value.bool (decide (3000 < (sizeV b)))) rfl) ?_
              by_cases g7 : 3000 < (sizeV b)
              ·
                refine qs (want_fn g7 rfl rfl rfl) ?_
                refine qs (want_fn g7 rfl rfl rfl) ?_
                refine qs (want_fn g7 rfl rfl rfl) ?_
                refine qs (want_fn g7 rfl rfl rfl) ?_
                refine qs (want_fn g7 rfl rfl rfl) ?_
                refine qq (qv_pick_t g7 rfl (rfl : ev _ _ = (Value.bool true))) ?_
                refine qq (qv_as (Value.bool true) rfl) ?_
                refine qops_nil ?_
                refine vc_ret ?_
                exact rq1 (Value.bool true) rfl rfl
              ·
                refine qg (qv_ldm (vs := [(Value.int .i64 ((mtN a b).l)), (Value.int .i64 ((mtN a b).h)), (Value.int .i64 ((mtN a b).s))]) Try.agg23 rfl (inOc (k := 3) rfl) rfl rfl) (want_f g7 rfl rfl rfl) ?_
                refine qg (qv_ldm (vs := [(Value.int .i64 (b.l)), (Value.int .i64 (b.h)), (Value.int .i64 (b.s))]) Try.agg23 rfl (inOc (k := 1) rfl) rfl rfl) (want_f g7 rfl rfl rfl) ?_
                refine qg (qv_ldm (vs := [(Value.int .i64 (a.l)), (Value.int .i64 (a.h)), (Value.int .i64 (a.s))]) Try.agg23 rfl (inOc (k := 0) rfl) rfl rfl) (want_f g7 rfl rfl rfl) ?_
                refine qg (qv_call (v := (Value.agg #[(Value.int .i64 ((meetF b a).l)), (Value.int .i64 ((meetF b a).h)), (Value.int .i64 ((meetF b a).s))])) (rMeet_c (a := b) (b := a) hj.2 hj.1 (by omega)) rfl rfl) (want_f g7 rfl rfl rfl) ?_
                refine qg (qv_eqls Try.eq23 [(mtN a b).l, (mtN a b).h, (mtN a b).s] [(meetF b a).l, (meetF b a).h, (meetF b a).s] rfl rfl rfl rfl rfl rfl eq3) (want_f g7 rfl rfl rfl) ?_
                refine qq (qv_pick_f g7 rfl (rfl : ev _ _ = (Value.bool (decide (((mtN a b).l) = ((meetF b a).l) ∧ ((mtN a b).h) = ((meetF b a).h) ∧ ((mtN a b).s) = ((meetF b a).s)))))) ?_
                refine qq (qv_as (Value.bool (decide (((mtN a b).l) = ((meetF b a).l) ∧ ((mtN a b).h) = ((meetF b a).h) ∧ ((mtN a b).s) = ((meetF b a).s)))) rfl) ?_
                refine qops_nil ?_
                refine vc_ret ?_
                exact rq1 (Value.bool true) (congrArg Value.bool (decide_eq_true (show (((mtN a b).l) = ((meetF b a).l) ∧ ((mtN a b).h) = ((meetF b a).h) ∧ ((mtN a b).s) = ((meetF b a).s)) from by first | exact q3 | exact q4))) rfl

theorem NumericJoins_c {V : HV} {al ah ax bl bh bx : Int} : FnC Try.prog 3 [Value.agg #[.int .i64 al, .int .i64 ah, .int .i64 ax], Value.agg #[.int .i64 bl, .int .i64 bh, .int .i64 bx]] V [] (fun v _ _ => v = .bool true) := NumericJoins_n (a := ⟨al, ah, ax⟩) (b := ⟨bl, bh, bx⟩)
end Go.Proofs.Ytapkilaikcihgaa
