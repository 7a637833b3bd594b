/- Walks of numeric: what each function returns. Printed by a program out of notes. -/
import Derived.Test.YtapkilaikcihgaaNf
namespace Go.Proofs.Ytapkilaikcihgaa
open Go.Vc
open Classical

set_option maxRecDepth 100000 in
set_option maxHeartbeats 4000000 in
theorem split_c {V : HV} {a : Nm} {x : Int} (ha : vld a) :
    FnC Try.prog 78 [(Value.agg #[(Value.int .i64 (a.l)), (Value.int .i64 (a.h)), (Value.int .i64 (a.s))]), (Value.int .i64 x)] V [] (fun v _ _ => v = .tuple #[(Value.agg #[(Value.int .i64 ((upF a x).l)), (Value.int .i64 ((upF a x).h)), (Value.int .i64 ((upF a x).s))]), (Value.agg #[(Value.int .i64 ((abF a x).l)), (Value.int .i64 ((abF a x).h)), (Value.int .i64 ((abF a x).s))])]) := by
  refine fn_intro (N := 42) Try.func78 (by kernel_rfl) rfl rfl rfl (Nat.le_of_ble_eq_true rfl) ?_
  intro w0 D
  refine vc_seq ?_
  refine vc_region ?_
  refine ops_box (v := (Value.agg #[(Value.int .i64 (a.l)), (Value.int .i64 (a.h)), (Value.int .i64 (a.s))])) (cs := [(Value.int .i64 (a.l)), (Value.int .i64 (a.h)), (Value.int .i64 (a.s))]) rfl rfl (fun b1 => ?_)
  refine ops_alloc Try.ti23 rfl (fun b2 => ?_)
  refine ops_alloc Try.ti23 rfl (fun b3 => ?_)
  refine ops_nil ?_
  refine vc_seq ?_
  refine vc_block ?_
  refine vc_seq ?_
  refine vc_res (σ' := [(Arr 23 b1 [(Value.int .i64 (a.l)), (Value.int .i64 (a.h)), (Value.int .i64 (a.s))]), (Arr 23 b2 [(Value.int .i64 0), (Value.int .i64 0), (Value.int .i64 0)]), (Arr 23 b3 [(Value.int .i64 0), (Value.int .i64 0), (Value.int .i64 0)])]) rfl ?_
  refine vc_region ?_
  refine oq (qv_ldm (vs := [(Value.int .i64 (a.l)), (Value.int .i64 (a.h)), (Value.int .i64 (a.s))]) Try.agg23 rfl (inOc (k := 0) rfl) rfl rfl) ?_
  refine oq (qv_call (v := (Value.bool (decide (a = nE)))) (isEmpty_c (a := a)) rfl rfl) ?_
  refine oq (qv_mv (Value.bool (decide (a = nE))) rfl) ?_
  by_cases g1 : a = nE
  ·
    refine os (want_fn g1 rfl rfl rfl) ?_
    refine os (want_fn g1 rfl rfl rfl) ?_
    refine os (want_fn g1 rfl rfl rfl) ?_
    refine os (want_fn g1 rfl rfl rfl) ?_
    refine oq (qv_pick_t g1 rfl (rfl : ev _ _ = (Value.bool true))) ?_
    refine oq (qv_as (Value.bool true) rfl) ?_
    refine ops_nil ?_
    refine vc_tt rfl ?_
    refine vc_seq ?_
    have hc : a = nE ∨ x < a.l := by first | exact Or.inl (by assumption) | exact Or.inr (by assumption)
    refine vc_region_order (τ := [(Arr 23 b2 [(Value.int .i64 0), (Value.int .i64 0), (Value.int .i64 0)])]) [(0, false), (1, false), (2, true), (3, true)] [(Arr 23 b1 [(Value.int .i64 (a.l)), (Value.int .i64 (a.h)), (Value.int .i64 (a.s))]), (Arr 23 b3 [(Value.int .i64 0), (Value.int .i64 0), (Value.int .i64 0)])] Try.mixed (perm_idx _ _ [0, 2, 1] rfl rfl) (by kernel_rfl) ?_
    refine rq rfl (qv_call (v := (Value.agg #[(Value.int .i64 (nE.l)), (Value.int .i64 (nE.h)), (Value.int .i64 (nE.s))])) (none_c) rfl rfl) ?_
    refine rq rfl (qv_ldm (vs := [(Value.int .i64 (a.l)), (Value.int .i64 (a.h)), (Value.int .i64 (a.s))]) Try.agg23 rfl (inOc (k := 0) rfl) rfl rfl) ?_
    refine rl rfl ?_
    refine ops_stm (k := 1) (off := 0) (v := (Value.agg #[(Value.int .i64 (nE.l)), (Value.int .i64 (nE.h)), (Value.int .i64 (nE.s))])) (vs := [(Value.int .i64 (nE.l)), (Value.int .i64 (nE.h)), (Value.int .i64 (nE.s))]) (cs := [(Value.int .i64 0), (Value.int .i64 0), (Value.int .i64 0)]) (cs' := [(Value.int .i64 (nE.l)), (Value.int .i64 (nE.h)), (Value.int .i64 (nE.s))]) Try.size23 rfl rfl rfl rfl rfl rfl (Nat.le_of_ble_eq_true rfl) rfl ?_
    refine ops_nil ⟨[(Arr 23 b1 [(Value.int .i64 (a.l)), (Value.int .i64 (a.h)), (Value.int .i64 (a.s))]), (Arr 23 b3 [(Value.int .i64 0), (Value.int .i64 0), (Value.int .i64 0)])], [(Arr 23 b2 [(Value.int .i64 (nE.l)), (Value.int .i64 (nE.h)), (Value.int .i64 (nE.s))])], (Sub.refl _), (perm_idx _ _ [0, 2, 1] rfl rfl), ⟨[], .refl _⟩, ?_⟩
    refine rl1 (by kernel_rfl) rfl ?_
    refine ops_stm (k := 2) (off := 0) (v := (Value.agg #[(Value.int .i64 (a.l)), (Value.int .i64 (a.h)), (Value.int .i64 (a.s))])) (vs := [(Value.int .i64 (a.l)), (Value.int .i64 (a.h)), (Value.int .i64 (a.s))]) (cs := [(Value.int .i64 0), (Value.int .i64 0), (Value.int .i64 0)]) (cs' := [(Value.int .i64 (a.l)), (Value.int .i64 (a.h)), (Value.int .i64 (a.s))]) Try.size23 rfl rfl rfl rfl rfl rfl (Nat.le_of_ble_eq_true rfl) rfl ?_
    refine ops_nil ⟨[(Arr 23 b1 [(Value.int .i64 (a.l)), (Value.int .i64 (a.h)), (Value.int .i64 (a.s))]), (Arr 23 b3 [(Value.int .i64 (a.l)), (Value.int .i64 (a.h)), (Value.int .i64 (a.s))])], [(Arr 23 b2 [(Value.int .i64 (nE.l)), (Value.int .i64 (nE.h)), (Value.int .i64 (nE.s))])], (perm_idx _ _ [0, 2, 1] rfl rfl), ?_⟩
    refine rnil ?_
    refine vc_ret ?_
    refine blockQ_ret ?_
    refine rs2 (Value.agg #[(Value.int .i64 (nE.l)), (Value.int .i64 (nE.h)), (Value.int .i64 (nE.s))]) (Value.agg #[(Value.int .i64 (a.l)), (Value.int .i64 (a.h)), (Value.int .i64 (a.s))]) (rv_c (vs := [(Value.int .i64 (nE.l)), (Value.int .i64 (nE.h)), (Value.int .i64 (nE.s))]) Try.agg23 rfl (inOc (k := 1) rfl) rfl rfl) (rv_c (vs := [(Value.int .i64 (a.l)), (Value.int .i64 (a.h)), (Value.int .i64 (a.s))]) Try.agg23 rfl (inOc (k := 2) rfl) rfl rfl) ?_
    exact tup2 (aggc (consc (congrArg (Value.int .i64) (show nE.l = ((upF a x).l) from by first | (rw [upF_1 hc]; done) | (rw [upF_2 hc (by omega)]; done) | (rw [upF_3 hc (by omega)]; done))) (consc (congrArg (Value.int .i64) (show nE.h = ((upF a x).h) from by first | (rw [upF_1 hc]; done) | (rw [upF_2 hc (by omega)]; done) | (rw [upF_3 hc (by omega)]; done))) (consc (congrArg (Value.int .i64) (show nE.s = ((upF a x).s) from by first | (rw [upF_1 hc]; done) | (rw [upF_2 hc (by omega)]; done) | (rw [upF_3 hc (by omega)]; done))) rfl)))) (aggc (consc (congrArg (Value.int .i64) (show a.l = ((abF a x).l) from by first | (rw [abF_1 hc]; done) | (rw [abF_2 hc (by omega)]; done) | (rw [abF_3 hc (by omega)]; done))) (consc (congrArg (Value.int .i64) (show a.h = ((abF a x).h) from by first | (rw [abF_1 hc]; done) | (rw [abF_2 hc (by omega)]; done) | (rw [abF_3 hc (by omega)]; done))) (consc (congrArg (Value.int .i64) (show a.s = ((abF a x).s) from by first | (rw [abF_1 hc]; done) | (rw [abF_2 hc (by omega)]; done) | (rw [abF_3 hc (by omega)]; done))) rfl))))
  ·
    refine og (qv_mv (Value.int .i64 x) rfl) (want_f g1 rfl rfl rfl) ?_
    refine og (qv_fa (off := 0) Try.field23_0 rfl) (want_f g1 rfl rfl rfl) ?_
    refine og (qv_ldp (v := (Value.int .i64 (a.l))) Try.plain3 rfl (inOc (k := 0) rfl) rfl) (want_f g1 rfl rfl rfl) ?_
    refine og (qv_lss rfl rfl) (want_f g1 rfl rfl rfl) ?_
    refine oq (qv_pick_f g1 rfl (rfl : ev _ _ = (Value.bool (decide (x < a.l))))) ?_
    refine oq (qv_as (Value.bool (decide (x < a.l))) rfl) ?_
    refine ops_nil ?_
    refine vc_if rfl (fun c1 => ?_) (fun c1 => ?_)
    ·
      refine vc_seq ?_
      have hc : a = nE ∨ x < a.l := by first | exact Or.inl (by assumption) | exact Or.inr (by assumption)
      refine vc_region_order (τ := [(Arr 23 b2 [(Value.int .i64 0), (Value.int .i64 0), (Value.int .i64 0)])]) [(0, false), (1, false), (2, true), (3, true)] [(Arr 23 b1 [(Value.int .i64 (a.l)), (Value.int .i64 (a.h)), (Value.int .i64 (a.s))]), (Arr 23 b3 [(Value.int .i64 0), (Value.int .i64 0), (Value.int .i64 0)])] Try.mixed (perm_idx _ _ [0, 2, 1] rfl rfl) (by kernel_rfl) ?_
      refine rq rfl (qv_call (v := (Value.agg #[(Value.int .i64 (nE.l)), (Value.int .i64 (nE.h)), (Value.int .i64 (nE.s))])) (none_c) rfl rfl) ?_
      refine rq rfl (qv_ldm (vs := [(Value.int .i64 (a.l)), (Value.int .i64 (a.h)), (Value.int .i64 (a.s))]) Try.agg23 rfl (inOc (k := 0) rfl) rfl rfl) ?_
      refine rl rfl ?_
      refine ops_stm (k := 1) (off := 0) (v := (Value.agg #[(Value.int .i64 (nE.l)), (Value.int .i64 (nE.h)), (Value.int .i64 (nE.s))])) (vs := [(Value.int .i64 (nE.l)), (Value.int .i64 (nE.h)), (Value.int .i64 (nE.s))]) (cs := [(Value.int .i64 0), (Value.int .i64 0), (Value.int .i64 0)]) (cs' := [(Value.int .i64 (nE.l)), (Value.int .i64 (nE.h)), (Value.int .i64 (nE.s))]) Try.size23 rfl rfl rfl rfl rfl rfl (Nat.le_of_ble_eq_true rfl) rfl ?_
      refine ops_nil ⟨[(Arr 23 b1 [(Value.int .i64 (a.l)), (Value.int .i64 (a.h)), (Value.int .i64 (a.s))]), (Arr 23 b3 [(Value.int .i64 0), (Value.int .i64 0), (Value.int .i64 0)])], [(Arr 23 b2 [(Value.int .i64 (nE.l)), (Value.int .i64 (nE.h)), (Value.int .i64 (nE.s))])], (Sub.refl _), (perm_idx _ _ [0, 2, 1] rfl rfl), ⟨[], .refl _⟩, ?_⟩
      refine rl1 (by kernel_rfl) rfl ?_
      refine ops_stm (k := 2) (off := 0) (v := (Value.agg #[(Value.int .i64 (a.l)), (Value.int .i64 (a.h)), (Value.int .i64 (a.s))])) (vs := [(Value.int .i64 (a.l)), (Value.int .i64 (a.h)), (Value.int .i64 (a.s))]) (cs := [(Value.int .i64 0), (Value.int .i64 0), (Value.int .i64 0)]) (cs' := [(Value.int .i64 (a.l)), (Value.int .i64 (a.h)), (Value.int .i64 (a.s))]) Try.size23 rfl rfl rfl rfl rfl rfl (Nat.le_of_ble_eq_true rfl) rfl ?_
      refine ops_nil ⟨[(Arr 23 b1 [(Value.int .i64 (a.l)), (Value.int .i64 (a.h)), (Value.int .i64 (a.s))]), (Arr 23 b3 [(Value.int .i64 (a.l)), (Value.int .i64 (a.h)), (Value.int .i64 (a.s))])], [(Arr 23 b2 [(Value.int .i64 (nE.l)), (Value.int .i64 (nE.h)), (Value.int .i64 (nE.s))])], (perm_idx _ _ [0, 2, 1] rfl rfl), ?_⟩
      refine rnil ?_
      refine vc_ret ?_
      refine blockQ_ret ?_
      refine rs2 (Value.agg #[(Value.int .i64 (nE.l)), (Value.int .i64 (nE.h)), (Value.int .i64 (nE.s))]) (Value.agg #[(Value.int .i64 (a.l)), (Value.int .i64 (a.h)), (Value.int .i64 (a.s))]) (rv_c (vs := [(Value.int .i64 (nE.l)), (Value.int .i64 (nE.h)), (Value.int .i64 (nE.s))]) Try.agg23 rfl (inOc (k := 1) rfl) rfl rfl) (rv_c (vs := [(Value.int .i64 (a.l)), (Value.int .i64 (a.h)), (Value.int .i64 (a.s))]) Try.agg23 rfl (inOc (k := 2) rfl) rfl rfl) ?_
      exact tup2 (aggc (consc (congrArg (Value.int .i64) (show nE.l = ((upF a x).l) from by first | (rw [upF_1 hc]; done) | (rw [upF_2 hc (by omega)]; done) | (rw [upF_3 hc (by omega)]; done))) (consc (congrArg (Value.int .i64) (show nE.h = ((upF a x).h) from by first | (rw [upF_1 hc]; done) | (rw [upF_2 hc (by omega)]; done) | (rw [upF_3 hc (by omega)]; done))) (consc (congrArg (Value.int .i64) (show nE.s = ((upF a x).s) from by first | (rw [upF_1 hc]; done) | (rw [upF_2 hc (by omega)]; done) | (rw [upF_3 hc (by omega)]; done))) rfl)))) (aggc (consc (congrArg (Value.int .i64) (show a.l = ((abF a x).l) from by first | (rw [abF_1 hc]; done) | (rw [abF_2 hc (by omega)]; done) | (rw [abF_3 hc (by omega)]; done))) (consc (congrArg (Value.int .i64) (show a.h = ((abF a x).h) from by first | (rw [abF_1 hc]; done) | (rw [abF_2 hc (by omega)]; done) | (rw [abF_3 hc (by omega)]; done))) (consc (congrArg (Value.int .i64) (show a.s = ((abF a x).s) from by first | (rw [abF_1 hc]; done) | (rw [abF_2 hc (by omega)]; done) | (rw [abF_3 hc (by omega)]; done))) rfl))))
    ·
      refine vc_seq ?_
      have hc : ¬ (a = nE ∨ x < a.l) := by rintro (e | e); exact absurd e (by assumption); exact absurd e (by assumption)
      refine vc_region ?_
      refine oq (qv_mv (Value.int .i64 x) rfl) ?_
      refine oq (qv_fa (off := 0) Try.field23_1 rfl) ?_
      refine oq (qv_ldp (v := (Value.int .i64 (a.h))) Try.plain3 rfl (inOc (k := 0) rfl) rfl) ?_
      refine oq (qv_geq rfl rfl) ?_
      refine oq (qv_as (Value.bool (decide (a.h ≤ x))) rfl) ?_
      refine ops_nil ?_
      refine vc_if rfl (fun c2 => ?_) (fun c2 => ?_)
      ·
        refine vc_seq ?_
        refine vc_region_order (τ := []) [(0, false), (1, false), (2, true), (3, true)] [(Arr 23 b1 [(Value.int .i64 (a.l)), (Value.int .i64 (a.h)), (Value.int .i64 (a.s))]), (Arr 23 b2 [(Value.int .i64 0), (Value.int .i64 0), (Value.int .i64 0)]), (Arr 23 b3 [(Value.int .i64 0), (Value.int .i64 0), (Value.int .i64 0)])] Try.mixed (perm_nil _) (by kernel_rfl) ?_
        refine rq rfl (qv_ldm (vs := [(Value.int .i64 (a.l)), (Value.int .i64 (a.h)), (Value.int .i64 (a.s))]) Try.agg23 rfl (inOc (k := 0) rfl) rfl rfl) ?_
        refine rq rfl (qv_call (v := (Value.agg #[(Value.int .i64 (nE.l)), (Value.int .i64 (nE.h)), (Value.int .i64 (nE.s))])) (none_c) rfl rfl) ?_
        refine rl1 (by kernel_rfl) rfl ?_
        refine ops_stm (k := 1) (off := 0) (v := (Value.agg #[(Value.int .i64 (a.l)), (Value.int .i64 (a.h)), (Value.int .i64 (a.s))])) (vs := [(Value.int .i64 (a.l)), (Value.int .i64 (a.h)), (Value.int .i64 (a.s))]) (cs := [(Value.int .i64 0), (Value.int .i64 0), (Value.int .i64 0)]) (cs' := [(Value.int .i64 (a.l)), (Value.int .i64 (a.h)), (Value.int .i64 (a.s))]) Try.size23 rfl rfl rfl rfl rfl rfl (Nat.le_of_ble_eq_true rfl) rfl ?_
        refine ops_nil ⟨[(Arr 23 b1 [(Value.int .i64 (a.l)), (Value.int .i64 (a.h)), (Value.int .i64 (a.s))]), (Arr 23 b2 [(Value.int .i64 (a.l)), (Value.int .i64 (a.h)), (Value.int .i64 (a.s))]), (Arr 23 b3 [(Value.int .i64 0), (Value.int .i64 0), (Value.int .i64 0)])], [], perm_nil _, ?_⟩
        refine rl1 (by kernel_rfl) rfl ?_
        refine ops_stm (k := 2) (off := 0) (v := (Value.agg #[(Value.int .i64 (nE.l)), (Value.int .i64 (nE.h)), (Value.int .i64 (nE.s))])) (vs := [(Value.int .i64 (nE.l)), (Value.int .i64 (nE.h)), (Value.int .i64 (nE.s))]) (cs := [(Value.int .i64 0), (Value.int .i64 0), (Value.int .i64 0)]) (cs' := [(Value.int .i64 (nE.l)), (Value.int .i64 (nE.h)), (Value.int .i64 (nE.s))]) Try.size23 rfl rfl rfl rfl rfl rfl (Nat.le_of_ble_eq_true rfl) rfl ?_
        refine ops_nil ⟨[(Arr 23 b1 [(Value.int .i64 (a.l)), (Value.int .i64 (a.h)), (Value.int .i64 (a.s))]), (Arr 23 b2 [(Value.int .i64 (a.l)), (Value.int .i64 (a.h)), (Value.int .i64 (a.s))]), (Arr 23 b3 [(Value.int .i64 (nE.l)), (Value.int .i64 (nE.h)), (Value.int .i64 (nE.s))])], [], perm_nil _, ?_⟩
        refine rnil ?_
        refine vc_ret ?_
        refine blockQ_ret ?_
        refine rs2 (Value.agg #[(Value.int .i64 (a.l)), (Value.int .i64 (a.h)), (Value.int .i64 (a.s))]) (Value.agg #[(Value.int .i64 (nE.l)), (Value.int .i64 (nE.h)), (Value.int .i64 (nE.s))]) (rv_c (vs := [(Value.int .i64 (a.l)), (Value.int .i64 (a.h)), (Value.int .i64 (a.s))]) Try.agg23 rfl (inOc (k := 1) rfl) rfl rfl) (rv_c (vs := [(Value.int .i64 (nE.l)), (Value.int .i64 (nE.h)), (Value.int .i64 (nE.s))]) Try.agg23 rfl (inOc (k := 2) rfl) rfl rfl) ?_
        exact tup2 (aggc (consc (congrArg (Value.int .i64) (show a.l = ((upF a x).l) from by first | (rw [upF_1 hc]; done) | (rw [upF_2 hc (by omega)]; done) | (rw [upF_3 hc (by omega)]; done))) (consc (congrArg (Value.int .i64) (show a.h = ((upF a x).h) from by first | (rw [upF_1 hc]; done) | (rw [upF_2 hc (by omega)]; done) | (rw [upF_3 hc (by omega)]; done))) (consc (congrArg (Value.int .i64) (show a.s = ((upF a x).s) from by first | (rw [upF_1 hc]; done) | (rw [upF_2 hc (by omega)]; done) | (rw [upF_3 hc (by omega)]; done))) rfl)))) (aggc (consc (congrArg (Value.int .i64) (show nE.l = ((abF a x).l) from by first | (rw [abF_1 hc]; done) | (rw [abF_2 hc (by omega)]; done) | (rw [abF_3 hc (by omega)]; done))) (consc (congrArg (Value.int .i64) (show nE.h = ((abF a x).h) from by first | (rw [abF_1 hc]; done) | (rw [abF_2 hc (by omega)]; done) | (rw [abF_3 hc (by omega)]; done))) (consc (congrArg (Value.int .i64) (show nE.s = ((abF a x).s) from by first | (rw [abF_1 hc]; done) | (rw [abF_2 hc (by omega)]; done) | (rw [abF_3 hc (by omega)]; done))) rfl))))
      ·
        refine vc_skip ?_
        refine vc_seq ?_
        have md : Mid a x := ⟨ha, hc, by first | assumption | omega⟩
        obtain ⟨h1, h2, h3, h4, h5, h6, h7⟩ := md.step
        obtain ⟨n1, n2, n3, n4, n5⟩ := md.next
        have u1 := h1
        have u2 := h2
        have u3 := h3
        unfold fits at u1 u2 u3
        refine vc_region ?_
        refine oq (qv_fa (off := 0) Try.field23_0 rfl) ?_
        refine oq (qv_ldp (v := (Value.int .i64 (a.l))) Try.plain3 rfl (inOc (k := 0) rfl) rfl) ?_
        refine oq (qv_mv (Value.int .i64 x) rfl) ?_
        refine oq (qv_fa (off := 0) Try.field23_2 rfl) ?_
        refine oq (qv_ldp (v := (Value.int .i64 (a.s))) Try.plain3 rfl (inOc (k := 0) rfl) rfl) ?_
        refine oq (qv_call (v := (Value.agg #[(Value.int .i64 ((spanF a.l x a.s).l)), (Value.int .i64 ((spanF a.l x a.s).h)), (Value.int .i64 ((spanF a.l x a.s).s))])) (span_c h1 h2 (by omega)) rfl rfl) ?_
        refine ops_alloc Try.ti23 rfl (fun b4 => ?_)
        refine ops_stm (k := 3) (off := 0) (v := (Value.agg #[(Value.int .i64 ((spanF a.l x a.s).l)), (Value.int .i64 ((spanF a.l x a.s).h)), (Value.int .i64 ((spanF a.l x a.s).s))])) (vs := [(Value.int .i64 ((spanF a.l x a.s).l)), (Value.int .i64 ((spanF a.l x a.s).h)), (Value.int .i64 ((spanF a.l x a.s).s))]) (cs := [(Value.int .i64 0), (Value.int .i64 0), (Value.int .i64 0)]) (cs' := [(Value.int .i64 ((spanF a.l x a.s).l)), (Value.int .i64 ((spanF a.l x a.s).h)), (Value.int .i64 ((spanF a.l x a.s).s))]) Try.size23 rfl rfl rfl rfl rfl rfl (Nat.le_of_ble_eq_true rfl) rfl ?_
        refine ops_nil ?_
        refine vc_seq ?_
        refine vc_res (σ' := [(Arr 23 b1 [(Value.int .i64 (a.l)), (Value.int .i64 (a.h)), (Value.int .i64 (a.s))]), (Arr 23 b2 [(Value.int .i64 0), (Value.int .i64 0), (Value.int .i64 0)]), (Arr 23 b3 [(Value.int .i64 0), (Value.int .i64 0), (Value.int .i64 0)]), (Arr 23 b4 [(Value.int .i64 ((spanF a.l x a.s).l)), (Value.int .i64 ((spanF a.l x a.s).h)), (Value.int .i64 ((spanF a.l x a.s).s))])]) rfl ?_
        refine vc_region_order (τ := [(Arr 23 b2 [(Value.int .i64 0), (Value.int .i64 0), (Value.int .i64 0)])]) [(0, false), (1, false), (2, false), (3, false), (4, false), (5, false), (6, false), (7, false), (8, false), (9, false), (10, false), (11, true), (12, true)] [(Arr 23 b1 [(Value.int .i64 (a.l)), (Value.int .i64 (a.h)), (Value.int .i64 (a.s))]), (Arr 23 b3 [(Value.int .i64 0), (Value.int .i64 0), (Value.int .i64 0)]), (Arr 23 b4 [(Value.int .i64 ((spanF a.l x a.s).l)), (Value.int .i64 ((spanF a.l x a.s).h)), (Value.int .i64 ((spanF a.l x a.s).s))])] Try.mixed (perm_idx _ _ [0, 2, 3, 1] rfl rfl) (by kernel_rfl) ?_
        refine rq rfl (qv_ldm (vs := [(Value.int .i64 ((spanF a.l x a.s).l)), (Value.int .i64 ((spanF a.l x a.s).h)), (Value.int .i64 ((spanF a.l x a.s).s))]) Try.agg23 rfl (inOc (k := 2) rfl) rfl rfl) ?_
        refine rq rfl (qv_fa (off := 0) Try.field23_1 rfl) ?_
        refine rq rfl (qv_ldp (v := (Value.int .i64 ((spanF a.l x a.s).h))) Try.plain3 rfl (inOc (k := 2) rfl) rfl) ?_
        refine rq rfl (qv_fa (off := 0) Try.field23_2 rfl) ?_
        refine rq rfl (qv_ldp (v := (Value.int .i64 (a.s))) Try.plain3 rfl (inOc (k := 0) rfl) rfl) ?_
        refine rq rfl (qv_add rfl rfl (by omega)) ?_
        refine rq rfl (qv_fa (off := 0) Try.field23_1 rfl) ?_
        refine rq rfl (qv_ldp (v := (Value.int .i64 (a.h))) Try.plain3 rfl (inOc (k := 0) rfl) rfl) ?_
        refine rq rfl (qv_fa (off := 0) Try.field23_2 rfl) ?_
        refine rq rfl (qv_ldp (v := (Value.int .i64 (a.s))) Try.plain3 rfl (inOc (k := 0) rfl) rfl) ?_
        refine rq rfl (qv_call (v := (Value.agg #[(Value.int .i64 ((spanF ((spanF a.l x a.s).h + a.s) a.h a.s).l)), (Value.int .i64 ((spanF ((spanF a.l x a.s).h + a.s) a.h a.s).h)), (Value.int .i64 ((spanF ((spanF a.l x a.s).h + a.s) a.h a.s).s))])) (span_c (by unfold fits; omega) h3 (by omega)) rfl rfl) ?_
        refine rl rfl ?_
        refine ops_stm (k := 1) (off := 0) (v := (Value.agg #[(Value.int .i64 ((spanF a.l x a.s).l)), (Value.int .i64 ((spanF a.l x a.s).h)), (Value.int .i64 ((spanF a.l x a.s).s))])) (vs := [(Value.int .i64 ((spanF a.l x a.s).l)), (Value.int .i64 ((spanF a.l x a.s).h)), (Value.int .i64 ((spanF a.l x a.s).s))]) (cs := [(Value.int .i64 0), (Value.int .i64 0), (Value.int .i64 0)]) (cs' := [(Value.int .i64 ((spanF a.l x a.s).l)), (Value.int .i64 ((spanF a.l x a.s).h)), (Value.int .i64 ((spanF a.l x a.s).s))]) Try.size23 rfl rfl rfl rfl rfl rfl (Nat.le_of_ble_eq_true rfl) rfl ?_
        refine ops_nil ⟨[(Arr 23 b1 [(Value.int .i64 (a.l)), (Value.int .i64 (a.h)), (Value.int .i64 (a.s))]), (Arr 23 b3 [(Value.int .i64 0), (Value.int .i64 0), (Value.int .i64 0)]), (Arr 23 b4 [(Value.int .i64 ((spanF a.l x a.s).l)), (Value.int .i64 ((spanF a.l x a.s).h)), (Value.int .i64 ((spanF a.l x a.s).s))])], [(Arr 23 b2 [(Value.int .i64 ((spanF a.l x a.s).l)), (Value.int .i64 ((spanF a.l x a.s).h)), (Value.int .i64 ((spanF a.l x a.s).s))])], (Sub.refl _), (perm_idx _ _ [0, 2, 3, 1] rfl rfl), ⟨[], .refl _⟩, ?_⟩
        refine rl1 (by kernel_rfl) rfl ?_
        refine ops_stm (k := 2) (off := 0) (v := (Value.agg #[(Value.int .i64 ((spanF ((spanF a.l x a.s).h + a.s) a.h a.s).l)), (Value.int .i64 ((spanF ((spanF a.l x a.s).h + a.s) a.h a.s).h)), (Value.int .i64 ((spanF ((spanF a.l x a.s).h + a.s) a.h a.s).s))])) (vs := [(Value.int .i64 ((spanF ((spanF a.l x a.s).h + a.s) a.h a.s).l)), (Value.int .i64 ((spanF ((spanF a.l x a.s).h + a.s) a.h a.s).h)), (Value.int .i64 ((spanF ((spanF a.l x a.s).h + a.s) a.h a.s).s))]) (cs := [(Value.int .i64 0), (Value.int .i64 0), (Value.int .i64 0)]) (cs' := [(Value.int .i64 ((spanF ((spanF a.l x a.s).h + a.s) a.h a.s).l)), (Value.int .i64 ((spanF ((spanF a.l x a.s).h + a.s) a.h a.s).h)), (Value.int .i64 ((spanF ((spanF a.l x a.s).h + a.s) a.h a.s).s))]) Try.size23 rfl rfl rfl rfl rfl rfl (Nat.le_of_ble_eq_true rfl) rfl ?_
        refine ops_nil ⟨[(Arr 23 b1 [(Value.int .i64 (a.l)), (Value.int .i64 (a.h)), (Value.int .i64 (a.s))]), (Arr 23 b3 [(Value.int .i64 ((spanF ((spanF a.l x a.s).h + a.s) a.h a.s).l)), (Value.int .i64 ((spanF ((spanF a.l x a.s).h + a.s) a.h a.s).h)), (Value.int .i64 ((spanF ((spanF a.l x a.s).h + a.s) a.h a.s).s))]), (Arr 23 b4 [(Value.int .i64 ((spanF a.l x a.s).l)), (Value.int .i64 ((spanF a.l x a.s).h)), (Value.int .i64 ((spanF a.l x a.s).s))])], [(Arr 23 b2 [(Value.int .i64 ((spanF a.l x a.s).l)), (Value.int .i64 ((spanF a.l x a.s).h)), (Value.int .i64 ((spanF a.l x a.s).s))])], (perm_idx _ _ [0, 2, 3, 1] rfl rfl), ?_⟩
        refine rnil ?_
        refine vc_ret ?_
        refine rs2 (Value.agg #[(Value.int .i64 ((spanF a.l x a.s).l)), (Value.int .i64 ((spanF a.l x a.s).h)), (Value.int .i64 ((spanF a.l x a.s).s))]) (Value.agg #[(Value.int .i64 ((spanF ((spanF a.l x a.s).h + a.s) a.h a.s).l)), (Value.int .i64 ((spanF ((spanF a.l x a.s).h + a.s) a.h a.s).h)), (Value.int .i64 ((spanF ((spanF a.l x a.s).h + a.s) a.h a.s).s))]) (rv_c (vs := [(Value.int .i64 ((spanF a.l x a.s).l)), (Value.int .i64 ((spanF a.l x a.s).h)), (Value.int .i64 ((spanF a.l x a.s).s))]) Try.agg23 rfl (inOc (k := 1) rfl) rfl rfl) (rv_c (vs := [(Value.int .i64 ((spanF ((spanF a.l x a.s).h + a.s) a.h a.s).l)), (Value.int .i64 ((spanF ((spanF a.l x a.s).h + a.s) a.h a.s).h)), (Value.int .i64 ((spanF ((spanF a.l x a.s).h + a.s) a.h a.s).s))]) Try.agg23 rfl (inOc (k := 2) rfl) rfl rfl) ?_
        exact tup2 (aggc (consc (congrArg (Value.int .i64) (show ((spanF a.l x a.s).l) = ((upF a x).l) from by first | (rw [upF_1 hc]; done) | (rw [upF_2 hc (by omega)]; done) | (rw [upF_3 hc (by omega)]; done))) (consc (congrArg (Value.int .i64) (show ((spanF a.l x a.s).h) = ((upF a x).h) from by first | (rw [upF_1 hc]; done) | (rw [upF_2 hc (by omega)]; done) | (rw [upF_3 hc (by omega)]; done))) (consc (congrArg (Value.int .i64) (show ((spanF a.l x a.s).s) = ((upF a x).s) from by first | (rw [upF_1 hc]; done) | (rw [upF_2 hc (by omega)]; done) | (rw [upF_3 hc (by omega)]; done))) rfl)))) (aggc (consc (congrArg (Value.int .i64) (show ((spanF ((spanF a.l x a.s).h + a.s) a.h a.s).l) = ((abF a x).l) from by first | (rw [abF_1 hc]; done) | (rw [abF_2 hc (by omega)]; done) | (rw [abF_3 hc (by omega)]; done))) (consc (congrArg (Value.int .i64) (show ((spanF ((spanF a.l x a.s).h + a.s) a.h a.s).h) = ((abF a x).h) from by first | (rw [abF_1 hc]; done) | (rw [abF_2 hc (by omega)]; done) | (rw [abF_3 hc (by omega)]; done))) (consc (congrArg (Value.int .i64) (show ((spanF ((spanF a.l x a.s).h + a.s) a.h a.s).s) = ((abF a x).s) from by first | (rw [abF_1 hc]; done) | (rw [abF_2 hc (by omega)]; done) | (rw [abF_3 hc (by omega)]; done))) rfl))))

set_option maxRecDepth 100000 in
set_option maxHeartbeats 4000000 in
theorem rUpto_c {V : HV} {a : Nm} {x : Int} (ha : vld a) :
    FnC Try.prog 40 [(Value.agg #[(Value.int .i64 (a.l)), (Value.int .i64 (a.h)), (Value.int .i64 (a.s))]), (Value.int .i64 x)] V [] (fun v _ _ => v = (Value.agg #[(Value.int .i64 ((upF a x).l)), (Value.int .i64 ((upF a x).h)), (Value.int .i64 ((upF a x).s))])) := by
  refine fn_intro (N := 31) Try.func40 (by kernel_rfl) rfl rfl rfl (Nat.le_of_ble_eq_true rfl) ?_
  intro w0 D
  refine vc_seq ?_
  refine vc_region ?_
  refine ops_box (v := (Value.agg #[(Value.int .i64 (a.l)), (Value.int .i64 (a.h)), (Value.int .i64 (a.s))])) (cs := [(Value.int .i64 (a.l)), (Value.int .i64 (a.h)), (Value.int .i64 (a.s))]) rfl rfl (fun b1 => ?_)
  refine ops_alloc Try.ti23 rfl (fun b2 => ?_)
  refine ops_nil ?_
  refine vc_seq ?_
  refine vc_seq ?_
  refine vc_res (σ' := [(Arr 23 b1 [(Value.int .i64 (a.l)), (Value.int .i64 (a.h)), (Value.int .i64 (a.s))]), (Arr 23 b2 [(Value.int .i64 0), (Value.int .i64 0), (Value.int .i64 0)])]) rfl ?_
  refine vc_region ?_
  refine oq (qv_ldm (vs := [(Value.int .i64 (a.l)), (Value.int .i64 (a.h)), (Value.int .i64 (a.s))]) Try.agg23 rfl (inOc (k := 0) rfl) rfl rfl) ?_
  refine oq (qv_call (v := (Value.bool (decide (a.h < a.l)))) (rempty_c (a := a)) rfl rfl) ?_
  refine oq (qv_mv (Value.bool (decide (a.h < a.l))) rfl) ?_
  by_cases g1 : a.h < a.l
  ·
    refine os (want_fn g1 rfl rfl rfl) ?_
    refine os (want_fn g1 rfl rfl rfl) ?_
    refine os (want_fn g1 rfl rfl rfl) ?_
    refine os (want_fn g1 rfl rfl rfl) ?_
    refine oq (qv_pick_t g1 rfl (rfl : ev _ _ = (Value.bool true))) ?_
    refine ops_nil ?_
    refine vc_tt rfl ?_
    refine vc_seq ?_
    have hc : a = nE ∨ x < a.l := by first | exact Or.inl ((vld_lt ha).1 (by assumption)) | exact Or.inr (by assumption)
    refine vc_region ?_
    refine oq (qv_call (v := (Value.agg #[(Value.int .i64 (nE.l)), (Value.int .i64 (nE.h)), (Value.int .i64 (nE.s))])) (rNone_c) rfl rfl) ?_
    refine ops_stm (k := 1) (off := 0) (v := (Value.agg #[(Value.int .i64 (nE.l)), (Value.int .i64 (nE.h)), (Value.int .i64 (nE.s))])) (vs := [(Value.int .i64 (nE.l)), (Value.int .i64 (nE.h)), (Value.int .i64 (nE.s))]) (cs := [(Value.int .i64 0), (Value.int .i64 0), (Value.int .i64 0)]) (cs' := [(Value.int .i64 (nE.l)), (Value.int .i64 (nE.h)), (Value.int .i64 (nE.s))]) Try.size23 rfl rfl rfl rfl rfl rfl (Nat.le_of_ble_eq_true rfl) rfl ?_
    refine ops_nil ?_
    refine vc_ret ?_
    refine rs1 (Value.agg #[(Value.int .i64 (nE.l)), (Value.int .i64 (nE.h)), (Value.int .i64 (nE.s))]) (rv_c (vs := [(Value.int .i64 (nE.l)), (Value.int .i64 (nE.h)), (Value.int .i64 (nE.s))]) Try.agg23 rfl (inOc (k := 1) rfl) rfl rfl) ?_
    exact (aggc (consc (congrArg (Value.int .i64) (show nE.l = ((upF a x).l) from by first | (rw [upF_1 hc]; done) | (rw [upF_2 hc (by omega)]; done) | (rw [upF_3 hc (by omega), mkN_1 hk]; done))) (consc (congrArg (Value.int .i64) (show nE.h = ((upF a x).h) from by first | (rw [upF_1 hc]; done) | (rw [upF_2 hc (by omega)]; done) | (rw [upF_3 hc (by omega), mkN_1 hk]; done))) (consc (congrArg (Value.int .i64) (show nE.s = ((upF a x).s) from by first | (rw [upF_1 hc]; done) | (rw [upF_2 hc (by omega)]; done) | (rw [upF_3 hc (by omega), mkN_1 hk]; done))) rfl))))
  ·
    refine og (qv_mv (Value.int .i64 x) rfl) (want_f g1 rfl rfl rfl) ?_
    refine og (qv_fa (off := 0) Try.field23_0 rfl) (want_f g1 rfl rfl rfl) ?_
    refine og (qv_ldp (v := (Value.int .i64 (a.l))) Try.plain3 rfl (inOc (k := 0) rfl) rfl) (want_f g1 rfl rfl rfl) ?_
    refine og (qv_lss rfl rfl) (want_f g1 rfl rfl rfl) ?_
    refine oq (qv_pick_f g1 rfl (rfl : ev _ _ = (Value.bool (decide (x < a.l))))) ?_
    refine ops_nil ?_
    refine vc_if rfl (fun c1 => ?_) (fun c1 => ?_)
    ·
      refine vc_seq ?_
      have hc : a = nE ∨ x < a.l := by first | exact Or.inl ((vld_lt ha).1 (by assumption)) | exact Or.inr (by assumption)
      refine vc_region ?_
      refine oq (qv_call (v := (Value.agg #[(Value.int .i64 (nE.l)), (Value.int .i64 (nE.h)), (Value.int .i64 (nE.s))])) (rNone_c) rfl rfl) ?_
      refine ops_stm (k := 1) (off := 0) (v := (Value.agg #[(Value.int .i64 (nE.l)), (Value.int .i64 (nE.h)), (Value.int .i64 (nE.s))])) (vs := [(Value.int .i64 (nE.l)), (Value.int .i64 (nE.h)), (Value.int .i64 (nE.s))]) (cs := [(Value.int .i64 0), (Value.int .i64 0), (Value.int .i64 0)]) (cs' := [(Value.int .i64 (nE.l)), (Value.int .i64 (nE.h)), (Value.int .i64 (nE.s))]) Try.size23 rfl rfl rfl rfl rfl rfl (Nat.le_of_ble_eq_true rfl) rfl ?_
      refine ops_nil ?_
      refine vc_ret ?_
      refine rs1 (Value.agg #[(Value.int .i64 (nE.l)), (Value.int .i64 (nE.h)), (Value.int .i64 (nE.s))]) (rv_c (vs := [(Value.int .i64 (nE.l)), (Value.int .i64 (nE.h)), (Value.int .i64 (nE.s))]) Try.agg23 rfl (inOc (k := 1) rfl) rfl rfl) ?_
      exact (aggc (consc (congrArg (Value.int .i64) (show nE.l = ((upF a x).l) from by first | (rw [upF_1 hc]; done) | (rw [upF_2 hc (by omega)]; done) | (rw [upF_3 hc (by omega), mkN_1 hk]; done))) (consc (congrArg (Value.int .i64) (show nE.h = ((upF a x).h) from by first | (rw [upF_1 hc]; done) | (rw [upF_2 hc (by omega)]; done) | (rw [upF_3 hc (by omega), mkN_1 hk]; done))) (consc (congrArg (Value.int .i64) (show nE.s = ((upF a x).s) from by first | (rw [upF_1 hc]; done) | (rw [upF_2 hc (by omega)]; done) | (rw [upF_3 hc (by omega), mkN_1 hk]; done))) rfl))))
    ·
      refine vc_skip ?_
      refine vc_seq ?_
      refine vc_seq ?_
      have hc : ¬ (a = nE ∨ x < a.l) := by rintro (e | e); exact absurd ((vld_lt ha).2 e) (by assumption); exact absurd e (by assumption)
      refine vc_region ?_
      refine oq (qv_mv (Value.int .i64 x) rfl) ?_
      refine oq (qv_fa (off := 0) Try.field23_1 rfl) ?_
      refine oq (qv_ldp (v := (Value.int .i64 (a.h))) Try.plain3 rfl (inOc (k := 0) rfl) rfl) ?_
      refine oq (qv_geq rfl rfl) ?_
      refine ops_nil ?_
      refine vc_if rfl (fun c2 => ?_) (fun c2 => ?_)
      ·
        refine vc_seq ?_
        refine vc_region ?_
        refine oq (qv_ldm (vs := [(Value.int .i64 (a.l)), (Value.int .i64 (a.h)), (Value.int .i64 (a.s))]) Try.agg23 rfl (inOc (k := 0) rfl) rfl rfl) ?_
        refine ops_stm (k := 1) (off := 0) (v := (Value.agg #[(Value.int .i64 (a.l)), (Value.int .i64 (a.h)), (Value.int .i64 (a.s))])) (vs := [(Value.int .i64 (a.l)), (Value.int .i64 (a.h)), (Value.int .i64 (a.s))]) (cs := [(Value.int .i64 0), (Value.int .i64 0), (Value.int .i64 0)]) (cs' := [(Value.int .i64 (a.l)), (Value.int .i64 (a.h)), (Value.int .i64 (a.s))]) Try.size23 rfl rfl rfl rfl rfl rfl (Nat.le_of_ble_eq_true rfl) rfl ?_
        refine ops_nil ?_
        refine vc_ret ?_
        refine rs1 (Value.agg #[(Value.int .i64 (a.l)), (Value.int .i64 (a.h)), (Value.int .i64 (a.s))]) (rv_c (vs := [(Value.int .i64 (a.l)), (Value.int .i64 (a.h)), (Value.int .i64 (a.s))]) Try.agg23 rfl (inOc (k := 1) rfl) rfl rfl) ?_
        exact (aggc (consc (congrArg (Value.int .i64) (show a.l = ((upF a x).l) from by first | (rw [upF_1 hc]; done) | (rw [upF_2 hc (by omega)]; done) | (rw [upF_3 hc (by omega), mkN_1 hk]; done))) (consc (congrArg (Value.int .i64) (show a.h = ((upF a x).h) from by first | (rw [upF_1 hc]; done) | (rw [upF_2 hc (by omega)]; done) | (rw [upF_3 hc (by omega), mkN_1 hk]; done))) (consc (congrArg (Value.int .i64) (show a.s = ((upF a x).s) from by first | (rw [upF_1 hc]; done) | (rw [upF_2 hc (by omega)]; done) | (rw [upF_3 hc (by omega), mkN_1 hk]; done))) rfl))))
      ·
        refine vc_skip ?_
        refine vc_seq ?_
        have md : Mid a x := ⟨ha, hc, by first | assumption | omega⟩
        obtain ⟨h1, h2, h3, h4, h5, h6, h7⟩ := md.step
        obtain ⟨n1, n2, n3, n4, n5⟩ := md.next
        have u1 := h1
        have u2 := h2
        have u3 := h3
        unfold fits at u1 u2 u3
        refine vc_region ?_
        refine oq (qv_fa (off := 0) Try.field23_0 rfl) ?_
        refine oq (qv_ldp (v := (Value.int .i64 (a.l))) Try.plain3 rfl (inOc (k := 0) rfl) rfl) ?_
        refine oq (qv_mv (Value.int .i64 x) rfl) ?_
        refine oq (qv_fa (off := 0) Try.field23_2 rfl) ?_
        refine oq (qv_ldp (v := (Value.int .i64 (a.s))) Try.plain3 rfl (inOc (k := 0) rfl) rfl) ?_
        refine oq (qv_call (v := (Value.tuple #[(Value.agg #[(Value.int .i64 ((mkN a.l x a.s).l)), (Value.int .i64 ((mkN a.l x a.s).h)), (Value.int .i64 ((mkN a.l x a.s).s))]), (Value.int .i64 (mkE a.l x a.s))])) (rMake_c) rfl rfl) ?_
        refine oq (qv_mv (Value.tuple #[(Value.agg #[(Value.int .i64 ((mkN a.l x a.s).l)), (Value.int .i64 ((mkN a.l x a.s).h)), (Value.int .i64 ((mkN a.l x a.s).s))]), (Value.int .i64 (mkE a.l x a.s))]) rfl) ?_
        refine oq (qv_ext (Value.agg #[(Value.int .i64 ((mkN a.l x a.s).l)), (Value.int .i64 ((mkN a.l x a.s).h)), (Value.int .i64 ((mkN a.l x a.s).s))]) rfl rfl) ?_
        refine oq (qv_ext (Value.int .i64 (mkE a.l x a.s)) rfl rfl) ?_
        refine ops_alloc Try.ti23 rfl (fun b3 => ?_)
        refine ops_stm (k := 2) (off := 0) (v := (Value.agg #[(Value.int .i64 ((mkN a.l x a.s).l)), (Value.int .i64 ((mkN a.l x a.s).h)), (Value.int .i64 ((mkN a.l x a.s).s))])) (vs := [(Value.int .i64 ((mkN a.l x a.s).l)), (Value.int .i64 ((mkN a.l x a.s).h)), (Value.int .i64 ((mkN a.l x a.s).s))]) (cs := [(Value.int .i64 0), (Value.int .i64 0), (Value.int .i64 0)]) (cs' := [(Value.int .i64 ((mkN a.l x a.s).l)), (Value.int .i64 ((mkN a.l x a.s).h)), (Value.int .i64 ((mkN a.l x a.s).s))]) Try.size23 rfl rfl rfl rfl rfl rfl (Nat.le_of_ble_eq_true rfl) rfl ?_
        refine oq (qv_as (Value.int .i64 (mkE a.l x a.s)) rfl) ?_
        refine ops_nil ?_
        refine vc_seq ?_
        refine vc_res (σ' := [(Arr 23 b1 [(Value.int .i64 (a.l)), (Value.int .i64 (a.h)), (Value.int .i64 (a.s))]), (Arr 23 b2 [(Value.int .i64 0), (Value.int .i64 0), (Value.int .i64 0)]), (Arr 23 b3 [(Value.int .i64 ((mkN a.l x a.s).l)), (Value.int .i64 ((mkN a.l x a.s).h)), (Value.int .i64 ((mkN a.l x a.s).s))])]) rfl ?_
        have hk : mkOk a.l x a.s := ⟨h1, h2, by omega⟩
        refine vc_region ?_
        refine oq (qv_ldm (vs := [(Value.int .i64 ((mkN a.l x a.s).l)), (Value.int .i64 ((mkN a.l x a.s).h)), (Value.int .i64 ((mkN a.l x a.s).s))]) Try.agg23 rfl (inOc (k := 2) rfl) rfl rfl) ?_
        refine ops_stm (k := 1) (off := 0) (v := (Value.agg #[(Value.int .i64 ((mkN a.l x a.s).l)), (Value.int .i64 ((mkN a.l x a.s).h)), (Value.int .i64 ((mkN a.l x a.s).s))])) (vs := [(Value.int .i64 ((mkN a.l x a.s).l)), (Value.int .i64 ((mkN a.l x a.s).h)), (Value.int .i64 ((mkN a.l x a.s).s))]) (cs := [(Value.int .i64 0), (Value.int .i64 0), (Value.int .i64 0)]) (cs' := [(Value.int .i64 ((mkN a.l x a.s).l)), (Value.int .i64 ((mkN a.l x a.s).h)), (Value.int .i64 ((mkN a.l x a.s).s))]) Try.size23 rfl rfl rfl rfl rfl rfl (Nat.le_of_ble_eq_true rfl) rfl ?_
        refine ops_nil ?_
        refine vc_ret ?_
        refine rs1 (Value.agg #[(Value.int .i64 ((mkN a.l x a.s).l)), (Value.int .i64 ((mkN a.l x a.s).h)), (Value.int .i64 ((mkN a.l x a.s).s))]) (rv_c (vs := [(Value.int .i64 ((mkN a.l x a.s).l)), (Value.int .i64 ((mkN a.l x a.s).h)), (Value.int .i64 ((mkN a.l x a.s).s))]) Try.agg23 rfl (inOc (k := 1) rfl) rfl rfl) ?_
        exact (aggc (consc (congrArg (Value.int .i64) (show ((mkN a.l x a.s).l) = ((upF a x).l) from by first | (rw [upF_1 hc]; done) | (rw [upF_2 hc (by omega)]; done) | (rw [upF_3 hc (by omega), mkN_1 hk]; done))) (consc (congrArg (Value.int .i64) (show ((mkN a.l x a.s).h) = ((upF a x).h) from by first | (rw [upF_1 hc]; done) | (rw [upF_2 hc (by omega)]; done) | (rw [upF_3 hc (by omega), mkN_1 hk]; done))) (consc (congrArg (Value.int .i64) (show ((mkN a.l x a.s).s) = ((upF a x).s) from by first | (rw [upF_1 hc]; done) | (rw [upF_2 hc (by omega)]; done) | (rw [upF_3 hc (by omega), mkN_1 hk]; done))) rfl))))

set_option maxRecDepth 100000 in
set_option maxHeartbeats 4000000 in
theorem rAbove_c {V : HV} {a : Nm} {x : Int} (ha : vld a) :
    FnC Try.prog 41 [(Value.agg #[(Value.int .i64 (a.l)), (Value.int .i64 (a.h)), (Value.int .i64 (a.s))]), (Value.int .i64 x)] V [] (fun v _ _ => v = (Value.agg #[(Value.int .i64 ((abF a x).l)), (Value.int .i64 ((abF a x).h)), (Value.int .i64 ((abF a x).s))])) := by
  refine fn_intro (N := 44) Try.func41 (by kernel_rfl) rfl rfl rfl (Nat.le_of_ble_eq_true rfl) ?_
  intro w0 D
  refine vc_seq ?_
  refine vc_region ?_
  refine ops_box (v := (Value.agg #[(Value.int .i64 (a.l)), (Value.int .i64 (a.h)), (Value.int .i64 (a.s))])) (cs := [(Value.int .i64 (a.l)), (Value.int .i64 (a.h)), (Value.int .i64 (a.s))]) rfl rfl (fun b1 => ?_)
  refine ops_alloc Try.ti23 rfl (fun b2 => ?_)
  refine ops_nil ?_
  refine vc_seq ?_
  refine vc_seq ?_
  refine vc_res (σ' := [(Arr 23 b1 [(Value.int .i64 (a.l)), (Value.int .i64 (a.h)), (Value.int .i64 (a.s))]), (Arr 23 b2 [(Value.int .i64 0), (Value.int .i64 0), (Value.int .i64 0)])]) rfl ?_
  refine vc_region ?_
  refine oq (qv_ldm (vs := [(Value.int .i64 (a.l)), (Value.int .i64 (a.h)), (Value.int .i64 (a.s))]) Try.agg23 rfl (inOc (k := 0) rfl) rfl rfl) ?_
  refine oq (qv_call (v := (Value.bool (decide (a.h < a.l)))) (rempty_c (a := a)) rfl rfl) ?_
  refine oq (qv_mv (Value.bool (decide (a.h < a.l))) rfl) ?_
  by_cases g1 : a.h < a.l
  ·
    refine os (want_fn g1 rfl rfl rfl) ?_
    refine os (want_fn g1 rfl rfl rfl) ?_
    refine os (want_fn g1 rfl rfl rfl) ?_
    refine os (want_fn g1 rfl rfl rfl) ?_
    refine oq (qv_pick_t g1 rfl (rfl : ev _ _ = (Value.bool true))) ?_
    refine ops_nil ?_
    refine vc_tt rfl ?_
    refine vc_seq ?_
    have hz : abF a x = nE := by
      by_cases hc : a = nE ∨ x < a.l
      · rw [abF_1 hc]; exact hc.elim id (fun e => (vld_lt ha).1 (by omega))
      · exact abF_2 hc (by have := mt (vld_lt ha).1 (fun e => hc (Or.inl e)); omega)
    refine vc_region ?_
    refine oq (qv_call (v := (Value.agg #[(Value.int .i64 (nE.l)), (Value.int .i64 (nE.h)), (Value.int .i64 (nE.s))])) (rNone_c) rfl rfl) ?_
    refine ops_stm (k := 1) (off := 0) (v := (Value.agg #[(Value.int .i64 (nE.l)), (Value.int .i64 (nE.h)), (Value.int .i64 (nE.s))])) (vs := [(Value.int .i64 (nE.l)), (Value.int .i64 (nE.h)), (Value.int .i64 (nE.s))]) (cs := [(Value.int .i64 0), (Value.int .i64 0), (Value.int .i64 0)]) (cs' := [(Value.int .i64 (nE.l)), (Value.int .i64 (nE.h)), (Value.int .i64 (nE.s))]) Try.size23 rfl rfl rfl rfl rfl rfl (Nat.le_of_ble_eq_true rfl) rfl ?_
    refine ops_nil ?_
    refine vc_ret ?_
    refine rs1 (Value.agg #[(Value.int .i64 (nE.l)), (Value.int .i64 (nE.h)), (Value.int .i64 (nE.s))]) (rv_c (vs := [(Value.int .i64 (nE.l)), (Value.int .i64 (nE.h)), (Value.int .i64 (nE.s))]) Try.agg23 rfl (inOc (k := 1) rfl) rfl rfl) ?_
    exact (aggc (consc (congrArg (Value.int .i64) (show nE.l = ((abF a x).l) from by first | (rw [hz]; done) | (rw [abF_1 hc]; done) | (rw [abF_3 hc (by omega), mkN_1 hk, n5]; done))) (consc (congrArg (Value.int .i64) (show nE.h = ((abF a x).h) from by first | (rw [hz]; done) | (rw [abF_1 hc]; done) | (rw [abF_3 hc (by omega), mkN_1 hk, n5]; done))) (consc (congrArg (Value.int .i64) (show nE.s = ((abF a x).s) from by first | (rw [hz]; done) | (rw [abF_1 hc]; done) | (rw [abF_3 hc (by omega), mkN_1 hk, n5]; done))) rfl))))
  ·
    refine og (qv_mv (Value.int .i64 x) rfl) (want_f g1 rfl rfl rfl) ?_
    refine og (qv_fa (off := 0) Try.field23_1 rfl) (want_f g1 rfl rfl rfl) ?_
    refine og (qv_ldp (v := (Value.int .i64 (a.h))) Try.plain3 rfl (inOc (k := 0) rfl) rfl) (want_f g1 rfl rfl rfl) ?_
    refine og (qv_geq rfl rfl) (want_f g1 rfl rfl rfl) ?_
    refine oq (qv_pick_f g1 rfl (rfl : ev _ _ = (Value.bool (decide (a.h ≤ x))))) ?_
    refine ops_nil ?_
    refine vc_if rfl (fun c1 => ?_) (fun c1 => ?_)
    ·
      refine vc_seq ?_
      have hz : abF a x = nE := by
        by_cases hc : a = nE ∨ x < a.l
        · rw [abF_1 hc]; exact hc.elim id (fun e => (vld_lt ha).1 (by omega))
        · exact abF_2 hc (by have := mt (vld_lt ha).1 (fun e => hc (Or.inl e)); omega)
      refine vc_region ?_
      refine oq (qv_call (v := (Value.agg #[(Value.int .i64 (nE.l)), (Value.int .i64 (nE.h)), (Value.int .i64 (nE.s))])) (rNone_c) rfl rfl) ?_
      refine ops_stm (k := 1) (off := 0) (v := (Value.agg #[(Value.int .i64 (nE.l)), (Value.int .i64 (nE.h)), (Value.int .i64 (nE.s))])) (vs := [(Value.int .i64 (nE.l)), (Value.int .i64 (nE.h)), (Value.int .i64 (nE.s))]) (cs := [(Value.int .i64 0), (Value.int .i64 0), (Value.int .i64 0)]) (cs' := [(Value.int .i64 (nE.l)), (Value.int .i64 (nE.h)), (Value.int .i64 (nE.s))]) Try.size23 rfl rfl rfl rfl rfl rfl (Nat.le_of_ble_eq_true rfl) rfl ?_
      refine ops_nil ?_
      refine vc_ret ?_
      refine rs1 (Value.agg #[(Value.int .i64 (nE.l)), (Value.int .i64 (nE.h)), (Value.int .i64 (nE.s))]) (rv_c (vs := [(Value.int .i64 (nE.l)), (Value.int .i64 (nE.h)), (Value.int .i64 (nE.s))]) Try.agg23 rfl (inOc (k := 1) rfl) rfl rfl) ?_
      exact (aggc (consc (congrArg (Value.int .i64) (show nE.l = ((abF a x).l) from by first | (rw [hz]; done) | (rw [abF_1 hc]; done) | (rw [abF_3 hc (by omega), mkN_1 hk, n5]; done))) (consc (congrArg (Value.int .i64) (show nE.h = ((abF a x).h) from by first | (rw [hz]; done) | (rw [abF_1 hc]; done) | (rw [abF_3 hc (by omega), mkN_1 hk, n5]; done))) (consc (congrArg (Value.int .i64) (show nE.s = ((abF a x).s) from by first | (rw [hz]; done) | (rw [abF_1 hc]; done) | (rw [abF_3 hc (by omega), mkN_1 hk, n5]; done))) rfl))))
    ·
      refine vc_skip ?_
      refine vc_seq ?_
      refine vc_seq ?_
      refine vc_region ?_
      refine oq (qv_mv (Value.int .i64 x) rfl) ?_
      refine oq (qv_fa (off := 0) Try.field23_0 rfl) ?_
      refine oq (qv_ldp (v := (Value.int .i64 (a.l))) Try.plain3 rfl (inOc (k := 0) rfl) rfl) ?_
      refine oq (qv_lss rfl rfl) ?_
      refine ops_nil ?_
      refine vc_if rfl (fun c2 => ?_) (fun c2 => ?_)
      ·
        refine vc_seq ?_
        have hc : a = nE ∨ x < a.l := by first | exact Or.inl (by assumption) | exact Or.inr (by assumption)
        refine vc_region ?_
        refine oq (qv_ldm (vs := [(Value.int .i64 (a.l)), (Value.int .i64 (a.h)), (Value.int .i64 (a.s))]) Try.agg23 rfl (inOc (k := 0) rfl) rfl rfl) ?_
        refine ops_stm (k := 1) (off := 0) (v := (Value.agg #[(Value.int .i64 (a.l)), (Value.int .i64 (a.h)), (Value.int .i64 (a.s))])) (vs := [(Value.int .i64 (a.l)), (Value.int .i64 (a.h)), (Value.int .i64 (a.s))]) (cs := [(Value.int .i64 0), (Value.int .i64 0), (Value.int .i64 0)]) (cs' := [(Value.int .i64 (a.l)), (Value.int .i64 (a.h)), (Value.int .i64 (a.s))]) Try.size23 rfl rfl rfl rfl rfl rfl (Nat.le_of_ble_eq_true rfl) rfl ?_
        refine ops_nil ?_
        refine vc_ret ?_
        refine rs1 (Value.agg #[(Value.int .i64 (a.l)), (Value.int .i64 (a.h)), (Value.int .i64 (a.s))]) (rv_c (vs := [(Value.int .i64 (a.l)), (Value.int .i64 (a.h)), (Value.int .i64 (a.s))]) Try.agg23 rfl (inOc (k := 1) rfl) rfl rfl) ?_
        exact (aggc (consc (congrArg (Value.int .i64) (show a.l = ((abF a x).l) from by first | (rw [hz]; done) | (rw [abF_1 hc]; done) | (rw [abF_3 hc (by omega), mkN_1 hk, n5]; done))) (consc (congrArg (Value.int .i64) (show a.h = ((abF a x).h) from by first | (rw [hz]; done) | (rw [abF_1 hc]; done) | (rw [abF_3 hc (by omega), mkN_1 hk, n5]; done))) (consc (congrArg (Value.int .i64) (show a.s = ((abF a x).s) from by first | (rw [hz]; done) | (rw [abF_1 hc]; done) | (rw [abF_3 hc (by omega), mkN_1 hk, n5]; done))) rfl))))
      ·
        refine vc_skip ?_
        refine vc_seq ?_
        have hc : ¬ (a = nE ∨ x < a.l) := by rintro (e | e); exact absurd ((vld_lt ha).2 e) (by assumption); exact absurd e (by assumption)
        have md : Mid a x := ⟨ha, hc, by first | assumption | omega⟩
        obtain ⟨h1, h2, h3, h4, h5, h6, h7⟩ := md.step
        obtain ⟨n1, n2, n3, n4, n5⟩ := md.next
        have u1 := h1
        have u2 := h2
        have u3 := h3
        unfold fits at u1 u2 u3
        have f3 := Int.ediv_nonneg (show 0 ≤ x - a.l by omega) (show 0 ≤ a.s by omega)
        have f4 := Int.ediv_le_self (a := x - a.l) a.s (by omega)
        have f5 : ((x - a.l) / a.s + 1) * a.s = (spanF a.l x a.s).h + a.s - a.l := by omega
        refine vc_region_order (τ := []) [(0, false), (1, false), (2, false), (3, false), (4, false), (5, false), (6, false), (7, false), (8, false), (9, false), (10, false), (11, false), (12, false), (13, false), (14, false), (15, false), (16, false), (17, false), (18, false), (19, false), (20, false), (21, false), (22, true), (23, true), (24, false)] [(Arr 23 b1 [(Value.int .i64 (a.l)), (Value.int .i64 (a.h)), (Value.int .i64 (a.s))]), (Arr 23 b2 [(Value.int .i64 0), (Value.int .i64 0), (Value.int .i64 0)])] Try.mixed (perm_nil _) (by kernel_rfl) ?_
        refine rq rfl (qv_fa (off := 0) Try.field23_0 rfl) ?_
        refine rq rfl (qv_ldp (v := (Value.int .i64 (a.l))) Try.plain3 rfl (inOc (k := 0) rfl) rfl) ?_
        refine rq rfl (qv_mv (Value.int .i64 x) rfl) ?_
        refine rq rfl (qv_fa (off := 0) Try.field23_0 rfl) ?_
        refine rq rfl (qv_ldp (v := (Value.int .i64 (a.l))) Try.plain3 rfl (inOc (k := 0) rfl) rfl) ?_
        refine rq rfl (qv_sub rfl rfl (by omega)) ?_
        refine rq rfl (qv_fa (off := 0) Try.field23_2 rfl) ?_
        refine rq rfl (qv_ldp (v := (Value.int .i64 (a.s))) Try.plain3 rfl (inOc (k := 0) rfl) rfl) ?_
        refine rq rfl (qv_quo rfl rfl (by omega) (by omega)) ?_
        refine rq rfl (qv_add rfl rfl (by omega)) ?_
        refine rq rfl (qv_fa (off := 0) Try.field23_2 rfl) ?_
        refine rq rfl (qv_ldp (v := (Value.int .i64 (a.s))) Try.plain3 rfl (inOc (k := 0) rfl) rfl) ?_
        refine rq rfl (qv_mul rfl rfl (by omega)) ?_
        refine rq rfl (qv_add rfl rfl (by omega)) ?_
        refine rq rfl (qv_fa (off := 0) Try.field23_1 rfl) ?_
        refine rq rfl (qv_ldp (v := (Value.int .i64 (a.h))) Try.plain3 rfl (inOc (k := 0) rfl) rfl) ?_
        refine rq rfl (qv_fa (off := 0) Try.field23_2 rfl) ?_
        refine rq rfl (qv_ldp (v := (Value.int .i64 (a.s))) Try.plain3 rfl (inOc (k := 0) rfl) rfl) ?_
        refine rq rfl (qv_call (v := (Value.tuple #[(Value.agg #[(Value.int .i64 ((mkN (a.l + ((((x - a.l) / a.s) + 1) * a.s)) a.h a.s).l)), (Value.int .i64 ((mkN (a.l + ((((x - a.l) / a.s) + 1) * a.s)) a.h a.s).h)), (Value.int .i64 ((mkN (a.l + ((((x - a.l) / a.s) + 1) * a.s)) a.h a.s).s))]), (Value.int .i64 (mkE (a.l + ((((x - a.l) / a.s) + 1) * a.s)) a.h a.s))])) (rMake_c) rfl rfl) ?_
        refine rq rfl (qv_mv (Value.tuple #[(Value.agg #[(Value.int .i64 ((mkN (a.l + ((((x - a.l) / a.s) + 1) * a.s)) a.h a.s).l)), (Value.int .i64 ((mkN (a.l + ((((x - a.l) / a.s) + 1) * a.s)) a.h a.s).h)), (Value.int .i64 ((mkN (a.l + ((((x - a.l) / a.s) + 1) * a.s)) a.h a.s).s))]), (Value.int .i64 (mkE (a.l + ((((x - a.l) / a.s) + 1) * a.s)) a.h a.s))]) rfl) ?_
        refine rq rfl (qv_ext (Value.agg #[(Value.int .i64 ((mkN (a.l + ((((x - a.l) / a.s) + 1) * a.s)) a.h a.s).l)), (Value.int .i64 ((mkN (a.l + ((((x - a.l) / a.s) + 1) * a.s)) a.h a.s).h)), (Value.int .i64 ((mkN (a.l + ((((x - a.l) / a.s) + 1) * a.s)) a.h a.s).s))]) rfl rfl) ?_
        refine rq rfl (qv_ext (Value.int .i64 (mkE (a.l + ((((x - a.l) / a.s) + 1) * a.s)) a.h a.s)) rfl rfl) ?_
        refine rl rfl ?_
        refine ops_alloc Try.ti23 rfl (fun b3 => ?_)
        refine ops_nil ⟨[(Arr 23 b1 [(Value.int .i64 (a.l)), (Value.int .i64 (a.h)), (Value.int .i64 (a.s))]), (Arr 23 b2 [(Value.int .i64 0), (Value.int .i64 0), (Value.int .i64 0)])], [(Arr 23 b3 [(Value.int .i64 0), (Value.int .i64 0), (Value.int .i64 0)])], (Sub.refl _), (perm_idx _ _ [0, 1, 2] rfl rfl), ⟨[], .refl _⟩, ?_⟩
        refine rl rfl ?_
        refine ops_stm (k := 2) (off := 0) (v := (Value.agg #[(Value.int .i64 ((mkN (a.l + ((((x - a.l) / a.s) + 1) * a.s)) a.h a.s).l)), (Value.int .i64 ((mkN (a.l + ((((x - a.l) / a.s) + 1) * a.s)) a.h a.s).h)), (Value.int .i64 ((mkN (a.l + ((((x - a.l) / a.s) + 1) * a.s)) a.h a.s).s))])) (vs := [(Value.int .i64 ((mkN (a.l + ((((x - a.l) / a.s) + 1) * a.s)) a.h a.s).l)), (Value.int .i64 ((mkN (a.l + ((((x - a.l) / a.s) + 1) * a.s)) a.h a.s).h)), (Value.int .i64 ((mkN (a.l + ((((x - a.l) / a.s) + 1) * a.s)) a.h a.s).s))]) (cs := [(Value.int .i64 0), (Value.int .i64 0), (Value.int .i64 0)]) (cs' := [(Value.int .i64 ((mkN (a.l + ((((x - a.l) / a.s) + 1) * a.s)) a.h a.s).l)), (Value.int .i64 ((mkN (a.l + ((((x - a.l) / a.s) + 1) * a.s)) a.h a.s).h)), (Value.int .i64 ((mkN (a.l + ((((x - a.l) / a.s) + 1) * a.s)) a.h a.s).s))]) Try.size23 rfl rfl rfl rfl rfl rfl (Nat.le_of_ble_eq_true rfl) rfl ?_
        refine ops_nil ⟨[(Arr 23 b1 [(Value.int .i64 (a.l)), (Value.int .i64 (a.h)), (Value.int .i64 (a.s))]), (Arr 23 b2 [(Value.int .i64 0), (Value.int .i64 0), (Value.int .i64 0)])], [(Arr 23 b3 [(Value.int .i64 ((mkN (a.l + ((((x - a.l) / a.s) + 1) * a.s)) a.h a.s).l)), (Value.int .i64 ((mkN (a.l + ((((x - a.l) / a.s) + 1) * a.s)) a.h a.s).h)), (Value.int .i64 ((mkN (a.l + ((((x - a.l) / a.s) + 1) * a.s)) a.h a.s).s))])], (Sub.refl _), (perm_idx _ _ [0, 1, 2] rfl rfl), ⟨[], .refl _⟩, ?_⟩
        refine rq rfl (qv_as (Value.int .i64 (mkE (a.l + ((((x - a.l) / a.s) + 1) * a.s)) a.h a.s)) rfl) ?_
        refine rnil ?_
        refine vc_seq ?_
        refine vc_res (σ' := [(Arr 23 b1 [(Value.int .i64 (a.l)), (Value.int .i64 (a.h)), (Value.int .i64 (a.s))]), (Arr 23 b2 [(Value.int .i64 0), (Value.int .i64 0), (Value.int .i64 0)]), (Arr 23 b3 [(Value.int .i64 ((mkN (a.l + ((((x - a.l) / a.s) + 1) * a.s)) a.h a.s).l)), (Value.int .i64 ((mkN (a.l + ((((x - a.l) / a.s) + 1) * a.s)) a.h a.s).h)), (Value.int .i64 ((mkN (a.l + ((((x - a.l) / a.s) + 1) * a.s)) a.h a.s).s))])]) rfl ?_
        have hk : mkOk (a.l + ((x - a.l) / a.s + 1) * a.s) a.h a.s := ⟨by unfold fits; omega, h3, by omega⟩
        refine vc_region ?_
        refine oq (qv_ldm (vs := [(Value.int .i64 ((mkN (a.l + ((((x - a.l) / a.s) + 1) * a.s)) a.h a.s).l)), (Value.int .i64 ((mkN (a.l + ((((x - a.l) / a.s) + 1) * a.s)) a.h a.s).h)), (Value.int .i64 ((mkN (a.l + ((((x - a.l) / a.s) + 1) * a.s)) a.h a.s).s))]) Try.agg23 rfl (inOc (k := 2) rfl) rfl rfl) ?_
        refine ops_stm (k := 1) (off := 0) (v := (Value.agg #[(Value.int .i64 ((mkN (a.l + ((((x - a.l) / a.s) + 1) * a.s)) a.h a.s).l)), (Value.int .i64 ((mkN (a.l + ((((x - a.l) / a.s) + 1) * a.s)) a.h a.s).h)), (Value.int .i64 ((mkN (a.l + ((((x - a.l) / a.s) + 1) * a.s)) a.h a.s).s))])) (vs := [(Value.int .i64 ((mkN (a.l + ((((x - a.l) / a.s) + 1) * a.s)) a.h a.s).l)), (Value.int .i64 ((mkN (a.l + ((((x - a.l) / a.s) + 1) * a.s)) a.h a.s).h)), (Value.int .i64 ((mkN (a.l + ((((x - a.l) / a.s) + 1) * a.s)) a.h a.s).s))]) (cs := [(Value.int .i64 0), (Value.int .i64 0), (Value.int .i64 0)]) (cs' := [(Value.int .i64 ((mkN (a.l + ((((x - a.l) / a.s) + 1) * a.s)) a.h a.s).l)), (Value.int .i64 ((mkN (a.l + ((((x - a.l) / a.s) + 1) * a.s)) a.h a.s).h)), (Value.int .i64 ((mkN (a.l + ((((x - a.l) / a.s) + 1) * a.s)) a.h a.s).s))]) Try.size23 rfl rfl rfl rfl rfl rfl (Nat.le_of_ble_eq_true rfl) rfl ?_
        refine ops_nil ?_
        refine vc_ret ?_
        refine rs1 (Value.agg #[(Value.int .i64 ((mkN (a.l + ((((x - a.l) / a.s) + 1) * a.s)) a.h a.s).l)), (Value.int .i64 ((mkN (a.l + ((((x - a.l) / a.s) + 1) * a.s)) a.h a.s).h)), (Value.int .i64 ((mkN (a.l + ((((x - a.l) / a.s) + 1) * a.s)) a.h a.s).s))]) (rv_c (vs := [(Value.int .i64 ((mkN (a.l + ((((x - a.l) / a.s) + 1) * a.s)) a.h a.s).l)), (Value.int .i64 ((mkN (a.l + ((((x - a.l) / a.s) + 1) * a.s)) a.h a.s).h)), (Value.int .i64 ((mkN (a.l + ((((x - a.l) / a.s) + 1) * a.s)) a.h a.s).s))]) Try.agg23 rfl (inOc (k := 1) rfl) rfl rfl) ?_
        exact (aggc (consc (congrArg (Value.int .i64) (show ((mkN (a.l + ((((x - a.l) / a.s) + 1) * a.s)) a.h a.s).l) = ((abF a x).l) from by first | (rw [hz]; done) | (rw [abF_1 hc]; done) | (rw [abF_3 hc (by omega), mkN_1 hk, n5]; done))) (consc (congrArg (Value.int .i64) (show ((mkN (a.l + ((((x - a.l) / a.s) + 1) * a.s)) a.h a.s).h) = ((abF a x).h) from by first | (rw [hz]; done) | (rw [abF_1 hc]; done) | (rw [abF_3 hc (by omega), mkN_1 hk, n5]; done))) (consc (congrArg (Value.int .i64) (show ((mkN (a.l + ((((x - a.l) / a.s) + 1) * a.s)) a.h a.s).s) = ((abF a x).s) from by first | (rw [hz]; done) | (rw [abF_1 hc]; done) | (rw [abF_3 hc (by omega), mkN_1 hk, n5]; done))) rfl))))

set_option maxRecDepth 100000 in
set_option maxHeartbeats 4000000 in
theorem rJoin_c {V : HV} {a b : Nm} (ha : vld a) (hb : vld b) :
    FnC Try.prog 18 [(Value.agg #[(Value.int .i64 (a.l)), (Value.int .i64 (a.h)), (Value.int .i64 (a.s))]), (Value.agg #[(Value.int .i64 (b.l)), (Value.int .i64 (b.h)), (Value.int .i64 (b.s))])] V [] (fun v _ _ => v = (Value.agg #[(Value.int .i64 ((joinF a b).l)), (Value.int .i64 ((joinF a b).h)), (Value.int .i64 ((joinF a b).s))])) := by
  refine fn_intro (N := 44) Try.func18 (by kernel_rfl) rfl rfl rfl (Nat.le_of_ble_eq_true rfl) ?_
  intro w0 D
  have ba := vld_bd ha
  have bb := vld_bd hb
  unfold fits at ba bb
  refine vc_seq ?_
  refine vc_region ?_
  refine ops_box (v := (Value.agg #[(Value.int .i64 (a.l)), (Value.int .i64 (a.h)), (Value.int .i64 (a.s))])) (cs := [(Value.int .i64 (a.l)), (Value.int .i64 (a.h)), (Value.int .i64 (a.s))]) rfl rfl (fun b1 => ?_)
  refine ops_box (v := (Value.agg #[(Value.int .i64 (b.l)), (Value.int .i64 (b.h)), (Value.int .i64 (b.s))])) (cs := [(Value.int .i64 (b.l)), (Value.int .i64 (b.h)), (Value.int .i64 (b.s))]) rfl rfl (fun b2 => ?_)
  refine ops_alloc Try.ti23 rfl (fun b3 => ?_)
  refine ops_nil ?_
  refine vc_seq ?_
  refine vc_seq ?_
  refine vc_res (σ' := [(Arr 23 b1 [(Value.int .i64 (a.l)), (Value.int .i64 (a.h)), (Value.int .i64 (a.s))]), (Arr 23 b2 [(Value.int .i64 (b.l)), (Value.int .i64 (b.h)), (Value.int .i64 (b.s))]), (Arr 23 b3 [(Value.int .i64 0), (Value.int .i64 0), (Value.int .i64 0)])]) rfl ?_
  refine vc_region ?_
  refine oq (qv_ldm (vs := [(Value.int .i64 (a.l)), (Value.int .i64 (a.h)), (Value.int .i64 (a.s))]) Try.agg23 rfl (inOc (k := 0) rfl) rfl rfl) ?_
  refine oq (qv_call (v := (Value.bool (decide (a.h < a.l)))) (rempty_c (a := a)) rfl rfl) ?_
  refine ops_nil ?_
  refine vc_if rfl (fun c1 => ?_) (fun c1 => ?_)
  ·
    refine vc_seq ?_
    have he : a = nE := (vld_lt ha).1 (by assumption)
    refine vc_region ?_
    refine oq (qv_ldm (vs := [(Value.int .i64 (b.l)), (Value.int .i64 (b.h)), (Value.int .i64 (b.s))]) Try.agg23 rfl (inOc (k := 1) rfl) rfl rfl) ?_
    refine ops_stm (k := 2) (off := 0) (v := (Value.agg #[(Value.int .i64 (b.l)), (Value.int .i64 (b.h)), (Value.int .i64 (b.s))])) (vs := [(Value.int .i64 (b.l)), (Value.int .i64 (b.h)), (Value.int .i64 (b.s))]) (cs := [(Value.int .i64 0), (Value.int .i64 0), (Value.int .i64 0)]) (cs' := [(Value.int .i64 (b.l)), (Value.int .i64 (b.h)), (Value.int .i64 (b.s))]) Try.size23 rfl rfl rfl rfl rfl rfl (Nat.le_of_ble_eq_true rfl) rfl ?_
    refine ops_nil ?_
    refine vc_ret ?_
    refine rs1 (Value.agg #[(Value.int .i64 (b.l)), (Value.int .i64 (b.h)), (Value.int .i64 (b.s))]) (rv_c (vs := [(Value.int .i64 (b.l)), (Value.int .i64 (b.h)), (Value.int .i64 (b.s))]) Try.agg23 rfl (inOc (k := 2) rfl) rfl rfl) ?_
    exact (aggc (consc (congrArg (Value.int .i64) (show b.l = ((joinF a b).l) from by first | (rw [joinF_1 he]; done) | (rw [joinF_2 he (Or.inl hf)]; done) | exact j2 | exact j3 | exact j5 | exact j4 (by assumption))) (consc (congrArg (Value.int .i64) (show b.h = ((joinF a b).h) from by first | (rw [joinF_1 he]; done) | (rw [joinF_2 he (Or.inl hf)]; done) | exact j2 | exact j3 | exact j5 | exact j4 (by assumption))) (consc (congrArg (Value.int .i64) (show b.s = ((joinF a b).s) from by first | (rw [joinF_1 he]; done) | (rw [joinF_2 he (Or.inl hf)]; done) | exact j2 | exact j3 | exact j5 | exact j4 (by assumption))) rfl))))
  ·
    refine vc_skip ?_
    refine vc_seq ?_
    refine vc_seq ?_
    have he : ¬ a = nE := fun e => absurd ((vld_lt ha).2 e) (by assumption)
    refine vc_region ?_
    refine oq (qv_ldm (vs := [(Value.int .i64 (b.l)), (Value.int .i64 (b.h)), (Value.int .i64 (b.s))]) Try.agg23 rfl (inOc (k := 1) rfl) rfl rfl) ?_
    refine oq (qv_call (v := (Value.bool (decide (b.h < b.l)))) (rempty_c (a := b)) rfl rfl) ?_
    refine ops_nil ?_
    refine vc_if rfl (fun c2 => ?_) (fun c2 => ?_)
    ·
      refine vc_seq ?_
      have hf : b = nE := (vld_lt hb).1 (by assumption)
      refine vc_region ?_
      refine oq (qv_ldm (vs := [(Value.int .i64 (a.l)), (Value.int .i64 (a.h)), (Value.int .i64 (a.s))]) Try.agg23 rfl (inOc (k := 0) rfl) rfl rfl) ?_
      refine ops_stm (k := 2) (off := 0) (v := (Value.agg #[(Value.int .i64 (a.l)), (Value.int .i64 (a.h)), (Value.int .i64 (a.s))])) (vs := [(Value.int .i64 (a.l)), (Value.int .i64 (a.h)), (Value.int .i64 (a.s))]) (cs := [(Value.int .i64 0), (Value.int .i64 0), (Value.int .i64 0)]) (cs' := [(Value.int .i64 (a.l)), (Value.int .i64 (a.h)), (Value.int .i64 (a.s))]) Try.size23 rfl rfl rfl rfl rfl rfl (Nat.le_of_ble_eq_true rfl) rfl ?_
      refine ops_nil ?_
      refine vc_ret ?_
      refine rs1 (Value.agg #[(Value.int .i64 (a.l)), (Value.int .i64 (a.h)), (Value.int .i64 (a.s))]) (rv_c (vs := [(Value.int .i64 (a.l)), (Value.int .i64 (a.h)), (Value.int .i64 (a.s))]) Try.agg23 rfl (inOc (k := 2) rfl) rfl rfl) ?_
      exact (aggc (consc (congrArg (Value.int .i64) (show a.l = ((joinF a b).l) from by first | (rw [joinF_1 he]; done) | (rw [joinF_2 he (Or.inl hf)]; done) | exact j2 | exact j3 | exact j5 | exact j4 (by assumption))) (consc (congrArg (Value.int .i64) (show a.h = ((joinF a b).h) from by first | (rw [joinF_1 he]; done) | (rw [joinF_2 he (Or.inl hf)]; done) | exact j2 | exact j3 | exact j5 | exact j4 (by assumption))) (consc (congrArg (Value.int .i64) (show a.s = ((joinF a b).s) from by first | (rw [joinF_1 he]; done) | (rw [joinF_2 he (Or.inl hf)]; done) | exact j2 | exact j3 | exact j5 | exact j4 (by assumption))) rfl))))
    ·
      refine vc_skip ?_
      refine vc_seq ?_
      have hf : ¬ b = nE := fun e => absurd ((vld_lt hb).2 e) (by assumption)
      obtain ⟨j1, j2, j3, j4, j5⟩ := join4 ha hb he hf
      refine vc_region ?_
      refine oq (qv_fa (off := 0) Try.field23_0 rfl) ?_
      refine oq (qv_ldp (v := (Value.int .i64 (a.l))) Try.plain3 rfl (inOc (k := 0) rfl) rfl) ?_
      refine oq (qv_fa (off := 0) Try.field23_1 rfl) ?_
      refine oq (qv_ldp (v := (Value.int .i64 (a.h))) Try.plain3 rfl (inOc (k := 0) rfl) rfl) ?_
      refine oq (qv_fa (off := 0) Try.field23_0 rfl) ?_
      refine oq (qv_ldp (v := (Value.int .i64 (b.l))) Try.plain3 rfl (inOc (k := 1) rfl) rfl) ?_
      refine oq (qv_fa (off := 0) Try.field23_1 rfl) ?_
      refine oq (qv_ldp (v := (Value.int .i64 (b.h))) Try.plain3 rfl (inOc (k := 1) rfl) rfl) ?_
      refine ops_lit (n := 4) (s := 1) (cs := [(Value.int .i64 (a.l)), (Value.int .i64 (a.h)), (Value.int .i64 (b.l)), (Value.int .i64 (b.h))]) Try.underlying37 Try.ti3 (Nat.le_of_ble_eq_true rfl) rfl rfl rfl (Nat.le_of_ble_eq_true rfl) rfl (fun b4 => ?_)
      refine oq (qv_call_own (v := (Value.tuple #[(Value.agg #[(Value.int .i64 ((ofN [a.l, a.h, b.l, b.h]).l)), (Value.int .i64 ((ofN [a.l, a.h, b.l, b.h]).h)), (Value.int .i64 ((ofN [a.l, a.h, b.l, b.h]).s))]), (Value.int .i64 (ofE [a.l, a.h, b.l, b.h]))])) (k := 3) (b := b4) rfl (fun Vo hVo hbo => rOf_c (xs := [a.l, a.h, b.l, b.h]) (sl_own (n := 4) (c := 4) hbo rfl (Nat.le_refl _) (by omega))) rfl rfl) ?_
      refine oq (qv_mv (Value.tuple #[(Value.agg #[(Value.int .i64 ((ofN [a.l, a.h, b.l, b.h]).l)), (Value.int .i64 ((ofN [a.l, a.h, b.l, b.h]).h)), (Value.int .i64 ((ofN [a.l, a.h, b.l, b.h]).s))]), (Value.int .i64 (ofE [a.l, a.h, b.l, b.h]))]) rfl) ?_
      refine oq (qv_ext (Value.agg #[(Value.int .i64 ((ofN [a.l, a.h, b.l, b.h]).l)), (Value.int .i64 ((ofN [a.l, a.h, b.l, b.h]).h)), (Value.int .i64 ((ofN [a.l, a.h, b.l, b.h]).s))]) rfl rfl) ?_
      refine oq (qv_ext (Value.int .i64 (ofE [a.l, a.h, b.l, b.h])) rfl rfl) ?_
      refine ops_alloc Try.ti23 rfl (fun b5 => ?_)
      refine ops_stm (k := 4) (off := 0) (v := (Value.agg #[(Value.int .i64 ((ofN [a.l, a.h, b.l, b.h]).l)), (Value.int .i64 ((ofN [a.l, a.h, b.l, b.h]).h)), (Value.int .i64 ((ofN [a.l, a.h, b.l, b.h]).s))])) (vs := [(Value.int .i64 ((ofN [a.l, a.h, b.l, b.h]).l)), (Value.int .i64 ((ofN [a.l, a.h, b.l, b.h]).h)), (Value.int .i64 ((ofN [a.l, a.h, b.l, b.h]).s))]) (cs := [(Value.int .i64 0), (Value.int .i64 0), (Value.int .i64 0)]) (cs' := [(Value.int .i64 ((ofN [a.l, a.h, b.l, b.h]).l)), (Value.int .i64 ((ofN [a.l, a.h, b.l, b.h]).h)), (Value.int .i64 ((ofN [a.l, a.h, b.l, b.h]).s))]) Try.size23 rfl rfl rfl rfl rfl rfl (Nat.le_of_ble_eq_true rfl) rfl ?_
      refine oq (qv_as (Value.int .i64 (ofE [a.l, a.h, b.l, b.h])) rfl) ?_
      refine ops_nil ?_
      refine vc_seq ?_
      refine vc_seq ?_
      refine vc_res (σ' := [(Arr 23 b1 [(Value.int .i64 (a.l)), (Value.int .i64 (a.h)), (Value.int .i64 (a.s))]), (Arr 23 b2 [(Value.int .i64 (b.l)), (Value.int .i64 (b.h)), (Value.int .i64 (b.s))]), (Arr 23 b3 [(Value.int .i64 0), (Value.int .i64 0), (Value.int .i64 0)]), (Arr 3 b4 [(Value.int .i64 (a.l)), (Value.int .i64 (a.h)), (Value.int .i64 (b.l)), (Value.int .i64 (b.h))]), (Arr 23 b5 [(Value.int .i64 ((ofN [a.l, a.h, b.l, b.h]).l)), (Value.int .i64 ((ofN [a.l, a.h, b.l, b.h]).h)), (Value.int .i64 ((ofN [a.l, a.h, b.l, b.h]).s))])]) rfl ?_
      refine vc_region ?_
      refine oq (qv_fa (off := 0) Try.field23_0 rfl) ?_
      refine oq (qv_ldp (v := (Value.int .i64 ((ofN [a.l, a.h, b.l, b.h]).l))) Try.plain3 rfl (inOc (k := 4) rfl) rfl) ?_
      refine oq (qv_fa (off := 0) Try.field23_1 rfl) ?_
      refine oq (qv_ldp (v := (Value.int .i64 ((ofN [a.l, a.h, b.l, b.h]).h))) Try.plain3 rfl (inOc (k := 4) rfl) rfl) ?_
      refine oq (qv_lss rfl rfl) ?_
      refine ops_nil ?_
      refine vc_if rfl (fun c3 => ?_) (fun c3 => ?_)
      ·
        refine vc_region_order (τ := []) [(0, false), (1, false), (2, false), (3, false), (4, false), (5, false), (6, false), (7, false), (8, false), (9, false), (10, false), (11, false), (12, true)] [(Arr 23 b1 [(Value.int .i64 (a.l)), (Value.int .i64 (a.h)), (Value.int .i64 (a.s))]), (Arr 23 b2 [(Value.int .i64 (b.l)), (Value.int .i64 (b.h)), (Value.int .i64 (b.s))]), (Arr 23 b3 [(Value.int .i64 0), (Value.int .i64 0), (Value.int .i64 0)]), (Arr 3 b4 [(Value.int .i64 (a.l)), (Value.int .i64 (a.h)), (Value.int .i64 (b.l)), (Value.int .i64 (b.h))]), (Arr 23 b5 [(Value.int .i64 ((ofN [a.l, a.h, b.l, b.h]).l)), (Value.int .i64 ((ofN [a.l, a.h, b.l, b.h]).h)), (Value.int .i64 ((ofN [a.l, a.h, b.l, b.h]).s))])] Try.mixed (perm_nil _) (by kernel_rfl) ?_
        refine rq rfl (qv_fa (off := 0) Try.field23_2 rfl) ?_
        refine rq rfl (qv_ldp (v := (Value.int .i64 (a.s))) Try.plain3 rfl (inOc (k := 0) rfl) rfl) ?_
        refine rq rfl (qv_fa (off := 0) Try.field23_2 rfl) ?_
        refine rq rfl (qv_ldp (v := (Value.int .i64 (b.s))) Try.plain3 rfl (inOc (k := 1) rfl) rfl) ?_
        refine rq rfl (qv_call (v := (Value.int .i64 ((Int.gcd a.s b.s : Int)))) (rGcd_c (by omega) (by first | omega | exact aw_nn _ _)) rfl rfl) ?_
        refine rq rfl (qv_fa (off := 0) Try.field23_0 rfl) ?_
        refine rq rfl (qv_ldp (v := (Value.int .i64 (a.l))) Try.plain3 rfl (inOc (k := 0) rfl) rfl) ?_
        refine rq rfl (qv_fa (off := 0) Try.field23_0 rfl) ?_
        refine rq rfl (qv_ldp (v := (Value.int .i64 (b.l))) Try.plain3 rfl (inOc (k := 1) rfl) rfl) ?_
        refine rq rfl (qv_call (v := (Value.int .i64 (aw a.l b.l))) (rAway_c (by omega) (by omega)) rfl rfl) ?_
        refine rq rfl (qv_call (v := (Value.int .i64 ((Int.gcd ((Int.gcd a.s b.s : Int)) (aw a.l b.l) : Int)))) (rGcd_c (by omega) (by first | omega | exact aw_nn _ _)) rfl rfl) ?_
        refine rq rfl (qv_fa (off := 0) Try.field23_2 rfl) ?_
        refine rl1 (by kernel_rfl) rfl ?_
        refine ops_stp (k := 4) (off := 2) (cs := [(Value.int .i64 ((ofN [a.l, a.h, b.l, b.h]).l)), (Value.int .i64 ((ofN [a.l, a.h, b.l, b.h]).h)), (Value.int .i64 ((ofN [a.l, a.h, b.l, b.h]).s))]) Try.size3 rfl (rfl : ev _ _ = (Value.int .i64 ((Int.gcd ((Int.gcd a.s b.s : Int)) (aw a.l b.l) : Int)))) rfl rfl (Nat.le_of_ble_eq_true rfl) ?_
        refine ops_nil ⟨[(Arr 23 b1 [(Value.int .i64 (a.l)), (Value.int .i64 (a.h)), (Value.int .i64 (a.s))]), (Arr 23 b2 [(Value.int .i64 (b.l)), (Value.int .i64 (b.h)), (Value.int .i64 (b.s))]), (Arr 23 b3 [(Value.int .i64 0), (Value.int .i64 0), (Value.int .i64 0)]), (Arr 3 b4 [(Value.int .i64 (a.l)), (Value.int .i64 (a.h)), (Value.int .i64 (b.l)), (Value.int .i64 (b.h))]), (Arr 23 b5 [(Value.int .i64 ((ofN [a.l, a.h, b.l, b.h]).l)), (Value.int .i64 ((ofN [a.l, a.h, b.l, b.h]).h)), (Value.int .i64 ((Int.gcd ((Int.gcd a.s b.s : Int)) (aw a.l b.l) : Int)))])], [], perm_nil _, ?_⟩
        refine rnil ?_
        refine vc_seq ?_
        refine vc_res (σ' := [(Arr 23 b1 [(Value.int .i64 (a.l)), (Value.int .i64 (a.h)), (Value.int .i64 (a.s))]), (Arr 23 b2 [(Value.int .i64 (b.l)), (Value.int .i64 (b.h)), (Value.int .i64 (b.s))]), (Arr 23 b3 [(Value.int .i64 0), (Value.int .i64 0), (Value.int .i64 0)]), (Arr 3 b4 [(Value.int .i64 (a.l)), (Value.int .i64 (a.h)), (Value.int .i64 (b.l)), (Value.int .i64 (b.h))]), (Arr 23 b5 [(Value.int .i64 ((ofN [a.l, a.h, b.l, b.h]).l)), (Value.int .i64 ((ofN [a.l, a.h, b.l, b.h]).h)), (Value.int .i64 ((Int.gcd ((Int.gcd a.s b.s : Int)) (aw a.l b.l) : Int)))])]) rfl ?_
        refine vc_region ?_
        refine oq (qv_ldm (vs := [(Value.int .i64 ((ofN [a.l, a.h, b.l, b.h]).l)), (Value.int .i64 ((ofN [a.l, a.h, b.l, b.h]).h)), (Value.int .i64 ((Int.gcd ((Int.gcd a.s b.s : Int)) (aw a.l b.l) : Int)))]) Try.agg23 rfl (inOc (k := 4) rfl) rfl rfl) ?_
        refine ops_stm (k := 2) (off := 0) (v := (Value.agg #[(Value.int .i64 ((ofN [a.l, a.h, b.l, b.h]).l)), (Value.int .i64 ((ofN [a.l, a.h, b.l, b.h]).h)), (Value.int .i64 ((Int.gcd ((Int.gcd a.s b.s : Int)) (aw a.l b.l) : Int)))])) (vs := [(Value.int .i64 ((ofN [a.l, a.h, b.l, b.h]).l)), (Value.int .i64 ((ofN [a.l, a.h, b.l, b.h]).h)), (Value.int .i64 ((Int.gcd ((Int.gcd a.s b.s : Int)) (aw a.l b.l) : Int)))]) (cs := [(Value.int .i64 0), (Value.int .i64 0), (Value.int .i64 0)]) (cs' := [(Value.int .i64 ((ofN [a.l, a.h, b.l, b.h]).l)), (Value.int .i64 ((ofN [a.l, a.h, b.l, b.h]).h)), (Value.int .i64 ((Int.gcd ((Int.gcd a.s b.s : Int)) (aw a.l b.l) : Int)))]) Try.size23 rfl rfl rfl rfl rfl rfl (Nat.le_of_ble_eq_true rfl) rfl ?_
        refine ops_nil ?_
        refine vc_ret ?_
        refine rs1 (Value.agg #[(Value.int .i64 ((ofN [a.l, a.h, b.l, b.h]).l)), (Value.int .i64 ((ofN [a.l, a.h, b.l, b.h]).h)), (Value.int .i64 ((Int.gcd ((Int.gcd a.s b.s : Int)) (aw a.l b.l) : Int)))]) (rv_c (vs := [(Value.int .i64 ((ofN [a.l, a.h, b.l, b.h]).l)), (Value.int .i64 ((ofN [a.l, a.h, b.l, b.h]).h)), (Value.int .i64 ((Int.gcd ((Int.gcd a.s b.s : Int)) (aw a.l b.l) : Int)))]) Try.agg23 rfl (inOc (k := 2) rfl) rfl rfl) ?_
        exact (aggc (consc (congrArg (Value.int .i64) (show ((ofN [a.l, a.h, b.l, b.h]).l) = ((joinF a b).l) from by first | (rw [joinF_1 he]; done) | (rw [joinF_2 he (Or.inl hf)]; done) | exact j2 | exact j3 | exact j5 | exact j4 (by assumption))) (consc (congrArg (Value.int .i64) (show ((ofN [a.l, a.h, b.l, b.h]).h) = ((joinF a b).h) from by first | (rw [joinF_1 he]; done) | (rw [joinF_2 he (Or.inl hf)]; done) | exact j2 | exact j3 | exact j5 | exact j4 (by assumption))) (consc (congrArg (Value.int .i64) (show ((Int.gcd ((Int.gcd a.s b.s : Int)) (aw a.l b.l) : Int)) = ((joinF a b).s) from by first | (rw [joinF_1 he]; done) | (rw [joinF_2 he (Or.inl hf)]; done) | exact j2 | exact j3 | exact j5 | exact j4 (by assumption))) rfl))))
      ·
        refine vc_skip ?_
        refine vc_seq ?_
        refine vc_region ?_
        refine oq (qv_ldm (vs := [(Value.int .i64 ((ofN [a.l, a.h, b.l, b.h]).l)), (Value.int .i64 ((ofN [a.l, a.h, b.l, b.h]).h)), (Value.int .i64 ((ofN [a.l, a.h, b.l, b.h]).s))]) Try.agg23 rfl (inOc (k := 4) rfl) rfl rfl) ?_
        refine ops_stm (k := 2) (off := 0) (v := (Value.agg #[(Value.int .i64 ((ofN [a.l, a.h, b.l, b.h]).l)), (Value.int .i64 ((ofN [a.l, a.h, b.l, b.h]).h)), (Value.int .i64 ((ofN [a.l, a.h, b.l, b.h]).s))])) (vs := [(Value.int .i64 ((ofN [a.l, a.h, b.l, b.h]).l)), (Value.int .i64 ((ofN [a.l, a.h, b.l, b.h]).h)), (Value.int .i64 ((ofN [a.l, a.h, b.l, b.h]).s))]) (cs := [(Value.int .i64 0), (Value.int .i64 0), (Value.int .i64 0)]) (cs' := [(Value.int .i64 ((ofN [a.l, a.h, b.l, b.h]).l)), (Value.int .i64 ((ofN [a.l, a.h, b.l, b.h]).h)), (Value.int .i64 ((ofN [a.l, a.h, b.l, b.h]).s))]) Try.size23 rfl rfl rfl rfl rfl rfl (Nat.le_of_ble_eq_true rfl) rfl ?_
        refine ops_nil ?_
        refine vc_ret ?_
        refine rs1 (Value.agg #[(Value.int .i64 ((ofN [a.l, a.h, b.l, b.h]).l)), (Value.int .i64 ((ofN [a.l, a.h, b.l, b.h]).h)), (Value.int .i64 ((ofN [a.l, a.h, b.l, b.h]).s))]) (rv_c (vs := [(Value.int .i64 ((ofN [a.l, a.h, b.l, b.h]).l)), (Value.int .i64 ((ofN [a.l, a.h, b.l, b.h]).h)), (Value.int .i64 ((ofN [a.l, a.h, b.l, b.h]).s))]) Try.agg23 rfl (inOc (k := 2) rfl) rfl rfl) ?_
        exact (aggc (consc (congrArg (Value.int .i64) (show ((ofN [a.l, a.h, b.l, b.h]).l) = ((joinF a b).l) from by first | (rw [joinF_1 he]; done) | (rw [joinF_2 he (Or.inl hf)]; done) | exact j2 | exact j3 | exact j5 | exact j4 (by assumption))) (consc (congrArg (Value.int .i64) (show ((ofN [a.l, a.h, b.l, b.h]).h) = ((joinF a b).h) from by first | (rw [joinF_1 he]; done) | (rw [joinF_2 he (Or.inl hf)]; done) | exact j2 | exact j3 | exact j5 | exact j4 (by assumption))) (consc (congrArg (Value.int .i64) (show ((ofN [a.l, a.h, b.l, b.h]).s) = ((joinF a b).s) from by first | (rw [joinF_1 he]; done) | (rw [joinF_2 he (Or.inl hf)]; done) | exact j2 | exact j3 | exact j5 | exact j4 (by assumption))) rfl))))

set_option maxRecDepth 100000 in
set_option maxHeartbeats 4000000 in
theorem Split_c {V : HV} {a : Nm} {x : Int} :
    FnC Try.prog 39 [(Value.agg #[(Value.int .i64 (a.l)), (Value.int .i64 (a.h)), (Value.int .i64 (a.s))]), (Value.int .i64 x)] V [] (fun v _ _ => v = .tuple #[(Value.agg #[(Value.int .i64 ((spU a x).l)), (Value.int .i64 ((spU a x).h)), (Value.int .i64 ((spU a x).s))]), (Value.agg #[(Value.int .i64 ((spA a x).l)), (Value.int .i64 ((spA a x).h)), (Value.int .i64 ((spA a x).s))]), (Value.int .i64 (spE a))]) := by
  refine fn_intro (N := 22) Try.func39 (by kernel_rfl) rfl rfl rfl (Nat.le_of_ble_eq_true rfl) ?_
  intro w0 D
  refine vc_seq ?_
  refine vc_region ?_
  refine ops_box (v := (Value.agg #[(Value.int .i64 (a.l)), (Value.int .i64 (a.h)), (Value.int .i64 (a.s))])) (cs := [(Value.int .i64 (a.l)), (Value.int .i64 (a.h)), (Value.int .i64 (a.s))]) rfl rfl (fun b1 => ?_)
  refine ops_alloc Try.ti23 rfl (fun b2 => ?_)
  refine ops_alloc Try.ti23 rfl (fun b3 => ?_)
  refine oq (qv_as (Value.int .i64 0) rfl) ?_
  refine ops_nil ?_
  refine vc_seq ?_
  refine vc_seq ?_
  refine vc_res (σ' := [(Arr 23 b1 [(Value.int .i64 (a.l)), (Value.int .i64 (a.h)), (Value.int .i64 (a.s))]), (Arr 23 b2 [(Value.int .i64 0), (Value.int .i64 0), (Value.int .i64 0)]), (Arr 23 b3 [(Value.int .i64 0), (Value.int .i64 0), (Value.int .i64 0)])]) rfl ?_
  refine vc_region ?_
  refine oq (qv_ldm (vs := [(Value.int .i64 (a.l)), (Value.int .i64 (a.h)), (Value.int .i64 (a.s))]) Try.agg23 rfl (inOc (k := 0) rfl) rfl rfl) ?_
  refine oq (qv_call (v := (Value.bool (decide (vld a)))) (Valid_c (a := a)) rfl rfl) ?_
  refine oq (qv_not rfl) ?_
  refine ops_nil ?_
  refine vc_if rfl (fun c1 => ?_) (fun c1 => ?_)
  ·
    refine vc_seq ?_
    refine vc_region ?_
    refine oq (qv_build (out := [(Value.int .i64 0), (Value.int .i64 0), (Value.int .i64 0)]) Try.build23 [] rfl rfl) ?_
    refine oq (qv_build (out := [(Value.int .i64 0), (Value.int .i64 0), (Value.int .i64 0)]) Try.build23 [] rfl rfl) ?_
    refine ops_stm (k := 1) (off := 0) (v := (Value.agg #[(Value.int .i64 0), (Value.int .i64 0), (Value.int .i64 0)])) (vs := [(Value.int .i64 0), (Value.int .i64 0), (Value.int .i64 0)]) (cs := [(Value.int .i64 0), (Value.int .i64 0), (Value.int .i64 0)]) (cs' := [(Value.int .i64 0), (Value.int .i64 0), (Value.int .i64 0)]) Try.size23 rfl rfl rfl rfl rfl rfl (Nat.le_of_ble_eq_true rfl) rfl ?_
    refine ops_stm (k := 2) (off := 0) (v := (Value.agg #[(Value.int .i64 0), (Value.int .i64 0), (Value.int .i64 0)])) (vs := [(Value.int .i64 0), (Value.int .i64 0), (Value.int .i64 0)]) (cs := [(Value.int .i64 0), (Value.int .i64 0), (Value.int .i64 0)]) (cs' := [(Value.int .i64 0), (Value.int .i64 0), (Value.int .i64 0)]) Try.size23 rfl rfl rfl rfl rfl rfl (Nat.le_of_ble_eq_true rfl) rfl ?_
    refine oq (qv_as (Value.int .i64 1) rfl) ?_
    refine ops_nil ?_
    refine vc_ret ?_
    refine rs3 (Value.agg #[(Value.int .i64 0), (Value.int .i64 0), (Value.int .i64 0)]) (Value.agg #[(Value.int .i64 0), (Value.int .i64 0), (Value.int .i64 0)]) (Value.int .i64 1) (rv_c (vs := [(Value.int .i64 0), (Value.int .i64 0), (Value.int .i64 0)]) Try.agg23 rfl (inOc (k := 1) rfl) rfl rfl) (rv_c (vs := [(Value.int .i64 0), (Value.int .i64 0), (Value.int .i64 0)]) Try.agg23 rfl (inOc (k := 2) rfl) rfl rfl) (rv_t rfl) ?_
    exact tup3 (aggc (consc (congrArg (Value.int .i64) (show 0 = ((spU a x).l) from by unfold spU; first | (rw [if_pos hv]; done) | (rw [if_neg (by assumption)]; done))) (consc (congrArg (Value.int .i64) (show 0 = ((spU a x).h) from by unfold spU; first | (rw [if_pos hv]; done) | (rw [if_neg (by assumption)]; done))) (consc (congrArg (Value.int .i64) (show 0 = ((spU a x).s) from by unfold spU; first | (rw [if_pos hv]; done) | (rw [if_neg (by assumption)]; done))) rfl)))) (aggc (consc (congrArg (Value.int .i64) (show 0 = ((spA a x).l) from by unfold spA; first | (rw [if_pos hv]; done) | (rw [if_neg (by assumption)]; done))) (consc (congrArg (Value.int .i64) (show 0 = ((spA a x).h) from by unfold spA; first | (rw [if_pos hv]; done) | (rw [if_neg (by assumption)]; done))) (consc (congrArg (Value.int .i64) (show 0 = ((spA a x).s) from by unfold spA; first | (rw [if_pos hv]; done) | (rw [if_neg (by assumption)]; done))) rfl)))) (congrArg (Value.int .i64) (show 1 = (spE a) from by unfold spE; first | (rw [if_pos hv]; done) | (rw [if_neg (by assumption)]; done)))
  ·
    refine vc_skip ?_
    refine vc_seq ?_
    have hv : vld a := Decidable.not_not.1 (by assumption)
    refine vc_region ?_
    refine oq (qv_ldm (vs := [(Value.int .i64 (a.l)), (Value.int .i64 (a.h)), (Value.int .i64 (a.s))]) Try.agg23 rfl (inOc (k := 0) rfl) rfl rfl) ?_
    refine oq (qv_mv (Value.int .i64 x) rfl) ?_
    refine oq (qv_call (v := (Value.tuple #[(Value.agg #[(Value.int .i64 ((upF a x).l)), (Value.int .i64 ((upF a x).h)), (Value.int .i64 ((upF a x).s))]), (Value.agg #[(Value.int .i64 ((abF a x).l)), (Value.int .i64 ((abF a x).h)), (Value.int .i64 ((abF a x).s))])])) (split_c (a := a) (by assumption)) rfl rfl) ?_
    refine oq (qv_mv (Value.tuple #[(Value.agg #[(Value.int .i64 ((upF a x).l)), (Value.int .i64 ((upF a x).h)), (Value.int .i64 ((upF a x).s))]), (Value.agg #[(Value.int .i64 ((abF a x).l)), (Value.int .i64 ((abF a x).h)), (Value.int .i64 ((abF a x).s))])]) rfl) ?_
    refine oq (qv_ext (Value.agg #[(Value.int .i64 ((upF a x).l)), (Value.int .i64 ((upF a x).h)), (Value.int .i64 ((upF a x).s))]) rfl rfl) ?_
    refine oq (qv_ext (Value.agg #[(Value.int .i64 ((abF a x).l)), (Value.int .i64 ((abF a x).h)), (Value.int .i64 ((abF a x).s))]) rfl rfl) ?_
    refine ops_alloc Try.ti23 rfl (fun b4 => ?_)
    refine ops_alloc Try.ti23 rfl (fun b5 => ?_)
    refine ops_stm (k := 3) (off := 0) (v := (Value.agg #[(Value.int .i64 ((upF a x).l)), (Value.int .i64 ((upF a x).h)), (Value.int .i64 ((upF a x).s))])) (vs := [(Value.int .i64 ((upF a x).l)), (Value.int .i64 ((upF a x).h)), (Value.int .i64 ((upF a x).s))]) (cs := [(Value.int .i64 0), (Value.int .i64 0), (Value.int .i64 0)]) (cs' := [(Value.int .i64 ((upF a x).l)), (Value.int .i64 ((upF a x).h)), (Value.int .i64 ((upF a x).s))]) Try.size23 rfl rfl rfl rfl rfl rfl (Nat.le_of_ble_eq_true rfl) rfl ?_
    refine ops_stm (k := 4) (off := 0) (v := (Value.agg #[(Value.int .i64 ((abF a x).l)), (Value.int .i64 ((abF a x).h)), (Value.int .i64 ((abF a x).s))])) (vs := [(Value.int .i64 ((abF a x).l)), (Value.int .i64 ((abF a x).h)), (Value.int .i64 ((abF a x).s))]) (cs := [(Value.int .i64 0), (Value.int .i64 0), (Value.int .i64 0)]) (cs' := [(Value.int .i64 ((abF a x).l)), (Value.int .i64 ((abF a x).h)), (Value.int .i64 ((abF a x).s))]) Try.size23 rfl rfl rfl rfl rfl rfl (Nat.le_of_ble_eq_true rfl) rfl ?_
    refine ops_nil ?_
    refine vc_seq ?_
    refine vc_res (σ' := [(Arr 23 b1 [(Value.int .i64 (a.l)), (Value.int .i64 (a.h)), (Value.int .i64 (a.s))]), (Arr 23 b2 [(Value.int .i64 0), (Value.int .i64 0), (Value.int .i64 0)]), (Arr 23 b3 [(Value.int .i64 0), (Value.int .i64 0), (Value.int .i64 0)]), (Arr 23 b4 [(Value.int .i64 ((upF a x).l)), (Value.int .i64 ((upF a x).h)), (Value.int .i64 ((upF a x).s))]), (Arr 23 b5 [(Value.int .i64 ((abF a x).l)), (Value.int .i64 ((abF a x).h)), (Value.int .i64 ((abF a x).s))])]) rfl ?_
    refine vc_region_order (τ := [(Arr 23 b2 [(Value.int .i64 0), (Value.int .i64 0), (Value.int .i64 0)])]) [(0, false), (1, false), (2, true), (3, true), (4, false)] [(Arr 23 b1 [(Value.int .i64 (a.l)), (Value.int .i64 (a.h)), (Value.int .i64 (a.s))]), (Arr 23 b3 [(Value.int .i64 0), (Value.int .i64 0), (Value.int .i64 0)]), (Arr 23 b4 [(Value.int .i64 ((upF a x).l)), (Value.int .i64 ((upF a x).h)), (Value.int .i64 ((upF a x).s))]), (Arr 23 b5 [(Value.int .i64 ((abF a x).l)), (Value.int .i64 ((abF a x).h)), (Value.int .i64 ((abF a x).s))])] Try.mixed (perm_idx _ _ [0, 2, 3, 4, 1] rfl rfl) (by kernel_rfl) ?_
    refine rq rfl (qv_ldm (vs := [(Value.int .i64 ((upF a x).l)), (Value.int .i64 ((upF a x).h)), (Value.int .i64 ((upF a x).s))]) Try.agg23 rfl (inOc (k := 2) rfl) rfl rfl) ?_
    refine rq rfl (qv_ldm (vs := [(Value.int .i64 ((abF a x).l)), (Value.int .i64 ((abF a x).h)), (Value.int .i64 ((abF a x).s))]) Try.agg23 rfl (inOc (k := 3) rfl) rfl rfl) ?_
    refine rl rfl ?_
    refine ops_stm (k := 1) (off := 0) (v := (Value.agg #[(Value.int .i64 ((upF a x).l)), (Value.int .i64 ((upF a x).h)), (Value.int .i64 ((upF a x).s))])) (vs := [(Value.int .i64 ((upF a x).l)), (Value.int .i64 ((upF a x).h)), (Value.int .i64 ((upF a x).s))]) (cs := [(Value.int .i64 0), (Value.int .i64 0), (Value.int .i64 0)]) (cs' := [(Value.int .i64 ((upF a x).l)), (Value.int .i64 ((upF a x).h)), (Value.int .i64 ((upF a x).s))]) Try.size23 rfl rfl rfl rfl rfl rfl (Nat.le_of_ble_eq_true rfl) rfl ?_
    refine ops_nil ⟨[(Arr 23 b1 [(Value.int .i64 (a.l)), (Value.int .i64 (a.h)), (Value.int .i64 (a.s))]), (Arr 23 b3 [(Value.int .i64 0), (Value.int .i64 0), (Value.int .i64 0)]), (Arr 23 b4 [(Value.int .i64 ((upF a x).l)), (Value.int .i64 ((upF a x).h)), (Value.int .i64 ((upF a x).s))]), (Arr 23 b5 [(Value.int .i64 ((abF a x).l)), (Value.int .i64 ((abF a x).h)), (Value.int .i64 ((abF a x).s))])], [(Arr 23 b2 [(Value.int .i64 ((upF a x).l)), (Value.int .i64 ((upF a x).h)), (Value.int .i64 ((upF a x).s))])], (Sub.refl _), (perm_idx _ _ [0, 2, 3, 4, 1] rfl rfl), ⟨[], .refl _⟩, ?_⟩
    refine rl1 (by kernel_rfl) rfl ?_
    refine ops_stm (k := 2) (off := 0) (v := (Value.agg #[(Value.int .i64 ((abF a x).l)), (Value.int .i64 ((abF a x).h)), (Value.int .i64 ((abF a x).s))])) (vs := [(Value.int .i64 ((abF a x).l)), (Value.int .i64 ((abF a x).h)), (Value.int .i64 ((abF a x).s))]) (cs := [(Value.int .i64 0), (Value.int .i64 0), (Value.int .i64 0)]) (cs' := [(Value.int .i64 ((abF a x).l)), (Value.int .i64 ((abF a x).h)), (Value.int .i64 ((abF a x).s))]) Try.size23 rfl rfl rfl rfl rfl rfl (Nat.le_of_ble_eq_true rfl) rfl ?_
    refine ops_nil ⟨[(Arr 23 b1 [(Value.int .i64 (a.l)), (Value.int .i64 (a.h)), (Value.int .i64 (a.s))]), (Arr 23 b3 [(Value.int .i64 ((abF a x).l)), (Value.int .i64 ((abF a x).h)), (Value.int .i64 ((abF a x).s))]), (Arr 23 b4 [(Value.int .i64 ((upF a x).l)), (Value.int .i64 ((upF a x).h)), (Value.int .i64 ((upF a x).s))]), (Arr 23 b5 [(Value.int .i64 ((abF a x).l)), (Value.int .i64 ((abF a x).h)), (Value.int .i64 ((abF a x).s))])], [(Arr 23 b2 [(Value.int .i64 ((upF a x).l)), (Value.int .i64 ((upF a x).h)), (Value.int .i64 ((upF a x).s))])], (perm_idx _ _ [0, 2, 3, 4, 1] rfl rfl), ?_⟩
    refine rq rfl (qv_as (Value.int .i64 0) rfl) ?_
    refine rnil ?_
    refine vc_ret ?_
    refine rs3 (Value.agg #[(Value.int .i64 ((upF a x).l)), (Value.int .i64 ((upF a x).h)), (Value.int .i64 ((upF a x).s))]) (Value.agg #[(Value.int .i64 ((abF a x).l)), (Value.int .i64 ((abF a x).h)), (Value.int .i64 ((abF a x).s))]) (Value.int .i64 0) (rv_c (vs := [(Value.int .i64 ((upF a x).l)), (Value.int .i64 ((upF a x).h)), (Value.int .i64 ((upF a x).s))]) Try.agg23 rfl (inOc (k := 1) rfl) rfl rfl) (rv_c (vs := [(Value.int .i64 ((abF a x).l)), (Value.int .i64 ((abF a x).h)), (Value.int .i64 ((abF a x).s))]) Try.agg23 rfl (inOc (k := 2) rfl) rfl rfl) (rv_t rfl) ?_
    exact tup3 (aggc (consc (congrArg (Value.int .i64) (show ((upF a x).l) = ((spU a x).l) from by unfold spU; first | (rw [if_pos hv]; done) | (rw [if_neg (by assumption)]; done))) (consc (congrArg (Value.int .i64) (show ((upF a x).h) = ((spU a x).h) from by unfold spU; first | (rw [if_pos hv]; done) | (rw [if_neg (by assumption)]; done))) (consc (congrArg (Value.int .i64) (show ((upF a x).s) = ((spU a x).s) from by unfold spU; first | (rw [if_pos hv]; done) | (rw [if_neg (by assumption)]; done))) rfl)))) (aggc (consc (congrArg (Value.int .i64) (show ((abF a x).l) = ((spA a x).l) from by unfold spA; first | (rw [if_pos hv]; done) | (rw [if_neg (by assumption)]; done))) (consc (congrArg (Value.int .i64) (show ((abF a x).h) = ((spA a x).h) from by unfold spA; first | (rw [if_pos hv]; done) | (rw [if_neg (by assumption)]; done))) (consc (congrArg (Value.int .i64) (show ((abF a x).s) = ((spA a x).s) from by unfold spA; first | (rw [if_pos hv]; done) | (rw [if_neg (by assumption)]; done))) rfl)))) (congrArg (Value.int .i64) (show 0 = (spE a) from by unfold spE; first | (rw [if_pos hv]; done) | (rw [if_neg (by assumption)]; done)))

set_option maxRecDepth 100000 in
set_option maxHeartbeats 4000000 in
theorem Clamp_c {V : HV} {a : Nm} {lo hi : Int} :
    FnC Try.prog 37 [(Value.agg #[(Value.int .i64 (a.l)), (Value.int .i64 (a.h)), (Value.int .i64 (a.s))]), (Value.int .i64 lo), (Value.int .i64 hi)] V [] (fun v _ _ => v = .tuple #[(Value.agg #[(Value.int .i64 ((clN a lo hi).l)), (Value.int .i64 ((clN a lo hi).h)), (Value.int .i64 ((clN a lo hi).s))]), (Value.int .i64 (clE a lo hi))]) := by
  refine fn_intro (N := 58) Try.func37 (by kernel_rfl) rfl rfl rfl (Nat.le_of_ble_eq_true rfl) ?_
  intro w0 D
  refine vc_seq ?_
  refine vc_region ?_
  refine ops_box (v := (Value.agg #[(Value.int .i64 (a.l)), (Value.int .i64 (a.h)), (Value.int .i64 (a.s))])) (cs := [(Value.int .i64 (a.l)), (Value.int .i64 (a.h)), (Value.int .i64 (a.s))]) rfl rfl (fun b1 => ?_)
  refine ops_alloc Try.ti23 rfl (fun b2 => ?_)
  refine oq (qv_as (Value.int .i64 0) rfl) ?_
  refine ops_nil ?_
  refine vc_seq ?_
  refine vc_seq ?_
  refine vc_res (σ' := [(Arr 23 b1 [(Value.int .i64 (a.l)), (Value.int .i64 (a.h)), (Value.int .i64 (a.s))]), (Arr 23 b2 [(Value.int .i64 0), (Value.int .i64 0), (Value.int .i64 0)])]) rfl ?_
  refine vc_region ?_
  refine oq (qv_ldm (vs := [(Value.int .i64 (a.l)), (Value.int .i64 (a.h)), (Value.int .i64 (a.s))]) Try.agg23 rfl (inOc (k := 0) rfl) rfl rfl) ?_
  refine oq (qv_call (v := (Value.bool (decide (vld a)))) (Valid_c (a := a)) rfl rfl) ?_
  refine oq (qv_not rfl) ?_
  refine ops_nil ?_
  refine vc_if rfl (fun c1 => ?_) (fun c1 => ?_)
  ·
    refine vc_seq ?_
    refine vc_region ?_
    refine oq (qv_build (out := [(Value.int .i64 0), (Value.int .i64 0), (Value.int .i64 0)]) Try.build23 [] rfl rfl) ?_
    refine ops_stm (k := 1) (off := 0) (v := (Value.agg #[(Value.int .i64 0), (Value.int .i64 0), (Value.int .i64 0)])) (vs := [(Value.int .i64 0), (Value.int .i64 0), (Value.int .i64 0)]) (cs := [(Value.int .i64 0), (Value.int .i64 0), (Value.int .i64 0)]) (cs' := [(Value.int .i64 0), (Value.int .i64 0), (Value.int .i64 0)]) Try.size23 rfl rfl rfl rfl rfl rfl (Nat.le_of_ble_eq_true rfl) rfl ?_
    refine oq (qv_as (Value.int .i64 1) rfl) ?_
    refine ops_nil ?_
    refine vc_ret ?_
    refine rs2 (Value.agg #[(Value.int .i64 0), (Value.int .i64 0), (Value.int .i64 0)]) (Value.int .i64 1) (rv_c (vs := [(Value.int .i64 0), (Value.int .i64 0), (Value.int .i64 0)]) Try.agg23 rfl (inOc (k := 1) rfl) rfl rfl) (rv_t rfl) ?_
    exact tup2 (aggc (consc (congrArg (Value.int .i64) (show 0 = ((clN a lo hi).l) from by first | (rw [clN_1 (by rw [clE_1 (by assumption)]; omega)]; done) | (rw [clN_1 (by rw [clE_3 (Decidable.not_not.1 (by assumption)) hno]; omega)]; done))) (consc (congrArg (Value.int .i64) (show 0 = ((clN a lo hi).h) from by first | (rw [clN_1 (by rw [clE_1 (by assumption)]; omega)]; done) | (rw [clN_1 (by rw [clE_3 (Decidable.not_not.1 (by assumption)) hno]; omega)]; done))) (consc (congrArg (Value.int .i64) (show 0 = ((clN a lo hi).s) from by first | (rw [clN_1 (by rw [clE_1 (by assumption)]; omega)]; done) | (rw [clN_1 (by rw [clE_3 (Decidable.not_not.1 (by assumption)) hno]; omega)]; done))) rfl)))) (congrArg (Value.int .i64) (show 1 = (clE a lo hi) from by first | (rw [clE_1 (by assumption)]; done) | (rw [clE_3 (Decidable.not_not.1 (by assumption)) hno]; done) | (rw [hE]; done)))
  ·
    refine vc_skip ?_
    refine vc_seq ?_
    refine vc_seq ?_
    refine vc_region ?_
    refine oq (qv_mv (Value.int .i64 lo) rfl) ?_
    refine oq (qv_mv (Value.int .i64 hi) rfl) ?_
    refine oq (qv_gtr rfl rfl) ?_
    refine oq (qv_mv (Value.bool (decide (hi < lo))) rfl) ?_
    by_cases g1 : hi < lo
    ·
      refine os (want_fn g1 rfl rfl rfl) ?_
      refine os (want_fn g1 rfl rfl rfl) ?_
      refine os (want_fn g1 rfl rfl rfl) ?_
      refine oq (qv_pick_t g1 rfl (rfl : ev _ _ = (Value.bool true))) ?_
      refine oq (qv_mv (Value.bool true) rfl) ?_
      refine os (want_fnc rfl rfl rfl) ?_
      refine os (want_fnc rfl rfl rfl) ?_
      refine os (want_fnc rfl rfl rfl) ?_
      refine oq (qv_pick_tc rfl (rfl : ev _ _ = (Value.bool true))) ?_
      refine ops_nil ?_
      refine vc_tt rfl ?_
      refine vc_seq ?_
      have hno : ¬ clOk lo hi := fun q => by obtain ⟨q1, q2, q3⟩ := q; first | omega | exact absurd q2 (by assumption) | exact absurd q3 (by assumption)
      refine vc_region ?_
      refine oq (qv_build (out := [(Value.int .i64 0), (Value.int .i64 0), (Value.int .i64 0)]) Try.build23 [] rfl rfl) ?_
      refine ops_stm (k := 1) (off := 0) (v := (Value.agg #[(Value.int .i64 0), (Value.int .i64 0), (Value.int .i64 0)])) (vs := [(Value.int .i64 0), (Value.int .i64 0), (Value.int .i64 0)]) (cs := [(Value.int .i64 0), (Value.int .i64 0), (Value.int .i64 0)]) (cs' := [(Value.int .i64 0), (Value.int .i64 0), (Value.int .i64 0)]) Try.size23 rfl rfl rfl rfl rfl rfl (Nat.le_of_ble_eq_true rfl) rfl ?_
      refine oq (qv_as (Value.int .i64 3) rfl) ?_
      refine ops_nil ?_
      refine vc_ret ?_
      refine rs2 (Value.agg #[(Value.int .i64 0), (Value.int .i64 0), (Value.int .i64 0)]) (Value.int .i64 3) (rv_c (vs := [(Value.int .i64 0), (Value.int .i64 0), (Value.int .i64 0)]) Try.agg23 rfl (inOc (k := 1) rfl) rfl rfl) (rv_t rfl) ?_
      exact tup2 (aggc (consc (congrArg (Value.int .i64) (show 0 = ((clN a lo hi).l) from by first | (rw [clN_1 (by rw [clE_1 (by assumption)]; omega)]; done) | (rw [clN_1 (by rw [clE_3 (Decidable.not_not.1 (by assumption)) hno]; omega)]; done))) (consc (congrArg (Value.int .i64) (show 0 = ((clN a lo hi).h) from by first | (rw [clN_1 (by rw [clE_1 (by assumption)]; omega)]; done) | (rw [clN_1 (by rw [clE_3 (Decidable.not_not.1 (by assumption)) hno]; omega)]; done))) (consc (congrArg (Value.int .i64) (show 0 = ((clN a lo hi).s) from by first | (rw [clN_1 (by rw [clE_1 (by assumption)]; omega)]; done) | (rw [clN_1 (by rw [clE_3 (Decidable.not_not.1 (by assumption)) hno]; omega)]; done))) rfl)))) (congrArg (Value.int .i64) (show 3 = (clE a lo hi) from by first | (rw [clE_1 (by assumption)]; done) | (rw [clE_3 (Decidable.not_not.1 (by assumption)) hno]; done) | (rw [hE]; done)))
    ·
      refine og (qv_mv (Value.int .i64 lo) rfl) (want_f g1 rfl rfl rfl) ?_
      refine og (qv_call (v := (Value.bool (decide (fits lo)))) (inRange_c) rfl rfl) (want_f g1 rfl rfl rfl) ?_
      refine og (qv_not rfl) (want_f g1 rfl rfl rfl) ?_
      refine oq (qv_pick_f g1 rfl (rfl : ev _ _ = (Value.bool (decide (¬ (fits lo)))))) ?_
      refine oq (qv_mv (Value.bool (decide (¬ (fits lo)))) rfl) ?_
      by_cases g2 : ¬ (fits lo)
      ·
        refine os (want_fn g2 rfl rfl rfl) ?_
        refine os (want_fn g2 rfl rfl rfl) ?_
        refine os (want_fn g2 rfl rfl rfl) ?_
        refine oq (qv_pick_t g2 rfl (rfl : ev _ _ = (Value.bool true))) ?_
        refine ops_nil ?_
        refine vc_tt rfl ?_
        refine vc_seq ?_
        have hno : ¬ clOk lo hi := fun q => by obtain ⟨q1, q2, q3⟩ := q; first | omega | exact absurd q2 (by assumption) | exact absurd q3 (by assumption)
        refine vc_region ?_
        refine oq (qv_build (out := [(Value.int .i64 0), (Value.int .i64 0), (Value.int .i64 0)]) Try.build23 [] rfl rfl) ?_
        refine ops_stm (k := 1) (off := 0) (v := (Value.agg #[(Value.int .i64 0), (Value.int .i64 0), (Value.int .i64 0)])) (vs := [(Value.int .i64 0), (Value.int .i64 0), (Value.int .i64 0)]) (cs := [(Value.int .i64 0), (Value.int .i64 0), (Value.int .i64 0)]) (cs' := [(Value.int .i64 0), (Value.int .i64 0), (Value.int .i64 0)]) Try.size23 rfl rfl rfl rfl rfl rfl (Nat.le_of_ble_eq_true rfl) rfl ?_
        refine oq (qv_as (Value.int .i64 3) rfl) ?_
        refine ops_nil ?_
        refine vc_ret ?_
        refine rs2 (Value.agg #[(Value.int .i64 0), (Value.int .i64 0), (Value.int .i64 0)]) (Value.int .i64 3) (rv_c (vs := [(Value.int .i64 0), (Value.int .i64 0), (Value.int .i64 0)]) Try.agg23 rfl (inOc (k := 1) rfl) rfl rfl) (rv_t rfl) ?_
        exact tup2 (aggc (consc (congrArg (Value.int .i64) (show 0 = ((clN a lo hi).l) from by first | (rw [clN_1 (by rw [clE_1 (by assumption)]; omega)]; done) | (rw [clN_1 (by rw [clE_3 (Decidable.not_not.1 (by assumption)) hno]; omega)]; done))) (consc (congrArg (Value.int .i64) (show 0 = ((clN a lo hi).h) from by first | (rw [clN_1 (by rw [clE_1 (by assumption)]; omega)]; done) | (rw [clN_1 (by rw [clE_3 (Decidable.not_not.1 (by assumption)) hno]; omega)]; done))) (consc (congrArg (Value.int .i64) (show 0 = ((clN a lo hi).s) from by first | (rw [clN_1 (by rw [clE_1 (by assumption)]; omega)]; done) | (rw [clN_1 (by rw [clE_3 (Decidable.not_not.1 (by assumption)) hno]; omega)]; done))) rfl)))) (congrArg (Value.int .i64) (show 3 = (clE a lo hi) from by first | (rw [clE_1 (by assumption)]; done) | (rw [clE_3 (Decidable.not_not.1 (by assumption)) hno]; done) | (rw [hE]; done)))
      ·
        refine og (qv_mv (Value.int .i64 hi) rfl) (want_f g2 rfl rfl rfl) ?_
        refine og (qv_call (v := (Value.bool (decide (fits hi)))) (inRange_c) rfl rfl) (want_f g2 rfl rfl rfl) ?_
        refine og (qv_not rfl) (want_f g2 rfl rfl rfl) ?_
        refine oq (qv_pick_f g2 rfl (rfl : ev _ _ = (Value.bool (decide (¬ (fits hi)))))) ?_
        refine ops_nil ?_
        refine vc_if rfl (fun c2 => ?_) (fun c2 => ?_)
        ·
          refine vc_seq ?_
          have hno : ¬ clOk lo hi := fun q => by obtain ⟨q1, q2, q3⟩ := q; first | omega | exact absurd q2 (by assumption) | exact absurd q3 (by assumption)
          refine vc_region ?_
          refine oq (qv_build (out := [(Value.int .i64 0), (Value.int .i64 0), (Value.int .i64 0)]) Try.build23 [] rfl rfl) ?_
          refine ops_stm (k := 1) (off := 0) (v := (Value.agg #[(Value.int .i64 0), (Value.int .i64 0), (Value.int .i64 0)])) (vs := [(Value.int .i64 0), (Value.int .i64 0), (Value.int .i64 0)]) (cs := [(Value.int .i64 0), (Value.int .i64 0), (Value.int .i64 0)]) (cs' := [(Value.int .i64 0), (Value.int .i64 0), (Value.int .i64 0)]) Try.size23 rfl rfl rfl rfl rfl rfl (Nat.le_of_ble_eq_true rfl) rfl ?_
          refine oq (qv_as (Value.int .i64 3) rfl) ?_
          refine ops_nil ?_
          refine vc_ret ?_
          refine rs2 (Value.agg #[(Value.int .i64 0), (Value.int .i64 0), (Value.int .i64 0)]) (Value.int .i64 3) (rv_c (vs := [(Value.int .i64 0), (Value.int .i64 0), (Value.int .i64 0)]) Try.agg23 rfl (inOc (k := 1) rfl) rfl rfl) (rv_t rfl) ?_
          exact tup2 (aggc (consc (congrArg (Value.int .i64) (show 0 = ((clN a lo hi).l) from by first | (rw [clN_1 (by rw [clE_1 (by assumption)]; omega)]; done) | (rw [clN_1 (by rw [clE_3 (Decidable.not_not.1 (by assumption)) hno]; omega)]; done))) (consc (congrArg (Value.int .i64) (show 0 = ((clN a lo hi).h) from by first | (rw [clN_1 (by rw [clE_1 (by assumption)]; omega)]; done) | (rw [clN_1 (by rw [clE_3 (Decidable.not_not.1 (by assumption)) hno]; omega)]; done))) (consc (congrArg (Value.int .i64) (show 0 = ((clN a lo hi).s) from by first | (rw [clN_1 (by rw [clE_1 (by assumption)]; omega)]; done) | (rw [clN_1 (by rw [clE_3 (Decidable.not_not.1 (by assumption)) hno]; omega)]; done))) rfl)))) (congrArg (Value.int .i64) (show 3 = (clE a lo hi) from by first | (rw [clE_1 (by assumption)]; done) | (rw [clE_3 (Decidable.not_not.1 (by assumption)) hno]; done) | (rw [hE]; done)))
        ·
          refine vc_skip ?_
          refine vc_seq ?_
          have hv : vld a := Decidable.not_not.1 (by assumption)
          have hk : clOk lo hi := ⟨by omega, Decidable.not_not.1 (by assumption), Decidable.not_not.1 (by assumption)⟩
          have hE := clE_0 hv hk
          obtain ⟨k1, k2, k3⟩ := hk
          have v2 := k2
          unfold fits at v2
          have r1 := (ab_ok hv (lo - 1)).1
          have r2 := (up_ok r1 hi).1
          have r3 := (join_least r2 (vld_sgl k2)).ok
          refine vc_region ?_
          refine oq (qv_ldm (vs := [(Value.int .i64 (a.l)), (Value.int .i64 (a.h)), (Value.int .i64 (a.s))]) Try.agg23 rfl (inOc (k := 0) rfl) rfl rfl) ?_
          refine oq (qv_mv (Value.int .i64 lo) rfl) ?_
          refine oq (qv_sub rfl rfl (by omega)) ?_
          refine oq (qv_call (v := (Value.tuple #[(Value.agg #[(Value.int .i64 ((upF a (lo - 1)).l)), (Value.int .i64 ((upF a (lo - 1)).h)), (Value.int .i64 ((upF a (lo - 1)).s))]), (Value.agg #[(Value.int .i64 ((abF a (lo - 1)).l)), (Value.int .i64 ((abF a (lo - 1)).h)), (Value.int .i64 ((abF a (lo - 1)).s))])])) (split_c (a := a) (by first | exact hv | exact r1)) rfl rfl) ?_
          refine oq (qv_mv (Value.tuple #[(Value.agg #[(Value.int .i64 ((upF a (lo - 1)).l)), (Value.int .i64 ((upF a (lo - 1)).h)), (Value.int .i64 ((upF a (lo - 1)).s))]), (Value.agg #[(Value.int .i64 ((abF a (lo - 1)).l)), (Value.int .i64 ((abF a (lo - 1)).h)), (Value.int .i64 ((abF a (lo - 1)).s))])]) rfl) ?_
          refine oq (qv_ext (Value.agg #[(Value.int .i64 ((upF a (lo - 1)).l)), (Value.int .i64 ((upF a (lo - 1)).h)), (Value.int .i64 ((upF a (lo - 1)).s))]) rfl rfl) ?_
          refine oq (qv_ext (Value.agg #[(Value.int .i64 ((abF a (lo - 1)).l)), (Value.int .i64 ((abF a (lo - 1)).h)), (Value.int .i64 ((abF a (lo - 1)).s))]) rfl rfl) ?_
          refine ops_alloc Try.ti23 rfl (fun b3 => ?_)
          refine ops_alloc Try.ti23 rfl (fun b4 => ?_)
          refine ops_stm (k := 2) (off := 0) (v := (Value.agg #[(Value.int .i64 ((upF a (lo - 1)).l)), (Value.int .i64 ((upF a (lo - 1)).h)), (Value.int .i64 ((upF a (lo - 1)).s))])) (vs := [(Value.int .i64 ((upF a (lo - 1)).l)), (Value.int .i64 ((upF a (lo - 1)).h)), (Value.int .i64 ((upF a (lo - 1)).s))]) (cs := [(Value.int .i64 0), (Value.int .i64 0), (Value.int .i64 0)]) (cs' := [(Value.int .i64 ((upF a (lo - 1)).l)), (Value.int .i64 ((upF a (lo - 1)).h)), (Value.int .i64 ((upF a (lo - 1)).s))]) Try.size23 rfl rfl rfl rfl rfl rfl (Nat.le_of_ble_eq_true rfl) rfl ?_
          refine ops_stm (k := 3) (off := 0) (v := (Value.agg #[(Value.int .i64 ((abF a (lo - 1)).l)), (Value.int .i64 ((abF a (lo - 1)).h)), (Value.int .i64 ((abF a (lo - 1)).s))])) (vs := [(Value.int .i64 ((abF a (lo - 1)).l)), (Value.int .i64 ((abF a (lo - 1)).h)), (Value.int .i64 ((abF a (lo - 1)).s))]) (cs := [(Value.int .i64 0), (Value.int .i64 0), (Value.int .i64 0)]) (cs' := [(Value.int .i64 ((abF a (lo - 1)).l)), (Value.int .i64 ((abF a (lo - 1)).h)), (Value.int .i64 ((abF a (lo - 1)).s))]) Try.size23 rfl rfl rfl rfl rfl rfl (Nat.le_of_ble_eq_true rfl) rfl ?_
          refine ops_nil ?_
          refine vc_seq ?_
          refine vc_res (σ' := [(Arr 23 b1 [(Value.int .i64 (a.l)), (Value.int .i64 (a.h)), (Value.int .i64 (a.s))]), (Arr 23 b2 [(Value.int .i64 0), (Value.int .i64 0), (Value.int .i64 0)]), (Arr 23 b3 [(Value.int .i64 ((upF a (lo - 1)).l)), (Value.int .i64 ((upF a (lo - 1)).h)), (Value.int .i64 ((upF a (lo - 1)).s))]), (Arr 23 b4 [(Value.int .i64 ((abF a (lo - 1)).l)), (Value.int .i64 ((abF a (lo - 1)).h)), (Value.int .i64 ((abF a (lo - 1)).s))])]) rfl ?_
          refine vc_region ?_
          refine oq (qv_ldm (vs := [(Value.int .i64 ((abF a (lo - 1)).l)), (Value.int .i64 ((abF a (lo - 1)).h)), (Value.int .i64 ((abF a (lo - 1)).s))]) Try.agg23 rfl (inOc (k := 3) rfl) rfl rfl) ?_
          refine oq (qv_mv (Value.int .i64 hi) rfl) ?_
          refine oq (qv_call (v := (Value.tuple #[(Value.agg #[(Value.int .i64 ((upF ((abF a (lo - 1))) hi).l)), (Value.int .i64 ((upF ((abF a (lo - 1))) hi).h)), (Value.int .i64 ((upF ((abF a (lo - 1))) hi).s))]), (Value.agg #[(Value.int .i64 ((abF ((abF a (lo - 1))) hi).l)), (Value.int .i64 ((abF ((abF a (lo - 1))) hi).h)), (Value.int .i64 ((abF ((abF a (lo - 1))) hi).s))])])) (split_c (a := (abF a (lo - 1))) (by first | exact hv | exact r1)) rfl rfl) ?_
          refine oq (qv_mv (Value.tuple #[(Value.agg #[(Value.int .i64 ((upF ((abF a (lo - 1))) hi).l)), (Value.int .i64 ((upF ((abF a (lo - 1))) hi).h)), (Value.int .i64 ((upF ((abF a (lo - 1))) hi).s))]), (Value.agg #[(Value.int .i64 ((abF ((abF a (lo - 1))) hi).l)), (Value.int .i64 ((abF ((abF a (lo - 1))) hi).h)), (Value.int .i64 ((abF ((abF a (lo - 1))) hi).s))])]) rfl) ?_
          refine oq (qv_ext (Value.agg #[(Value.int .i64 ((upF ((abF a (lo - 1))) hi).l)), (Value.int .i64 ((upF ((abF a (lo - 1))) hi).h)), (Value.int .i64 ((upF ((abF a (lo - 1))) hi).s))]) rfl rfl) ?_
          refine oq (qv_ext (Value.agg #[(Value.int .i64 ((abF ((abF a (lo - 1))) hi).l)), (Value.int .i64 ((abF ((abF a (lo - 1))) hi).h)), (Value.int .i64 ((abF ((abF a (lo - 1))) hi).s))]) rfl rfl) ?_
          refine ops_alloc Try.ti23 rfl (fun b5 => ?_)
          refine ops_alloc Try.ti23 rfl (fun b6 => ?_)
          refine ops_stm (k := 4) (off := 0) (v := (Value.agg #[(Value.int .i64 ((upF ((abF a (lo - 1))) hi).l)), (Value.int .i64 ((upF ((abF a (lo - 1))) hi).h)), (Value.int .i64 ((upF ((abF a (lo - 1))) hi).s))])) (vs := [(Value.int .i64 ((upF ((abF a (lo - 1))) hi).l)), (Value.int .i64 ((upF ((abF a (lo - 1))) hi).h)), (Value.int .i64 ((upF ((abF a (lo - 1))) hi).s))]) (cs := [(Value.int .i64 0), (Value.int .i64 0), (Value.int .i64 0)]) (cs' := [(Value.int .i64 ((upF ((abF a (lo - 1))) hi).l)), (Value.int .i64 ((upF ((abF a (lo - 1))) hi).h)), (Value.int .i64 ((upF ((abF a (lo - 1))) hi).s))]) Try.size23 rfl rfl rfl rfl rfl rfl (Nat.le_of_ble_eq_true rfl) rfl ?_
          refine ops_stm (k := 5) (off := 0) (v := (Value.agg #[(Value.int .i64 ((abF ((abF a (lo - 1))) hi).l)), (Value.int .i64 ((abF ((abF a (lo - 1))) hi).h)), (Value.int .i64 ((abF ((abF a (lo - 1))) hi).s))])) (vs := [(Value.int .i64 ((abF ((abF a (lo - 1))) hi).l)), (Value.int .i64 ((abF ((abF a (lo - 1))) hi).h)), (Value.int .i64 ((abF ((abF a (lo - 1))) hi).s))]) (cs := [(Value.int .i64 0), (Value.int .i64 0), (Value.int .i64 0)]) (cs' := [(Value.int .i64 ((abF ((abF a (lo - 1))) hi).l)), (Value.int .i64 ((abF ((abF a (lo - 1))) hi).h)), (Value.int .i64 ((abF ((abF a (lo - 1))) hi).s))]) Try.size23 rfl rfl rfl rfl rfl rfl (Nat.le_of_ble_eq_true rfl) rfl ?_
          refine ops_nil ?_
          refine vc_seq ?_
          refine vc_seq ?_
          refine vc_res (σ' := [(Arr 23 b1 [(Value.int .i64 (a.l)), (Value.int .i64 (a.h)), (Value.int .i64 (a.s))]), (Arr 23 b2 [(Value.int .i64 0), (Value.int .i64 0), (Value.int .i64 0)]), (Arr 23 b3 [(Value.int .i64 ((upF a (lo - 1)).l)), (Value.int .i64 ((upF a (lo - 1)).h)), (Value.int .i64 ((upF a (lo - 1)).s))]), (Arr 23 b4 [(Value.int .i64 ((abF a (lo - 1)).l)), (Value.int .i64 ((abF a (lo - 1)).h)), (Value.int .i64 ((abF a (lo - 1)).s))]), (Arr 23 b5 [(Value.int .i64 ((upF ((abF a (lo - 1))) hi).l)), (Value.int .i64 ((upF ((abF a (lo - 1))) hi).h)), (Value.int .i64 ((upF ((abF a (lo - 1))) hi).s))]), (Arr 23 b6 [(Value.int .i64 ((abF ((abF a (lo - 1))) hi).l)), (Value.int .i64 ((abF ((abF a (lo - 1))) hi).h)), (Value.int .i64 ((abF ((abF a (lo - 1))) hi).s))])]) rfl ?_
          refine vc_region ?_
          refine oq (qv_ldm (vs := [(Value.int .i64 ((upF a (lo - 1)).l)), (Value.int .i64 ((upF a (lo - 1)).h)), (Value.int .i64 ((upF a (lo - 1)).s))]) Try.agg23 rfl (inOc (k := 2) rfl) rfl rfl) ?_
          refine oq (qv_call (v := (Value.bool (decide ((upF a (lo - 1)) = nE)))) (isEmpty_c (a := (upF a (lo - 1)))) rfl rfl) ?_
          refine oq (qv_not rfl) ?_
          refine ops_nil ?_
          refine vc_if rfl (fun c3 => ?_) (fun c3 => ?_)
          ·
            refine vc_region_order (τ := []) [(0, false), (1, false), (2, false), (3, false), (4, true)] [(Arr 23 b1 [(Value.int .i64 (a.l)), (Value.int .i64 (a.h)), (Value.int .i64 (a.s))]), (Arr 23 b2 [(Value.int .i64 0), (Value.int .i64 0), (Value.int .i64 0)]), (Arr 23 b3 [(Value.int .i64 ((upF a (lo - 1)).l)), (Value.int .i64 ((upF a (lo - 1)).h)), (Value.int .i64 ((upF a (lo - 1)).s))]), (Arr 23 b4 [(Value.int .i64 ((abF a (lo - 1)).l)), (Value.int .i64 ((abF a (lo - 1)).h)), (Value.int .i64 ((abF a (lo - 1)).s))]), (Arr 23 b5 [(Value.int .i64 ((upF ((abF a (lo - 1))) hi).l)), (Value.int .i64 ((upF ((abF a (lo - 1))) hi).h)), (Value.int .i64 ((upF ((abF a (lo - 1))) hi).s))]), (Arr 23 b6 [(Value.int .i64 ((abF ((abF a (lo - 1))) hi).l)), (Value.int .i64 ((abF ((abF a (lo - 1))) hi).h)), (Value.int .i64 ((abF ((abF a (lo - 1))) hi).s))])] Try.mixed (perm_nil _) (by kernel_rfl) ?_
            refine rq rfl (qv_ldm (vs := [(Value.int .i64 ((upF ((abF a (lo - 1))) hi).l)), (Value.int .i64 ((upF ((abF a (lo - 1))) hi).h)), (Value.int .i64 ((upF ((abF a (lo - 1))) hi).s))]) Try.agg23 rfl (inOc (k := 4) rfl) rfl rfl) ?_
            refine rq rfl (qv_mv (Value.int .i64 lo) rfl) ?_
            refine rq rfl (qv_call (v := (Value.agg #[(Value.int .i64 ((sgl lo).l)), (Value.int .i64 ((sgl lo).h)), (Value.int .i64 ((sgl lo).s))])) (single_c) rfl rfl) ?_
            refine rq rfl (qv_call (v := (Value.agg #[(Value.int .i64 ((joinF ((upF ((abF a (lo - 1))) hi)) ((sgl lo))).l)), (Value.int .i64 ((joinF ((upF ((abF a (lo - 1))) hi)) ((sgl lo))).h)), (Value.int .i64 ((joinF ((upF ((abF a (lo - 1))) hi)) ((sgl lo))).s))])) (join_c (a := (upF ((abF a (lo - 1))) hi)) (b := (sgl lo)) (by first | exact r2 | exact r3) (by first | exact vld_sgl k2 | exact vld_sgl k3)) rfl rfl) ?_
            refine rl1 (by kernel_rfl) rfl ?_
            refine ops_stm (k := 4) (off := 0) (v := (Value.agg #[(Value.int .i64 ((joinF ((upF ((abF a (lo - 1))) hi)) ((sgl lo))).l)), (Value.int .i64 ((joinF ((upF ((abF a (lo - 1))) hi)) ((sgl lo))).h)), (Value.int .i64 ((joinF ((upF ((abF a (lo - 1))) hi)) ((sgl lo))).s))])) (vs := [(Value.int .i64 ((joinF ((upF ((abF a (lo - 1))) hi)) ((sgl lo))).l)), (Value.int .i64 ((joinF ((upF ((abF a (lo - 1))) hi)) ((sgl lo))).h)), (Value.int .i64 ((joinF ((upF ((abF a (lo - 1))) hi)) ((sgl lo))).s))]) (cs := [(Value.int .i64 ((upF ((abF a (lo - 1))) hi).l)), (Value.int .i64 ((upF ((abF a (lo - 1))) hi).h)), (Value.int .i64 ((upF ((abF a (lo - 1))) hi).s))]) (cs' := [(Value.int .i64 ((joinF ((upF ((abF a (lo - 1))) hi)) ((sgl lo))).l)), (Value.int .i64 ((joinF ((upF ((abF a (lo - 1))) hi)) ((sgl lo))).h)), (Value.int .i64 ((joinF ((upF ((abF a (lo - 1))) hi)) ((sgl lo))).s))]) Try.size23 rfl rfl rfl rfl rfl rfl (Nat.le_of_ble_eq_true rfl) rfl ?_
            refine ops_nil ⟨[(Arr 23 b1 [(Value.int .i64 (a.l)), (Value.int .i64 (a.h)), (Value.int .i64 (a.s))]), (Arr 23 b2 [(Value.int .i64 0), (Value.int .i64 0), (Value.int .i64 0)]), (Arr 23 b3 [(Value.int .i64 ((upF a (lo - 1)).l)), (Value.int .i64 ((upF a (lo - 1)).h)), (Value.int .i64 ((upF a (lo - 1)).s))]), (Arr 23 b4 [(Value.int .i64 ((abF a (lo - 1)).l)), (Value.int .i64 ((abF a (lo - 1)).h)), (Value.int .i64 ((abF a (lo - 1)).s))]), (Arr 23 b5 [(Value.int .i64 ((joinF ((upF ((abF a (lo - 1))) hi)) ((sgl lo))).l)), (Value.int .i64 ((joinF ((upF ((abF a (lo - 1))) hi)) ((sgl lo))).h)), (Value.int .i64 ((joinF ((upF ((abF a (lo - 1))) hi)) ((sgl lo))).s))]), (Arr 23 b6 [(Value.int .i64 ((abF ((abF a (lo - 1))) hi).l)), (Value.int .i64 ((abF ((abF a (lo - 1))) hi).h)), (Value.int .i64 ((abF ((abF a (lo - 1))) hi).s))])], [], perm_nil _, ?_⟩
            refine rnil ?_
            refine vc_seq ?_
            refine vc_seq ?_
            refine vc_res (σ' := [(Arr 23 b1 [(Value.int .i64 (a.l)), (Value.int .i64 (a.h)), (Value.int .i64 (a.s))]), (Arr 23 b2 [(Value.int .i64 0), (Value.int .i64 0), (Value.int .i64 0)]), (Arr 23 b3 [(Value.int .i64 ((upF a (lo - 1)).l)), (Value.int .i64 ((upF a (lo - 1)).h)), (Value.int .i64 ((upF a (lo - 1)).s))]), (Arr 23 b4 [(Value.int .i64 ((abF a (lo - 1)).l)), (Value.int .i64 ((abF a (lo - 1)).h)), (Value.int .i64 ((abF a (lo - 1)).s))]), (Arr 23 b5 [(Value.int .i64 ((joinF ((upF ((abF a (lo - 1))) hi)) ((sgl lo))).l)), (Value.int .i64 ((joinF ((upF ((abF a (lo - 1))) hi)) ((sgl lo))).h)), (Value.int .i64 ((joinF ((upF ((abF a (lo - 1))) hi)) ((sgl lo))).s))]), (Arr 23 b6 [(Value.int .i64 ((abF ((abF a (lo - 1))) hi).l)), (Value.int .i64 ((abF ((abF a (lo - 1))) hi).h)), (Value.int .i64 ((abF ((abF a (lo - 1))) hi).s))])]) rfl ?_
            refine vc_region ?_
            refine oq (qv_ldm (vs := [(Value.int .i64 ((abF ((abF a (lo - 1))) hi).l)), (Value.int .i64 ((abF ((abF a (lo - 1))) hi).h)), (Value.int .i64 ((abF ((abF a (lo - 1))) hi).s))]) Try.agg23 rfl (inOc (k := 5) rfl) rfl rfl) ?_
            refine oq (qv_call (v := (Value.bool (decide ((abF ((abF a (lo - 1))) hi) = nE)))) (isEmpty_c (a := (abF ((abF a (lo - 1))) hi))) rfl rfl) ?_
            refine oq (qv_not rfl) ?_
            refine ops_nil ?_
            refine vc_if rfl (fun c4 => ?_) (fun c4 => ?_)
            ·
              refine vc_region_order (τ := []) [(0, false), (1, false), (2, false), (3, false), (4, true)] [(Arr 23 b1 [(Value.int .i64 (a.l)), (Value.int .i64 (a.h)), (Value.int .i64 (a.s))]), (Arr 23 b2 [(Value.int .i64 0), (Value.int .i64 0), (Value.int .i64 0)]), (Arr 23 b3 [(Value.int .i64 ((upF a (lo - 1)).l)), (Value.int .i64 ((upF a (lo - 1)).h)), (Value.int .i64 ((upF a (lo - 1)).s))]), (Arr 23 b4 [(Value.int .i64 ((abF a (lo - 1)).l)), (Value.int .i64 ((abF a (lo - 1)).h)), (Value.int .i64 ((abF a (lo - 1)).s))]), (Arr 23 b5 [(Value.int .i64 ((joinF ((upF ((abF a (lo - 1))) hi)) ((sgl lo))).l)), (Value.int .i64 ((joinF ((upF ((abF a (lo - 1))) hi)) ((sgl lo))).h)), (Value.int .i64 ((joinF ((upF ((abF a (lo - 1))) hi)) ((sgl lo))).s))]), (Arr 23 b6 [(Value.int .i64 ((abF ((abF a (lo - 1))) hi).l)), (Value.int .i64 ((abF ((abF a (lo - 1))) hi).h)), (Value.int .i64 ((abF ((abF a (lo - 1))) hi).s))])] Try.mixed (perm_nil _) (by kernel_rfl) ?_
              refine rq rfl (qv_ldm (vs := [(Value.int .i64 ((joinF ((upF ((abF a (lo - 1))) hi)) ((sgl lo))).l)), (Value.int .i64 ((joinF ((upF ((abF a (lo - 1))) hi)) ((sgl lo))).h)), (Value.int .i64 ((joinF ((upF ((abF a (lo - 1))) hi)) ((sgl lo))).s))]) Try.agg23 rfl (inOc (k := 4) rfl) rfl rfl) ?_
              refine rq rfl (qv_mv (Value.int .i64 hi) rfl) ?_
              refine rq rfl (qv_call (v := (Value.agg #[(Value.int .i64 ((sgl hi).l)), (Value.int .i64 ((sgl hi).h)), (Value.int .i64 ((sgl hi).s))])) (single_c) rfl rfl) ?_
              refine rq rfl (qv_call (v := (Value.agg #[(Value.int .i64 ((joinF ((joinF ((upF ((abF a (lo - 1))) hi)) ((sgl lo)))) ((sgl hi))).l)), (Value.int .i64 ((joinF ((joinF ((upF ((abF a (lo - 1))) hi)) ((sgl lo)))) ((sgl hi))).h)), (Value.int .i64 ((joinF ((joinF ((upF ((abF a (lo - 1))) hi)) ((sgl lo)))) ((sgl hi))).s))])) (join_c (a := (joinF ((upF ((abF a (lo - 1))) hi)) ((sgl lo)))) (b := (sgl hi)) (by first | exact r2 | exact r3) (by first | exact vld_sgl k2 | exact vld_sgl k3)) rfl rfl) ?_
              refine rl1 (by kernel_rfl) rfl ?_
              refine ops_stm (k := 4) (off := 0) (v := (Value.agg #[(Value.int .i64 ((joinF ((joinF ((upF ((abF a (lo - 1))) hi)) ((sgl lo)))) ((sgl hi))).l)), (Value.int .i64 ((joinF ((joinF ((upF ((abF a (lo - 1))) hi)) ((sgl lo)))) ((sgl hi))).h)), (Value.int .i64 ((joinF ((joinF ((upF ((abF a (lo - 1))) hi)) ((sgl lo)))) ((sgl hi))).s))])) (vs := [(Value.int .i64 ((joinF ((joinF ((upF ((abF a (lo - 1))) hi)) ((sgl lo)))) ((sgl hi))).l)), (Value.int .i64 ((joinF ((joinF ((upF ((abF a (lo - 1))) hi)) ((sgl lo)))) ((sgl hi))).h)), (Value.int .i64 ((joinF ((joinF ((upF ((abF a (lo - 1))) hi)) ((sgl lo)))) ((sgl hi))).s))]) (cs := [(Value.int .i64 ((joinF ((upF ((abF a (lo - 1))) hi)) ((sgl lo))).l)), (Value.int .i64 ((joinF ((upF ((abF a (lo - 1))) hi)) ((sgl lo))).h)), (Value.int .i64 ((joinF ((upF ((abF a (lo - 1))) hi)) ((sgl lo))).s))]) (cs' := [(Value.int .i64 ((joinF ((joinF ((upF ((abF a (lo - 1))) hi)) ((sgl lo)))) ((sgl hi))).l)), (Value.int .i64 ((joinF ((joinF ((upF ((abF a (lo - 1))) hi)) ((sgl lo)))) ((sgl hi))).h)), (Value.int .i64 ((joinF ((joinF ((upF ((abF a (lo - 1))) hi)) ((sgl lo)))) ((sgl hi))).s))]) Try.size23 rfl rfl rfl rfl rfl rfl (Nat.le_of_ble_eq_true rfl) rfl ?_
              refine ops_nil ⟨[(Arr 23 b1 [(Value.int .i64 (a.l)), (Value.int .i64 (a.h)), (Value.int .i64 (a.s))]), (Arr 23 b2 [(Value.int .i64 0), (Value.int .i64 0), (Value.int .i64 0)]), (Arr 23 b3 [(Value.int .i64 ((upF a (lo - 1)).l)), (Value.int .i64 ((upF a (lo - 1)).h)), (Value.int .i64 ((upF a (lo - 1)).s))]), (Arr 23 b4 [(Value.int .i64 ((abF a (lo - 1)).l)), (Value.int .i64 ((abF a (lo - 1)).h)), (Value.int .i64 ((abF a (lo - 1)).s))]), (Arr 23 b5 [(Value.int .i64 ((joinF ((joinF ((upF ((abF a (lo - 1))) hi)) ((sgl lo)))) ((sgl hi))).l)), (Value.int .i64 ((joinF ((joinF ((upF ((abF a (lo - 1))) hi)) ((sgl lo)))) ((sgl hi))).h)), (Value.int .i64 ((joinF ((joinF ((upF ((abF a (lo - 1))) hi)) ((sgl lo)))) ((sgl hi))).s))]), (Arr 23 b6 [(Value.int .i64 ((abF ((abF a (lo - 1))) hi).l)), (Value.int .i64 ((abF ((abF a (lo - 1))) hi).h)), (Value.int .i64 ((abF ((abF a (lo - 1))) hi).s))])], [], perm_nil _, ?_⟩
              refine rnil ?_
              refine vc_seq ?_
              refine vc_res (σ' := [(Arr 23 b1 [(Value.int .i64 (a.l)), (Value.int .i64 (a.h)), (Value.int .i64 (a.s))]), (Arr 23 b2 [(Value.int .i64 0), (Value.int .i64 0), (Value.int .i64 0)]), (Arr 23 b3 [(Value.int .i64 ((upF a (lo - 1)).l)), (Value.int .i64 ((upF a (lo - 1)).h)), (Value.int .i64 ((upF a (lo - 1)).s))]), (Arr 23 b4 [(Value.int .i64 ((abF a (lo - 1)).l)), (Value.int .i64 ((abF a (lo - 1)).h)), (Value.int .i64 ((abF a (lo - 1)).s))]), (Arr 23 b5 [(Value.int .i64 ((joinF ((joinF ((upF ((abF a (lo - 1))) hi)) ((sgl lo)))) ((sgl hi))).l)), (Value.int .i64 ((joinF ((joinF ((upF ((abF a (lo - 1))) hi)) ((sgl lo)))) ((sgl hi))).h)), (Value.int .i64 ((joinF ((joinF ((upF ((abF a (lo - 1))) hi)) ((sgl lo)))) ((sgl hi))).s))]), (Arr 23 b6 [(Value.int .i64 ((abF ((abF a (lo - 1))) hi).l)), (Value.int .i64 ((abF ((abF a (lo - 1))) hi).h)), (Value.int .i64 ((abF ((abF a (lo - 1))) hi).s))])]) rfl ?_
              refine vc_region ?_
              refine oq (qv_ldm (vs := [(Value.int .i64 ((joinF ((joinF ((upF ((abF a (lo - 1))) hi)) ((sgl lo)))) ((sgl hi))).l)), (Value.int .i64 ((joinF ((joinF ((upF ((abF a (lo - 1))) hi)) ((sgl lo)))) ((sgl hi))).h)), (Value.int .i64 ((joinF ((joinF ((upF ((abF a (lo - 1))) hi)) ((sgl lo)))) ((sgl hi))).s))]) Try.agg23 rfl (inOc (k := 4) rfl) rfl rfl) ?_
              refine ops_stm (k := 1) (off := 0) (v := (Value.agg #[(Value.int .i64 ((joinF ((joinF ((upF ((abF a (lo - 1))) hi)) ((sgl lo)))) ((sgl hi))).l)), (Value.int .i64 ((joinF ((joinF ((upF ((abF a (lo - 1))) hi)) ((sgl lo)))) ((sgl hi))).h)), (Value.int .i64 ((joinF ((joinF ((upF ((abF a (lo - 1))) hi)) ((sgl lo)))) ((sgl hi))).s))])) (vs := [(Value.int .i64 ((joinF ((joinF ((upF ((abF a (lo - 1))) hi)) ((sgl lo)))) ((sgl hi))).l)), (Value.int .i64 ((joinF ((joinF ((upF ((abF a (lo - 1))) hi)) ((sgl lo)))) ((sgl hi))).h)), (Value.int .i64 ((joinF ((joinF ((upF ((abF a (lo - 1))) hi)) ((sgl lo)))) ((sgl hi))).s))]) (cs := [(Value.int .i64 0), (Value.int .i64 0), (Value.int .i64 0)]) (cs' := [(Value.int .i64 ((joinF ((joinF ((upF ((abF a (lo - 1))) hi)) ((sgl lo)))) ((sgl hi))).l)), (Value.int .i64 ((joinF ((joinF ((upF ((abF a (lo - 1))) hi)) ((sgl lo)))) ((sgl hi))).h)), (Value.int .i64 ((joinF ((joinF ((upF ((abF a (lo - 1))) hi)) ((sgl lo)))) ((sgl hi))).s))]) Try.size23 rfl rfl rfl rfl rfl rfl (Nat.le_of_ble_eq_true rfl) rfl ?_
              refine oq (qv_as (Value.int .i64 0) rfl) ?_
              refine ops_nil ?_
              refine vc_ret ?_
              refine rs2 (Value.agg #[(Value.int .i64 ((joinF ((joinF ((upF ((abF a (lo - 1))) hi)) ((sgl lo)))) ((sgl hi))).l)), (Value.int .i64 ((joinF ((joinF ((upF ((abF a (lo - 1))) hi)) ((sgl lo)))) ((sgl hi))).h)), (Value.int .i64 ((joinF ((joinF ((upF ((abF a (lo - 1))) hi)) ((sgl lo)))) ((sgl hi))).s))]) (Value.int .i64 0) (rv_c (vs := [(Value.int .i64 ((joinF ((joinF ((upF ((abF a (lo - 1))) hi)) ((sgl lo)))) ((sgl hi))).l)), (Value.int .i64 ((joinF ((joinF ((upF ((abF a (lo - 1))) hi)) ((sgl lo)))) ((sgl hi))).h)), (Value.int .i64 ((joinF ((joinF ((upF ((abF a (lo - 1))) hi)) ((sgl lo)))) ((sgl hi))).s))]) Try.agg23 rfl (inOc (k := 1) rfl) rfl rfl) (rv_t rfl) ?_
              exact tup2 (aggc (consc (congrArg (Value.int .i64) (show ((joinF ((joinF ((upF ((abF a (lo - 1))) hi)) ((sgl lo)))) ((sgl hi))).l) = ((clN a lo hi).l) from by first | (rw [clN_0 hE, clF_ee (by first | assumption | exact Decidable.not_not.1 (by assumption)) (by first | assumption | exact Decidable.not_not.1 (by assumption))]; done) | (rw [clN_0 hE, clF_ne (by first | assumption | exact Decidable.not_not.1 (by assumption)) (by first | assumption | exact Decidable.not_not.1 (by assumption))]; done) | (rw [clN_0 hE, clF_en (by first | assumption | exact Decidable.not_not.1 (by assumption)) (by first | assumption | exact Decidable.not_not.1 (by assumption))]; done) | (rw [clN_0 hE, clF_nn (by first | assumption | exact Decidable.not_not.1 (by assumption)) (by first | assumption | exact Decidable.not_not.1 (by assumption))]; done))) (consc (congrArg (Value.int .i64) (show ((joinF ((joinF ((upF ((abF a (lo - 1))) hi)) ((sgl lo)))) ((sgl hi))).h) = ((clN a lo hi).h) from by first | (rw [clN_0 hE, clF_ee (by first | assumption | exact Decidable.not_not.1 (by assumption)) (by first | assumption | exact Decidable.not_not.1 (by assumption))]; done) | (rw [clN_0 hE, clF_ne (by first | assumption | exact Decidable.not_not.1 (by assumption)) (by first | assumption | exact Decidable.not_not.1 (by assumption))]; done) | (rw [clN_0 hE, clF_en (by first | assumption | exact Decidable.not_not.1 (by assumption)) (by first | assumption | exact Decidable.not_not.1 (by assumption))]; done) | (rw [clN_0 hE, clF_nn (by first | assumption | exact Decidable.not_not.1 (by assumption)) (by first | assumption | exact Decidable.not_not.1 (by assumption))]; done))) (consc (congrArg (Value.int .i64) (show ((joinF ((joinF ((upF ((abF a (lo - 1))) hi)) ((sgl lo)))) ((sgl hi))).s) = ((clN a lo hi).s) from by first | (rw [clN_0 hE, clF_ee (by first | assumption | exact Decidable.not_not.1 (by assumption)) (by first | assumption | exact Decidable.not_not.1 (by assumption))]; done) | (rw [clN_0 hE, clF_ne (by first | assumption | exact Decidable.not_not.1 (by assumption)) (by first | assumption | exact Decidable.not_not.1 (by assumption))]; done) | (rw [clN_0 hE, clF_en (by first | assumption | exact Decidable.not_not.1 (by assumption)) (by first | assumption | exact Decidable.not_not.1 (by assumption))]; done) | (rw [clN_0 hE, clF_nn (by first | assumption | exact Decidable.not_not.1 (by assumption)) (by first | assumption | exact Decidable.not_not.1 (by assumption))]; done))) rfl)))) (congrArg (Value.int .i64) (show 0 = (clE a lo hi) from by first | (rw [clE_1 (by assumption)]; done) | (rw [clE_3 (Decidable.not_not.1 (by assumption)) hno]; done) | (rw [hE]; done)))
            ·
              refine vc_skip ?_
              refine vc_seq ?_
              refine vc_region ?_
              refine oq (qv_ldm (vs := [(Value.int .i64 ((joinF ((upF ((abF a (lo - 1))) hi)) ((sgl lo))).l)), (Value.int .i64 ((joinF ((upF ((abF a (lo - 1))) hi)) ((sgl lo))).h)), (Value.int .i64 ((joinF ((upF ((abF a (lo - 1))) hi)) ((sgl lo))).s))]) Try.agg23 rfl (inOc (k := 4) rfl) rfl rfl) ?_
              refine ops_stm (k := 1) (off := 0) (v := (Value.agg #[(Value.int .i64 ((joinF ((upF ((abF a (lo - 1))) hi)) ((sgl lo))).l)), (Value.int .i64 ((joinF ((upF ((abF a (lo - 1))) hi)) ((sgl lo))).h)), (Value.int .i64 ((joinF ((upF ((abF a (lo - 1))) hi)) ((sgl lo))).s))])) (vs := [(Value.int .i64 ((joinF ((upF ((abF a (lo - 1))) hi)) ((sgl lo))).l)), (Value.int .i64 ((joinF ((upF ((abF a (lo - 1))) hi)) ((sgl lo))).h)), (Value.int .i64 ((joinF ((upF ((abF a (lo - 1))) hi)) ((sgl lo))).s))]) (cs := [(Value.int .i64 0), (Value.int .i64 0), (Value.int .i64 0)]) (cs' := [(Value.int .i64 ((joinF ((upF ((abF a (lo - 1))) hi)) ((sgl lo))).l)), (Value.int .i64 ((joinF ((upF ((abF a (lo - 1))) hi)) ((sgl lo))).h)), (Value.int .i64 ((joinF ((upF ((abF a (lo - 1))) hi)) ((sgl lo))).s))]) Try.size23 rfl rfl rfl rfl rfl rfl (Nat.le_of_ble_eq_true rfl) rfl ?_
              refine oq (qv_as (Value.int .i64 0) rfl) ?_
              refine ops_nil ?_
              refine vc_ret ?_
              refine rs2 (Value.agg #[(Value.int .i64 ((joinF ((upF ((abF a (lo - 1))) hi)) ((sgl lo))).l)), (Value.int .i64 ((joinF ((upF ((abF a (lo - 1))) hi)) ((sgl lo))).h)), (Value.int .i64 ((joinF ((upF ((abF a (lo - 1))) hi)) ((sgl lo))).s))]) (Value.int .i64 0) (rv_c (vs := [(Value.int .i64 ((joinF ((upF ((abF a (lo - 1))) hi)) ((sgl lo))).l)), (Value.int .i64 ((joinF ((upF ((abF a (lo - 1))) hi)) ((sgl lo))).h)), (Value.int .i64 ((joinF ((upF ((abF a (lo - 1))) hi)) ((sgl lo))).s))]) Try.agg23 rfl (inOc (k := 1) rfl) rfl rfl) (rv_t rfl) ?_
              exact tup2 (aggc (consc (congrArg (Value.int .i64) (show ((joinF ((upF ((abF a (lo - 1))) hi)) ((sgl lo))).l) = ((clN a lo hi).l) from by first | (rw [clN_0 hE, clF_ee (by first | assumption | exact Decidable.not_not.1 (by assumption)) (by first | assumption | exact Decidable.not_not.1 (by assumption))]; done) | (rw [clN_0 hE, clF_ne (by first | assumption | exact Decidable.not_not.1 (by assumption)) (by first | assumption | exact Decidable.not_not.1 (by assumption))]; done) | (rw [clN_0 hE, clF_en (by first | assumption | exact Decidable.not_not.1 (by assumption)) (by first | assumption | exact Decidable.not_not.1 (by assumption))]; done) | (rw [clN_0 hE, clF_nn (by first | assumption | exact Decidable.not_not.1 (by assumption)) (by first | assumption | exact Decidable.not_not.1 (by assumption))]; done))) (consc (congrArg (Value.int .i64) (show ((joinF ((upF ((abF a (lo - 1))) hi)) ((sgl lo))).h) = ((clN a lo hi).h) from by first | (rw [clN_0 hE, clF_ee (by first | assumption | exact Decidable.not_not.1 (by assumption)) (by first | assumption | exact Decidable.not_not.1 (by assumption))]; done) | (rw [clN_0 hE, clF_ne (by first | assumption | exact Decidable.not_not.1 (by assumption)) (by first | assumption | exact Decidable.not_not.1 (by assumption))]; done) | (rw [clN_0 hE, clF_en (by first | assumption | exact Decidable.not_not.1 (by assumption)) (by first | assumption | exact Decidable.not_not.1 (by assumption))]; done) | (rw [clN_0 hE, clF_nn (by first | assumption | exact Decidable.not_not.1 (by assumption)) (by first | assumption | exact Decidable.not_not.1 (by assumption))]; done))) (consc (congrArg (Value.int .i64) (show ((joinF ((upF ((abF a (lo - 1))) hi)) ((sgl lo))).s) = ((clN a lo hi).s) from by first | (rw [clN_0 hE, clF_ee (by first | assumption | exact Decidable.not_not.1 (by assumption)) (by first | assumption | exact Decidable.not_not.1 (by assumption))]; done) | (rw [clN_0 hE, clF_ne (by first | assumption | exact Decidable.not_not.1 (by assumption)) (by first | assumption | exact Decidable.not_not.1 (by assumption))]; done) | (rw [clN_0 hE, clF_en (by first | assumption | exact Decidable.not_not.1 (by assumption)) (by first | assumption | exact Decidable.not_not.1 (by assumption))]; done) | (rw [clN_0 hE, clF_nn (by first | assumption | exact Decidable.not_not.1 (by assumption)) (by first | assumption | exact Decidable.not_not.1 (by assumption))]; done))) rfl)))) (congrArg (Value.int .i64) (show 0 = (clE a lo hi) from by first | (rw [clE_1 (by assumption)]; done) | (rw [clE_3 (Decidable.not_not.1 (by assumption)) hno]; done) | (rw [hE]; done)))
          ·
            refine vc_skip ?_
            refine vc_seq ?_
            refine vc_seq ?_
            refine vc_region ?_
            refine oq (qv_ldm (vs := [(Value.int .i64 ((abF ((abF a (lo - 1))) hi).l)), (Value.int .i64 ((abF ((abF a (lo - 1))) hi).h)), (Value.int .i64 ((abF ((abF a (lo - 1))) hi).s))]) Try.agg23 rfl (inOc (k := 5) rfl) rfl rfl) ?_
            refine oq (qv_call (v := (Value.bool (decide ((abF ((abF a (lo - 1))) hi) = nE)))) (isEmpty_c (a := (abF ((abF a (lo - 1))) hi))) rfl rfl) ?_
            refine oq (qv_not rfl) ?_
            refine ops_nil ?_
            refine vc_if rfl (fun c5 => ?_) (fun c5 => ?_)
            ·
              refine vc_region_order (τ := []) [(0, false), (1, false), (2, false), (3, false), (4, true)] [(Arr 23 b1 [(Value.int .i64 (a.l)), (Value.int .i64 (a.h)), (Value.int .i64 (a.s))]), (Arr 23 b2 [(Value.int .i64 0), (Value.int .i64 0), (Value.int .i64 0)]), (Arr 23 b3 [(Value.int .i64 ((upF a (lo - 1)).l)), (Value.int .i64 ((upF a (lo - 1)).h)), (Value.int .i64 ((upF a (lo - 1)).s))]), (Arr 23 b4 [(Value.int .i64 ((abF a (lo - 1)).l)), (Value.int .i64 ((abF a (lo - 1)).h)), (Value.int .i64 ((abF a (lo - 1)).s))]), (Arr 23 b5 [(Value.int .i64 ((upF ((abF a (lo - 1))) hi).l)), (Value.int .i64 ((upF ((abF a (lo - 1))) hi).h)), (Value.int .i64 ((upF ((abF a (lo - 1))) hi).s))]), (Arr 23 b6 [(Value.int .i64 ((abF ((abF a (lo - 1))) hi).l)), (Value.int .i64 ((abF ((abF a (lo - 1))) hi).h)), (Value.int .i64 ((abF ((abF a (lo - 1))) hi).s))])] Try.mixed (perm_nil _) (by kernel_rfl) ?_
              refine rq rfl (qv_ldm (vs := [(Value.int .i64 ((upF ((abF a (lo - 1))) hi).l)), (Value.int .i64 ((upF ((abF a (lo - 1))) hi).h)), (Value.int .i64 ((upF ((abF a (lo - 1))) hi).s))]) Try.agg23 rfl (inOc (k := 4) rfl) rfl rfl) ?_
              refine rq rfl (qv_mv (Value.int .i64 hi) rfl) ?_
              refine rq rfl (qv_call (v := (Value.agg #[(Value.int .i64 ((sgl hi).l)), (Value.int .i64 ((sgl hi).h)), (Value.int .i64 ((sgl hi).s))])) (single_c) rfl rfl) ?_
              refine rq rfl (qv_call (v := (Value.agg #[(Value.int .i64 ((joinF ((upF ((abF a (lo - 1))) hi)) ((sgl hi))).l)), (Value.int .i64 ((joinF ((upF ((abF a (lo - 1))) hi)) ((sgl hi))).h)), (Value.int .i64 ((joinF ((upF ((abF a (lo - 1))) hi)) ((sgl hi))).s))])) (join_c (a := (upF ((abF a (lo - 1))) hi)) (b := (sgl hi)) (by first | exact r2 | exact r3) (by first | exact vld_sgl k2 | exact vld_sgl k3)) rfl rfl) ?_
              refine rl1 (by kernel_rfl) rfl ?_
              refine ops_stm (k := 4) (off := 0) (v := (Value.agg #[(Value.int .i64 ((joinF ((upF ((abF a (lo - 1))) hi)) ((sgl hi))).l)), (Value.int .i64 ((joinF ((upF ((abF a (lo - 1))) hi)) ((sgl hi))).h)), (Value.int .i64 ((joinF ((upF ((abF a (lo - 1))) hi)) ((sgl hi))).s))])) (vs := [(Value.int .i64 ((joinF ((upF ((abF a (lo - 1))) hi)) ((sgl hi))).l)), (Value.int .i64 ((joinF ((upF ((abF a (lo - 1))) hi)) ((sgl hi))).h)), (Value.int .i64 ((joinF ((upF ((abF a (lo - 1))) hi)) ((sgl hi))).s))]) (cs := [(Value.int .i64 ((upF ((abF a (lo - 1))) hi).l)), (Value.int .i64 ((upF ((abF a (lo - 1))) hi).h)), (Value.int .i64 ((upF ((abF a (lo - 1))) hi).s))]) (cs' := [(Value.int .i64 ((joinF ((upF ((abF a (lo - 1))) hi)) ((sgl hi))).l)), (Value.int .i64 ((joinF ((upF ((abF a (lo - 1))) hi)) ((sgl hi))).h)), (Value.int .i64 ((joinF ((upF ((abF a (lo - 1))) hi)) ((sgl hi))).s))]) Try.size23 rfl rfl rfl rfl rfl rfl (Nat.le_of_ble_eq_true rfl) rfl ?_
              refine ops_nil ⟨[(Arr 23 b1 [(Value.int .i64 (a.l)), (Value.int .i64 (a.h)), (Value.int .i64 (a.s))]), (Arr 23 b2 [(Value.int .i64 0), (Value.int .i64 0), (Value.int .i64 0)]), (Arr 23 b3 [(Value.int .i64 ((upF a (lo - 1)).l)), (Value.int .i64 ((upF a (lo - 1)).h)), (Value.int .i64 ((upF a (lo - 1)).s))]), (Arr 23 b4 [(Value.int .i64 ((abF a (lo - 1)).l)), (Value.int .i64 ((abF a (lo - 1)).h)), (Value.int .i64 ((abF a (lo - 1)).s))]), (Arr 23 b5 [(Value.int .i64 ((joinF ((upF ((abF a (lo - 1))) hi)) ((sgl hi))).l)), (Value.int .i64 ((joinF ((upF ((abF a (lo - 1))) hi)) ((sgl hi))).h)), (Value.int .i64 ((joinF ((upF ((abF a (lo - 1))) hi)) ((sgl hi))).s))]), (Arr 23 b6 [(Value.int .i64 ((abF ((abF a (lo - 1))) hi).l)), (Value.int .i64 ((abF ((abF a (lo - 1))) hi).h)), (Value.int .i64 ((abF ((abF a (lo - 1))) hi).s))])], [], perm_nil _, ?_⟩
              refine rnil ?_
              refine vc_seq ?_
              refine vc_res (σ' := [(Arr 23 b1 [(Value.int .i64 (a.l)), (Value.int .i64 (a.h)), (Value.int .i64 (a.s))]), (Arr 23 b2 [(Value.int .i64 0), (Value.int .i64 0), (Value.int .i64 0)]), (Arr 23 b3 [(Value.int .i64 ((upF a (lo - 1)).l)), (Value.int .i64 ((upF a (lo - 1)).h)), (Value.int .i64 ((upF a (lo - 1)).s))]), (Arr 23 b4 [(Value.int .i64 ((abF a (lo - 1)).l)), (Value.int .i64 ((abF a (lo - 1)).h)), (Value.int .i64 ((abF a (lo - 1)).s))]), (Arr 23 b5 [(Value.int .i64 ((joinF ((upF ((abF a (lo - 1))) hi)) ((sgl hi))).l)), (Value.int .i64 ((joinF ((upF ((abF a (lo - 1))) hi)) ((sgl hi))).h)), (Value.int .i64 ((joinF ((upF ((abF a (lo - 1))) hi)) ((sgl hi))).s))]), (Arr 23 b6 [(Value.int .i64 ((abF ((abF a (lo - 1))) hi).l)), (Value.int .i64 ((abF ((abF a (lo - 1))) hi).h)), (Value.int .i64 ((abF ((abF a (lo - 1))) hi).s))])]) rfl ?_
              refine vc_region ?_
              refine oq (qv_ldm (vs := [(Value.int .i64 ((joinF ((upF ((abF a (lo - 1))) hi)) ((sgl hi))).l)), (Value.int .i64 ((joinF ((upF ((abF a (lo - 1))) hi)) ((sgl hi))).h)), (Value.int .i64 ((joinF ((upF ((abF a (lo - 1))) hi)) ((sgl hi))).s))]) Try.agg23 rfl (inOc (k := 4) rfl) rfl rfl) ?_
              refine ops_stm (k := 1) (off := 0) (v := (Value.agg #[(Value.int .i64 ((joinF ((upF ((abF a (lo - 1))) hi)) ((sgl hi))).l)), (Value.int .i64 ((joinF ((upF ((abF a (lo - 1))) hi)) ((sgl hi))).h)), (Value.int .i64 ((joinF ((upF ((abF a (lo - 1))) hi)) ((sgl hi))).s))])) (vs := [(Value.int .i64 ((joinF ((upF ((abF a (lo - 1))) hi)) ((sgl hi))).l)), (Value.int .i64 ((joinF ((upF ((abF a (lo - 1))) hi)) ((sgl hi))).h)), (Value.int .i64 ((joinF ((upF ((abF a (lo - 1))) hi)) ((sgl hi))).s))]) (cs := [(Value.int .i64 0), (Value.int .i64 0), (Value.int .i64 0)]) (cs' := [(Value.int .i64 ((joinF ((upF ((abF a (lo - 1))) hi)) ((sgl hi))).l)), (Value.int .i64 ((joinF ((upF ((abF a (lo - 1))) hi)) ((sgl hi))).h)), (Value.int .i64 ((joinF ((upF ((abF a (lo - 1))) hi)) ((sgl hi))).s))]) Try.size23 rfl rfl rfl rfl rfl rfl (Nat.le_of_ble_eq_true rfl) rfl ?_
              refine oq (qv_as (Value.int .i64 0) rfl) ?_
              refine ops_nil ?_
              refine vc_ret ?_
              refine rs2 (Value.agg #[(Value.int .i64 ((joinF ((upF ((abF a (lo - 1))) hi)) ((sgl hi))).l)), (Value.int .i64 ((joinF ((upF ((abF a (lo - 1))) hi)) ((sgl hi))).h)), (Value.int .i64 ((joinF ((upF ((abF a (lo - 1))) hi)) ((sgl hi))).s))]) (Value.int .i64 0) (rv_c (vs := [(Value.int .i64 ((joinF ((upF ((abF a (lo - 1))) hi)) ((sgl hi))).l)), (Value.int .i64 ((joinF ((upF ((abF a (lo - 1))) hi)) ((sgl hi))).h)), (Value.int .i64 ((joinF ((upF ((abF a (lo - 1))) hi)) ((sgl hi))).s))]) Try.agg23 rfl (inOc (k := 1) rfl) rfl rfl) (rv_t rfl) ?_
              exact tup2 (aggc (consc (congrArg (Value.int .i64) (show ((joinF ((upF ((abF a (lo - 1))) hi)) ((sgl hi))).l) = ((clN a lo hi).l) from by first | (rw [clN_0 hE, clF_ee (by first | assumption | exact Decidable.not_not.1 (by assumption)) (by first | assumption | exact Decidable.not_not.1 (by assumption))]; done) | (rw [clN_0 hE, clF_ne (by first | assumption | exact Decidable.not_not.1 (by assumption)) (by first | assumption | exact Decidable.not_not.1 (by assumption))]; done) | (rw [clN_0 hE, clF_en (by first | assumption | exact Decidable.not_not.1 (by assumption)) (by first | assumption | exact Decidable.not_not.1 (by assumption))]; done) | (rw [clN_0 hE, clF_nn (by first | assumption | exact Decidable.not_not.1 (by assumption)) (by first | assumption | exact Decidable.not_not.1 (by assumption))]; done))) (consc (congrArg (Value.int .i64) (show ((joinF ((upF ((abF a (lo - 1))) hi)) ((sgl hi))).h) = ((clN a lo hi).h) from by first | (rw [clN_0 hE, clF_ee (by first | assumption | exact Decidable.not_not.1 (by assumption)) (by first | assumption | exact Decidable.not_not.1 (by assumption))]; done) | (rw [clN_0 hE, clF_ne (by first | assumption | exact Decidable.not_not.1 (by assumption)) (by first | assumption | exact Decidable.not_not.1 (by assumption))]; done) | (rw [clN_0 hE, clF_en (by first | assumption | exact Decidable.not_not.1 (by assumption)) (by first | assumption | exact Decidable.not_not.1 (by assumption))]; done) | (rw [clN_0 hE, clF_nn (by first | assumption | exact Decidable.not_not.1 (by assumption)) (by first | assumption | exact Decidable.not_not.1 (by assumption))]; done))) (consc (congrArg (Value.int .i64) (show ((joinF ((upF ((abF a (lo - 1))) hi)) ((sgl hi))).s) = ((clN a lo hi).s) from by first | (rw [clN_0 hE, clF_ee (by first | assumption | exact Decidable.not_not.1 (by assumption)) (by first | assumption | exact Decidable.not_not.1 (by assumption))]; done) | (rw [clN_0 hE, clF_ne (by first | assumption | exact Decidable.not_not.1 (by assumption)) (by first | assumption | exact Decidable.not_not.1 (by assumption))]; done) | (rw [clN_0 hE, clF_en (by first | assumption | exact Decidable.not_not.1 (by assumption)) (by first | assumption | exact Decidable.not_not.1 (by assumption))]; done) | (rw [clN_0 hE, clF_nn (by first | assumption | exact Decidable.not_not.1 (by assumption)) (by first | assumption | exact Decidable.not_not.1 (by assumption))]; done))) rfl)))) (congrArg (Value.int .i64) (show 0 = (clE a lo hi) from by first | (rw [clE_1 (by assumption)]; done) | (rw [clE_3 (Decidable.not_not.1 (by assumption)) hno]; done) | (rw [hE]; done)))
            ·
              refine vc_skip ?_
              refine vc_seq ?_
              refine vc_region ?_
              refine oq (qv_ldm (vs := [(Value.int .i64 ((upF ((abF a (lo - 1))) hi).l)), (Value.int .i64 ((upF ((abF a (lo - 1))) hi).h)), (Value.int .i64 ((upF ((abF a (lo - 1))) hi).s))]) Try.agg23 rfl (inOc (k := 4) rfl) rfl rfl) ?_
              refine ops_stm (k := 1) (off := 0) (v := (Value.agg #[(Value.int .i64 ((upF ((abF a (lo - 1))) hi).l)), (Value.int .i64 ((upF ((abF a (lo - 1))) hi).h)), (Value.int .i64 ((upF ((abF a (lo - 1))) hi).s))])) (vs := [(Value.int .i64 ((upF ((abF a (lo - 1))) hi).l)), (Value.int .i64 ((upF ((abF a (lo - 1))) hi).h)), (Value.int .i64 ((upF ((abF a (lo - 1))) hi).s))]) (cs := [(Value.int .i64 0), (Value.int .i64 0), (Value.int .i64 0)]) (cs' := [(Value.int .i64 ((upF ((abF a (lo - 1))) hi).l)), (Value.int .i64 ((upF ((abF a (lo - 1))) hi).h)), (Value.int .i64 ((upF ((abF a (lo - 1))) hi).s))]) Try.size23 rfl rfl rfl rfl rfl rfl (Nat.le_of_ble_eq_true rfl) rfl ?_
              refine oq (qv_as (Value.int .i64 0) rfl) ?_
              refine ops_nil ?_
              refine vc_ret ?_
              refine rs2 (Value.agg #[(Value.int .i64 ((upF ((abF a (lo - 1))) hi).l)), (Value.int .i64 ((upF ((abF a (lo - 1))) hi).h)), (Value.int .i64 ((upF ((abF a (lo - 1))) hi).s))]) (Value.int .i64 0) (rv_c (vs := [(Value.int .i64 ((upF ((abF a (lo - 1))) hi).l)), (Value.int .i64 ((upF ((abF a (lo - 1))) hi).h)), (Value.int .i64 ((upF ((abF a (lo - 1))) hi).s))]) Try.agg23 rfl (inOc (k := 1) rfl) rfl rfl) (rv_t rfl) ?_
              exact tup2 (aggc (consc (congrArg (Value.int .i64) (show ((upF ((abF a (lo - 1))) hi).l) = ((clN a lo hi).l) from by first | (rw [clN_0 hE, clF_ee (by first | assumption | exact Decidable.not_not.1 (by assumption)) (by first | assumption | exact Decidable.not_not.1 (by assumption))]; done) | (rw [clN_0 hE, clF_ne (by first | assumption | exact Decidable.not_not.1 (by assumption)) (by first | assumption | exact Decidable.not_not.1 (by assumption))]; done) | (rw [clN_0 hE, clF_en (by first | assumption | exact Decidable.not_not.1 (by assumption)) (by first | assumption | exact Decidable.not_not.1 (by assumption))]; done) | (rw [clN_0 hE, clF_nn (by first | assumption | exact Decidable.not_not.1 (by assumption)) (by first | assumption | exact Decidable.not_not.1 (by assumption))]; done))) (consc (congrArg (Value.int .i64) (show ((upF ((abF a (lo - 1))) hi).h) = ((clN a lo hi).h) from by first | (rw [clN_0 hE, clF_ee (by first | assumption | exact Decidable.not_not.1 (by assumption)) (by first | assumption | exact Decidable.not_not.1 (by assumption))]; done) | (rw [clN_0 hE, clF_ne (by first | assumption | exact Decidable.not_not.1 (by assumption)) (by first | assumption | exact Decidable.not_not.1 (by assumption))]; done) | (rw [clN_0 hE, clF_en (by first | assumption | exact Decidable.not_not.1 (by assumption)) (by first | assumption | exact Decidable.not_not.1 (by assumption))]; done) | (rw [clN_0 hE, clF_nn (by first | assumption | exact Decidable.not_not.1 (by assumption)) (by first | assumption | exact Decidable.not_not.1 (by assumption))]; done))) (consc (congrArg (Value.int .i64) (show ((upF ((abF a (lo - 1))) hi).s) = ((clN a lo hi).s) from by first | (rw [clN_0 hE, clF_ee (by first | assumption | exact Decidable.not_not.1 (by assumption)) (by first | assumption | exact Decidable.not_not.1 (by assumption))]; done) | (rw [clN_0 hE, clF_ne (by first | assumption | exact Decidable.not_not.1 (by assumption)) (by first | assumption | exact Decidable.not_not.1 (by assumption))]; done) | (rw [clN_0 hE, clF_en (by first | assumption | exact Decidable.not_not.1 (by assumption)) (by first | assumption | exact Decidable.not_not.1 (by assumption))]; done) | (rw [clN_0 hE, clF_nn (by first | assumption | exact Decidable.not_not.1 (by assumption)) (by first | assumption | exact Decidable.not_not.1 (by assumption))]; done))) rfl)))) (congrArg (Value.int .i64) (show 0 = (clE a lo hi) from by first | (rw [clE_1 (by assumption)]; done) | (rw [clE_3 (Decidable.not_not.1 (by assumption)) hno]; done) | (rw [hE]; done)))

set_option maxRecDepth 100000 in
set_option maxHeartbeats 4000000 in
theorem rClamp_c {V : HV} {a : Nm} {lo hi : Int} :
    FnC Try.prog 38 [(Value.agg #[(Value.int .i64 (a.l)), (Value.int .i64 (a.h)), (Value.int .i64 (a.s))]), (Value.int .i64 lo), (Value.int .i64 hi)] V [] (fun v _ _ => v = .tuple #[(Value.agg #[(Value.int .i64 ((clN a lo hi).l)), (Value.int .i64 ((clN a lo hi).h)), (Value.int .i64 ((clN a lo hi).s))]), (Value.int .i64 (clE a lo hi))]) := by
  refine fn_intro (N := 54) Try.func38 (by kernel_rfl) rfl rfl rfl (Nat.le_of_ble_eq_true rfl) ?_
  intro w0 D
  refine vc_seq ?_
  refine vc_region ?_
  refine ops_box (v := (Value.agg #[(Value.int .i64 (a.l)), (Value.int .i64 (a.h)), (Value.int .i64 (a.s))])) (cs := [(Value.int .i64 (a.l)), (Value.int .i64 (a.h)), (Value.int .i64 (a.s))]) rfl rfl (fun b1 => ?_)
  refine ops_alloc Try.ti23 rfl (fun b2 => ?_)
  refine oq (qv_as (Value.int .i64 0) rfl) ?_
  refine ops_nil ?_
  refine vc_seq ?_
  refine vc_seq ?_
  refine vc_res (σ' := [(Arr 23 b1 [(Value.int .i64 (a.l)), (Value.int .i64 (a.h)), (Value.int .i64 (a.s))]), (Arr 23 b2 [(Value.int .i64 0), (Value.int .i64 0), (Value.int .i64 0)])]) rfl ?_
  refine vc_region ?_
  refine oq (qv_ldm (vs := [(Value.int .i64 (a.l)), (Value.int .i64 (a.h)), (Value.int .i64 (a.s))]) Try.agg23 rfl (inOc (k := 0) rfl) rfl rfl) ?_
  refine oq (qv_call (v := (Value.bool (decide (vld a)))) (rValid_c (a := a)) rfl rfl) ?_
  refine oq (qv_not rfl) ?_
  refine ops_nil ?_
  refine vc_if rfl (fun c1 => ?_) (fun c1 => ?_)
  ·
    refine vc_seq ?_
    refine vc_region ?_
    refine oq (qv_build (out := [(Value.int .i64 0), (Value.int .i64 0), (Value.int .i64 0)]) Try.build23 [] rfl rfl) ?_
    refine ops_stm (k := 1) (off := 0) (v := (Value.agg #[(Value.int .i64 0), (Value.int .i64 0), (Value.int .i64 0)])) (vs := [(Value.int .i64 0), (Value.int .i64 0), (Value.int .i64 0)]) (cs := [(Value.int .i64 0), (Value.int .i64 0), (Value.int .i64 0)]) (cs' := [(Value.int .i64 0), (Value.int .i64 0), (Value.int .i64 0)]) Try.size23 rfl rfl rfl rfl rfl rfl (Nat.le_of_ble_eq_true rfl) rfl ?_
    refine oq (qv_as (Value.int .i64 1) rfl) ?_
    refine ops_nil ?_
    refine vc_ret ?_
    refine rs2 (Value.agg #[(Value.int .i64 0), (Value.int .i64 0), (Value.int .i64 0)]) (Value.int .i64 1) (rv_c (vs := [(Value.int .i64 0), (Value.int .i64 0), (Value.int .i64 0)]) Try.agg23 rfl (inOc (k := 1) rfl) rfl rfl) (rv_t rfl) ?_
    exact tup2 (aggc (consc (congrArg (Value.int .i64) (show 0 = ((clN a lo hi).l) from by first | (rw [clN_1 (by rw [clE_1 (by assumption)]; omega)]; done) | (rw [clN_1 (by rw [clE_3 (Decidable.not_not.1 (by assumption)) hno]; omega)]; done))) (consc (congrArg (Value.int .i64) (show 0 = ((clN a lo hi).h) from by first | (rw [clN_1 (by rw [clE_1 (by assumption)]; omega)]; done) | (rw [clN_1 (by rw [clE_3 (Decidable.not_not.1 (by assumption)) hno]; omega)]; done))) (consc (congrArg (Value.int .i64) (show 0 = ((clN a lo hi).s) from by first | (rw [clN_1 (by rw [clE_1 (by assumption)]; omega)]; done) | (rw [clN_1 (by rw [clE_3 (Decidable.not_not.1 (by assumption)) hno]; omega)]; done))) rfl)))) (congrArg (Value.int .i64) (show 1 = (clE a lo hi) from by first | (rw [clE_1 (by assumption)]; done) | (rw [clE_3 (Decidable.not_not.1 (by assumption)) hno]; done) | (rw [hE]; done)))
  ·
    refine vc_skip ?_
    refine vc_seq ?_
    refine vc_seq ?_
    refine vc_region ?_
    refine oq (qv_mv (Value.int .i64 lo) rfl) ?_
    refine oq (qv_call (v := (Value.bool (decide (fits lo)))) (rFits_c) rfl rfl) ?_
    refine oq (qv_not rfl) ?_
    refine oq (qv_mv (Value.bool (decide (¬ (fits lo)))) rfl) ?_
    by_cases g1 : ¬ (fits lo)
    ·
      refine os (want_fn g1 rfl rfl rfl) ?_
      refine os (want_fn g1 rfl rfl rfl) ?_
      refine os (want_fn g1 rfl rfl rfl) ?_
      refine oq (qv_pick_t g1 rfl (rfl : ev _ _ = (Value.bool true))) ?_
      refine oq (qv_mv (Value.bool true) rfl) ?_
      refine os (want_fnc rfl rfl rfl) ?_
      refine os (want_fnc rfl rfl rfl) ?_
      refine os (want_fnc rfl rfl rfl) ?_
      refine oq (qv_pick_tc rfl (rfl : ev _ _ = (Value.bool true))) ?_
      refine ops_nil ?_
      refine vc_tt rfl ?_
      refine vc_seq ?_
      have hno : ¬ clOk lo hi := fun q => by obtain ⟨q1, q2, q3⟩ := q; first | omega | exact absurd q2 (by assumption) | exact absurd q3 (by assumption)
      refine vc_region ?_
      refine oq (qv_build (out := [(Value.int .i64 0), (Value.int .i64 0), (Value.int .i64 0)]) Try.build23 [] rfl rfl) ?_
      refine ops_stm (k := 1) (off := 0) (v := (Value.agg #[(Value.int .i64 0), (Value.int .i64 0), (Value.int .i64 0)])) (vs := [(Value.int .i64 0), (Value.int .i64 0), (Value.int .i64 0)]) (cs := [(Value.int .i64 0), (Value.int .i64 0), (Value.int .i64 0)]) (cs' := [(Value.int .i64 0), (Value.int .i64 0), (Value.int .i64 0)]) Try.size23 rfl rfl rfl rfl rfl rfl (Nat.le_of_ble_eq_true rfl) rfl ?_
      refine oq (qv_as (Value.int .i64 3) rfl) ?_
      refine ops_nil ?_
      refine vc_ret ?_
      refine rs2 (Value.agg #[(Value.int .i64 0), (Value.int .i64 0), (Value.int .i64 0)]) (Value.int .i64 3) (rv_c (vs := [(Value.int .i64 0), (Value.int .i64 0), (Value.int .i64 0)]) Try.agg23 rfl (inOc (k := 1) rfl) rfl rfl) (rv_t rfl) ?_
      exact tup2 (aggc (consc (congrArg (Value.int .i64) (show 0 = ((clN a lo hi).l) from by first | (rw [clN_1 (by rw [clE_1 (by assumption)]; omega)]; done) | (rw [clN_1 (by rw [clE_3 (Decidable.not_not.1 (by assumption)) hno]; omega)]; done))) (consc (congrArg (Value.int .i64) (show 0 = ((clN a lo hi).h) from by first | (rw [clN_1 (by rw [clE_1 (by assumption)]; omega)]; done) | (rw [clN_1 (by rw [clE_3 (Decidable.not_not.1 (by assumption)) hno]; omega)]; done))) (consc (congrArg (Value.int .i64) (show 0 = ((clN a lo hi).s) from by first | (rw [clN_1 (by rw [clE_1 (by assumption)]; omega)]; done) | (rw [clN_1 (by rw [clE_3 (Decidable.not_not.1 (by assumption)) hno]; omega)]; done))) rfl)))) (congrArg (Value.int .i64) (show 3 = (clE a lo hi) from by first | (rw [clE_1 (by assumption)]; done) | (rw [clE_3 (Decidable.not_not.1 (by assumption)) hno]; done) | (rw [hE]; done)))
    ·
      refine og (qv_mv (Value.int .i64 hi) rfl) (want_f g1 rfl rfl rfl) ?_
      refine og (qv_call (v := (Value.bool (decide (fits hi)))) (rFits_c) rfl rfl) (want_f g1 rfl rfl rfl) ?_
      refine og (qv_not rfl) (want_f g1 rfl rfl rfl) ?_
      refine oq (qv_pick_f g1 rfl (rfl : ev _ _ = (Value.bool (decide (¬ (fits hi)))))) ?_
      refine oq (qv_mv (Value.bool (decide (¬ (fits hi)))) rfl) ?_
      by_cases g2 : ¬ (fits hi)
      ·
        refine os (want_fn g2 rfl rfl rfl) ?_
        refine os (want_fn g2 rfl rfl rfl) ?_
        refine os (want_fn g2 rfl rfl rfl) ?_
        refine oq (qv_pick_t g2 rfl (rfl : ev _ _ = (Value.bool true))) ?_
        refine ops_nil ?_
        refine vc_tt rfl ?_
        refine vc_seq ?_
        have hno : ¬ clOk lo hi := fun q => by obtain ⟨q1, q2, q3⟩ := q; first | omega | exact absurd q2 (by assumption) | exact absurd q3 (by assumption)
        refine vc_region ?_
        refine oq (qv_build (out := [(Value.int .i64 0), (Value.int .i64 0), (Value.int .i64 0)]) Try.build23 [] rfl rfl) ?_
        refine ops_stm (k := 1) (off := 0) (v := (Value.agg #[(Value.int .i64 0), (Value.int .i64 0), (Value.int .i64 0)])) (vs := [(Value.int .i64 0), (Value.int .i64 0), (Value.int .i64 0)]) (cs := [(Value.int .i64 0), (Value.int .i64 0), (Value.int .i64 0)]) (cs' := [(Value.int .i64 0), (Value.int .i64 0), (Value.int .i64 0)]) Try.size23 rfl rfl rfl rfl rfl rfl (Nat.le_of_ble_eq_true rfl) rfl ?_
        refine oq (qv_as (Value.int .i64 3) rfl) ?_
        refine ops_nil ?_
        refine vc_ret ?_
        refine rs2 (Value.agg #[(Value.int .i64 0), (Value.int .i64 0), (Value.int .i64 0)]) (Value.int .i64 3) (rv_c (vs := [(Value.int .i64 0), (Value.int .i64 0), (Value.int .i64 0)]) Try.agg23 rfl (inOc (k := 1) rfl) rfl rfl) (rv_t rfl) ?_
        exact tup2 (aggc (consc (congrArg (Value.int .i64) (show 0 = ((clN a lo hi).l) from by first | (rw [clN_1 (by rw [clE_1 (by assumption)]; omega)]; done) | (rw [clN_1 (by rw [clE_3 (Decidable.not_not.1 (by assumption)) hno]; omega)]; done))) (consc (congrArg (Value.int .i64) (show 0 = ((clN a lo hi).h) from by first | (rw [clN_1 (by rw [clE_1 (by assumption)]; omega)]; done) | (rw [clN_1 (by rw [clE_3 (Decidable.not_not.1 (by assumption)) hno]; omega)]; done))) (consc (congrArg (Value.int .i64) (show 0 = ((clN a lo hi).s) from by first | (rw [clN_1 (by rw [clE_1 (by assumption)]; omega)]; done) | (rw [clN_1 (by rw [clE_3 (Decidable.not_not.1 (by assumption)) hno]; omega)]; done))) rfl)))) (congrArg (Value.int .i64) (show 3 = (clE a lo hi) from by first | (rw [clE_1 (by assumption)]; done) | (rw [clE_3 (Decidable.not_not.1 (by assumption)) hno]; done) | (rw [hE]; done)))
      ·
        refine og (qv_mv (Value.int .i64 lo) rfl) (want_f g2 rfl rfl rfl) ?_
        refine og (qv_mv (Value.int .i64 hi) rfl) (want_f g2 rfl rfl rfl) ?_
        refine og (qv_gtr rfl rfl) (want_f g2 rfl rfl rfl) ?_
        refine oq (qv_pick_f g2 rfl (rfl : ev _ _ = (Value.bool (decide (hi < lo))))) ?_
        refine ops_nil ?_
        refine vc_if rfl (fun c2 => ?_) (fun c2 => ?_)
        ·
          refine vc_seq ?_
          have hno : ¬ clOk lo hi := fun q => by obtain ⟨q1, q2, q3⟩ := q; first | omega | exact absurd q2 (by assumption) | exact absurd q3 (by assumption)
          refine vc_region ?_
          refine oq (qv_build (out := [(Value.int .i64 0), (Value.int .i64 0), (Value.int .i64 0)]) Try.build23 [] rfl rfl) ?_
          refine ops_stm (k := 1) (off := 0) (v := (Value.agg #[(Value.int .i64 0), (Value.int .i64 0), (Value.int .i64 0)])) (vs := [(Value.int .i64 0), (Value.int .i64 0), (Value.int .i64 0)]) (cs := [(Value.int .i64 0), (Value.int .i64 0), (Value.int .i64 0)]) (cs' := [(Value.int .i64 0), (Value.int .i64 0), (Value.int .i64 0)]) Try.size23 rfl rfl rfl rfl rfl rfl (Nat.le_of_ble_eq_true rfl) rfl ?_
          refine oq (qv_as (Value.int .i64 3) rfl) ?_
          refine ops_nil ?_
          refine vc_ret ?_
          refine rs2 (Value.agg #[(Value.int .i64 0), (Value.int .i64 0), (Value.int .i64 0)]) (Value.int .i64 3) (rv_c (vs := [(Value.int .i64 0), (Value.int .i64 0), (Value.int .i64 0)]) Try.agg23 rfl (inOc (k := 1) rfl) rfl rfl) (rv_t rfl) ?_
          exact tup2 (aggc (consc (congrArg (Value.int .i64) (show 0 = ((clN a lo hi).l) from by first | (rw [clN_1 (by rw [clE_1 (by assumption)]; omega)]; done) | (rw [clN_1 (by rw [clE_3 (Decidable.not_not.1 (by assumption)) hno]; omega)]; done))) (consc (congrArg (Value.int .i64) (show 0 = ((clN a lo hi).h) from by first | (rw [clN_1 (by rw [clE_1 (by assumption)]; omega)]; done) | (rw [clN_1 (by rw [clE_3 (Decidable.not_not.1 (by assumption)) hno]; omega)]; done))) (consc (congrArg (Value.int .i64) (show 0 = ((clN a lo hi).s) from by first | (rw [clN_1 (by rw [clE_1 (by assumption)]; omega)]; done) | (rw [clN_1 (by rw [clE_3 (Decidable.not_not.1 (by assumption)) hno]; omega)]; done))) rfl)))) (congrArg (Value.int .i64) (show 3 = (clE a lo hi) from by first | (rw [clE_1 (by assumption)]; done) | (rw [clE_3 (Decidable.not_not.1 (by assumption)) hno]; done) | (rw [hE]; done)))
        ·
          refine vc_skip ?_
          refine vc_seq ?_
          have hv : vld a := Decidable.not_not.1 (by assumption)
          have hk : clOk lo hi := ⟨by omega, Decidable.not_not.1 (by assumption), Decidable.not_not.1 (by assumption)⟩
          have hE := clE_0 hv hk
          obtain ⟨k1, k2, k3⟩ := hk
          have v2 := k2
          unfold fits at v2
          have r1 := (ab_ok hv (lo - 1)).1
          have r2 := (up_ok r1 hi).1
          have r3 := (join_least r2 (vld_sgl k2)).ok
          refine vc_region ?_
          refine oq (qv_ldm (vs := [(Value.int .i64 (a.l)), (Value.int .i64 (a.h)), (Value.int .i64 (a.s))]) Try.agg23 rfl (inOc (k := 0) rfl) rfl rfl) ?_
          refine oq (qv_mv (Value.int .i64 lo) rfl) ?_
          refine oq (qv_sub rfl rfl (by omega)) ?_
          refine oq (qv_call (v := (Value.agg #[(Value.int .i64 ((abF a (lo - 1)).l)), (Value.int .i64 ((abF a (lo - 1)).h)), (Value.int .i64 ((abF a (lo - 1)).s))])) (rAbove_c (a := a) (by first | exact hv | exact r1)) rfl rfl) ?_
          refine oq (qv_mv (Value.int .i64 hi) rfl) ?_
          refine oq (qv_call (v := (Value.agg #[(Value.int .i64 ((upF ((abF a (lo - 1))) hi).l)), (Value.int .i64 ((upF ((abF a (lo - 1))) hi).h)), (Value.int .i64 ((upF ((abF a (lo - 1))) hi).s))])) (rUpto_c (a := (abF a (lo - 1))) (by first | exact hv | exact r1)) rfl rfl) ?_
          refine ops_alloc Try.ti23 rfl (fun b3 => ?_)
          refine ops_stm (k := 2) (off := 0) (v := (Value.agg #[(Value.int .i64 ((upF ((abF a (lo - 1))) hi).l)), (Value.int .i64 ((upF ((abF a (lo - 1))) hi).h)), (Value.int .i64 ((upF ((abF a (lo - 1))) hi).s))])) (vs := [(Value.int .i64 ((upF ((abF a (lo - 1))) hi).l)), (Value.int .i64 ((upF ((abF a (lo - 1))) hi).h)), (Value.int .i64 ((upF ((abF a (lo - 1))) hi).s))]) (cs := [(Value.int .i64 0), (Value.int .i64 0), (Value.int .i64 0)]) (cs' := [(Value.int .i64 ((upF ((abF a (lo - 1))) hi).l)), (Value.int .i64 ((upF ((abF a (lo - 1))) hi).h)), (Value.int .i64 ((upF ((abF a (lo - 1))) hi).s))]) Try.size23 rfl rfl rfl rfl rfl rfl (Nat.le_of_ble_eq_true rfl) rfl ?_
          refine ops_nil ?_
          refine vc_seq ?_
          refine vc_seq ?_
          refine vc_res (σ' := [(Arr 23 b1 [(Value.int .i64 (a.l)), (Value.int .i64 (a.h)), (Value.int .i64 (a.s))]), (Arr 23 b2 [(Value.int .i64 0), (Value.int .i64 0), (Value.int .i64 0)]), (Arr 23 b3 [(Value.int .i64 ((upF ((abF a (lo - 1))) hi).l)), (Value.int .i64 ((upF ((abF a (lo - 1))) hi).h)), (Value.int .i64 ((upF ((abF a (lo - 1))) hi).s))])]) rfl ?_
          refine vc_region ?_
          refine oq (qv_ldm (vs := [(Value.int .i64 (a.l)), (Value.int .i64 (a.h)), (Value.int .i64 (a.s))]) Try.agg23 rfl (inOc (k := 0) rfl) rfl rfl) ?_
          refine oq (qv_mv (Value.int .i64 lo) rfl) ?_
          refine oq (qv_call (v := (Value.agg #[(Value.int .i64 ((upF a lo).l)), (Value.int .i64 ((upF a lo).h)), (Value.int .i64 ((upF a lo).s))])) (rUpto_c (a := a) (by first | exact hv | exact r1)) rfl rfl) ?_
          refine oq (qv_call (v := (Value.bool (decide (((upF a lo).h) < ((upF a lo).l))))) (rempty_c (a := (upF a lo))) rfl rfl) ?_
          refine oq (qv_not rfl) ?_
          refine ops_nil ?_
          refine vc_if rfl (fun c3 => ?_) (fun c3 => ?_)
          ·
            refine vc_region ?_
            refine oq (qv_ldm (vs := [(Value.int .i64 ((upF ((abF a (lo - 1))) hi).l)), (Value.int .i64 ((upF ((abF a (lo - 1))) hi).h)), (Value.int .i64 ((upF ((abF a (lo - 1))) hi).s))]) Try.agg23 rfl (inOc (k := 2) rfl) rfl rfl) ?_
            refine oq (qv_mv (Value.int .i64 lo) rfl) ?_
            refine oq (qv_mv (Value.int .i64 lo) rfl) ?_
            refine oq (qv_build (out := [(Value.int .i64 lo), (Value.int .i64 lo), (Value.int .i64 0)]) Try.build23 [(0, [(Value.int .i64 lo)]), (1, [(Value.int .i64 lo)])] rfl rfl) ?_
            refine oq (qv_call (v := (Value.agg #[(Value.int .i64 ((joinF ((upF ((abF a (lo - 1))) hi)) ((⟨lo, lo, 0⟩ : Nm))).l)), (Value.int .i64 ((joinF ((upF ((abF a (lo - 1))) hi)) ((⟨lo, lo, 0⟩ : Nm))).h)), (Value.int .i64 ((joinF ((upF ((abF a (lo - 1))) hi)) ((⟨lo, lo, 0⟩ : Nm))).s))])) (rJoin_c (a := (upF ((abF a (lo - 1))) hi)) (b := (⟨lo, lo, 0⟩ : Nm)) (by first | exact r2 | exact r3) (by first | exact vld_sgl k2 | exact vld_sgl k3)) rfl rfl) ?_
            refine ops_stm (k := 2) (off := 0) (v := (Value.agg #[(Value.int .i64 ((joinF ((upF ((abF a (lo - 1))) hi)) ((⟨lo, lo, 0⟩ : Nm))).l)), (Value.int .i64 ((joinF ((upF ((abF a (lo - 1))) hi)) ((⟨lo, lo, 0⟩ : Nm))).h)), (Value.int .i64 ((joinF ((upF ((abF a (lo - 1))) hi)) ((⟨lo, lo, 0⟩ : Nm))).s))])) (vs := [(Value.int .i64 ((joinF ((upF ((abF a (lo - 1))) hi)) ((⟨lo, lo, 0⟩ : Nm))).l)), (Value.int .i64 ((joinF ((upF ((abF a (lo - 1))) hi)) ((⟨lo, lo, 0⟩ : Nm))).h)), (Value.int .i64 ((joinF ((upF ((abF a (lo - 1))) hi)) ((⟨lo, lo, 0⟩ : Nm))).s))]) (cs := [(Value.int .i64 ((upF ((abF a (lo - 1))) hi).l)), (Value.int .i64 ((upF ((abF a (lo - 1))) hi).h)), (Value.int .i64 ((upF ((abF a (lo - 1))) hi).s))]) (cs' := [(Value.int .i64 ((joinF ((upF ((abF a (lo - 1))) hi)) ((⟨lo, lo, 0⟩ : Nm))).l)), (Value.int .i64 ((joinF ((upF ((abF a (lo - 1))) hi)) ((⟨lo, lo, 0⟩ : Nm))).h)), (Value.int .i64 ((joinF ((upF ((abF a (lo - 1))) hi)) ((⟨lo, lo, 0⟩ : Nm))).s))]) Try.size23 rfl rfl rfl rfl rfl rfl (Nat.le_of_ble_eq_true rfl) rfl ?_
            refine ops_nil ?_
            refine vc_seq ?_
            refine vc_seq ?_
            refine vc_res (σ' := [(Arr 23 b1 [(Value.int .i64 (a.l)), (Value.int .i64 (a.h)), (Value.int .i64 (a.s))]), (Arr 23 b2 [(Value.int .i64 0), (Value.int .i64 0), (Value.int .i64 0)]), (Arr 23 b3 [(Value.int .i64 ((joinF ((upF ((abF a (lo - 1))) hi)) ((⟨lo, lo, 0⟩ : Nm))).l)), (Value.int .i64 ((joinF ((upF ((abF a (lo - 1))) hi)) ((⟨lo, lo, 0⟩ : Nm))).h)), (Value.int .i64 ((joinF ((upF ((abF a (lo - 1))) hi)) ((⟨lo, lo, 0⟩ : Nm))).s))])]) rfl ?_
            refine vc_region ?_
            refine oq (qv_ldm (vs := [(Value.int .i64 (a.l)), (Value.int .i64 (a.h)), (Value.int .i64 (a.s))]) Try.agg23 rfl (inOc (k := 0) rfl) rfl rfl) ?_
            refine oq (qv_mv (Value.int .i64 hi) rfl) ?_
            refine oq (qv_call (v := (Value.agg #[(Value.int .i64 ((abF a hi).l)), (Value.int .i64 ((abF a hi).h)), (Value.int .i64 ((abF a hi).s))])) (rAbove_c (a := a) (by first | exact hv | exact r1)) rfl rfl) ?_
            refine oq (qv_call (v := (Value.bool (decide (((abF a hi).h) < ((abF a hi).l))))) (rempty_c (a := (abF a hi))) rfl rfl) ?_
            refine oq (qv_not rfl) ?_
            refine ops_nil ?_
            refine vc_if rfl (fun c4 => ?_) (fun c4 => ?_)
            ·
              refine vc_region ?_
              refine oq (qv_ldm (vs := [(Value.int .i64 ((joinF ((upF ((abF a (lo - 1))) hi)) ((⟨lo, lo, 0⟩ : Nm))).l)), (Value.int .i64 ((joinF ((upF ((abF a (lo - 1))) hi)) ((⟨lo, lo, 0⟩ : Nm))).h)), (Value.int .i64 ((joinF ((upF ((abF a (lo - 1))) hi)) ((⟨lo, lo, 0⟩ : Nm))).s))]) Try.agg23 rfl (inOc (k := 2) rfl) rfl rfl) ?_
              refine oq (qv_mv (Value.int .i64 hi) rfl) ?_
              refine oq (qv_mv (Value.int .i64 hi) rfl) ?_
              refine oq (qv_build (out := [(Value.int .i64 hi), (Value.int .i64 hi), (Value.int .i64 0)]) Try.build23 [(0, [(Value.int .i64 hi)]), (1, [(Value.int .i64 hi)])] rfl rfl) ?_
              refine oq (qv_call (v := (Value.agg #[(Value.int .i64 ((joinF ((joinF ((upF ((abF a (lo - 1))) hi)) ((⟨lo, lo, 0⟩ : Nm)))) ((⟨hi, hi, 0⟩ : Nm))).l)), (Value.int .i64 ((joinF ((joinF ((upF ((abF a (lo - 1))) hi)) ((⟨lo, lo, 0⟩ : Nm)))) ((⟨hi, hi, 0⟩ : Nm))).h)), (Value.int .i64 ((joinF ((joinF ((upF ((abF a (lo - 1))) hi)) ((⟨lo, lo, 0⟩ : Nm)))) ((⟨hi, hi, 0⟩ : Nm))).s))])) (rJoin_c (a := (joinF ((upF ((abF a (lo - 1))) hi)) ((⟨lo, lo, 0⟩ : Nm)))) (b := (⟨hi, hi, 0⟩ : Nm)) (by first | exact r2 | exact r3) (by first | exact vld_sgl k2 | exact vld_sgl k3)) rfl rfl) ?_
              refine ops_stm (k := 2) (off := 0) (v := (Value.agg #[(Value.int .i64 ((joinF ((joinF ((upF ((abF a (lo - 1))) hi)) ((⟨lo, lo, 0⟩ : Nm)))) ((⟨hi, hi, 0⟩ : Nm))).l)), (Value.int .i64 ((joinF ((joinF ((upF ((abF a (lo - 1))) hi)) ((⟨lo, lo, 0⟩ : Nm)))) ((⟨hi, hi, 0⟩ : Nm))).h)), (Value.int .i64 ((joinF ((joinF ((upF ((abF a (lo - 1))) hi)) ((⟨lo, lo, 0⟩ : Nm)))) ((⟨hi, hi, 0⟩ : Nm))).s))])) (vs := [(Value.int .i64 ((joinF ((joinF ((upF ((abF a (lo - 1))) hi)) ((⟨lo, lo, 0⟩ : Nm)))) ((⟨hi, hi, 0⟩ : Nm))).l)), (Value.int .i64 ((joinF ((joinF ((upF ((abF a (lo - 1))) hi)) ((⟨lo, lo, 0⟩ : Nm)))) ((⟨hi, hi, 0⟩ : Nm))).h)), (Value.int .i64 ((joinF ((joinF ((upF ((abF a (lo - 1))) hi)) ((⟨lo, lo, 0⟩ : Nm)))) ((⟨hi, hi, 0⟩ : Nm))).s))]) (cs := [(Value.int .i64 ((joinF ((upF ((abF a (lo - 1))) hi)) ((⟨lo, lo, 0⟩ : Nm))).l)), (Value.int .i64 ((joinF ((upF ((abF a (lo - 1))) hi)) ((⟨lo, lo, 0⟩ : Nm))).h)), (Value.int .i64 ((joinF ((upF ((abF a (lo - 1))) hi)) ((⟨lo, lo, 0⟩ : Nm))).s))]) (cs' := [(Value.int .i64 ((joinF ((joinF ((upF ((abF a (lo - 1))) hi)) ((⟨lo, lo, 0⟩ : Nm)))) ((⟨hi, hi, 0⟩ : Nm))).l)), (Value.int .i64 ((joinF ((joinF ((upF ((abF a (lo - 1))) hi)) ((⟨lo, lo, 0⟩ : Nm)))) ((⟨hi, hi, 0⟩ : Nm))).h)), (Value.int .i64 ((joinF ((joinF ((upF ((abF a (lo - 1))) hi)) ((⟨lo, lo, 0⟩ : Nm)))) ((⟨hi, hi, 0⟩ : Nm))).s))]) Try.size23 rfl rfl rfl rfl rfl rfl (Nat.le_of_ble_eq_true rfl) rfl ?_
              refine ops_nil ?_
              refine vc_seq ?_
              refine vc_res (σ' := [(Arr 23 b1 [(Value.int .i64 (a.l)), (Value.int .i64 (a.h)), (Value.int .i64 (a.s))]), (Arr 23 b2 [(Value.int .i64 0), (Value.int .i64 0), (Value.int .i64 0)]), (Arr 23 b3 [(Value.int .i64 ((joinF ((joinF ((upF ((abF a (lo - 1))) hi)) ((⟨lo, lo, 0⟩ : Nm)))) ((⟨hi, hi, 0⟩ : Nm))).l)), (Value.int .i64 ((joinF ((joinF ((upF ((abF a (lo - 1))) hi)) ((⟨lo, lo, 0⟩ : Nm)))) ((⟨hi, hi, 0⟩ : Nm))).h)), (Value.int .i64 ((joinF ((joinF ((upF ((abF a (lo - 1))) hi)) ((⟨lo, lo, 0⟩ : Nm)))) ((⟨hi, hi, 0⟩ : Nm))).s))])]) rfl ?_
              refine vc_region ?_
              refine oq (qv_ldm (vs := [(Value.int .i64 ((joinF ((joinF ((upF ((abF a (lo - 1))) hi)) ((⟨lo, lo, 0⟩ : Nm)))) ((⟨hi, hi, 0⟩ : Nm))).l)), (Value.int .i64 ((joinF ((joinF ((upF ((abF a (lo - 1))) hi)) ((⟨lo, lo, 0⟩ : Nm)))) ((⟨hi, hi, 0⟩ : Nm))).h)), (Value.int .i64 ((joinF ((joinF ((upF ((abF a (lo - 1))) hi)) ((⟨lo, lo, 0⟩ : Nm)))) ((⟨hi, hi, 0⟩ : Nm))).s))]) Try.agg23 rfl (inOc (k := 2) rfl) rfl rfl) ?_
              refine ops_stm (k := 1) (off := 0) (v := (Value.agg #[(Value.int .i64 ((joinF ((joinF ((upF ((abF a (lo - 1))) hi)) ((⟨lo, lo, 0⟩ : Nm)))) ((⟨hi, hi, 0⟩ : Nm))).l)), (Value.int .i64 ((joinF ((joinF ((upF ((abF a (lo - 1))) hi)) ((⟨lo, lo, 0⟩ : Nm)))) ((⟨hi, hi, 0⟩ : Nm))).h)), (Value.int .i64 ((joinF ((joinF ((upF ((abF a (lo - 1))) hi)) ((⟨lo, lo, 0⟩ : Nm)))) ((⟨hi, hi, 0⟩ : Nm))).s))])) (vs := [(Value.int .i64 ((joinF ((joinF ((upF ((abF a (lo - 1))) hi)) ((⟨lo, lo, 0⟩ : Nm)))) ((⟨hi, hi, 0⟩ : Nm))).l)), (Value.int .i64 ((joinF ((joinF ((upF ((abF a (lo - 1))) hi)) ((⟨lo, lo, 0⟩ : Nm)))) ((⟨hi, hi, 0⟩ : Nm))).h)), (Value.int .i64 ((joinF ((joinF ((upF ((abF a (lo - 1))) hi)) ((⟨lo, lo, 0⟩ : Nm)))) ((⟨hi, hi, 0⟩ : Nm))).s))]) (cs := [(Value.int .i64 0), (Value.int .i64 0), (Value.int .i64 0)]) (cs' := [(Value.int .i64 ((joinF ((joinF ((upF ((abF a (lo - 1))) hi)) ((⟨lo, lo, 0⟩ : Nm)))) ((⟨hi, hi, 0⟩ : Nm))).l)), (Value.int .i64 ((joinF ((joinF ((upF ((abF a (lo - 1))) hi)) ((⟨lo, lo, 0⟩ : Nm)))) ((⟨hi, hi, 0⟩ : Nm))).h)), (Value.int .i64 ((joinF ((joinF ((upF ((abF a (lo - 1))) hi)) ((⟨lo, lo, 0⟩ : Nm)))) ((⟨hi, hi, 0⟩ : Nm))).s))]) Try.size23 rfl rfl rfl rfl rfl rfl (Nat.le_of_ble_eq_true rfl) rfl ?_
              refine oq (qv_as (Value.int .i64 0) rfl) ?_
              refine ops_nil ?_
              refine vc_ret ?_
              refine rs2 (Value.agg #[(Value.int .i64 ((joinF ((joinF ((upF ((abF a (lo - 1))) hi)) ((⟨lo, lo, 0⟩ : Nm)))) ((⟨hi, hi, 0⟩ : Nm))).l)), (Value.int .i64 ((joinF ((joinF ((upF ((abF a (lo - 1))) hi)) ((⟨lo, lo, 0⟩ : Nm)))) ((⟨hi, hi, 0⟩ : Nm))).h)), (Value.int .i64 ((joinF ((joinF ((upF ((abF a (lo - 1))) hi)) ((⟨lo, lo, 0⟩ : Nm)))) ((⟨hi, hi, 0⟩ : Nm))).s))]) (Value.int .i64 0) (rv_c (vs := [(Value.int .i64 ((joinF ((joinF ((upF ((abF a (lo - 1))) hi)) ((⟨lo, lo, 0⟩ : Nm)))) ((⟨hi, hi, 0⟩ : Nm))).l)), (Value.int .i64 ((joinF ((joinF ((upF ((abF a (lo - 1))) hi)) ((⟨lo, lo, 0⟩ : Nm)))) ((⟨hi, hi, 0⟩ : Nm))).h)), (Value.int .i64 ((joinF ((joinF ((upF ((abF a (lo - 1))) hi)) ((⟨lo, lo, 0⟩ : Nm)))) ((⟨hi, hi, 0⟩ : Nm))).s))]) Try.agg23 rfl (inOc (k := 1) rfl) rfl rfl) (rv_t rfl) ?_
              exact tup2 (aggc (consc (congrArg (Value.int .i64) (show ((joinF ((joinF ((upF ((abF a (lo - 1))) hi)) ((⟨lo, lo, 0⟩ : Nm)))) ((⟨hi, hi, 0⟩ : Nm))).l) = ((clN a lo hi).l) from by first | (rw [clN_0 hE, ← clR_eq hv k2 k3 k1, clR_ee (by first | assumption | exact Decidable.not_not.1 (by assumption)) (by first | assumption | exact Decidable.not_not.1 (by assumption))]; done) | (rw [clN_0 hE, ← clR_eq hv k2 k3 k1, clR_ne (by first | assumption | exact Decidable.not_not.1 (by assumption)) (by first | assumption | exact Decidable.not_not.1 (by assumption))]; done) | (rw [clN_0 hE, ← clR_eq hv k2 k3 k1, clR_en (by first | assumption | exact Decidable.not_not.1 (by assumption)) (by first | assumption | exact Decidable.not_not.1 (by assumption))]; done) | (rw [clN_0 hE, ← clR_eq hv k2 k3 k1, clR_nn (by first | assumption | exact Decidable.not_not.1 (by assumption)) (by first | assumption | exact Decidable.not_not.1 (by assumption))]; done))) (consc (congrArg (Value.int .i64) (show ((joinF ((joinF ((upF ((abF a (lo - 1))) hi)) ((⟨lo, lo, 0⟩ : Nm)))) ((⟨hi, hi, 0⟩ : Nm))).h) = ((clN a lo hi).h) from by first | (rw [clN_0 hE, ← clR_eq hv k2 k3 k1, clR_ee (by first | assumption | exact Decidable.not_not.1 (by assumption)) (by first | assumption | exact Decidable.not_not.1 (by assumption))]; done) | (rw [clN_0 hE, ← clR_eq hv k2 k3 k1, clR_ne (by first | assumption | exact Decidable.not_not.1 (by assumption)) (by first | assumption | exact Decidable.not_not.1 (by assumption))]; done) | (rw [clN_0 hE, ← clR_eq hv k2 k3 k1, clR_en (by first | assumption | exact Decidable.not_not.1 (by assumption)) (by first | assumption | exact Decidable.not_not.1 (by assumption))]; done) | (rw [clN_0 hE, ← clR_eq hv k2 k3 k1, clR_nn (by first | assumption | exact Decidable.not_not.1 (by assumption)) (by first | assumption | exact Decidable.not_not.1 (by assumption))]; done))) (consc (congrArg (Value.int .i64) (show ((joinF ((joinF ((upF ((abF a (lo - 1))) hi)) ((⟨lo, lo, 0⟩ : Nm)))) ((⟨hi, hi, 0⟩ : Nm))).s) = ((clN a lo hi).s) from by first | (rw [clN_0 hE, ← clR_eq hv k2 k3 k1, clR_ee (by first | assumption | exact Decidable.not_not.1 (by assumption)) (by first | assumption | exact Decidable.not_not.1 (by assumption))]; done) | (rw [clN_0 hE, ← clR_eq hv k2 k3 k1, clR_ne (by first | assumption | exact Decidable.not_not.1 (by assumption)) (by first | assumption | exact Decidable.not_not.1 (by assumption))]; done) | (rw [clN_0 hE, ← clR_eq hv k2 k3 k1, clR_en (by first | assumption | exact Decidable.not_not.1 (by assumption)) (by first | assumption | exact Decidable.not_not.1 (by assumption))]; done) | (rw [clN_0 hE, ← clR_eq hv k2 k3 k1, clR_nn (by first | assumption | exact Decidable.not_not.1 (by assumption)) (by first | assumption | exact Decidable.not_not.1 (by assumption))]; done))) rfl)))) (congrArg (Value.int .i64) (show 0 = (clE a lo hi) from by first | (rw [clE_1 (by assumption)]; done) | (rw [clE_3 (Decidable.not_not.1 (by assumption)) hno]; done) | (rw [hE]; done)))
            ·
              refine vc_skip ?_
              refine vc_seq ?_
              refine vc_region ?_
              refine oq (qv_ldm (vs := [(Value.int .i64 ((joinF ((upF ((abF a (lo - 1))) hi)) ((⟨lo, lo, 0⟩ : Nm))).l)), (Value.int .i64 ((joinF ((upF ((abF a (lo - 1))) hi)) ((⟨lo, lo, 0⟩ : Nm))).h)), (Value.int .i64 ((joinF ((upF ((abF a (lo - 1))) hi)) ((⟨lo, lo, 0⟩ : Nm))).s))]) Try.agg23 rfl (inOc (k := 2) rfl) rfl rfl) ?_
              refine ops_stm (k := 1) (off := 0) (v := (Value.agg #[(Value.int .i64 ((joinF ((upF ((abF a (lo - 1))) hi)) ((⟨lo, lo, 0⟩ : Nm))).l)), (Value.int .i64 ((joinF ((upF ((abF a (lo - 1))) hi)) ((⟨lo, lo, 0⟩ : Nm))).h)), (Value.int .i64 ((joinF ((upF ((abF a (lo - 1))) hi)) ((⟨lo, lo, 0⟩ : Nm))).s))])) (vs := [(Value.int .i64 ((joinF ((upF ((abF a (lo - 1))) hi)) ((⟨lo, lo, 0⟩ : Nm))).l)), (Value.int .i64 ((joinF ((upF ((abF a (lo - 1))) hi)) ((⟨lo, lo, 0⟩ : Nm))).h)), (Value.int .i64 ((joinF ((upF ((abF a (lo - 1))) hi)) ((⟨lo, lo, 0⟩ : Nm))).s))]) (cs := [(Value.int .i64 0), (Value.int .i64 0), (Value.int .i64 0)]) (cs' := [(Value.int .i64 ((joinF ((upF ((abF a (lo - 1))) hi)) ((⟨lo, lo, 0⟩ : Nm))).l)), (Value.int .i64 ((joinF ((upF ((abF a (lo - 1))) hi)) ((⟨lo, lo, 0⟩ : Nm))).h)), (Value.int .i64 ((joinF ((upF ((abF a (lo - 1))) hi)) ((⟨lo, lo, 0⟩ : Nm))).s))]) Try.size23 rfl rfl rfl rfl rfl rfl (Nat.le_of_ble_eq_true rfl) rfl ?_
              refine oq (qv_as (Value.int .i64 0) rfl) ?_
              refine ops_nil ?_
              refine vc_ret ?_
              refine rs2 (Value.agg #[(Value.int .i64 ((joinF ((upF ((abF a (lo - 1))) hi)) ((⟨lo, lo, 0⟩ : Nm))).l)), (Value.int .i64 ((joinF ((upF ((abF a (lo - 1))) hi)) ((⟨lo, lo, 0⟩ : Nm))).h)), (Value.int .i64 ((joinF ((upF ((abF a (lo - 1))) hi)) ((⟨lo, lo, 0⟩ : Nm))).s))]) (Value.int .i64 0) (rv_c (vs := [(Value.int .i64 ((joinF ((upF ((abF a (lo - 1))) hi)) ((⟨lo, lo, 0⟩ : Nm))).l)), (Value.int .i64 ((joinF ((upF ((abF a (lo - 1))) hi)) ((⟨lo, lo, 0⟩ : Nm))).h)), (Value.int .i64 ((joinF ((upF ((abF a (lo - 1))) hi)) ((⟨lo, lo, 0⟩ : Nm))).s))]) Try.agg23 rfl (inOc (k := 1) rfl) rfl rfl) (rv_t rfl) ?_
              exact tup2 (aggc (consc (congrArg (Value.int .i64) (show ((joinF ((upF ((abF a (lo - 1))) hi)) ((⟨lo, lo, 0⟩ : Nm))).l) = ((clN a lo hi).l) from by first | (rw [clN_0 hE, ← clR_eq hv k2 k3 k1, clR_ee (by first | assumption | exact Decidable.not_not.1 (by assumption)) (by first | assumption | exact Decidable.not_not.1 (by assumption))]; done) | (rw [clN_0 hE, ← clR_eq hv k2 k3 k1, clR_ne (by first | assumption | exact Decidable.not_not.1 (by assumption)) (by first | assumption | exact Decidable.not_not.1 (by assumption))]; done) | (rw [clN_0 hE, ← clR_eq hv k2 k3 k1, clR_en (by first | assumption | exact Decidable.not_not.1 (by assumption)) (by first | assumption | exact Decidable.not_not.1 (by assumption))]; done) | (rw [clN_0 hE, ← clR_eq hv k2 k3 k1, clR_nn (by first | assumption | exact Decidable.not_not.1 (by assumption)) (by first | assumption | exact Decidable.not_not.1 (by assumption))]; done))) (consc (congrArg (Value.int .i64) (show ((joinF ((upF ((abF a (lo - 1))) hi)) ((⟨lo, lo, 0⟩ : Nm))).h) = ((clN a lo hi).h) from by first | (rw [clN_0 hE, ← clR_eq hv k2 k3 k1, clR_ee (by first | assumption | exact Decidable.not_not.1 (by assumption)) (by first | assumption | exact Decidable.not_not.1 (by assumption))]; done) | (rw [clN_0 hE, ← clR_eq hv k2 k3 k1, clR_ne (by first | assumption | exact Decidable.not_not.1 (by assumption)) (by first | assumption | exact Decidable.not_not.1 (by assumption))]; done) | (rw [clN_0 hE, ← clR_eq hv k2 k3 k1, clR_en (by first | assumption | exact Decidable.not_not.1 (by assumption)) (by first | assumption | exact Decidable.not_not.1 (by assumption))]; done) | (rw [clN_0 hE, ← clR_eq hv k2 k3 k1, clR_nn (by first | assumption | exact Decidable.not_not.1 (by assumption)) (by first | assumption | exact Decidable.not_not.1 (by assumption))]; done))) (consc (congrArg (Value.int .i64) (show ((joinF ((upF ((abF a (lo - 1))) hi)) ((⟨lo, lo, 0⟩ : Nm))).s) = ((clN a lo hi).s) from by first | (rw [clN_0 hE, ← clR_eq hv k2 k3 k1, clR_ee (by first | assumption | exact Decidable.not_not.1 (by assumption)) (by first | assumption | exact Decidable.not_not.1 (by assumption))]; done) | (rw [clN_0 hE, ← clR_eq hv k2 k3 k1, clR_ne (by first | assumption | exact Decidable.not_not.1 (by assumption)) (by first | assumption | exact Decidable.not_not.1 (by assumption))]; done) | (rw [clN_0 hE, ← clR_eq hv k2 k3 k1, clR_en (by first | assumption | exact Decidable.not_not.1 (by assumption)) (by first | assumption | exact Decidable.not_not.1 (by assumption))]; done) | (rw [clN_0 hE, ← clR_eq hv k2 k3 k1, clR_nn (by first | assumption | exact Decidable.not_not.1 (by assumption)) (by first | assumption | exact Decidable.not_not.1 (by assumption))]; done))) rfl)))) (congrArg (Value.int .i64) (show 0 = (clE a lo hi) from by first | (rw [clE_1 (by assumption)]; done) | (rw [clE_3 (Decidable.not_not.1 (by assumption)) hno]; done) | (rw [hE]; done)))
          ·
            refine vc_skip ?_
            refine vc_seq ?_
            refine vc_seq ?_
            refine vc_region ?_
            refine oq (qv_ldm (vs := [(Value.int .i64 (a.l)), (Value.int .i64 (a.h)), (Value.int .i64 (a.s))]) Try.agg23 rfl (inOc (k := 0) rfl) rfl rfl) ?_
            refine oq (qv_mv (Value.int .i64 hi) rfl) ?_
            refine oq (qv_call (v := (Value.agg #[(Value.int .i64 ((abF a hi).l)), (Value.int .i64 ((abF a hi).h)), (Value.int .i64 ((abF a hi).s))])) (rAbove_c (a := a) (by first | exact hv | exact r1)) rfl rfl) ?_
            refine oq (qv_call (v := (Value.bool (decide (((abF a hi).h) < ((abF a hi).l))))) (rempty_c (a := (abF a hi))) rfl rfl) ?_
            refine oq (qv_not rfl) ?_
            refine ops_nil ?_
            refine vc_if rfl (fun c5 => ?_) (fun c5 => ?_)
            ·
              refine vc_region ?_
              refine oq (qv_ldm (vs := [(Value.int .i64 ((upF ((abF a (lo - 1))) hi).l)), (Value.int .i64 ((upF ((abF a (lo - 1))) hi).h)), (Value.int .i64 ((upF ((abF a (lo - 1))) hi).s))]) Try.agg23 rfl (inOc (k := 2) rfl) rfl rfl) ?_
              refine oq (qv_mv (Value.int .i64 hi) rfl) ?_
              refine oq (qv_mv (Value.int .i64 hi) rfl) ?_
              refine oq (qv_build (out := [(Value.int .i64 hi), (Value.int .i64 hi), (Value.int .i64 0)]) Try.build23 [(0, [(Value.int .i64 hi)]), (1, [(Value.int .i64 hi)])] rfl rfl) ?_
              refine oq (qv_call (v := (Value.agg #[(Value.int .i64 ((joinF ((upF ((abF a (lo - 1))) hi)) ((⟨hi, hi, 0⟩ : Nm))).l)), (Value.int .i64 ((joinF ((upF ((abF a (lo - 1))) hi)) ((⟨hi, hi, 0⟩ : Nm))).h)), (Value.int .i64 ((joinF ((upF ((abF a (lo - 1))) hi)) ((⟨hi, hi, 0⟩ : Nm))).s))])) (rJoin_c (a := (upF ((abF a (lo - 1))) hi)) (b := (⟨hi, hi, 0⟩ : Nm)) (by first | exact r2 | exact r3) (by first | exact vld_sgl k2 | exact vld_sgl k3)) rfl rfl) ?_
              refine ops_stm (k := 2) (off := 0) (v := (Value.agg #[(Value.int .i64 ((joinF ((upF ((abF a (lo - 1))) hi)) ((⟨hi, hi, 0⟩ : Nm))).l)), (Value.int .i64 ((joinF ((upF ((abF a (lo - 1))) hi)) ((⟨hi, hi, 0⟩ : Nm))).h)), (Value.int .i64 ((joinF ((upF ((abF a (lo - 1))) hi)) ((⟨hi, hi, 0⟩ : Nm))).s))])) (vs := [(Value.int .i64 ((joinF ((upF ((abF a (lo - 1))) hi)) ((⟨hi, hi, 0⟩ : Nm))).l)), (Value.int .i64 ((joinF ((upF ((abF a (lo - 1))) hi)) ((⟨hi, hi, 0⟩ : Nm))).h)), (Value.int .i64 ((joinF ((upF ((abF a (lo - 1))) hi)) ((⟨hi, hi, 0⟩ : Nm))).s))]) (cs := [(Value.int .i64 ((upF ((abF a (lo - 1))) hi).l)), (Value.int .i64 ((upF ((abF a (lo - 1))) hi).h)), (Value.int .i64 ((upF ((abF a (lo - 1))) hi).s))]) (cs' := [(Value.int .i64 ((joinF ((upF ((abF a (lo - 1))) hi)) ((⟨hi, hi, 0⟩ : Nm))).l)), (Value.int .i64 ((joinF ((upF ((abF a (lo - 1))) hi)) ((⟨hi, hi, 0⟩ : Nm))).h)), (Value.int .i64 ((joinF ((upF ((abF a (lo - 1))) hi)) ((⟨hi, hi, 0⟩ : Nm))).s))]) Try.size23 rfl rfl rfl rfl rfl rfl (Nat.le_of_ble_eq_true rfl) rfl ?_
              refine ops_nil ?_
              refine vc_seq ?_
              refine vc_res (σ' := [(Arr 23 b1 [(Value.int .i64 (a.l)), (Value.int .i64 (a.h)), (Value.int .i64 (a.s))]), (Arr 23 b2 [(Value.int .i64 0), (Value.int .i64 0), (Value.int .i64 0)]), (Arr 23 b3 [(Value.int .i64 ((joinF ((upF ((abF a (lo - 1))) hi)) ((⟨hi, hi, 0⟩ : Nm))).l)), (Value.int .i64 ((joinF ((upF ((abF a (lo - 1))) hi)) ((⟨hi, hi, 0⟩ : Nm))).h)), (Value.int .i64 ((joinF ((upF ((abF a (lo - 1))) hi)) ((⟨hi, hi, 0⟩ : Nm))).s))])]) rfl ?_
              refine vc_region ?_
              refine oq (qv_ldm (vs := [(Value.int .i64 ((joinF ((upF ((abF a (lo - 1))) hi)) ((⟨hi, hi, 0⟩ : Nm))).l)), (Value.int .i64 ((joinF ((upF ((abF a (lo - 1))) hi)) ((⟨hi, hi, 0⟩ : Nm))).h)), (Value.int .i64 ((joinF ((upF ((abF a (lo - 1))) hi)) ((⟨hi, hi, 0⟩ : Nm))).s))]) Try.agg23 rfl (inOc (k := 2) rfl) rfl rfl) ?_
              refine ops_stm (k := 1) (off := 0) (v := (Value.agg #[(Value.int .i64 ((joinF ((upF ((abF a (lo - 1))) hi)) ((⟨hi, hi, 0⟩ : Nm))).l)), (Value.int .i64 ((joinF ((upF ((abF a (lo - 1))) hi)) ((⟨hi, hi, 0⟩ : Nm))).h)), (Value.int .i64 ((joinF ((upF ((abF a (lo - 1))) hi)) ((⟨hi, hi, 0⟩ : Nm))).s))])) (vs := [(Value.int .i64 ((joinF ((upF ((abF a (lo - 1))) hi)) ((⟨hi, hi, 0⟩ : Nm))).l)), (Value.int .i64 ((joinF ((upF ((abF a (lo - 1))) hi)) ((⟨hi, hi, 0⟩ : Nm))).h)), (Value.int .i64 ((joinF ((upF ((abF a (lo - 1))) hi)) ((⟨hi, hi, 0⟩ : Nm))).s))]) (cs := [(Value.int .i64 0), (Value.int .i64 0), (Value.int .i64 0)]) (cs' := [(Value.int .i64 ((joinF ((upF ((abF a (lo - 1))) hi)) ((⟨hi, hi, 0⟩ : Nm))).l)), (Value.int .i64 ((joinF ((upF ((abF a (lo - 1))) hi)) ((⟨hi, hi, 0⟩ : Nm))).h)), (Value.int .i64 ((joinF ((upF ((abF a (lo - 1))) hi)) ((⟨hi, hi, 0⟩ : Nm))).s))]) Try.size23 rfl rfl rfl rfl rfl rfl (Nat.le_of_ble_eq_true rfl) rfl ?_
              refine oq (qv_as (Value.int .i64 0) rfl) ?_
              refine ops_nil ?_
              refine vc_ret ?_
              refine rs2 (Value.agg #[(Value.int .i64 ((joinF ((upF ((abF a (lo - 1))) hi)) ((⟨hi, hi, 0⟩ : Nm))).l)), (Value.int .i64 ((joinF ((upF ((abF a (lo - 1))) hi)) ((⟨hi, hi, 0⟩ : Nm))).h)), (Value.int .i64 ((joinF ((upF ((abF a (lo - 1))) hi)) ((⟨hi, hi, 0⟩ : Nm))).s))]) (Value.int .i64 0) (rv_c (vs := [(Value.int .i64 ((joinF ((upF ((abF a (lo - 1))) hi)) ((⟨hi, hi, 0⟩ : Nm))).l)), (Value.int .i64 ((joinF ((upF ((abF a (lo - 1))) hi)) ((⟨hi, hi, 0⟩ : Nm))).h)), (Value.int .i64 ((joinF ((upF ((abF a (lo - 1))) hi)) ((⟨hi, hi, 0⟩ : Nm))).s))]) Try.agg23 rfl (inOc (k := 1) rfl) rfl rfl) (rv_t rfl) ?_
              exact tup2 (aggc (consc (congrArg (Value.int .i64) (show ((joinF ((upF ((abF a (lo - 1))) hi)) ((⟨hi, hi, 0⟩ : Nm))).l) = ((clN a lo hi).l) from by first | (rw [clN_0 hE, ← clR_eq hv k2 k3 k1, clR_ee (by first | assumption | exact Decidable.not_not.1 (by assumption)) (by first | assumption | exact Decidable.not_not.1 (by assumption))]; done) | (rw [clN_0 hE, ← clR_eq hv k2 k3 k1, clR_ne (by first | assumption | exact Decidable.not_not.1 (by assumption)) (by first | assumption | exact Decidable.not_not.1 (by assumption))]; done) | (rw [clN_0 hE, ← clR_eq hv k2 k3 k1, clR_en (by first | assumption | exact Decidable.not_not.1 (by assumption)) (by first | assumption | exact Decidable.not_not.1 (by assumption))]; done) | (rw [clN_0 hE, ← clR_eq hv k2 k3 k1, clR_nn (by first | assumption | exact Decidable.not_not.1 (by assumption)) (by first | assumption | exact Decidable.not_not.1 (by assumption))]; done))) (consc (congrArg (Value.int .i64) (show ((joinF ((upF ((abF a (lo - 1))) hi)) ((⟨hi, hi, 0⟩ : Nm))).h) = ((clN a lo hi).h) from by first | (rw [clN_0 hE, ← clR_eq hv k2 k3 k1, clR_ee (by first | assumption | exact Decidable.not_not.1 (by assumption)) (by first | assumption | exact Decidable.not_not.1 (by assumption))]; done) | (rw [clN_0 hE, ← clR_eq hv k2 k3 k1, clR_ne (by first | assumption | exact Decidable.not_not.1 (by assumption)) (by first | assumption | exact Decidable.not_not.1 (by assumption))]; done) | (rw [clN_0 hE, ← clR_eq hv k2 k3 k1, clR_en (by first | assumption | exact Decidable.not_not.1 (by assumption)) (by first | assumption | exact Decidable.not_not.1 (by assumption))]; done) | (rw [clN_0 hE, ← clR_eq hv k2 k3 k1, clR_nn (by first | assumption | exact Decidable.not_not.1 (by assumption)) (by first | assumption | exact Decidable.not_not.1 (by assumption))]; done))) (consc (congrArg (Value.int .i64) (show ((joinF ((upF ((abF a (lo - 1))) hi)) ((⟨hi, hi, 0⟩ : Nm))).s) = ((clN a lo hi).s) from by first | (rw [clN_0 hE, ← clR_eq hv k2 k3 k1, clR_ee (by first | assumption | exact Decidable.not_not.1 (by assumption)) (by first | assumption | exact Decidable.not_not.1 (by assumption))]; done) | (rw [clN_0 hE, ← clR_eq hv k2 k3 k1, clR_ne (by first | assumption | exact Decidable.not_not.1 (by assumption)) (by first | assumption | exact Decidable.not_not.1 (by assumption))]; done) | (rw [clN_0 hE, ← clR_eq hv k2 k3 k1, clR_en (by first | assumption | exact Decidable.not_not.1 (by assumption)) (by first | assumption | exact Decidable.not_not.1 (by assumption))]; done) | (rw [clN_0 hE, ← clR_eq hv k2 k3 k1, clR_nn (by first | assumption | exact Decidable.not_not.1 (by assumption)) (by first | assumption | exact Decidable.not_not.1 (by assumption))]; done))) rfl)))) (congrArg (Value.int .i64) (show 0 = (clE a lo hi) from by first | (rw [clE_1 (by assumption)]; done) | (rw [clE_3 (Decidable.not_not.1 (by assumption)) hno]; done) | (rw [hE]; done)))
            ·
              refine vc_skip ?_
              refine vc_seq ?_
              refine vc_region ?_
              refine oq (qv_ldm (vs := [(Value.int .i64 ((upF ((abF a (lo - 1))) hi).l)), (Value.int .i64 ((upF ((abF a (lo - 1))) hi).h)), (Value.int .i64 ((upF ((abF a (lo - 1))) hi).s))]) Try.agg23 rfl (inOc (k := 2) rfl) rfl rfl) ?_
              refine ops_stm (k := 1) (off := 0) (v := (Value.agg #[(Value.int .i64 ((upF ((abF a (lo - 1))) hi).l)), (Value.int .i64 ((upF ((abF a (lo - 1))) hi).h)), (Value.int .i64 ((upF ((abF a (lo - 1))) hi).s))])) (vs := [(Value.int .i64 ((upF ((abF a (lo - 1))) hi).l)), (Value.int .i64 ((upF ((abF a (lo - 1))) hi).h)), (Value.int .i64 ((upF ((abF a (lo - 1))) hi).s))]) (cs := [(Value.int .i64 0), (Value.int .i64 0), (Value.int .i64 0)]) (cs' := [(Value.int .i64 ((upF ((abF a (lo - 1))) hi).l)), (Value.int .i64 ((upF ((abF a (lo - 1))) hi).h)), (Value.int .i64 ((upF ((abF a (lo - 1))) hi).s))]) Try.size23 rfl rfl rfl rfl rfl rfl (Nat.le_of_ble_eq_true rfl) rfl ?_
              refine oq (qv_as (Value.int .i64 0) rfl) ?_
              refine ops_nil ?_
              refine vc_ret ?_
              refine rs2 (Value.agg #[(Value.int .i64 ((upF ((abF a (lo - 1))) hi).l)), (Value.int .i64 ((upF ((abF a (lo - 1))) hi).h)), (Value.int .i64 ((upF ((abF a (lo - 1))) hi).s))]) (Value.int .i64 0) (rv_c (vs := [(Value.int .i64 ((upF ((abF a (lo - 1))) hi).l)), (Value.int .i64 ((upF ((abF a (lo - 1))) hi).h)), (Value.int .i64 ((upF ((abF a (lo - 1))) hi).s))]) Try.agg23 rfl (inOc (k := 1) rfl) rfl rfl) (rv_t rfl) ?_
              exact tup2 (aggc (consc (congrArg (Value.int .i64) (show ((upF ((abF a (lo - 1))) hi).l) = ((clN a lo hi).l) from by first | (rw [clN_0 hE, ← clR_eq hv k2 k3 k1, clR_ee (by first | assumption | exact Decidable.not_not.1 (by assumption)) (by first | assumption | exact Decidable.not_not.1 (by assumption))]; done) | (rw [clN_0 hE, ← clR_eq hv k2 k3 k1, clR_ne (by first | assumption | exact Decidable.not_not.1 (by assumption)) (by first | assumption | exact Decidable.not_not.1 (by assumption))]; done) | (rw [clN_0 hE, ← clR_eq hv k2 k3 k1, clR_en (by first | assumption | exact Decidable.not_not.1 (by assumption)) (by first | assumption | exact Decidable.not_not.1 (by assumption))]; done) | (rw [clN_0 hE, ← clR_eq hv k2 k3 k1, clR_nn (by first | assumption | exact Decidable.not_not.1 (by assumption)) (by first | assumption | exact Decidable.not_not.1 (by assumption))]; done))) (consc (congrArg (Value.int .i64) (show ((upF ((abF a (lo - 1))) hi).h) = ((clN a lo hi).h) from by first | (rw [clN_0 hE, ← clR_eq hv k2 k3 k1, clR_ee (by first | assumption | exact Decidable.not_not.1 (by assumption)) (by first | assumption | exact Decidable.not_not.1 (by assumption))]; done) | (rw [clN_0 hE, ← clR_eq hv k2 k3 k1, clR_ne (by first | assumption | exact Decidable.not_not.1 (by assumption)) (by first | assumption | exact Decidable.not_not.1 (by assumption))]; done) | (rw [clN_0 hE, ← clR_eq hv k2 k3 k1, clR_en (by first | assumption | exact Decidable.not_not.1 (by assumption)) (by first | assumption | exact Decidable.not_not.1 (by assumption))]; done) | (rw [clN_0 hE, ← clR_eq hv k2 k3 k1, clR_nn (by first | assumption | exact Decidable.not_not.1 (by assumption)) (by first | assumption | exact Decidable.not_not.1 (by assumption))]; done))) (consc (congrArg (Value.int .i64) (show ((upF ((abF a (lo - 1))) hi).s) = ((clN a lo hi).s) from by first | (rw [clN_0 hE, ← clR_eq hv k2 k3 k1, clR_ee (by first | assumption | exact Decidable.not_not.1 (by assumption)) (by first | assumption | exact Decidable.not_not.1 (by assumption))]; done) | (rw [clN_0 hE, ← clR_eq hv k2 k3 k1, clR_ne (by first | assumption | exact Decidable.not_not.1 (by assumption)) (by first | assumption | exact Decidable.not_not.1 (by assumption))]; done) | (rw [clN_0 hE, ← clR_eq hv k2 k3 k1, clR_en (by first | assumption | exact Decidable.not_not.1 (by assumption)) (by first | assumption | exact Decidable.not_not.1 (by assumption))]; done) | (rw [clN_0 hE, ← clR_eq hv k2 k3 k1, clR_nn (by first | assumption | exact Decidable.not_not.1 (by assumption)) (by first | assumption | exact Decidable.not_not.1 (by assumption))]; done))) rfl)))) (congrArg (Value.int .i64) (show 0 = (clE a lo hi) from by first | (rw [clE_1 (by assumption)]; done) | (rw [clE_3 (Decidable.not_not.1 (by assumption)) hno]; done) | (rw [hE]; done)))

set_option maxRecDepth 100000 in
set_option maxHeartbeats 4000000 in
theorem NumericClamps_n {V : HV} {a : Nm} {lo hi : Int} :
    FnC Try.prog 8 [(Value.agg #[(Value.int .i64 (a.l)), (Value.int .i64 (a.h)), (Value.int .i64 (a.s))]), (Value.int .i64 lo), (Value.int .i64 hi)] V [] (fun v _ _ => v = (Value.bool true)) := by
  refine fn_intro (N := 76) Try.func8 (by kernel_rfl) rfl rfl rfl (Nat.le_of_ble_eq_true rfl) ?_
  intro w0 D
  refine vc_seq ?_
  refine vc_region ?_
  refine ops_box (v := (Value.agg #[(Value.int .i64 (a.l)), (Value.int .i64 (a.h)), (Value.int .i64 (a.s))])) (cs := [(Value.int .i64 (a.l)), (Value.int .i64 (a.h)), (Value.int .i64 (a.s))]) rfl rfl (fun b1 => ?_)
  refine oq (qv_as (Value.bool false) rfl) ?_
  refine ops_nil ?_
  refine vc_seq ?_
  refine vc_seq ?_
  refine vc_res (σ' := [(Arr 23 b1 [(Value.int .i64 (a.l)), (Value.int .i64 (a.h)), (Value.int .i64 (a.s))])]) rfl ?_
  refine vc_region ?_
  refine oq (qv_call (v := (Value.bool true)) (known_c) rfl rfl) ?_
  refine oq (qv_notc rfl) ?_
  refine ops_nil ?_
  refine vc_ff rfl ?_
  refine vc_skip ?_
  refine vc_seq ?_
  refine vc_region ?_
  refine oq (qv_ldm (vs := [(Value.int .i64 (a.l)), (Value.int .i64 (a.h)), (Value.int .i64 (a.s))]) Try.agg23 rfl (inOc (k := 0) rfl) rfl rfl) ?_
  refine oq (qv_mv (Value.int .i64 lo) rfl) ?_
  refine oq (qv_mv (Value.int .i64 hi) rfl) ?_
  refine oq (qv_call (v := (Value.tuple #[(Value.agg #[(Value.int .i64 ((clN a lo hi).l)), (Value.int .i64 ((clN a lo hi).h)), (Value.int .i64 ((clN a lo hi).s))]), (Value.int .i64 (clE a lo hi))])) (Clamp_c (a := a)) rfl rfl) ?_
  refine oq (qv_mv (Value.tuple #[(Value.agg #[(Value.int .i64 ((clN a lo hi).l)), (Value.int .i64 ((clN a lo hi).h)), (Value.int .i64 ((clN a lo hi).s))]), (Value.int .i64 (clE a lo hi))]) rfl) ?_
  refine oq (qv_ext (Value.agg #[(Value.int .i64 ((clN a lo hi).l)), (Value.int .i64 ((clN a lo hi).h)), (Value.int .i64 ((clN a lo hi).s))]) rfl rfl) ?_
  refine oq (qv_ext (Value.int .i64 (clE a lo hi)) rfl rfl) ?_
  refine ops_alloc Try.ti23 rfl (fun b2 => ?_)
  refine ops_stm (k := 1) (off := 0) (v := (Value.agg #[(Value.int .i64 ((clN a lo hi).l)), (Value.int .i64 ((clN a lo hi).h)), (Value.int .i64 ((clN a lo hi).s))])) (vs := [(Value.int .i64 ((clN a lo hi).l)), (Value.int .i64 ((clN a lo hi).h)), (Value.int .i64 ((clN a lo hi).s))]) (cs := [(Value.int .i64 0), (Value.int .i64 0), (Value.int .i64 0)]) (cs' := [(Value.int .i64 ((clN a lo hi).l)), (Value.int .i64 ((clN a lo hi).h)), (Value.int .i64 ((clN a lo hi).s))]) Try.size23 rfl rfl rfl rfl rfl rfl (Nat.le_of_ble_eq_true rfl) rfl ?_
  refine oq (qv_as (Value.int .i64 (clE a lo hi)) rfl) ?_
  refine ops_nil ?_
  refine vc_seq ?_
  refine vc_res (σ' := [(Arr 23 b1 [(Value.int .i64 (a.l)), (Value.int .i64 (a.h)), (Value.int .i64 (a.s))]), (Arr 23 b2 [(Value.int .i64 ((clN a lo hi).l)), (Value.int .i64 ((clN a lo hi).h)), (Value.int .i64 ((clN a lo hi).s))])]) rfl ?_
  refine vc_region ?_
  refine oq (qv_ldm (vs := [(Value.int .i64 (a.l)), (Value.int .i64 (a.h)), (Value.int .i64 (a.s))]) Try.agg23 rfl (inOc (k := 0) rfl) rfl rfl) ?_
  refine oq (qv_mv (Value.int .i64 lo) rfl) ?_
  refine oq (qv_mv (Value.int .i64 hi) rfl) ?_
  refine oq (qv_call (v := (Value.tuple #[(Value.agg #[(Value.int .i64 ((clN a lo hi).l)), (Value.int .i64 ((clN a lo hi).h)), (Value.int .i64 ((clN a lo hi).s))]), (Value.int .i64 (clE a lo hi))])) (rClamp_c (a := a)) rfl rfl) ?_
  refine oq (qv_mv (Value.tuple #[(Value.agg #[(Value.int .i64 ((clN a lo hi).l)), (Value.int .i64 ((clN a lo hi).h)), (Value.int .i64 ((clN a lo hi).s))]), (Value.int .i64 (clE a lo hi))]) rfl) ?_
  refine oq (qv_ext (Value.agg #[(Value.int .i64 ((clN a lo hi).l)), (Value.int .i64 ((clN a lo hi).h)), (Value.int .i64 ((clN a lo hi).s))]) rfl rfl) ?_
  refine oq (qv_ext (Value.int .i64 (clE a lo hi)) rfl rfl) ?_
  refine ops_alloc Try.ti23 rfl (fun b3 => ?_)
  refine ops_stm (k := 2) (off := 0) (v := (Value.agg #[(Value.int .i64 ((clN a lo hi).l)), (Value.int .i64 ((clN a lo hi).h)), (Value.int .i64 ((clN a lo hi).s))])) (vs := [(Value.int .i64 ((clN a lo hi).l)), (Value.int .i64 ((clN a lo hi).h)), (Value.int .i64 ((clN a lo hi).s))]) (cs := [(Value.int .i64 0), (Value.int .i64 0), (Value.int .i64 0)]) (cs' := [(Value.int .i64 ((clN a lo hi).l)), (Value.int .i64 ((clN a lo hi).h)), (Value.int .i64 ((clN a lo hi).s))]) Try.size23 rfl rfl rfl rfl rfl rfl (Nat.le_of_ble_eq_true rfl) rfl ?_
  refine oq (qv_as (Value.int .i64 (clE a lo hi)) rfl) ?_
  refine ops_nil ?_
  refine vc_seq ?_
  refine vc_res (σ' := [(Arr 23 b1 [(Value.int .i64 (a.l)), (Value.int .i64 (a.h)), (Value.int .i64 (a.s))]), (Arr 23 b2 [(Value.int .i64 ((clN a lo hi).l)), (Value.int .i64 ((clN a lo hi).h)), (Value.int .i64 ((clN a lo hi).s))]), (Arr 23 b3 [(Value.int .i64 ((clN a lo hi).l)), (Value.int .i64 ((clN a lo hi).h)), (Value.int .i64 ((clN a lo hi).s))])]) rfl ?_
  refine vc_region ?_
  refine oq (qv_ldm (vs := [(Value.int .i64 (a.l)), (Value.int .i64 (a.h)), (Value.int .i64 (a.s))]) Try.agg23 rfl (inOc (k := 0) rfl) rfl rfl) ?_
  refine oq (qv_mv (Value.int .i64 lo) rfl) ?_
  refine oq (qv_call (v := (Value.tuple #[(Value.agg #[(Value.int .i64 ((spU a lo).l)), (Value.int .i64 ((spU a lo).h)), (Value.int .i64 ((spU a lo).s))]), (Value.agg #[(Value.int .i64 ((spA a lo).l)), (Value.int .i64 ((spA a lo).h)), (Value.int .i64 ((spA a lo).s))]), (Value.int .i64 (spE a))])) (Split_c (a := a)) rfl rfl) ?_
  refine oq (qv_mv (Value.tuple #[(Value.agg #[(Value.int .i64 ((spU a lo).l)), (Value.int .i64 ((spU a lo).h)), (Value.int .i64 ((spU a lo).s))]), (Value.agg #[(Value.int .i64 ((spA a lo).l)), (Value.int .i64 ((spA a lo).h)), (Value.int .i64 ((spA a lo).s))]), (Value.int .i64 (spE a))]) rfl) ?_
  refine oq (qv_ext (Value.agg #[(Value.int .i64 ((spU a lo).l)), (Value.int .i64 ((spU a lo).h)), (Value.int .i64 ((spU a lo).s))]) rfl rfl) ?_
  refine oq (qv_ext (Value.agg #[(Value.int .i64 ((spA a lo).l)), (Value.int .i64 ((spA a lo).h)), (Value.int .i64 ((spA a lo).s))]) rfl rfl) ?_
  refine oq (qv_ext (Value.int .i64 (spE a)) rfl rfl) ?_
  refine ops_alloc Try.ti23 rfl (fun b4 => ?_)
  refine ops_alloc Try.ti23 rfl (fun b5 => ?_)
  refine ops_stm (k := 3) (off := 0) (v := (Value.agg #[(Value.int .i64 ((spU a lo).l)), (Value.int .i64 ((spU a lo).h)), (Value.int .i64 ((spU a lo).s))])) (vs := [(Value.int .i64 ((spU a lo).l)), (Value.int .i64 ((spU a lo).h)), (Value.int .i64 ((spU a lo).s))]) (cs := [(Value.int .i64 0), (Value.int .i64 0), (Value.int .i64 0)]) (cs' := [(Value.int .i64 ((spU a lo).l)), (Value.int .i64 ((spU a lo).h)), (Value.int .i64 ((spU a lo).s))]) Try.size23 rfl rfl rfl rfl rfl rfl (Nat.le_of_ble_eq_true rfl) rfl ?_
  refine ops_stm (k := 4) (off := 0) (v := (Value.agg #[(Value.int .i64 ((spA a lo).l)), (Value.int .i64 ((spA a lo).h)), (Value.int .i64 ((spA a lo).s))])) (vs := [(Value.int .i64 ((spA a lo).l)), (Value.int .i64 ((spA a lo).h)), (Value.int .i64 ((spA a lo).s))]) (cs := [(Value.int .i64 0), (Value.int .i64 0), (Value.int .i64 0)]) (cs' := [(Value.int .i64 ((spA a lo).l)), (Value.int .i64 ((spA a lo).h)), (Value.int .i64 ((spA a lo).s))]) Try.size23 rfl rfl rfl rfl rfl rfl (Nat.le_of_ble_eq_true rfl) rfl ?_
  refine oq (qv_as (Value.int .i64 (spE a)) rfl) ?_
  refine ops_nil ?_
  refine vc_seq ?_
  refine vc_seq ?_
  refine vc_res (σ' := [(Arr 23 b1 [(Value.int .i64 (a.l)), (Value.int .i64 (a.h)), (Value.int .i64 (a.s))]), (Arr 23 b2 [(Value.int .i64 ((clN a lo hi).l)), (Value.int .i64 ((clN a lo hi).h)), (Value.int .i64 ((clN a lo hi).s))]), (Arr 23 b3 [(Value.int .i64 ((clN a lo hi).l)), (Value.int .i64 ((clN a lo hi).h)), (Value.int .i64 ((clN a lo hi).s))]), (Arr 23 b4 [(Value.int .i64 ((spU a lo).l)), (Value.int .i64 ((spU a lo).h)), (Value.int .i64 ((spU a lo).s))]), (Arr 23 b5 [(Value.int .i64 ((spA a lo).l)), (Value.int .i64 ((spA a lo).h)), (Value.int .i64 ((spA a lo).s))])]) rfl ?_
  refine vc_region ?_
  refine oq (qv_ldm (vs := [(Value.int .i64 ((clN a lo hi).l)), (Value.int .i64 ((clN a lo hi).h)), (Value.int .i64 ((clN a lo hi).s))]) Try.agg23 rfl (inOc (k := 1) rfl) rfl rfl) ?_
  refine oq (qv_ldm (vs := [(Value.int .i64 ((clN a lo hi).l)), (Value.int .i64 ((clN a lo hi).h)), (Value.int .i64 ((clN a lo hi).s))]) Try.agg23 rfl (inOc (k := 2) rfl) rfl rfl) ?_
  refine oq (qv_neqs Try.eq23 [(clN a lo hi).l, (clN a lo hi).h, (clN a lo hi).s] [(clN a lo hi).l, (clN a lo hi).h, (clN a lo hi).s] rfl rfl rfl rfl rfl rfl eq3) ?_
  refine oq (qv_mv (Value.bool (decide (¬ (((clN a lo hi).l) = ((clN a lo hi).l) ∧ ((clN a lo hi).h) = ((clN a lo hi).h) ∧ ((clN a lo hi).s) = ((clN a lo hi).s))))) rfl) ?_
  by_cases g1 : ¬ (((clN a lo hi).l) = ((clN a lo hi).l) ∧ ((clN a lo hi).h) = ((clN a lo hi).h) ∧ ((clN a lo hi).s) = ((clN a lo hi).s))
  ·
    exact absurd ⟨rfl, rfl, rfl⟩ g1
  ·
    refine og (qv_mv (Value.int .i64 (clE a lo hi)) rfl) (want_f g1 rfl rfl rfl) ?_
    refine og (qv_mv (Value.int .i64 (clE a lo hi)) rfl) (want_f g1 rfl rfl rfl) ?_
    refine og (qv_neq rfl rfl) (want_f g1 rfl rfl rfl) ?_
    refine oq (qv_pick_f g1 rfl (rfl : ev _ _ = (Value.bool (decide ((clE a lo hi) ≠ (clE a lo hi)))))) ?_
    refine ops_nil ?_
    refine vc_if rfl (fun c1 => ?_) (fun c1 => ?_)
    ·
      exact absurd rfl c1
    ·
      refine vc_skip ?_
      refine vc_seq ?_
      refine vc_seq ?_
      refine vc_region ?_
      refine oq (qv_ldm (vs := [(Value.int .i64 (a.l)), (Value.int .i64 (a.h)), (Value.int .i64 (a.s))]) Try.agg23 rfl (inOc (k := 0) rfl) rfl rfl) ?_
      refine oq (qv_call (v := (Value.bool (decide (vld a)))) (rValid_c (a := a)) rfl rfl) ?_
      refine oq (qv_not rfl) ?_
      refine ops_nil ?_
      refine vc_if rfl (fun c2 => ?_) (fun c2 => ?_)
      ·
        refine vc_seq ?_
        have q1 : spE a = 1 := if_neg (by assumption)
        have q2 := nm_iff.1 (show spU a lo = ⟨0, 0, 0⟩ from if_neg (by assumption))
        have q3 := nm_iff.1 (show spA a lo = ⟨0, 0, 0⟩ from if_neg (by assumption))
        refine vc_region ?_
        refine oq (qv_mv (Value.int .i64 (spE a)) rfl) ?_
        refine oq (qv_eql rfl rfl) ?_
        refine oq (qv_mv (Value.bool (decide ((spE a) = 1))) rfl) ?_
        by_cases g2 : (spE a) = 1
        ·
          refine og (qv_ldm (vs := [(Value.int .i64 ((spU a lo).l)), (Value.int .i64 ((spU a lo).h)), (Value.int .i64 ((spU a lo).s))]) Try.agg23 rfl (inOc (k := 3) rfl) rfl rfl) (want_t g2 rfl rfl rfl) ?_
          refine og (qv_build (out := [(Value.int .i64 0), (Value.int .i64 0), (Value.int .i64 0)]) Try.build23 [] rfl rfl) (want_t g2 rfl rfl rfl) ?_
          refine og (qv_eqls Try.eq23 [(spU a lo).l, (spU a lo).h, (spU a lo).s] [0, 0, 0] rfl rfl rfl rfl rfl rfl eq3) (want_t g2 rfl rfl rfl) ?_
          refine oq (qv_pick_t g2 rfl (rfl : ev _ _ = (Value.bool (decide (((spU a lo).l) = 0 ∧ ((spU a lo).h) = 0 ∧ ((spU a lo).s) = 0))))) ?_
          refine oq (qv_mv (Value.bool (decide (((spU a lo).l) = 0 ∧ ((spU a lo).h) = 0 ∧ ((spU a lo).s) = 0))) rfl) ?_
          by_cases g3 : ((spU a lo).l) = 0 ∧ ((spU a lo).h) = 0 ∧ ((spU a lo).s) = 0
          ·
            refine og (qv_ldm (vs := [(Value.int .i64 ((spA a lo).l)), (Value.int .i64 ((spA a lo).h)), (Value.int .i64 ((spA a lo).s))]) Try.agg23 rfl (inOc (k := 4) rfl) rfl rfl) (want_t g3 rfl rfl rfl) ?_
            refine og (qv_build (out := [(Value.int .i64 0), (Value.int .i64 0), (Value.int .i64 0)]) Try.build23 [] rfl rfl) (want_t g3 rfl rfl rfl) ?_
            refine og (qv_eqls Try.eq23 [(spA a lo).l, (spA a lo).h, (spA a lo).s] [0, 0, 0] rfl rfl rfl rfl rfl rfl eq3) (want_t g3 rfl rfl rfl) ?_
            refine oq (qv_pick_t g3 rfl (rfl : ev _ _ = (Value.bool (decide (((spA a lo).l) = 0 ∧ ((spA a lo).h) = 0 ∧ ((spA a lo).s) = 0))))) ?_
            refine oq (qv_as (Value.bool (decide (((spA a lo).l) = 0 ∧ ((spA a lo).h) = 0 ∧ ((spA a lo).s) = 0))) rfl) ?_
            refine ops_nil ?_
            refine vc_ret ?_
            exact rq1 (Value.bool true) (congrArg Value.bool (decide_eq_true (show (((spA a lo).l) = 0 ∧ ((spA a lo).h) = 0 ∧ ((spA a lo).s) = 0) from by exact q3))) rfl
          ·
            exact absurd q2 g3
        ·
          exact absurd q1 g2
      ·
        refine vc_skip ?_
        refine vc_seq ?_
        have hv : vld a := Decidable.not_not.1 (by assumption)
        have q1 : spE a = 0 := if_pos hv
        have q2 := nm_iff.1 (show spU a lo = upF a lo from if_pos hv)
        have q3 := nm_iff.1 (show spA a lo = abF a lo from if_pos hv)
        refine vc_region_any Try.mixed (by kernel_rfl) ?_
        refine qq (qv_mv (Value.int .i64 (spE a)) rfl) ?_
        refine qq (qv_eql rfl rfl) ?_
        refine qq (qv_mv (Value.bool (decide ((spE a) = 0))) rfl) ?_
        by_cases g4 : (spE a) = 0
        ·
          refine qg (qv_ldm (vs := [(Value.int .i64 ((spU a lo).l)), (Value.int .i64 ((spU a lo).h)), (Value.int .i64 ((spU a lo).s))]) Try.agg23 rfl (inOc (k := 3) rfl) rfl rfl) (want_t g4 rfl rfl rfl) ?_
          refine qg (qv_ldm (vs := [(Value.int .i64 (a.l)), (Value.int .i64 (a.h)), (Value.int .i64 (a.s))]) Try.agg23 rfl (inOc (k := 0) rfl) rfl rfl) (want_t g4 rfl rfl rfl) ?_
          refine qg (qv_mv (Value.int .i64 lo) rfl) (want_t g4 rfl rfl rfl) ?_
          refine qg (qv_call (v := (Value.agg #[(Value.int .i64 ((upF a lo).l)), (Value.int .i64 ((upF a lo).h)), (Value.int .i64 ((upF a lo).s))])) (rUpto_c (a := a) (by first | exact hv | exact r1)) rfl rfl) (want_t g4 rfl rfl rfl) ?_
          refine qg (qv_eqls Try.eq23 [(spU a lo).l, (spU a lo).h, (spU a lo).s] [(upF a lo).l, (upF a lo).h, (upF a lo).s] rfl rfl rfl rfl rfl rfl eq3) (want_t g4 rfl rfl rfl) ?_
          refine qq (qv_pick_t g4 rfl (rfl : ev _ _ = (Value.bool (decide (((spU a lo).l) = ((upF a lo).l) ∧ ((spU a lo).h) = ((upF a lo).h) ∧ ((spU a lo).s) = ((upF a lo).s)))))) ?_
          refine qq (qv_mv (Value.bool (decide (((spU a lo).l) = ((upF a lo).l) ∧ ((spU a lo).h) = ((upF a lo).h) ∧ ((spU a lo).s) = ((upF a lo).s)))) rfl) ?_
          by_cases g5 : ((spU a lo).l) = ((upF a lo).l) ∧ ((spU a lo).h) = ((upF a lo).h) ∧ ((spU a lo).s) = ((upF a lo).s)
          ·
            refine qg (qv_ldm (vs := [(Value.int .i64 ((spA a lo).l)), (Value.int .i64 ((spA a lo).h)), (Value.int .i64 ((spA a lo).s))]) Try.agg23 rfl (inOc (k := 4) rfl) rfl rfl) (want_t g5 rfl rfl rfl) ?_
            refine qg (qv_ldm (vs := [(Value.int .i64 (a.l)), (Value.int .i64 (a.h)), (Value.int .i64 (a.s))]) Try.agg23 rfl (inOc (k := 0) rfl) rfl rfl) (want_t g5 rfl rfl rfl) ?_
            refine qg (qv_mv (Value.int .i64 lo) rfl) (want_t g5 rfl rfl rfl) ?_
            refine qg (qv_call (v := (Value.agg #[(Value.int .i64 ((abF a lo).l)), (Value.int .i64 ((abF a lo).h)), (Value.int .i64 ((abF a lo).s))])) (rAbove_c (a := a) (by first | exact hv | exact r1)) rfl rfl) (want_t g5 rfl rfl rfl) ?_
            refine qg (qv_eqls Try.eq23 [(spA a lo).l, (spA a lo).h, (spA a lo).s] [(abF a lo).l, (abF a lo).h, (abF a lo).s] rfl rfl rfl rfl rfl rfl eq3) (want_t g5 rfl rfl rfl) ?_
            refine qq (qv_pick_t g5 rfl (rfl : ev _ _ = (Value.bool (decide (((spA a lo).l) = ((abF a lo).l) ∧ ((spA a lo).h) = ((abF a lo).h) ∧ ((spA a lo).s) = ((abF a lo).s)))))) ?_
            refine qq (qv_as (Value.bool (decide (((spA a lo).l) = ((abF a lo).l) ∧ ((spA a lo).h) = ((abF a lo).h) ∧ ((spA a lo).s) = ((abF a lo).s)))) rfl) ?_
            refine qops_nil ?_
            refine vc_ret ?_
            exact rq1 (Value.bool true) (congrArg Value.bool (decide_eq_true (show (((spA a lo).l) = ((abF a lo).l) ∧ ((spA a lo).h) = ((abF a lo).h) ∧ ((spA a lo).s) = ((abF a lo).s)) from by exact q3))) rfl
          ·
            exact absurd q2 g5
        ·
          exact absurd q1 g4

theorem NumericClamps_c {V : HV} {al ah ax lo hi : Int} : FnC Try.prog 8 [Value.agg #[.int .i64 al, .int .i64 ah, .int .i64 ax], .int .i64 lo, .int .i64 hi] V [] (fun v _ _ => v = .bool true) := NumericClamps_n (a := ⟨al, ah, ax⟩)
end Go.Proofs.Ytapkilaikcihgaa
