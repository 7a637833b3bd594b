/- Walks of numeric: what each function returns. Printed by a program out of notes. -/
import Derived.Test.YtapkilaikcihgaaNf
namespace Go.Proofs.Ytapkilaikcihgaa
open Go.Vc
open Classical

set_option maxRecDepth 100000 in
set_option maxHeartbeats 4000000 in
theorem split_c {V : HV} {a : Nm} {x : Int} (ha : vld a) :
    FnC Try.prog 78 [(.agg #[(.int .i64 a.l), (.int .i64 a.h), (.int .i64 a.s)]), (Value.int .i64 x)] V [] (fun v _ _ => v = .tuple #[(.agg #[(.int .i64 ((upF a x).l)), (.int .i64 ((upF a x).h)), (.int .i64 ((upF a x).s))]), (.agg #[(.int .i64 ((abF a x).l)), (.int .i64 ((abF a x).h)), (.int .i64 ((abF a x).s))])]) := by
 refine fn_intro (N := 42) Try.func78 (by kernel_rfl) rfl rfl rfl (Nat.le_of_ble_eq_true rfl) ?_
 intro w0 D
 refine vc_seq ?_
 refine vc_region ?_
 refine ops_box (v := (.agg #[(.int .i64 a.l), (.int .i64 a.h), (.int .i64 a.s)])) (cs := [(.int .i64 a.l), (.int .i64 a.h), (.int .i64 a.s)]) rfl rfl (fun b1 => ?_)
 refine ops_alloc Try.ti23 rfl (fun b2 => ?_)
 refine ops_alloc Try.ti23 rfl (fun b3 => ?_)
 refine ops_nil ?_
 refine vc_seq ?_
 refine vc_block ?_
 refine vc_seq ?_
 refine vc_res (σ' := [(Arr 23 b1 [(.int .i64 a.l), (.int .i64 a.h), (.int .i64 a.s)]), (Arr 23 b2 [(Value.int .i64 0), (Value.int .i64 0), (Value.int .i64 0)]), (Arr 23 b3 [(Value.int .i64 0), (Value.int .i64 0), (Value.int .i64 0)])]) rfl ?_
 refine vc_region ?_
 refine oq (qv_ldm (vs := [(.int .i64 a.l), (.int .i64 a.h), (.int .i64 a.s)]) Try.agg23 rfl (inOc (k := 0) rfl) rfl rfl) ?_
 refine oq (qv_call (v := (.bool (decide (a = nE)))) (isEmpty_c (a := a)) rfl rfl) ?_
 refine oq (qv_mv (.bool (decide (a = nE))) rfl) ?_
 by_cases g1 : a = nE
 ·
  refine os (want_fn g1 rfl rfl rfl) ?_
  refine os (want_fn g1 rfl rfl rfl) ?_
  refine os (want_fn g1 rfl rfl rfl) ?_
  refine os (want_fn g1 rfl rfl rfl) ?_
  refine oq (qv_pick_t g1 rfl (rfl : ev _ _ = (Value.bool true))) ?_
  refine oq (qv_as (Value.bool true) rfl) ?_
  refine ops_nil ?_
  refine vc_tt rfl ?_
  refine vc_seq ?_
  have hc : a = nE ∨ x < a.l := by first | exact Or.inl (by assumption) | exact Or.inr (by assumption)
  refine vc_region_order (τ := [(Arr 23 b2 [(Value.int .i64 0), (Value.int .i64 0), (Value.int .i64 0)])]) [(0, false), (1, false), (2, true), (3, true)] [(Arr 23 b1 [(.int .i64 a.l), (.int .i64 a.h), (.int .i64 a.s)]), (Arr 23 b3 [(Value.int .i64 0), (Value.int .i64 0), (Value.int .i64 0)])] Try.mixed (perm_idx _ _ [0, 2, 1] rfl rfl) (by kernel_rfl) ?_
  refine rq rfl (qv_call (v := (.agg #[(.int .i64 nE.l), (.int .i64 nE.h), (.int .i64 nE.s)])) (none_c) rfl rfl) ?_
  refine rq rfl (qv_ldm (vs := [(.int .i64 a.l), (.int .i64 a.h), (.int .i64 a.s)]) Try.agg23 rfl (inOc (k := 0) rfl) rfl rfl) ?_
  refine rl rfl ?_
  refine ops_stw (k := 1) (vs := [(.int .i64 nE.l), (.int .i64 nE.h), (.int .i64 nE.s)]) Try.size23 rfl rfl rfl rfl rfl rfl ?_
  refine ops_nil ⟨[(Arr 23 b1 [(.int .i64 a.l), (.int .i64 a.h), (.int .i64 a.s)]), (Arr 23 b3 [(Value.int .i64 0), (Value.int .i64 0), (Value.int .i64 0)])], [(Arr 23 b2 [(.int .i64 nE.l), (.int .i64 nE.h), (.int .i64 nE.s)])], (Sub.refl _), (perm_idx _ _ [0, 2, 1] rfl rfl), ⟨[], .refl _⟩, ?_⟩
  refine rl1 (by kernel_rfl) rfl ?_
  refine ops_stw (k := 2) (vs := [(.int .i64 a.l), (.int .i64 a.h), (.int .i64 a.s)]) Try.size23 rfl rfl rfl rfl rfl rfl ?_
  refine ops_nil ⟨[(Arr 23 b1 [(.int .i64 a.l), (.int .i64 a.h), (.int .i64 a.s)]), (Arr 23 b3 [(.int .i64 a.l), (.int .i64 a.h), (.int .i64 a.s)])], [(Arr 23 b2 [(.int .i64 nE.l), (.int .i64 nE.h), (.int .i64 nE.s)])], (perm_idx _ _ [0, 2, 1] rfl rfl), ?_⟩
  refine rnil ?_
  refine vc_ret ?_
  refine blockQ_ret ?_
  refine rs2 _ _ (rv_c (vs := [(.int .i64 nE.l), (.int .i64 nE.h), (.int .i64 nE.s)]) Try.agg23 rfl (inOc (k := 1) rfl) rfl rfl) (rv_c (vs := [(.int .i64 a.l), (.int .i64 a.h), (.int .i64 a.s)]) Try.agg23 rfl (inOc (k := 2) rfl) rfl rfl) ?_
  exact tup2 (agg3 (show nE = upF a x from by first | (rw [upF_1 hc]; done) | (rw [upF_2 hc (by omega)]; done) | (rw [upF_3 hc (by omega)]; done))) (agg3 (show a = abF a x from by first | (rw [abF_1 hc]; done) | (rw [abF_2 hc (by omega)]; done) | (rw [abF_3 hc (by omega)]; done)))
 ·
  refine og (qv_mv (Value.int .i64 x) rfl) (want_f g1 rfl rfl rfl) ?_
  refine og (qv_fa (off := 0) Try.field23_0 rfl) (want_f g1 rfl rfl rfl) ?_
  refine og (qv_ldp (v := (.int .i64 a.l)) Try.plain3 rfl (inOc (k := 0) rfl) rfl) (want_f g1 rfl rfl rfl) ?_
  refine og (qv_lss rfl rfl) (want_f g1 rfl rfl rfl) ?_
  refine oq (qv_pick_f g1 rfl (rfl : ev _ _ = (.bool (decide (x < a.l))))) ?_
  refine oq (qv_as (.bool (decide (x < a.l))) rfl) ?_
  refine ops_nil ?_
  refine vc_if rfl (fun c1 => ?_) (fun c1 => ?_)
  ·
   refine vc_seq ?_
   have hc : a = nE ∨ x < a.l := by first | exact Or.inl (by assumption) | exact Or.inr (by assumption)
   refine vc_region_order (τ := [(Arr 23 b2 [(Value.int .i64 0), (Value.int .i64 0), (Value.int .i64 0)])]) [(0, false), (1, false), (2, true), (3, true)] [(Arr 23 b1 [(.int .i64 a.l), (.int .i64 a.h), (.int .i64 a.s)]), (Arr 23 b3 [(Value.int .i64 0), (Value.int .i64 0), (Value.int .i64 0)])] Try.mixed (perm_idx _ _ [0, 2, 1] rfl rfl) (by kernel_rfl) ?_
   refine rq rfl (qv_call (v := (.agg #[(.int .i64 nE.l), (.int .i64 nE.h), (.int .i64 nE.s)])) (none_c) rfl rfl) ?_
   refine rq rfl (qv_ldm (vs := [(.int .i64 a.l), (.int .i64 a.h), (.int .i64 a.s)]) Try.agg23 rfl (inOc (k := 0) rfl) rfl rfl) ?_
   refine rl rfl ?_
   refine ops_stw (k := 1) (vs := [(.int .i64 nE.l), (.int .i64 nE.h), (.int .i64 nE.s)]) Try.size23 rfl rfl rfl rfl rfl rfl ?_
   refine ops_nil ⟨[(Arr 23 b1 [(.int .i64 a.l), (.int .i64 a.h), (.int .i64 a.s)]), (Arr 23 b3 [(Value.int .i64 0), (Value.int .i64 0), (Value.int .i64 0)])], [(Arr 23 b2 [(.int .i64 nE.l), (.int .i64 nE.h), (.int .i64 nE.s)])], (Sub.refl _), (perm_idx _ _ [0, 2, 1] rfl rfl), ⟨[], .refl _⟩, ?_⟩
   refine rl1 (by kernel_rfl) rfl ?_
   refine ops_stw (k := 2) (vs := [(.int .i64 a.l), (.int .i64 a.h), (.int .i64 a.s)]) Try.size23 rfl rfl rfl rfl rfl rfl ?_
   refine ops_nil ⟨[(Arr 23 b1 [(.int .i64 a.l), (.int .i64 a.h), (.int .i64 a.s)]), (Arr 23 b3 [(.int .i64 a.l), (.int .i64 a.h), (.int .i64 a.s)])], [(Arr 23 b2 [(.int .i64 nE.l), (.int .i64 nE.h), (.int .i64 nE.s)])], (perm_idx _ _ [0, 2, 1] rfl rfl), ?_⟩
   refine rnil ?_
   refine vc_ret ?_
   refine blockQ_ret ?_
   refine rs2 _ _ (rv_c (vs := [(.int .i64 nE.l), (.int .i64 nE.h), (.int .i64 nE.s)]) Try.agg23 rfl (inOc (k := 1) rfl) rfl rfl) (rv_c (vs := [(.int .i64 a.l), (.int .i64 a.h), (.int .i64 a.s)]) Try.agg23 rfl (inOc (k := 2) rfl) rfl rfl) ?_
   exact tup2 (agg3 (show nE = upF a x from by first | (rw [upF_1 hc]; done) | (rw [upF_2 hc (by omega)]; done) | (rw [upF_3 hc (by omega)]; done))) (agg3 (show a = abF a x from by first | (rw [abF_1 hc]; done) | (rw [abF_2 hc (by omega)]; done) | (rw [abF_3 hc (by omega)]; done)))
  ·
   refine vc_seq ?_
   have hc : ¬ (a = nE ∨ x < a.l) := by rintro (e | e); exact absurd e (by assumption); exact absurd e (by assumption)
   refine vc_region ?_
   refine oq (qv_mv (Value.int .i64 x) rfl) ?_
   refine oq (qv_fa (off := 0) Try.field23_1 rfl) ?_
   refine oq (qv_ldp (v := (.int .i64 a.h)) Try.plain3 rfl (inOc (k := 0) rfl) rfl) ?_
   refine oq (qv_geq rfl rfl) ?_
   refine oq (qv_as (.bool (decide (a.h ≤ x))) rfl) ?_
   refine ops_nil ?_
   refine vc_if rfl (fun c2 => ?_) (fun c2 => ?_)
   ·
    refine vc_seq ?_
    refine vc_region_order (τ := []) [(0, false), (1, false), (2, true), (3, true)] [(Arr 23 b1 [(.int .i64 a.l), (.int .i64 a.h), (.int .i64 a.s)]), (Arr 23 b2 [(Value.int .i64 0), (Value.int .i64 0), (Value.int .i64 0)]), (Arr 23 b3 [(Value.int .i64 0), (Value.int .i64 0), (Value.int .i64 0)])] Try.mixed (perm_nil _) (by kernel_rfl) ?_
    refine rq rfl (qv_ldm (vs := [(.int .i64 a.l), (.int .i64 a.h), (.int .i64 a.s)]) Try.agg23 rfl (inOc (k := 0) rfl) rfl rfl) ?_
    refine rq rfl (qv_call (v := (.agg #[(.int .i64 nE.l), (.int .i64 nE.h), (.int .i64 nE.s)])) (none_c) rfl rfl) ?_
    refine rl1 (by kernel_rfl) rfl ?_
    refine ops_stw (k := 1) (vs := [(.int .i64 a.l), (.int .i64 a.h), (.int .i64 a.s)]) Try.size23 rfl rfl rfl rfl rfl rfl ?_
    refine ops_nil ⟨[(Arr 23 b1 [(.int .i64 a.l), (.int .i64 a.h), (.int .i64 a.s)]), (Arr 23 b2 [(.int .i64 a.l), (.int .i64 a.h), (.int .i64 a.s)]), (Arr 23 b3 [(Value.int .i64 0), (Value.int .i64 0), (Value.int .i64 0)])], [], perm_nil _, ?_⟩
    refine rl1 (by kernel_rfl) rfl ?_
    refine ops_stw (k := 2) (vs := [(.int .i64 nE.l), (.int .i64 nE.h), (.int .i64 nE.s)]) Try.size23 rfl rfl rfl rfl rfl rfl ?_
    refine ops_nil ⟨[(Arr 23 b1 [(.int .i64 a.l), (.int .i64 a.h), (.int .i64 a.s)]), (Arr 23 b2 [(.int .i64 a.l), (.int .i64 a.h), (.int .i64 a.s)]), (Arr 23 b3 [(.int .i64 nE.l), (.int .i64 nE.h), (.int .i64 nE.s)])], [], perm_nil _, ?_⟩
    refine rnil ?_
    refine vc_ret ?_
    refine blockQ_ret ?_
    refine rs2 _ _ (rv_c (vs := [(.int .i64 a.l), (.int .i64 a.h), (.int .i64 a.s)]) Try.agg23 rfl (inOc (k := 1) rfl) rfl rfl) (rv_c (vs := [(.int .i64 nE.l), (.int .i64 nE.h), (.int .i64 nE.s)]) Try.agg23 rfl (inOc (k := 2) rfl) rfl rfl) ?_
    exact tup2 (agg3 (show a = upF a x from by first | (rw [upF_1 hc]; done) | (rw [upF_2 hc (by omega)]; done) | (rw [upF_3 hc (by omega)]; done))) (agg3 (show nE = abF a x from by first | (rw [abF_1 hc]; done) | (rw [abF_2 hc (by omega)]; done) | (rw [abF_3 hc (by omega)]; done)))
   ·
    refine vc_skip ?_
    refine vc_seq ?_
    have md : Mid a x := ⟨ha, hc, by first | assumption | omega⟩
    obtain ⟨h1, h2, h3, h4, h5, h6, h7⟩ := md.step
    obtain ⟨n1, n2, n3, n4, n5⟩ := md.next
    have u1 := h1
    have u2 := h2
    have u3 := h3
    unfold fits at u1 u2 u3
    refine vc_region ?_
    refine oq (qv_fa (off := 0) Try.field23_0 rfl) ?_
    refine oq (qv_ldp (v := (.int .i64 a.l)) Try.plain3 rfl (inOc (k := 0) rfl) rfl) ?_
    refine oq (qv_mv (Value.int .i64 x) rfl) ?_
    refine oq (qv_fa (off := 0) Try.field23_2 rfl) ?_
    refine oq (qv_ldp (v := (.int .i64 a.s)) Try.plain3 rfl (inOc (k := 0) rfl) rfl) ?_
    refine oq (qv_call (v := (.agg #[(.int .i64 ((spanF a.l x a.s).l)), (.int .i64 ((spanF a.l x a.s).h)), (.int .i64 ((spanF a.l x a.s).s))])) (span_c h1 h2 (by omega)) rfl rfl) ?_
    refine ops_alloc Try.ti23 rfl (fun b4 => ?_)
    refine ops_stw (k := 3) (vs := [(.int .i64 ((spanF a.l x a.s).l)), (.int .i64 ((spanF a.l x a.s).h)), (.int .i64 ((spanF a.l x a.s).s))]) Try.size23 rfl rfl rfl rfl rfl rfl ?_
    refine ops_nil ?_
    refine vc_seq ?_
    refine vc_res (σ' := [(Arr 23 b1 [(.int .i64 a.l), (.int .i64 a.h), (.int .i64 a.s)]), (Arr 23 b2 [(Value.int .i64 0), (Value.int .i64 0), (Value.int .i64 0)]), (Arr 23 b3 [(Value.int .i64 0), (Value.int .i64 0), (Value.int .i64 0)]), (Arr 23 b4 [(.int .i64 ((spanF a.l x a.s).l)), (.int .i64 ((spanF a.l x a.s).h)), (.int .i64 ((spanF a.l x a.s).s))])]) rfl ?_
    refine vc_region_order (τ := [(Arr 23 b2 [(Value.int .i64 0), (Value.int .i64 0), (Value.int .i64 0)])]) [(0, false), (1, false), (2, false), (3, false), (4, false), (5, false), (6, false), (7, false), (8, false), (9, false), (10, false), (11, true), (12, true)] [(Arr 23 b1 [(.int .i64 a.l), (.int .i64 a.h), (.int .i64 a.s)]), (Arr 23 b3 [(Value.int .i64 0), (Value.int .i64 0), (Value.int .i64 0)]), (Arr 23 b4 [(.int .i64 ((spanF a.l x a.s).l)), (.int .i64 ((spanF a.l x a.s).h)), (.int .i64 ((spanF a.l x a.s).s))])] Try.mixed (perm_idx _ _ [0, 2, 3, 1] rfl rfl) (by kernel_rfl) ?_
    refine rq rfl (qv_ldm (vs := [(.int .i64 ((spanF a.l x a.s).l)), (.int .i64 ((spanF a.l x a.s).h)), (.int .i64 ((spanF a.l x a.s).s))]) Try.agg23 rfl (inOc (k := 2) rfl) rfl rfl) ?_
    refine rq rfl (qv_fa (off := 0) Try.field23_1 rfl) ?_
    refine rq rfl (qv_ldp (v := (.int .i64 ((spanF a.l x a.s).h))) Try.plain3 rfl (inOc (k := 2) rfl) rfl) ?_
    refine rq rfl (qv_fa (off := 0) Try.field23_2 rfl) ?_
    refine rq rfl (qv_ldp (v := (.int .i64 a.s)) Try.plain3 rfl (inOc (k := 0) rfl) rfl) ?_
    refine rq rfl (qv_add rfl rfl (by omega)) ?_
    refine rq rfl (qv_fa (off := 0) Try.field23_1 rfl) ?_
    refine rq rfl (qv_ldp (v := (.int .i64 a.h)) Try.plain3 rfl (inOc (k := 0) rfl) rfl) ?_
    refine rq rfl (qv_fa (off := 0) Try.field23_2 rfl) ?_
    refine rq rfl (qv_ldp (v := (.int .i64 a.s)) Try.plain3 rfl (inOc (k := 0) rfl) rfl) ?_
    refine rq rfl (qv_call (v := (.agg #[(.int .i64 ((spanF ((spanF a.l x a.s).h + a.s) a.h a.s).l)), (.int .i64 ((spanF ((spanF a.l x a.s).h + a.s) a.h a.s).h)), (.int .i64 ((spanF ((spanF a.l x a.s).h + a.s) a.h a.s).s))])) (span_c (by unfold fits; omega) h3 (by omega)) rfl rfl) ?_
    refine rl rfl ?_
    refine ops_stw (k := 1) (vs := [(.int .i64 ((spanF a.l x a.s).l)), (.int .i64 ((spanF a.l x a.s).h)), (.int .i64 ((spanF a.l x a.s).s))]) Try.size23 rfl rfl rfl rfl rfl rfl ?_
    refine ops_nil ⟨[(Arr 23 b1 [(.int .i64 a.l), (.int .i64 a.h), (.int .i64 a.s)]), (Arr 23 b3 [(Value.int .i64 0), (Value.int .i64 0), (Value.int .i64 0)]), (Arr 23 b4 [(.int .i64 ((spanF a.l x a.s).l)), (.int .i64 ((spanF a.l x a.s).h)), (.int .i64 ((spanF a.l x a.s).s))])], [(Arr 23 b2 [(.int .i64 ((spanF a.l x a.s).l)), (.int .i64 ((spanF a.l x a.s).h)), (.int .i64 ((spanF a.l x a.s).s))])], (Sub.refl _), (perm_idx _ _ [0, 2, 3, 1] rfl rfl), ⟨[], .refl _⟩, ?_⟩
    refine rl1 (by kernel_rfl) rfl ?_
    refine ops_stw (k := 2) (vs := [(.int .i64 ((spanF ((spanF a.l x a.s).h + a.s) a.h a.s).l)), (.int .i64 ((spanF ((spanF a.l x a.s).h + a.s) a.h a.s).h)), (.int .i64 ((spanF ((spanF a.l x a.s).h + a.s) a.h a.s).s))]) Try.size23 rfl rfl rfl rfl rfl rfl ?_
    refine ops_nil ⟨[(Arr 23 b1 [(.int .i64 a.l), (.int .i64 a.h), (.int .i64 a.s)]), (Arr 23 b3 [(.int .i64 ((spanF ((spanF a.l x a.s).h + a.s) a.h a.s).l)), (.int .i64 ((spanF ((spanF a.l x a.s).h + a.s) a.h a.s).h)), (.int .i64 ((spanF ((spanF a.l x a.s).h + a.s) a.h a.s).s))]), (Arr 23 b4 [(.int .i64 ((spanF a.l x a.s).l)), (.int .i64 ((spanF a.l x a.s).h)), (.int .i64 ((spanF a.l x a.s).s))])], [(Arr 23 b2 [(.int .i64 ((spanF a.l x a.s).l)), (.int .i64 ((spanF a.l x a.s).h)), (.int .i64 ((spanF a.l x a.s).s))])], (perm_idx _ _ [0, 2, 3, 1] rfl rfl), ?_⟩
    refine rnil ?_
    refine vc_ret ?_
    refine rs2 _ _ (rv_c (vs := [(.int .i64 ((spanF a.l x a.s).l)), (.int .i64 ((spanF a.l x a.s).h)), (.int .i64 ((spanF a.l x a.s).s))]) Try.agg23 rfl (inOc (k := 1) rfl) rfl rfl) (rv_c (vs := [(.int .i64 ((spanF ((spanF a.l x a.s).h + a.s) a.h a.s).l)), (.int .i64 ((spanF ((spanF a.l x a.s).h + a.s) a.h a.s).h)), (.int .i64 ((spanF ((spanF a.l x a.s).h + a.s) a.h a.s).s))]) Try.agg23 rfl (inOc (k := 2) rfl) rfl rfl) ?_
    exact tup2 (agg3 (show spanF a.l x a.s = upF a x from by first | (rw [upF_1 hc]; done) | (rw [upF_2 hc (by omega)]; done) | (rw [upF_3 hc (by omega)]; done))) (agg3 (show spanF ((spanF a.l x a.s).h + a.s) a.h a.s = abF a x from by first | (rw [abF_1 hc]; done) | (rw [abF_2 hc (by omega)]; done) | (rw [abF_3 hc (by omega)]; done)))

set_option maxRecDepth 100000 in
set_option maxHeartbeats 4000000 in
theorem rUpto_c {V : HV} {a : Nm} {x : Int} (ha : vld a) :
    FnC Try.prog 40 [(.agg #[(.int .i64 a.l), (.int .i64 a.h), (.int .i64 a.s)]), (Value.int .i64 x)] V [] (fun v _ _ => v = (.agg #[(.int .i64 ((upF a x).l)), (.int .i64 ((upF a x).h)), (.int .i64 ((upF a x).s))])) := by
 refine fn_intro (N := 31) Try.func40 (by kernel_rfl) rfl rfl rfl (Nat.le_of_ble_eq_true rfl) ?_
 intro w0 D
 refine vc_seq ?_
 refine vc_region ?_
 refine ops_box (v := (.agg #[(.int .i64 a.l), (.int .i64 a.h), (.int .i64 a.s)])) (cs := [(.int .i64 a.l), (.int .i64 a.h), (.int .i64 a.s)]) rfl rfl (fun b1 => ?_)
 refine ops_alloc Try.ti23 rfl (fun b2 => ?_)
 refine ops_nil ?_
 refine vc_seq ?_
 refine vc_seq ?_
 refine vc_res (σ' := [(Arr 23 b1 [(.int .i64 a.l), (.int .i64 a.h), (.int .i64 a.s)]), (Arr 23 b2 [(Value.int .i64 0), (Value.int .i64 0), (Value.int .i64 0)])]) rfl ?_
 refine vc_region ?_
 refine oq (qv_ldm (vs := [(.int .i64 a.l), (.int .i64 a.h), (.int .i64 a.s)]) Try.agg23 rfl (inOc (k := 0) rfl) rfl rfl) ?_
 refine oq (qv_call (v := (.bool (decide (a.h < a.l)))) (rempty_c (a := a)) rfl rfl) ?_
 refine oq (qv_mv (.bool (decide (a.h < a.l))) rfl) ?_
 by_cases g1 : a.h < a.l
 ·
  refine os (want_fn g1 rfl rfl rfl) ?_
  refine os (want_fn g1 rfl rfl rfl) ?_
  refine os (want_fn g1 rfl rfl rfl) ?_
  refine os (want_fn g1 rfl rfl rfl) ?_
  refine oq (qv_pick_t g1 rfl (rfl : ev _ _ = (Value.bool true))) ?_
  refine ops_nil ?_
  refine vc_tt rfl ?_
  refine vc_seq ?_
  have hc : a = nE ∨ x < a.l := by first | exact Or.inl ((vld_lt ha).1 (by assumption)) | exact Or.inr (by assumption)
  refine vc_region ?_
  refine oq (qv_call (v := (.agg #[(.int .i64 nE.l), (.int .i64 nE.h), (.int .i64 nE.s)])) (rNone_c) rfl rfl) ?_
  refine ops_stw (k := 1) (vs := [(.int .i64 nE.l), (.int .i64 nE.h), (.int .i64 nE.s)]) Try.size23 rfl rfl rfl rfl rfl rfl ?_
  refine ops_nil ?_
  refine vc_ret ?_
  refine rs1 _ (rv_c (vs := [(.int .i64 nE.l), (.int .i64 nE.h), (.int .i64 nE.s)]) Try.agg23 rfl (inOc (k := 1) rfl) rfl rfl) ?_
  exact (agg3 (show nE = upF a x from by first | (rw [upF_1 hc]; done) | (rw [upF_2 hc (by omega)]; done) | (rw [upF_3 hc (by omega), mkN_1 hk]; done)))
 ·
  refine og (qv_mv (Value.int .i64 x) rfl) (want_f g1 rfl rfl rfl) ?_
  refine og (qv_fa (off := 0) Try.field23_0 rfl) (want_f g1 rfl rfl rfl) ?_
  refine og (qv_ldp (v := (.int .i64 a.l)) Try.plain3 rfl (inOc (k := 0) rfl) rfl) (want_f g1 rfl rfl rfl) ?_
  refine og (qv_lss rfl rfl) (want_f g1 rfl rfl rfl) ?_
  refine oq (qv_pick_f g1 rfl (rfl : ev _ _ = (.bool (decide (x < a.l))))) ?_
  refine ops_nil ?_
  refine vc_if rfl (fun c1 => ?_) (fun c1 => ?_)
  ·
   refine vc_seq ?_
   have hc : a = nE ∨ x < a.l := by first | exact Or.inl ((vld_lt ha).1 (by assumption)) | exact Or.inr (by assumption)
   refine vc_region ?_
   refine oq (qv_call (v := (.agg #[(.int .i64 nE.l), (.int .i64 nE.h), (.int .i64 nE.s)])) (rNone_c) rfl rfl) ?_
   refine ops_stw (k := 1) (vs := [(.int .i64 nE.l), (.int .i64 nE.h), (.int .i64 nE.s)]) Try.size23 rfl rfl rfl rfl rfl rfl ?_
   refine ops_nil ?_
   refine vc_ret ?_
   refine rs1 _ (rv_c (vs := [(.int .i64 nE.l), (.int .i64 nE.h), (.int .i64 nE.s)]) Try.agg23 rfl (inOc (k := 1) rfl) rfl rfl) ?_
   exact (agg3 (show nE = upF a x from by first | (rw [upF_1 hc]; done) | (rw [upF_2 hc (by omega)]; done) | (rw [upF_3 hc (by omega), mkN_1 hk]; done)))
  ·
   refine vc_skip ?_
   refine vc_seq ?_
   refine vc_seq ?_
   have hc : ¬ (a = nE ∨ x < a.l) := by rintro (e | e); exact absurd ((vld_lt ha).2 e) (by assumption); exact absurd e (by assumption)
   refine vc_region ?_
   refine oq (qv_mv (Value.int .i64 x) rfl) ?_
   refine oq (qv_fa (off := 0) Try.field23_1 rfl) ?_
   refine oq (qv_ldp (v := (.int .i64 a.h)) Try.plain3 rfl (inOc (k := 0) rfl) rfl) ?_
   refine oq (qv_geq rfl rfl) ?_
   refine ops_nil ?_
   refine vc_if rfl (fun c2 => ?_) (fun c2 => ?_)
   ·
    refine vc_seq ?_
    refine vc_region ?_
    refine oq (qv_ldm (vs := [(.int .i64 a.l), (.int .i64 a.h), (.int .i64 a.s)]) Try.agg23 rfl (inOc (k := 0) rfl) rfl rfl) ?_
    refine ops_stw (k := 1) (vs := [(.int .i64 a.l), (.int .i64 a.h), (.int .i64 a.s)]) Try.size23 rfl rfl rfl rfl rfl rfl ?_
    refine ops_nil ?_
    refine vc_ret ?_
    refine rs1 _ (rv_c (vs := [(.int .i64 a.l), (.int .i64 a.h), (.int .i64 a.s)]) Try.agg23 rfl (inOc (k := 1) rfl) rfl rfl) ?_
    exact (agg3 (show a = upF a x from by first | (rw [upF_1 hc]; done) | (rw [upF_2 hc (by omega)]; done) | (rw [upF_3 hc (by omega), mkN_1 hk]; done)))
   ·
    refine vc_skip ?_
    refine vc_seq ?_
    have md : Mid a x := ⟨ha, hc, by first | assumption | omega⟩
    obtain ⟨h1, h2, h3, h4, h5, h6, h7⟩ := md.step
    obtain ⟨n1, n2, n3, n4, n5⟩ := md.next
    have u1 := h1
    have u2 := h2
    have u3 := h3
    unfold fits at u1 u2 u3
    refine vc_region ?_
    refine oq (qv_fa (off := 0) Try.field23_0 rfl) ?_
    refine oq (qv_ldp (v := (.int .i64 a.l)) Try.plain3 rfl (inOc (k := 0) rfl) rfl) ?_
    refine oq (qv_mv (Value.int .i64 x) rfl) ?_
    refine oq (qv_fa (off := 0) Try.field23_2 rfl) ?_
    refine oq (qv_ldp (v := (.int .i64 a.s)) Try.plain3 rfl (inOc (k := 0) rfl) rfl) ?_
    refine oq (qv_call (v := (.tuple #[(.agg #[(.int .i64 ((mkN a.l x a.s).l)), (.int .i64 ((mkN a.l x a.s).h)), (.int .i64 ((mkN a.l x a.s).s))]), (.int .i64 (mkE a.l x a.s))])) (rMake_c) rfl rfl) ?_
    refine oq (qv_mv (.tuple #[(.agg #[(.int .i64 ((mkN a.l x a.s).l)), (.int .i64 ((mkN a.l x a.s).h)), (.int .i64 ((mkN a.l x a.s).s))]), (.int .i64 (mkE a.l x a.s))]) rfl) ?_
    refine oq (qv_ext (.agg #[(.int .i64 ((mkN a.l x a.s).l)), (.int .i64 ((mkN a.l x a.s).h)), (.int .i64 ((mkN a.l x a.s).s))]) rfl rfl) ?_
    refine oq (qv_ext (.int .i64 (mkE a.l x a.s)) rfl rfl) ?_
    refine ops_alloc Try.ti23 rfl (fun b3 => ?_)
    refine ops_stw (k := 2) (vs := [(.int .i64 ((mkN a.l x a.s).l)), (.int .i64 ((mkN a.l x a.s).h)), (.int .i64 ((mkN a.l x a.s).s))]) Try.size23 rfl rfl rfl rfl rfl rfl ?_
    refine oq (qv_as (.int .i64 (mkE a.l x a.s)) rfl) ?_
    refine ops_nil ?_
    refine vc_seq ?_
    refine vc_res (σ' := [(Arr 23 b1 [(.int .i64 a.l), (.int .i64 a.h), (.int .i64 a.s)]), (Arr 23 b2 [(Value.int .i64 0), (Value.int .i64 0), (Value.int .i64 0)]), (Arr 23 b3 [(.int .i64 ((mkN a.l x a.s).l)), (.int .i64 ((mkN a.l x a.s).h)), (.int .i64 ((mkN a.l x a.s).s))])]) rfl ?_
    have hk : mkOk a.l x a.s := ⟨h1, h2, by omega⟩
    refine vc_region ?_
    refine oq (qv_ldm (vs := [(.int .i64 ((mkN a.l x a.s).l)), (.int .i64 ((mkN a.l x a.s).h)), (.int .i64 ((mkN a.l x a.s).s))]) Try.agg23 rfl (inOc (k := 2) rfl) rfl rfl) ?_
    refine ops_stw (k := 1) (vs := [(.int .i64 ((mkN a.l x a.s).l)), (.int .i64 ((mkN a.l x a.s).h)), (.int .i64 ((mkN a.l x a.s).s))]) Try.size23 rfl rfl rfl rfl rfl rfl ?_
    refine ops_nil ?_
    refine vc_ret ?_
    refine rs1 _ (rv_c (vs := [(.int .i64 ((mkN a.l x a.s).l)), (.int .i64 ((mkN a.l x a.s).h)), (.int .i64 ((mkN a.l x a.s).s))]) Try.agg23 rfl (inOc (k := 1) rfl) rfl rfl) ?_
    exact (agg3 (show mkN a.l x a.s = upF a x from by first | (rw [upF_1 hc]; done) | (rw [upF_2 hc (by omega)]; done) | (rw [upF_3 hc (by omega), mkN_1 hk]; done)))

set_option maxRecDepth 100000 in
set_option maxHeartbeats 4000000 in
theorem rAbove_c {V : HV} {a : Nm} {x : Int} (ha : vld a) :
    FnC Try.prog 41 [(.agg #[(.int .i64 a.l), (.int .i64 a.h), (.int .i64 a.s)]), (Value.int .i64 x)] V [] (fun v _ _ => v = (.agg #[(.int .i64 ((abF a x).l)), (.int .i64 ((abF a x).h)), (.int .i64 ((abF a x).s))])) := by
 refine fn_intro (N := 44) Try.func41 (by kernel_rfl) rfl rfl rfl (Nat.le_of_ble_eq_true rfl) ?_
 intro w0 D
 refine vc_seq ?_
 refine vc_region ?_
 refine ops_box (v := (.agg #[(.int .i64 a.l), (.int .i64 a.h), (.int .i64 a.s)])) (cs := [(.int .i64 a.l), (.int .i64 a.h), (.int .i64 a.s)]) rfl rfl (fun b1 => ?_)
 refine ops_alloc Try.ti23 rfl (fun b2 => ?_)
 refine ops_nil ?_
 refine vc_seq ?_
 refine vc_seq ?_
 refine vc_res (σ' := [(Arr 23 b1 [(.int .i64 a.l), (.int .i64 a.h), (.int .i64 a.s)]), (Arr 23 b2 [(Value.int .i64 0), (Value.int .i64 0), (Value.int .i64 0)])]) rfl ?_
 refine vc_region ?_
 refine oq (qv_ldm (vs := [(.int .i64 a.l), (.int .i64 a.h), (.int .i64 a.s)]) Try.agg23 rfl (inOc (k := 0) rfl) rfl rfl) ?_
 refine oq (qv_call (v := (.bool (decide (a.h < a.l)))) (rempty_c (a := a)) rfl rfl) ?_
 refine oq (qv_mv (.bool (decide (a.h < a.l))) rfl) ?_
 by_cases g1 : a.h < a.l
 ·
  refine os (want_fn g1 rfl rfl rfl) ?_
  refine os (want_fn g1 rfl rfl rfl) ?_
  refine os (want_fn g1 rfl rfl rfl) ?_
  refine os (want_fn g1 rfl rfl rfl) ?_
  refine oq (qv_pick_t g1 rfl (rfl : ev _ _ = (Value.bool true))) ?_
  refine ops_nil ?_
  refine vc_tt rfl ?_
  refine vc_seq ?_
  have hz : abF a x = nE := by
    by_cases hc : a = nE ∨ x < a.l
    · rw [abF_1 hc]; exact hc.elim id (fun e => (vld_lt ha).1 (by omega))
    · exact abF_2 hc (by have := mt (vld_lt ha).1 (fun e => hc (Or.inl e)); omega)
  refine vc_region ?_
  refine oq (qv_call (v := (.agg #[(.int .i64 nE.l), (.int .i64 nE.h), (.int .i64 nE.s)])) (rNone_c) rfl rfl) ?_
  refine ops_stw (k := 1) (vs := [(.int .i64 nE.l), (.int .i64 nE.h), (.int .i64 nE.s)]) Try.size23 rfl rfl rfl rfl rfl rfl ?_
  refine ops_nil ?_
  refine vc_ret ?_
  refine rs1 _ (rv_c (vs := [(.int .i64 nE.l), (.int .i64 nE.h), (.int .i64 nE.s)]) Try.agg23 rfl (inOc (k := 1) rfl) rfl rfl) ?_
  exact (agg3 (show nE = abF a x from by first | (rw [hz]; done) | (rw [abF_1 hc]; done) | (rw [abF_3 hc (by omega), mkN_1 hk, n5]; done)))
 ·
  refine og (qv_mv (Value.int .i64 x) rfl) (want_f g1 rfl rfl rfl) ?_
  refine og (qv_fa (off := 0) Try.field23_1 rfl) (want_f g1 rfl rfl rfl) ?_
  refine og (qv_ldp (v := (.int .i64 a.h)) Try.plain3 rfl (inOc (k := 0) rfl) rfl) (want_f g1 rfl rfl rfl) ?_
  refine og (qv_geq rfl rfl) (want_f g1 rfl rfl rfl) ?_
  refine oq (qv_pick_f g1 rfl (rfl : ev _ _ = (.bool (decide (a.h ≤ x))))) ?_
  refine ops_nil ?_
  refine vc_if rfl (fun c1 => ?_) (fun c1 => ?_)
  ·
   refine vc_seq ?_
   have hz : abF a x = nE := by
     by_cases hc : a = nE ∨ x < a.l
     · rw [abF_1 hc]; exact hc.elim id (fun e => (vld_lt ha).1 (by omega))
     · exact abF_2 hc (by have := mt (vld_lt ha).1 (fun e => hc (Or.inl e)); omega)
   refine vc_region ?_
   refine oq (qv_call (v := (.agg #[(.int .i64 nE.l), (.int .i64 nE.h), (.int .i64 nE.s)])) (rNone_c) rfl rfl) ?_
   refine ops_stw (k := 1) (vs := [(.int .i64 nE.l), (.int .i64 nE.h), (.int .i64 nE.s)]) Try.size23 rfl rfl rfl rfl rfl rfl ?_
   refine ops_nil ?_
   refine vc_ret ?_
   refine rs1 _ (rv_c (vs := [(.int .i64 nE.l), (.int .i64 nE.h), (.int .i64 nE.s)]) Try.agg23 rfl (inOc (k := 1) rfl) rfl rfl) ?_
   exact (agg3 (show nE = abF a x from by first | (rw [hz]; done) | (rw [abF_1 hc]; done) | (rw [abF_3 hc (by omega), mkN_1 hk, n5]; done)))
  ·
   refine vc_skip ?_
   refine vc_seq ?_
   refine vc_seq ?_
   refine vc_region ?_
   refine oq (qv_mv (Value.int .i64 x) rfl) ?_
   refine oq (qv_fa (off := 0) Try.field23_0 rfl) ?_
   refine oq (qv_ldp (v := (.int .i64 a.l)) Try.plain3 rfl (inOc (k := 0) rfl) rfl) ?_
   refine oq (qv_lss rfl rfl) ?_
   refine ops_nil ?_
   refine vc_if rfl (fun c2 => ?_) (fun c2 => ?_)
   ·
    refine vc_seq ?_
    have hc : a = nE ∨ x < a.l := by first | exact Or.inl (by assumption) | exact Or.inr (by assumption)
    refine vc_region ?_
    refine oq (qv_ldm (vs := [(.int .i64 a.l), (.int .i64 a.h), (.int .i64 a.s)]) Try.agg23 rfl (inOc (k := 0) rfl) rfl rfl) ?_
    refine ops_stw (k := 1) (vs := [(.int .i64 a.l), (.int .i64 a.h), (.int .i64 a.s)]) Try.size23 rfl rfl rfl rfl rfl rfl ?_
    refine ops_nil ?_
    refine vc_ret ?_
    refine rs1 _ (rv_c (vs := [(.int .i64 a.l), (.int .i64 a.h), (.int .i64 a.s)]) Try.agg23 rfl (inOc (k := 1) rfl) rfl rfl) ?_
    exact (agg3 (show a = abF a x from by first | (rw [hz]; done) | (rw [abF_1 hc]; done) | (rw [abF_3 hc (by omega), mkN_1 hk, n5]; done)))
   ·
    refine vc_skip ?_
    refine vc_seq ?_
    have hc : ¬ (a = nE ∨ x < a.l) := by rintro (e | e); exact absurd ((vld_lt ha).2 e) (by assumption); exact absurd e (by assumption)
    have md : Mid a x := ⟨ha, hc, by first | assumption | omega⟩
    obtain ⟨h1, h2, h3, h4, h5, h6, h7⟩ := md.step
    obtain ⟨n1, n2, n3, n4, n5⟩ := md.next
    have u1 := h1
    have u2 := h2
    have u3 := h3
    unfold fits at u1 u2 u3
    have f3 := Int.ediv_nonneg (show 0 ≤ x - a.l by omega) (show 0 ≤ a.s by omega)
    have f4 := Int.ediv_le_self (a := x - a.l) a.s (by omega)
    have f5 : ((x - a.l) / a.s + 1) * a.s = (spanF a.l x a.s).h + a.s - a.l := by omega
    refine vc_region_order (τ := []) [(0, false), (1, false), (2, false), (3, false), (4, false), (5, false), (6, false), (7, false), (8, false), (9, false), (10, false), (11, false), (12, false), (13, false), (14, false), (15, false), (16, false), (17, false), (18, false), (19, false), (20, false), (21, false), (22, true), (23, true), (24, false)] [(Arr 23 b1 [(.int .i64 a.l), (.int .i64 a.h), (.int .i64 a.s)]), (Arr 23 b2 [(Value.int .i64 0), (Value.int .i64 0), (Value.int .i64 0)])] Try.mixed (perm_nil _) (by kernel_rfl) ?_
    refine rq rfl (qv_fa (off := 0) Try.field23_0 rfl) ?_
    refine rq rfl (qv_ldp (v := (.int .i64 a.l)) Try.plain3 rfl (inOc (k := 0) rfl) rfl) ?_
    refine rq rfl (qv_mv (Value.int .i64 x) rfl) ?_
    refine rq rfl (qv_fa (off := 0) Try.field23_0 rfl) ?_
    refine rq rfl (qv_ldp (v := (.int .i64 a.l)) Try.plain3 rfl (inOc (k := 0) rfl) rfl) ?_
    refine rq rfl (qv_sub rfl rfl (by omega)) ?_
    refine rq rfl (qv_fa (off := 0) Try.field23_2 rfl) ?_
    refine rq rfl (qv_ldp (v := (.int .i64 a.s)) Try.plain3 rfl (inOc (k := 0) rfl) rfl) ?_
    refine rq rfl (qv_quo rfl rfl (by omega) (by omega)) ?_
    refine rq rfl (qv_add rfl rfl (by omega)) ?_
    refine rq rfl (qv_fa (off := 0) Try.field23_2 rfl) ?_
    refine rq rfl (qv_ldp (v := (.int .i64 a.s)) Try.plain3 rfl (inOc (k := 0) rfl) rfl) ?_
    refine rq rfl (qv_mul rfl rfl (by omega)) ?_
    refine rq rfl (qv_add rfl rfl (by omega)) ?_
    refine rq rfl (qv_fa (off := 0) Try.field23_1 rfl) ?_
    refine rq rfl (qv_ldp (v := (.int .i64 a.h)) Try.plain3 rfl (inOc (k := 0) rfl) rfl) ?_
    refine rq rfl (qv_fa (off := 0) Try.field23_2 rfl) ?_
    refine rq rfl (qv_ldp (v := (.int .i64 a.s)) Try.plain3 rfl (inOc (k := 0) rfl) rfl) ?_
    refine rq rfl (qv_call (v := (.tuple #[(.agg #[(.int .i64 ((mkN (a.l + ((((x - a.l) / a.s) + 1) * a.s)) a.h a.s).l)), (.int .i64 ((mkN (a.l + ((((x - a.l) / a.s) + 1) * a.s)) a.h a.s).h)), (.int .i64 ((mkN (a.l + ((((x - a.l) / a.s) + 1) * a.s)) a.h a.s).s))]), (.int .i64 (mkE (a.l + ((((x - a.l) / a.s) + 1) * a.s)) a.h a.s))])) (rMake_c) rfl rfl) ?_
    refine rq rfl (qv_mv (.tuple #[(.agg #[(.int .i64 ((mkN (a.l + ((((x - a.l) / a.s) + 1) * a.s)) a.h a.s).l)), (.int .i64 ((mkN (a.l + ((((x - a.l) / a.s) + 1) * a.s)) a.h a.s).h)), (.int .i64 ((mkN (a.l + ((((x - a.l) / a.s) + 1) * a.s)) a.h a.s).s))]), (.int .i64 (mkE (a.l + ((((x - a.l) / a.s) + 1) * a.s)) a.h a.s))]) rfl) ?_
    refine rq rfl (qv_ext (.agg #[(.int .i64 ((mkN (a.l + ((((x - a.l) / a.s) + 1) * a.s)) a.h a.s).l)), (.int .i64 ((mkN (a.l + ((((x - a.l) / a.s) + 1) * a.s)) a.h a.s).h)), (.int .i64 ((mkN (a.l + ((((x - a.l) / a.s) + 1) * a.s)) a.h a.s).s))]) rfl rfl) ?_
    refine rq rfl (qv_ext (.int .i64 (mkE (a.l + ((((x - a.l) / a.s) + 1) * a.s)) a.h a.s)) rfl rfl) ?_
    refine rl rfl ?_
    refine ops_alloc Try.ti23 rfl (fun b3 => ?_)
    refine ops_nil ⟨[(Arr 23 b1 [(.int .i64 a.l), (.int .i64 a.h), (.int .i64 a.s)]), (Arr 23 b2 [(Value.int .i64 0), (Value.int .i64 0), (Value.int .i64 0)])], [(Arr 23 b3 [(Value.int .i64 0), (Value.int .i64 0), (Value.int .i64 0)])], (Sub.refl _), (perm_idx _ _ [0, 1, 2] rfl rfl), ⟨[], .refl _⟩, ?_⟩
    refine rl rfl ?_
    refine ops_stw (k := 2) (vs := [(.int .i64 ((mkN (a.l + ((((x - a.l) / a.s) + 1) * a.s)) a.h a.s).l)), (.int .i64 ((mkN (a.l + ((((x - a.l) / a.s) + 1) * a.s)) a.h a.s).h)), (.int .i64 ((mkN (a.l + ((((x - a.l) / a.s) + 1) * a.s)) a.h a.s).s))]) Try.size23 rfl rfl rfl rfl rfl rfl ?_
    refine ops_nil ⟨[(Arr 23 b1 [(.int .i64 a.l), (.int .i64 a.h), (.int .i64 a.s)]), (Arr 23 b2 [(Value.int .i64 0), (Value.int .i64 0), (Value.int .i64 0)])], [(Arr 23 b3 [(.int .i64 ((mkN (a.l + ((((x - a.l) / a.s) + 1) * a.s)) a.h a.s).l)), (.int .i64 ((mkN (a.l + ((((x - a.l) / a.s) + 1) * a.s)) a.h a.s).h)), (.int .i64 ((mkN (a.l + ((((x - a.l) / a.s) + 1) * a.s)) a.h a.s).s))])], (Sub.refl _), (perm_idx _ _ [0, 1, 2] rfl rfl), ⟨[], .refl _⟩, ?_⟩
    refine rq rfl (qv_as (.int .i64 (mkE (a.l + ((((x - a.l) / a.s) + 1) * a.s)) a.h a.s)) rfl) ?_
    refine rnil ?_
    refine vc_seq ?_
    refine vc_res (σ' := [(Arr 23 b1 [(.int .i64 a.l), (.int .i64 a.h), (.int .i64 a.s)]), (Arr 23 b2 [(Value.int .i64 0), (Value.int .i64 0), (Value.int .i64 0)]), (Arr 23 b3 [(.int .i64 ((mkN (a.l + ((((x - a.l) / a.s) + 1) * a.s)) a.h a.s).l)), (.int .i64 ((mkN (a.l + ((((x - a.l) / a.s) + 1) * a.s)) a.h a.s).h)), (.int .i64 ((mkN (a.l + ((((x - a.l) / a.s) + 1) * a.s)) a.h a.s).s))])]) rfl ?_
    have hk : mkOk (a.l + ((x - a.l) / a.s + 1) * a.s) a.h a.s := ⟨by unfold fits; omega, h3, by omega⟩
    refine vc_region ?_
    refine oq (qv_ldm (vs := [(.int .i64 ((mkN (a.l + ((((x - a.l) / a.s) + 1) * a.s)) a.h a.s).l)), (.int .i64 ((mkN (a.l + ((((x - a.l) / a.s) + 1) * a.s)) a.h a.s).h)), (.int .i64 ((mkN (a.l + ((((x - a.l) / a.s) + 1) * a.s)) a.h a.s).s))]) Try.agg23 rfl (inOc (k := 2) rfl) rfl rfl) ?_
    refine ops_stw (k := 1) (vs := [(.int .i64 ((mkN (a.l + ((((x - a.l) / a.s) + 1) * a.s)) a.h a.s).l)), (.int .i64 ((mkN (a.l + ((((x - a.l) / a.s) + 1) * a.s)) a.h a.s).h)), (.int .i64 ((mkN (a.l + ((((x - a.l) / a.s) + 1) * a.s)) a.h a.s).s))]) Try.size23 rfl rfl rfl rfl rfl rfl ?_
    refine ops_nil ?_
    refine vc_ret ?_
    refine rs1 _ (rv_c (vs := [(.int .i64 ((mkN (a.l + ((((x - a.l) / a.s) + 1) * a.s)) a.h a.s).l)), (.int .i64 ((mkN (a.l + ((((x - a.l) / a.s) + 1) * a.s)) a.h a.s).h)), (.int .i64 ((mkN (a.l + ((((x - a.l) / a.s) + 1) * a.s)) a.h a.s).s))]) Try.agg23 rfl (inOc (k := 1) rfl) rfl rfl) ?_
    exact (agg3 (show mkN (a.l + ((((x - a.l) / a.s) + 1) * a.s)) a.h a.s = abF a x from by first | (rw [hz]; done) | (rw [abF_1 hc]; done) | (rw [abF_3 hc (by omega), mkN_1 hk, n5]; done)))

set_option maxRecDepth 100000 in
set_option maxHeartbeats 4000000 in
theorem rJoin_c {V : HV} {a b : Nm} (ha : vld a) (hb : vld b) :
    FnC Try.prog 18 [(.agg #[(.int .i64 a.l), (.int .i64 a.h), (.int .i64 a.s)]), (.agg #[(.int .i64 b.l), (.int .i64 b.h), (.int .i64 b.s)])] V [] (fun v _ _ => v = (.agg #[(.int .i64 ((joinF a b).l)), (.int .i64 ((joinF a b).h)), (.int .i64 ((joinF a b).s))])) := by
 refine fn_intro (N := 44) Try.func18 (by kernel_rfl) rfl rfl rfl (Nat.le_of_ble_eq_true rfl) ?_
 intro w0 D
 have ba := vld_bd ha
 have bb := vld_bd hb
 unfold fits at ba bb
 refine vc_seq ?_
 refine vc_region ?_
 refine ops_box (v := (.agg #[(.int .i64 a.l), (.int .i64 a.h), (.int .i64 a.s)])) (cs := [(.int .i64 a.l), (.int .i64 a.h), (.int .i64 a.s)]) rfl rfl (fun b1 => ?_)
 refine ops_box (v := (.agg #[(.int .i64 b.l), (.int .i64 b.h), (.int .i64 b.s)])) (cs := [(.int .i64 b.l), (.int .i64 b.h), (.int .i64 b.s)]) rfl rfl (fun b2 => ?_)
 refine ops_alloc Try.ti23 rfl (fun b3 => ?_)
 refine ops_nil ?_
 refine vc_seq ?_
 refine vc_seq ?_
 refine vc_res (σ' := [(Arr 23 b1 [(.int .i64 a.l), (.int .i64 a.h), (.int .i64 a.s)]), (Arr 23 b2 [(.int .i64 b.l), (.int .i64 b.h), (.int .i64 b.s)]), (Arr 23 b3 [(Value.int .i64 0), (Value.int .i64 0), (Value.int .i64 0)])]) rfl ?_
 refine vc_region ?_
 refine oq (qv_ldm (vs := [(.int .i64 a.l), (.int .i64 a.h), (.int .i64 a.s)]) Try.agg23 rfl (inOc (k := 0) rfl) rfl rfl) ?_
 refine oq (qv_call (v := (.bool (decide (a.h < a.l)))) (rempty_c (a := a)) rfl rfl) ?_
 refine ops_nil ?_
 refine vc_if rfl (fun c1 => ?_) (fun c1 => ?_)
 ·
  refine vc_seq ?_
  have he : a = nE := (vld_lt ha).1 (by assumption)
  refine vc_region ?_
  refine oq (qv_ldm (vs := [(.int .i64 b.l), (.int .i64 b.h), (.int .i64 b.s)]) Try.agg23 rfl (inOc (k := 1) rfl) rfl rfl) ?_
  refine ops_stw (k := 2) (vs := [(.int .i64 b.l), (.int .i64 b.h), (.int .i64 b.s)]) Try.size23 rfl rfl rfl rfl rfl rfl ?_
  refine ops_nil ?_
  refine vc_ret ?_
  refine rs1 _ (rv_c (vs := [(.int .i64 b.l), (.int .i64 b.h), (.int .i64 b.s)]) Try.agg23 rfl (inOc (k := 2) rfl) rfl rfl) ?_
  exact (aggc (consc (congrArg (Value.int .i64) (show b.l = ((joinF a b).l) from by first | (rw [joinF_1 he]; done) | (rw [joinF_2 he (Or.inl hf)]; done) | exact j2 | exact j3 | exact j5 | exact j4 (by assumption))) (consc (congrArg (Value.int .i64) (show b.h = ((joinF a b).h) from by first | (rw [joinF_1 he]; done) | (rw [joinF_2 he (Or.inl hf)]; done) | exact j2 | exact j3 | exact j5 | exact j4 (by assumption))) (consc (congrArg (Value.int .i64) (show b.s = ((joinF a b).s) from by first | (rw [joinF_1 he]; done) | (rw [joinF_2 he (Or.inl hf)]; done) | exact j2 | exact j3 | exact j5 | exact j4 (by assumption))) rfl))))
 ·
  refine vc_skip ?_
  refine vc_seq ?_
  refine vc_seq ?_
  have he : ¬ a = nE := fun e => absurd ((vld_lt ha).2 e) (by assumption)
  refine vc_region ?_
  refine oq (qv_ldm (vs := [(.int .i64 b.l), (.int .i64 b.h), (.int .i64 b.s)]) Try.agg23 rfl (inOc (k := 1) rfl) rfl rfl) ?_
  refine oq (qv_call (v := (.bool (decide (b.h < b.l)))) (rempty_c (a := b)) rfl rfl) ?_
  refine ops_nil ?_
  refine vc_if rfl (fun c2 => ?_) (fun c2 => ?_)
  ·
   refine vc_seq ?_
   have hf : b = nE := (vld_lt hb).1 (by assumption)
   refine vc_region ?_
   refine oq (qv_ldm (vs := [(.int .i64 a.l), (.int .i64 a.h), (.int .i64 a.s)]) Try.agg23 rfl (inOc (k := 0) rfl) rfl rfl) ?_
   refine ops_stw (k := 2) (vs := [(.int .i64 a.l), (.int .i64 a.h), (.int .i64 a.s)]) Try.size23 rfl rfl rfl rfl rfl rfl ?_
   refine ops_nil ?_
   refine vc_ret ?_
   refine rs1 _ (rv_c (vs := [(.int .i64 a.l), (.int .i64 a.h), (.int .i64 a.s)]) Try.agg23 rfl (inOc (k := 2) rfl) rfl rfl) ?_
   exact (aggc (consc (congrArg (Value.int .i64) (show a.l = ((joinF a b).l) from by first | (rw [joinF_1 he]; done) | (rw [joinF_2 he (Or.inl hf)]; done) | exact j2 | exact j3 | exact j5 | exact j4 (by assumption))) (consc (congrArg (Value.int .i64) (show a.h = ((joinF a b).h) from by first | (rw [joinF_1 he]; done) | (rw [joinF_2 he (Or.inl hf)]; done) | exact j2 | exact j3 | exact j5 | exact j4 (by assumption))) (consc (congrArg (Value.int .i64) (show a.s = ((joinF a b).s) from by first | (rw [joinF_1 he]; done) | (rw [joinF_2 he (Or.inl hf)]; done) | exact j2 | exact j3 | exact j5 | exact j4 (by assumption))) rfl))))
  ·
   refine vc_skip ?_
   refine vc_seq ?_
   have hf : ¬ b = nE := fun e => absurd ((vld_lt hb).2 e) (by assumption)
   obtain ⟨j1, j2, j3, j4, j5⟩ := join4 ha hb he hf
   refine vc_region ?_
   refine oq (qv_fa (off := 0) Try.field23_0 rfl) ?_
   refine oq (qv_ldp (v := (.int .i64 a.l)) Try.plain3 rfl (inOc (k := 0) rfl) rfl) ?_
   refine oq (qv_fa (off := 0) Try.field23_1 rfl) ?_
   refine oq (qv_ldp (v := (.int .i64 a.h)) Try.plain3 rfl (inOc (k := 0) rfl) rfl) ?_
   refine oq (qv_fa (off := 0) Try.field23_0 rfl) ?_
   refine oq (qv_ldp (v := (.int .i64 b.l)) Try.plain3 rfl (inOc (k := 1) rfl) rfl) ?_
   refine oq (qv_fa (off := 0) Try.field23_1 rfl) ?_
   refine oq (qv_ldp (v := (.int .i64 b.h)) Try.plain3 rfl (inOc (k := 1) rfl) rfl) ?_
   refine ops_lit (n := 4) (s := 1) (cs := [(.int .i64 a.l), (.int .i64 a.h), (.int .i64 b.l), (.int .i64 b.h)]) Try.underlying37 Try.ti3 (Nat.le_of_ble_eq_true rfl) rfl rfl rfl (Nat.le_of_ble_eq_true rfl) rfl (fun b4 => ?_)
   refine oq (qv_call_own (v := (.tuple #[(.agg #[(.int .i64 ((ofN [a.l, a.h, b.l, b.h]).l)), (.int .i64 ((ofN [a.l, a.h, b.l, b.h]).h)), (.int .i64 ((ofN [a.l, a.h, b.l, b.h]).s))]), (.int .i64 (ofE [a.l, a.h, b.l, b.h]))])) (k := 3) (b := b4) rfl (fun Vo hVo hbo => rOf_c (xs := [a.l, a.h, b.l, b.h]) (sl_own (n := 4) (c := 4) hbo rfl (Nat.le_refl _) (by omega))) rfl rfl) ?_
   refine oq (qv_mv (.tuple #[(.agg #[(.int .i64 ((ofN [a.l, a.h, b.l, b.h]).l)), (.int .i64 ((ofN [a.l, a.h, b.l, b.h]).h)), (.int .i64 ((ofN [a.l, a.h, b.l, b.h]).s))]), (.int .i64 (ofE [a.l, a.h, b.l, b.h]))]) rfl) ?_
   refine oq (qv_ext (.agg #[(.int .i64 ((ofN [a.l, a.h, b.l, b.h]).l)), (.int .i64 ((ofN [a.l, a.h, b.l, b.h]).h)), (.int .i64 ((ofN [a.l, a.h, b.l, b.h]).s))]) rfl rfl) ?_
   refine oq (qv_ext (.int .i64 (ofE [a.l, a.h, b.l, b.h])) rfl rfl) ?_
   refine ops_alloc Try.ti23 rfl (fun b5 => ?_)
   refine ops_stw (k := 4) (vs := [(.int .i64 ((ofN [a.l, a.h, b.l, b.h]).l)), (.int .i64 ((ofN [a.l, a.h, b.l, b.h]).h)), (.int .i64 ((ofN [a.l, a.h, b.l, b.h]).s))]) Try.size23 rfl rfl rfl rfl rfl rfl ?_
   refine oq (qv_as (.int .i64 (ofE [a.l, a.h, b.l, b.h])) rfl) ?_
   refine ops_nil ?_
   refine vc_seq ?_
   refine vc_seq ?_
   refine vc_res (σ' := [(Arr 23 b1 [(.int .i64 a.l), (.int .i64 a.h), (.int .i64 a.s)]), (Arr 23 b2 [(.int .i64 b.l), (.int .i64 b.h), (.int .i64 b.s)]), (Arr 23 b3 [(Value.int .i64 0), (Value.int .i64 0), (Value.int .i64 0)]), (Arr 3 b4 [(.int .i64 a.l), (.int .i64 a.h), (.int .i64 b.l), (.int .i64 b.h)]), (Arr 23 b5 [(.int .i64 ((ofN [a.l, a.h, b.l, b.h]).l)), (.int .i64 ((ofN [a.l, a.h, b.l, b.h]).h)), (.int .i64 ((ofN [a.l, a.h, b.l, b.h]).s))])]) rfl ?_
   refine vc_region ?_
   refine oq (qv_fa (off := 0) Try.field23_0 rfl) ?_
   refine oq (qv_ldp (v := (.int .i64 ((ofN [a.l, a.h, b.l, b.h]).l))) Try.plain3 rfl (inOc (k := 4) rfl) rfl) ?_
   refine oq (qv_fa (off := 0) Try.field23_1 rfl) ?_
   refine oq (qv_ldp (v := (.int .i64 ((ofN [a.l, a.h, b.l, b.h]).h))) Try.plain3 rfl (inOc (k := 4) rfl) rfl) ?_
   refine oq (qv_lss rfl rfl) ?_
   refine ops_nil ?_
   refine vc_if rfl (fun c3 => ?_) (fun c3 => ?_)
   ·
    refine vc_region_order (τ := []) [(0, false), (1, false), (2, false), (3, false), (4, false), (5, false), (6, false), (7, false), (8, false), (9, false), (10, false), (11, false), (12, true)] [(Arr 23 b1 [(.int .i64 a.l), (.int .i64 a.h), (.int .i64 a.s)]), (Arr 23 b2 [(.int .i64 b.l), (.int .i64 b.h), (.int .i64 b.s)]), (Arr 23 b3 [(Value.int .i64 0), (Value.int .i64 0), (Value.int .i64 0)]), (Arr 3 b4 [(.int .i64 a.l), (.int .i64 a.h), (.int .i64 b.l), (.int .i64 b.h)]), (Arr 23 b5 [(.int .i64 ((ofN [a.l, a.h, b.l, b.h]).l)), (.int .i64 ((ofN [a.l, a.h, b.l, b.h]).h)), (.int .i64 ((ofN [a.l, a.h, b.l, b.h]).s))])] Try.mixed (perm_nil _) (by kernel_rfl) ?_
    refine rq rfl (qv_fa (off := 0) Try.field23_2 rfl) ?_
    refine rq rfl (qv_ldp (v := (.int .i64 a.s)) Try.plain3 rfl (inOc (k := 0) rfl) rfl) ?_
    refine rq rfl (qv_fa (off := 0) Try.field23_2 rfl) ?_
    refine rq rfl (qv_ldp (v := (.int .i64 b.s)) Try.plain3 rfl (inOc (k := 1) rfl) rfl) ?_
    refine rq rfl (qv_call (v := (.int .i64 ((Int.gcd a.s b.s : Int)))) (rGcd_c (by omega) (by first | omega | exact aw_nn _ _)) rfl rfl) ?_
    refine rq rfl (qv_fa (off := 0) Try.field23_0 rfl) ?_
    refine rq rfl (qv_ldp (v := (.int .i64 a.l)) Try.plain3 rfl (inOc (k := 0) rfl) rfl) ?_
    refine rq rfl (qv_fa (off := 0) Try.field23_0 rfl) ?_
    refine rq rfl (qv_ldp (v := (.int .i64 b.l)) Try.plain3 rfl (inOc (k := 1) rfl) rfl) ?_
    refine rq rfl (qv_call (v := (.int .i64 (aw a.l b.l))) (rAway_c (by omega) (by omega)) rfl rfl) ?_
    refine rq rfl (qv_call (v := (.int .i64 ((Int.gcd ((Int.gcd a.s b.s : Int)) (aw a.l b.l) : Int)))) (rGcd_c (by omega) (by first | omega | exact aw_nn _ _)) rfl rfl) ?_
    refine rq rfl (qv_fa (off := 0) Try.field23_2 rfl) ?_
    refine rl1 (by kernel_rfl) rfl ?_
    refine ops_stp (k := 4) (off := 2) (cs := [(.int .i64 ((ofN [a.l, a.h, b.l, b.h]).l)), (.int .i64 ((ofN [a.l, a.h, b.l, b.h]).h)), (.int .i64 ((ofN [a.l, a.h, b.l, b.h]).s))]) Try.size3 rfl (rfl : ev _ _ = (.int .i64 ((Int.gcd ((Int.gcd a.s b.s : Int)) (aw a.l b.l) : Int)))) rfl rfl (Nat.le_of_ble_eq_true rfl) ?_
    refine ops_nil ⟨[(Arr 23 b1 [(.int .i64 a.l), (.int .i64 a.h), (.int .i64 a.s)]), (Arr 23 b2 [(.int .i64 b.l), (.int .i64 b.h), (.int .i64 b.s)]), (Arr 23 b3 [(Value.int .i64 0), (Value.int .i64 0), (Value.int .i64 0)]), (Arr 3 b4 [(.int .i64 a.l), (.int .i64 a.h), (.int .i64 b.l), (.int .i64 b.h)]), (Arr 23 b5 [(.int .i64 ((ofN [a.l, a.h, b.l, b.h]).l)), (.int .i64 ((ofN [a.l, a.h, b.l, b.h]).h)), (.int .i64 ((Int.gcd ((Int.gcd a.s b.s : Int)) (aw a.l b.l) : Int)))])], [], perm_nil _, ?_⟩
    refine rnil ?_
    refine vc_seq ?_
    refine vc_res (σ' := [(Arr 23 b1 [(.int .i64 a.l), (.int .i64 a.h), (.int .i64 a.s)]), (Arr 23 b2 [(.int .i64 b.l), (.int .i64 b.h), (.int .i64 b.s)]), (Arr 23 b3 [(Value.int .i64 0), (Value.int .i64 0), (Value.int .i64 0)]), (Arr 3 b4 [(.int .i64 a.l), (.int .i64 a.h), (.int .i64 b.l), (.int .i64 b.h)]), (Arr 23 b5 [(.int .i64 ((ofN [a.l, a.h, b.l, b.h]).l)), (.int .i64 ((ofN [a.l, a.h, b.l, b.h]).h)), (.int .i64 ((Int.gcd ((Int.gcd a.s b.s : Int)) (aw a.l b.l) : Int)))])]) rfl ?_
    refine vc_region ?_
    refine oq (qv_ldm (vs := [(.int .i64 ((ofN [a.l, a.h, b.l, b.h]).l)), (.int .i64 ((ofN [a.l, a.h, b.l, b.h]).h)), (.int .i64 ((Int.gcd ((Int.gcd a.s b.s : Int)) (aw a.l b.l) : Int)))]) Try.agg23 rfl (inOc (k := 4) rfl) rfl rfl) ?_
    refine ops_stw (k := 2) (vs := [(.int .i64 ((ofN [a.l, a.h, b.l, b.h]).l)), (.int .i64 ((ofN [a.l, a.h, b.l, b.h]).h)), (.int .i64 ((Int.gcd ((Int.gcd a.s b.s : Int)) (aw a.l b.l) : Int)))]) Try.size23 rfl rfl rfl rfl rfl rfl ?_
    refine ops_nil ?_
    refine vc_ret ?_
    refine rs1 _ (rv_c (vs := [(.int .i64 ((ofN [a.l, a.h, b.l, b.h]).l)), (.int .i64 ((ofN [a.l, a.h, b.l, b.h]).h)), (.int .i64 ((Int.gcd ((Int.gcd a.s b.s : Int)) (aw a.l b.l) : Int)))]) Try.agg23 rfl (inOc (k := 2) rfl) rfl rfl) ?_
    exact (aggc (consc (congrArg (Value.int .i64) (show ((ofN [a.l, a.h, b.l, b.h]).l) = ((joinF a b).l) from by first | (rw [joinF_1 he]; done) | (rw [joinF_2 he (Or.inl hf)]; done) | exact j2 | exact j3 | exact j5 | exact j4 (by assumption))) (consc (congrArg (Value.int .i64) (show ((ofN [a.l, a.h, b.l, b.h]).h) = ((joinF a b).h) from by first | (rw [joinF_1 he]; done) | (rw [joinF_2 he (Or.inl hf)]; done) | exact j2 | exact j3 | exact j5 | exact j4 (by assumption))) (consc (congrArg (Value.int .i64) (show ((Int.gcd ((Int.gcd a.s b.s : Int)) (aw a.l b.l) : Int)) = ((joinF a b).s) from by first | (rw [joinF_1 he]; done) | (rw [joinF_2 he (Or.inl hf)]; done) | exact j2 | exact j3 | exact j5 | exact j4 (by assumption))) rfl))))
   ·
    refine vc_skip ?_
    refine vc_seq ?_
    refine vc_region ?_
    refine oq (qv_ldm (vs := [(.int .i64 ((ofN [a.l, a.h, b.l, b.h]).l)), (.int .i64 ((ofN [a.l, a.h, b.l, b.h]).h)), (.int .i64 ((ofN [a.l, a.h, b.l, b.h]).s))]) Try.agg23 rfl (inOc (k := 4) rfl) rfl rfl) ?_
    refine ops_stw (k := 2) (vs := [(.int .i64 ((ofN [a.l, a.h, b.l, b.h]).l)), (.int .i64 ((ofN [a.l, a.h, b.l, b.h]).h)), (.int .i64 ((ofN [a.l, a.h, b.l, b.h]).s))]) Try.size23 rfl rfl rfl rfl rfl rfl ?_
    refine ops_nil ?_
    refine vc_ret ?_
    refine rs1 _ (rv_c (vs := [(.int .i64 ((ofN [a.l, a.h, b.l, b.h]).l)), (.int .i64 ((ofN [a.l, a.h, b.l, b.h]).h)), (.int .i64 ((ofN [a.l, a.h, b.l, b.h]).s))]) Try.agg23 rfl (inOc (k := 2) rfl) rfl rfl) ?_
    exact (aggc (consc (congrArg (Value.int .i64) (show ((ofN [a.l, a.h, b.l, b.h]).l) = ((joinF a b).l) from by first | (rw [joinF_1 he]; done) | (rw [joinF_2 he (Or.inl hf)]; done) | exact j2 | exact j3 | exact j5 | exact j4 (by assumption))) (consc (congrArg (Value.int .i64) (show ((ofN [a.l, a.h, b.l, b.h]).h) = ((joinF a b).h) from by first | (rw [joinF_1 he]; done) | (rw [joinF_2 he (Or.inl hf)]; done) | exact j2 | exact j3 | exact j5 | exact j4 (by assumption))) (consc (congrArg (Value.int .i64) (show ((ofN [a.l, a.h, b.l, b.h]).s) = ((joinF a b).s) from by first | (rw [joinF_1 he]; done) | (rw [joinF_2 he (Or.inl hf)]; done) | exact j2 | exact j3 | exact j5 | exact j4 (by assumption))) rfl))))

end Go.Proofs.Ytapkilaikcihgaa
