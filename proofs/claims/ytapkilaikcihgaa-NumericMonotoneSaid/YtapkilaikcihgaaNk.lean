/- Walks of numeric: what each function returns. Printed by a program out of notes. -/
import Derived.Test.YtapkilaikcihgaaNj
namespace Go.Proofs.Ytapkilaikcihgaa
open Go.Vc
open Classical

set_option maxRecDepth 100000 in
set_option maxHeartbeats 4000000 in
theorem meet0_c {V : HV} {a b : Nm} (ha : vld a) (hb : vld b) (h0 : a.s = 0) :
    FnC Try.prog 52 [(.agg #[(.int .i64 a.l), (.int .i64 a.h), (.int .i64 a.s)]), (.agg #[(.int .i64 b.l), (.int .i64 b.h), (.int .i64 b.s)])] V [] (fun v _ _ => v = (.agg #[(.int .i64 ((meetF a b).l)), (.int .i64 ((meetF a b).h)), (.int .i64 ((meetF a b).s))])) := by
 refine fn_intro (N := 33) Try.func52 (by kernel_rfl) rfl rfl rfl (Nat.le_of_ble_eq_true rfl) ?_
 intro w0 D
 refine vc_seq ?_
 refine vc_region ?_
 refine ops_box (v := (.agg #[(.int .i64 a.l), (.int .i64 a.h), (.int .i64 a.s)])) (cs := [(.int .i64 a.l), (.int .i64 a.h), (.int .i64 a.s)]) rfl rfl (fun b1 => ?_)
 refine ops_box (v := (.agg #[(.int .i64 b.l), (.int .i64 b.h), (.int .i64 b.s)])) (cs := [(.int .i64 b.l), (.int .i64 b.h), (.int .i64 b.s)]) rfl rfl (fun b2 => ?_)
 refine ops_alloc Try.ti23 rfl (fun b3 => ?_)
 refine ops_nil ?_
 refine vc_seq ?_
 refine vc_block ?_
 refine vc_seq ?_
 refine vc_res (σ' := [(Arr 23 b1 [(.int .i64 a.l), (.int .i64 a.h), (.int .i64 a.s)]), (Arr 23 b2 [(.int .i64 b.l), (.int .i64 b.h), (.int .i64 b.s)]), (Arr 23 b3 [(Value.int .i64 0), (Value.int .i64 0), (Value.int .i64 0)])]) rfl ?_
 refine vc_region ?_
 refine oq (qv_ldm (vs := [(.int .i64 a.l), (.int .i64 a.h), (.int .i64 a.s)]) Try.agg23 rfl (inOc (k := 0) rfl) rfl rfl) ?_
 refine oq (qv_call (v := (.bool (decide (a = nE)))) (isEmpty_c (a := a)) rfl rfl) ?_
 refine oq (qv_mv (.bool (decide (a = nE))) rfl) ?_
 by_cases g1 : a = nE
 ·
  refine os (want_fn g1 rfl rfl rfl) ?_
  refine os (want_fn g1 rfl rfl rfl) ?_
  refine oq (qv_pick_t g1 rfl (rfl : ev _ _ = (Value.bool true))) ?_
  refine oq (qv_as (Value.bool true) rfl) ?_
  refine ops_nil ?_
  refine vc_tt rfl ?_
  refine vc_seq ?_
  refine vc_region ?_
  refine oq (qv_call (v := (.agg #[(.int .i64 nE.l), (.int .i64 nE.h), (.int .i64 nE.s)])) (none_c) rfl rfl) ?_
  refine ops_stw (k := 2) (vs := [(.int .i64 nE.l), (.int .i64 nE.h), (.int .i64 nE.s)]) Try.size23 rfl rfl rfl rfl rfl rfl ?_
  refine ops_nil ?_
  refine vc_ret ?_
  refine blockQ_ret ?_
  refine rs1 _ (rv_c (vs := [(.int .i64 nE.l), (.int .i64 nE.h), (.int .i64 nE.s)]) Try.agg23 rfl (inOc (k := 2) rfl) rfl rfl) ?_
  exact (agg3 (show nE = meetF a b from by first | (rw [meet_e ha (by first | exact Or.inl (by assumption) | exact Or.inr (by assumption))]; done) | (rw [meet_in ha hb he (by assumption) (by assumption)]; done) | (rw [meet_out ha he (by assumption) (by assumption)]; done) | (rw [meet_comm ha hb]; done)))
 ·
  refine og (qv_ldm (vs := [(.int .i64 b.l), (.int .i64 b.h), (.int .i64 b.s)]) Try.agg23 rfl (inOc (k := 1) rfl) rfl rfl) (want_f g1 rfl rfl rfl) ?_
  refine og (qv_call (v := (.bool (decide (b = nE)))) (isEmpty_c (a := b)) rfl rfl) (want_f g1 rfl rfl rfl) ?_
  refine oq (qv_pick_f g1 rfl (rfl : ev _ _ = (.bool (decide (b = nE))))) ?_
  refine oq (qv_as (.bool (decide (b = nE))) rfl) ?_
  refine ops_nil ?_
  refine vc_if rfl (fun c1 => ?_) (fun c1 => ?_)
  ·
   refine vc_seq ?_
   refine vc_region ?_
   refine oq (qv_call (v := (.agg #[(.int .i64 nE.l), (.int .i64 nE.h), (.int .i64 nE.s)])) (none_c) rfl rfl) ?_
   refine ops_stw (k := 2) (vs := [(.int .i64 nE.l), (.int .i64 nE.h), (.int .i64 nE.s)]) Try.size23 rfl rfl rfl rfl rfl rfl ?_
   refine ops_nil ?_
   refine vc_ret ?_
   refine blockQ_ret ?_
   refine rs1 _ (rv_c (vs := [(.int .i64 nE.l), (.int .i64 nE.h), (.int .i64 nE.s)]) Try.agg23 rfl (inOc (k := 2) rfl) rfl rfl) ?_
   exact (agg3 (show nE = meetF a b from by first | (rw [meet_e ha (by first | exact Or.inl (by assumption) | exact Or.inr (by assumption))]; done) | (rw [meet_in ha hb he (by assumption) (by assumption)]; done) | (rw [meet_out ha he (by assumption) (by assumption)]; done) | (rw [meet_comm ha hb]; done)))
  ·
   refine vc_seq ?_
   have he : a ≠ nE := by assumption
   have hf : b ≠ nE := by assumption
   refine vc_region ?_
   refine oq (qv_fa (off := 0) Try.field23_2 rfl) ?_
   refine oq (qv_ldp (v := (.int .i64 a.s)) Try.plain3 rfl (inOc (k := 0) rfl) rfl) ?_
   refine oq (qv_eql rfl rfl) ?_
   refine oq (qv_as (.bool (decide (a.s = 0))) rfl) ?_
   refine ops_nil ?_
   refine vc_if rfl (fun c2 => ?_) (fun c2 => ?_)
   ·
    refine vc_seq ?_
    refine vc_seq ?_
    refine vc_region ?_
    refine oq (qv_ldm (vs := [(.int .i64 b.l), (.int .i64 b.h), (.int .i64 b.s)]) Try.agg23 rfl (inOc (k := 1) rfl) rfl rfl) ?_
    refine oq (qv_fa (off := 0) Try.field23_0 rfl) ?_
    refine oq (qv_ldp (v := (.int .i64 a.l)) Try.plain3 rfl (inOc (k := 0) rfl) rfl) ?_
    refine oq (qv_call (v := (.bool (decide (mem b a.l)))) (has_c (a := b) (by assumption)) rfl rfl) ?_
    refine ops_nil ?_
    refine vc_if rfl (fun c3 => ?_) (fun c3 => ?_)
    ·
     refine vc_seq ?_
     refine vc_region ?_
     refine oq (qv_ldm (vs := [(.int .i64 a.l), (.int .i64 a.h), (.int .i64 a.s)]) Try.agg23 rfl (inOc (k := 0) rfl) rfl rfl) ?_
     refine ops_stw (k := 2) (vs := [(.int .i64 a.l), (.int .i64 a.h), (.int .i64 a.s)]) Try.size23 rfl rfl rfl rfl rfl rfl ?_
     refine ops_nil ?_
     refine vc_ret ?_
     refine blockQ_ret ?_
     refine rs1 _ (rv_c (vs := [(.int .i64 a.l), (.int .i64 a.h), (.int .i64 a.s)]) Try.agg23 rfl (inOc (k := 2) rfl) rfl rfl) ?_
     exact (agg3 (show a = meetF a b from by first | (rw [meet_e ha (by first | exact Or.inl (by assumption) | exact Or.inr (by assumption))]; done) | (rw [meet_in ha hb he (by assumption) (by assumption)]; done) | (rw [meet_out ha he (by assumption) (by assumption)]; done) | (rw [meet_comm ha hb]; done)))
    ·
     refine vc_skip ?_
     refine vc_seq ?_
     refine vc_region ?_
     refine oq (qv_call (v := (.agg #[(.int .i64 nE.l), (.int .i64 nE.h), (.int .i64 nE.s)])) (none_c) rfl rfl) ?_
     refine ops_stw (k := 2) (vs := [(.int .i64 nE.l), (.int .i64 nE.h), (.int .i64 nE.s)]) Try.size23 rfl rfl rfl rfl rfl rfl ?_
     refine ops_nil ?_
     refine vc_ret ?_
     refine blockQ_ret ?_
     refine rs1 _ (rv_c (vs := [(.int .i64 nE.l), (.int .i64 nE.h), (.int .i64 nE.s)]) Try.agg23 rfl (inOc (k := 2) rfl) rfl rfl) ?_
     exact (agg3 (show nE = meetF a b from by first | (rw [meet_e ha (by first | exact Or.inl (by assumption) | exact Or.inr (by assumption))]; done) | (rw [meet_in ha hb he (by assumption) (by assumption)]; done) | (rw [meet_out ha he (by assumption) (by assumption)]; done) | (rw [meet_comm ha hb]; done)))
   ·
    exact absurd h0 c2

set_option maxRecDepth 100000 in
set_option maxHeartbeats 4000000 in
theorem meet_c {V : HV} {a b : Nm} (ha : vld a) (hb : vld b) :
    FnC Try.prog 52 [(.agg #[(.int .i64 a.l), (.int .i64 a.h), (.int .i64 a.s)]), (.agg #[(.int .i64 b.l), (.int .i64 b.h), (.int .i64 b.s)])] V [] (fun v _ _ => v = (.agg #[(.int .i64 ((meetF a b).l)), (.int .i64 ((meetF a b).h)), (.int .i64 ((meetF a b).s))])) := by
 refine fn_intro (N := 33) Try.func52 (by kernel_rfl) rfl rfl rfl (Nat.le_of_ble_eq_true rfl) ?_
 intro w0 D
 refine vc_seq ?_
 refine vc_region ?_
 refine ops_box (v := (.agg #[(.int .i64 a.l), (.int .i64 a.h), (.int .i64 a.s)])) (cs := [(.int .i64 a.l), (.int .i64 a.h), (.int .i64 a.s)]) rfl rfl (fun b1 => ?_)
 refine ops_box (v := (.agg #[(.int .i64 b.l), (.int .i64 b.h), (.int .i64 b.s)])) (cs := [(.int .i64 b.l), (.int .i64 b.h), (.int .i64 b.s)]) rfl rfl (fun b2 => ?_)
 refine ops_alloc Try.ti23 rfl (fun b3 => ?_)
 refine ops_nil ?_
 refine vc_seq ?_
 refine vc_block ?_
 refine vc_seq ?_
 refine vc_res (σ' := [(Arr 23 b1 [(.int .i64 a.l), (.int .i64 a.h), (.int .i64 a.s)]), (Arr 23 b2 [(.int .i64 b.l), (.int .i64 b.h), (.int .i64 b.s)]), (Arr 23 b3 [(Value.int .i64 0), (Value.int .i64 0), (Value.int .i64 0)])]) rfl ?_
 refine vc_region ?_
 refine oq (qv_ldm (vs := [(.int .i64 a.l), (.int .i64 a.h), (.int .i64 a.s)]) Try.agg23 rfl (inOc (k := 0) rfl) rfl rfl) ?_
 refine oq (qv_call (v := (.bool (decide (a = nE)))) (isEmpty_c (a := a)) rfl rfl) ?_
 refine oq (qv_mv (.bool (decide (a = nE))) rfl) ?_
 by_cases g1 : a = nE
 ·
  refine os (want_fn g1 rfl rfl rfl) ?_
  refine os (want_fn g1 rfl rfl rfl) ?_
  refine oq (qv_pick_t g1 rfl (rfl : ev _ _ = (Value.bool true))) ?_
  refine oq (qv_as (Value.bool true) rfl) ?_
  refine ops_nil ?_
  refine vc_tt rfl ?_
  refine vc_seq ?_
  refine vc_region ?_
  refine oq (qv_call (v := (.agg #[(.int .i64 nE.l), (.int .i64 nE.h), (.int .i64 nE.s)])) (none_c) rfl rfl) ?_
  refine ops_stw (k := 2) (vs := [(.int .i64 nE.l), (.int .i64 nE.h), (.int .i64 nE.s)]) Try.size23 rfl rfl rfl rfl rfl rfl ?_
  refine ops_nil ?_
  refine vc_ret ?_
  refine blockQ_ret ?_
  refine rs1 _ (rv_c (vs := [(.int .i64 nE.l), (.int .i64 nE.h), (.int .i64 nE.s)]) Try.agg23 rfl (inOc (k := 2) rfl) rfl rfl) ?_
  exact (agg3 (show nE = meetF a b from by first | rfl | (rw [meet_e ha (by first | exact Or.inl (by assumption) | exact Or.inr (by assumption))]; done) | (rw [meet_in ha hb he (by assumption) (by assumption)]; done) | (rw [meet_out ha he (by assumption) (by assumption)]; done) | (rw [meet_comm ha hb]; done)))
 ·
  refine og (qv_ldm (vs := [(.int .i64 b.l), (.int .i64 b.h), (.int .i64 b.s)]) Try.agg23 rfl (inOc (k := 1) rfl) rfl rfl) (want_f g1 rfl rfl rfl) ?_
  refine og (qv_call (v := (.bool (decide (b = nE)))) (isEmpty_c (a := b)) rfl rfl) (want_f g1 rfl rfl rfl) ?_
  refine oq (qv_pick_f g1 rfl (rfl : ev _ _ = (.bool (decide (b = nE))))) ?_
  refine oq (qv_as (.bool (decide (b = nE))) rfl) ?_
  refine ops_nil ?_
  refine vc_if rfl (fun c1 => ?_) (fun c1 => ?_)
  ·
   refine vc_seq ?_
   refine vc_region ?_
   refine oq (qv_call (v := (.agg #[(.int .i64 nE.l), (.int .i64 nE.h), (.int .i64 nE.s)])) (none_c) rfl rfl) ?_
   refine ops_stw (k := 2) (vs := [(.int .i64 nE.l), (.int .i64 nE.h), (.int .i64 nE.s)]) Try.size23 rfl rfl rfl rfl rfl rfl ?_
   refine ops_nil ?_
   refine vc_ret ?_
   refine blockQ_ret ?_
   refine rs1 _ (rv_c (vs := [(.int .i64 nE.l), (.int .i64 nE.h), (.int .i64 nE.s)]) Try.agg23 rfl (inOc (k := 2) rfl) rfl rfl) ?_
   exact (agg3 (show nE = meetF a b from by first | rfl | (rw [meet_e ha (by first | exact Or.inl (by assumption) | exact Or.inr (by assumption))]; done) | (rw [meet_in ha hb he (by assumption) (by assumption)]; done) | (rw [meet_out ha he (by assumption) (by assumption)]; done) | (rw [meet_comm ha hb]; done)))
  ·
   refine vc_seq ?_
   have he : a ≠ nE := by assumption
   have hf : b ≠ nE := by assumption
   refine vc_region ?_
   refine oq (qv_fa (off := 0) Try.field23_2 rfl) ?_
   refine oq (qv_ldp (v := (.int .i64 a.s)) Try.plain3 rfl (inOc (k := 0) rfl) rfl) ?_
   refine oq (qv_eql rfl rfl) ?_
   refine oq (qv_as (.bool (decide (a.s = 0))) rfl) ?_
   refine ops_nil ?_
   refine vc_if rfl (fun c2 => ?_) (fun c2 => ?_)
   ·
    refine vc_seq ?_
    refine vc_seq ?_
    refine vc_region ?_
    refine oq (qv_ldm (vs := [(.int .i64 b.l), (.int .i64 b.h), (.int .i64 b.s)]) Try.agg23 rfl (inOc (k := 1) rfl) rfl rfl) ?_
    refine oq (qv_fa (off := 0) Try.field23_0 rfl) ?_
    refine oq (qv_ldp (v := (.int .i64 a.l)) Try.plain3 rfl (inOc (k := 0) rfl) rfl) ?_
    refine oq (qv_call (v := (.bool (decide (mem b a.l)))) (has_c (a := b) (by assumption)) rfl rfl) ?_
    refine ops_nil ?_
    refine vc_if rfl (fun c3 => ?_) (fun c3 => ?_)
    ·
     refine vc_seq ?_
     refine vc_region ?_
     refine oq (qv_ldm (vs := [(.int .i64 a.l), (.int .i64 a.h), (.int .i64 a.s)]) Try.agg23 rfl (inOc (k := 0) rfl) rfl rfl) ?_
     refine ops_stw (k := 2) (vs := [(.int .i64 a.l), (.int .i64 a.h), (.int .i64 a.s)]) Try.size23 rfl rfl rfl rfl rfl rfl ?_
     refine ops_nil ?_
     refine vc_ret ?_
     refine blockQ_ret ?_
     refine rs1 _ (rv_c (vs := [(.int .i64 a.l), (.int .i64 a.h), (.int .i64 a.s)]) Try.agg23 rfl (inOc (k := 2) rfl) rfl rfl) ?_
     exact (agg3 (show a = meetF a b from by first | rfl | (rw [meet_e ha (by first | exact Or.inl (by assumption) | exact Or.inr (by assumption))]; done) | (rw [meet_in ha hb he (by assumption) (by assumption)]; done) | (rw [meet_out ha he (by assumption) (by assumption)]; done) | (rw [meet_comm ha hb]; done)))
    ·
     refine vc_skip ?_
     refine vc_seq ?_
     refine vc_region ?_
     refine oq (qv_call (v := (.agg #[(.int .i64 nE.l), (.int .i64 nE.h), (.int .i64 nE.s)])) (none_c) rfl rfl) ?_
     refine ops_stw (k := 2) (vs := [(.int .i64 nE.l), (.int .i64 nE.h), (.int .i64 nE.s)]) Try.size23 rfl rfl rfl rfl rfl rfl ?_
     refine ops_nil ?_
     refine vc_ret ?_
     refine blockQ_ret ?_
     refine rs1 _ (rv_c (vs := [(.int .i64 nE.l), (.int .i64 nE.h), (.int .i64 nE.s)]) Try.agg23 rfl (inOc (k := 2) rfl) rfl rfl) ?_
     exact (agg3 (show nE = meetF a b from by first | rfl | (rw [meet_e ha (by first | exact Or.inl (by assumption) | exact Or.inr (by assumption))]; done) | (rw [meet_in ha hb he (by assumption) (by assumption)]; done) | (rw [meet_out ha he (by assumption) (by assumption)]; done) | (rw [meet_comm ha hb]; done)))
   ·
    refine vc_seq ?_
    refine vc_region ?_
    refine oq (qv_fa (off := 0) Try.field23_2 rfl) ?_
    refine oq (qv_ldp (v := (.int .i64 b.s)) Try.plain3 rfl (inOc (k := 1) rfl) rfl) ?_
    refine oq (qv_eql rfl rfl) ?_
    refine oq (qv_as (.bool (decide (b.s = 0))) rfl) ?_
    refine ops_nil ?_
    refine vc_if rfl (fun c4 => ?_) (fun c4 => ?_)
    ·
     refine vc_seq ?_
     refine vc_region ?_
     refine oq (qv_ldm (vs := [(.int .i64 b.l), (.int .i64 b.h), (.int .i64 b.s)]) Try.agg23 rfl (inOc (k := 1) rfl) rfl rfl) ?_
     refine oq (qv_ldm (vs := [(.int .i64 a.l), (.int .i64 a.h), (.int .i64 a.s)]) Try.agg23 rfl (inOc (k := 0) rfl) rfl rfl) ?_
     refine oq (qv_call (v := (.agg #[(.int .i64 ((meetF b a).l)), (.int .i64 ((meetF b a).h)), (.int .i64 ((meetF b a).s))])) (meet0_c (a := b) (b := a) hb ha (by assumption)) rfl rfl) ?_
     refine ops_stw (k := 2) (vs := [(.int .i64 ((meetF b a).l)), (.int .i64 ((meetF b a).h)), (.int .i64 ((meetF b a).s))]) Try.size23 rfl rfl rfl rfl rfl rfl ?_
     refine ops_nil ?_
     refine vc_ret ?_
     refine blockQ_ret ?_
     refine rs1 _ (rv_c (vs := [(.int .i64 ((meetF b a).l)), (.int .i64 ((meetF b a).h)), (.int .i64 ((meetF b a).s))]) Try.agg23 rfl (inOc (k := 2) rfl) rfl rfl) ?_
     exact (agg3 (show meetF b a = meetF a b from by first | rfl | (rw [meet_e ha (by first | exact Or.inl (by assumption) | exact Or.inr (by assumption))]; done) | (rw [meet_in ha hb he (by assumption) (by assumption)]; done) | (rw [meet_out ha he (by assumption) (by assumption)]; done) | (rw [meet_comm ha hb]; done)))
    ·
     refine vc_skip ?_
     refine vc_seq ?_
     refine vc_region ?_
     refine oq (qv_ldm (vs := [(.int .i64 a.l), (.int .i64 a.h), (.int .i64 a.s)]) Try.agg23 rfl (inOc (k := 0) rfl) rfl rfl) ?_
     refine oq (qv_ldm (vs := [(.int .i64 b.l), (.int .i64 b.h), (.int .i64 b.s)]) Try.agg23 rfl (inOc (k := 1) rfl) rfl rfl) ?_
     refine oq (qv_call (v := (.agg #[(.int .i64 ((meetF a b).l)), (.int .i64 ((meetF a b).h)), (.int .i64 ((meetF a b).s))])) (common_c (com_of ha hb he hf (by assumption) (by assumption))) rfl rfl) ?_
     refine ops_stw (k := 2) (vs := [(.int .i64 ((meetF a b).l)), (.int .i64 ((meetF a b).h)), (.int .i64 ((meetF a b).s))]) Try.size23 rfl rfl rfl rfl rfl rfl ?_
     refine ops_nil ?_
     refine vc_ret ?_
     refine rs1 _ (rv_c (vs := [(.int .i64 ((meetF a b).l)), (.int .i64 ((meetF a b).h)), (.int .i64 ((meetF a b).s))]) Try.agg23 rfl (inOc (k := 2) rfl) rfl rfl) ?_
     exact rfl

end Go.Proofs.Ytapkilaikcihgaa
