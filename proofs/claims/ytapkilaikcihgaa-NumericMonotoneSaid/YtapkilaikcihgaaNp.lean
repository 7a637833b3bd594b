/- Walks of numeric: what each function returns. Printed by a program out of notes. -/
import Derived.Test.YtapkilaikcihgaaNo
import Derived.Test.YtapkilaikcihgaaNmR
namespace Go.Proofs.Ytapkilaikcihgaa
open Go.Vc
open Classical

set_option maxRecDepth 100000 in
set_option maxHeartbeats 4000000 in
theorem compared_c {V : HV} {op : Int} {a b : Nm} (ha : vld a) (hb : vld b) (he : a ≠ nE) (hf : b ≠ nE) (ho : 13 ≤ op ∧ op ≤ 20) :
    FnC Try.prog 68 [(Value.int .i64 op), (.agg #[(.int .i64 a.l), (.int .i64 a.h), (.int .i64 a.s)]), (.agg #[(.int .i64 b.l), (.int .i64 b.h), (.int .i64 b.s)])] V [] (fun v _ _ => v = (.agg #[(.int .i64 ((exF op a b).l)), (.int .i64 ((exF op a b).h)), (.int .i64 ((exF op a b).s))])) := by
 refine fn_intro (N := 126) Try.func68 (by kernel_rfl) rfl rfl rfl (Nat.le_of_ble_eq_true rfl) ?_
 intro w0 D
 refine vc_seq ?_
 refine vc_region ?_
 refine ops_box (v := (.agg #[(.int .i64 a.l), (.int .i64 a.h), (.int .i64 a.s)])) (cs := [(.int .i64 a.l), (.int .i64 a.h), (.int .i64 a.s)]) rfl rfl (fun b1 => ?_)
 refine ops_box (v := (.agg #[(.int .i64 b.l), (.int .i64 b.h), (.int .i64 b.s)])) (cs := [(.int .i64 b.l), (.int .i64 b.h), (.int .i64 b.s)]) rfl rfl (fun b2 => ?_)
 refine ops_alloc Try.ti23 rfl (fun b3 => ?_)
 refine ops_nil ?_
 refine vc_seq ?_
 refine vc_res (σ' := [(Arr 23 b1 [(.int .i64 a.l), (.int .i64 a.h), (.int .i64 a.s)]), (Arr 23 b2 [(.int .i64 b.l), (.int .i64 b.h), (.int .i64 b.s)]), (Arr 23 b3 [(Value.int .i64 0), (Value.int .i64 0), (Value.int .i64 0)])]) rfl ?_
 refine vc_region ?_
 refine oq (qv_ldm (vs := [(.int .i64 a.l), (.int .i64 a.h), (.int .i64 a.s)]) Try.agg23 rfl (inOc (k := 0) rfl) rfl rfl) ?_
 refine oq (qv_ldm (vs := [(.int .i64 b.l), (.int .i64 b.h), (.int .i64 b.s)]) Try.agg23 rfl (inOc (k := 1) rfl) rfl rfl) ?_
 refine oq (qv_call (v := (.agg #[(.int .i64 ((meetF a b).l)), (.int .i64 ((meetF a b).h)), (.int .i64 ((meetF a b).s))])) (meet_c (a := a) (b := b) (by assumption) (by assumption)) rfl rfl) ?_
 refine oq (qv_call (v := (.bool (decide (meetF a b = nE)))) (isEmpty_c (a := meetF a b)) rfl rfl) ?_
 refine oq (qv_not rfl) ?_
 refine oq (qv_as (.bool (decide (¬ (meetF a b = nE)))) rfl) ?_
 refine ops_nil ?_
 refine vc_seq ?_
 refine vc_region ?_
 refine oq (qv_ldm (vs := [(.int .i64 a.l), (.int .i64 a.h), (.int .i64 a.s)]) Try.agg23 rfl (inOc (k := 0) rfl) rfl rfl) ?_
 refine oq (qv_call (v := (.int .i64 (sizeF a))) (size_c (a := a) (by assumption)) rfl rfl) ?_
 refine oq (qv_gtr rfl rfl) ?_
 refine oq (qv_mv (.bool (decide (1 < (sizeF a)))) rfl) ?_
 by_cases g1 : 1 < (sizeF a)
 ·
  refine os (want_fn g1 rfl rfl rfl) ?_
  refine os (want_fn g1 rfl rfl rfl) ?_
  refine os (want_fn g1 rfl rfl rfl) ?_
  refine oq (qv_pick_t g1 rfl (rfl : ev _ _ = (Value.bool true))) ?_
  refine oq (qv_mv (Value.bool true) rfl) ?_
  refine os (want_fnc rfl rfl rfl) ?_
  refine os (want_fnc rfl rfl rfl) ?_
  refine os (want_fnc rfl rfl rfl) ?_
  refine os (want_fnc rfl rfl rfl) ?_
  refine os (want_fnc rfl rfl rfl) ?_
  refine oq (qv_pick_tc rfl (rfl : ev _ _ = (Value.bool true))) ?_
  refine oq (qv_as (.bool (decide (uneq a b))) (congrArg Value.bool (decide_eq_true (show (uneq a b) from by unfold uneq; first | omega | (constructor; exact fun z => Or.inr (Or.inr z); exact fun z => (z.resolve_left (by assumption)).resolve_left (by assumption)))).symm)) ?_
  refine ops_nil ?_
  refine vc_seq ?_
  refine vc_region ?_
  refine oq (qv_ldm (vs := [(.int .i64 a.l), (.int .i64 a.h), (.int .i64 a.s)]) Try.agg23 rfl (inOc (k := 0) rfl) rfl rfl) ?_
  refine oq (qv_call (v := (.tuple #[(.bool (decide (mem a 0))), (.bool (decide (oth a)))])) (truth_c (a := a) (by assumption)) rfl rfl) ?_
  refine oq (qv_mv (.tuple #[(.bool (decide (mem a 0))), (.bool (decide (oth a)))]) rfl) ?_
  refine oq (qv_ext (.bool (decide (mem a 0))) rfl rfl) ?_
  refine oq (qv_ext (.bool (decide (oth a))) rfl rfl) ?_
  refine oq (qv_as (.bool (decide (mem a 0))) rfl) ?_
  refine oq (qv_as (.bool (decide (oth a))) rfl) ?_
  refine ops_nil ?_
  refine vc_seq ?_
  refine vc_region ?_
  refine oq (qv_ldm (vs := [(.int .i64 b.l), (.int .i64 b.h), (.int .i64 b.s)]) Try.agg23 rfl (inOc (k := 1) rfl) rfl rfl) ?_
  refine oq (qv_call (v := (.tuple #[(.bool (decide (mem b 0))), (.bool (decide (oth b)))])) (truth_c (a := b) (by assumption)) rfl rfl) ?_
  refine oq (qv_mv (.tuple #[(.bool (decide (mem b 0))), (.bool (decide (oth b)))]) rfl) ?_
  refine oq (qv_ext (.bool (decide (mem b 0))) rfl rfl) ?_
  refine oq (qv_ext (.bool (decide (oth b))) rfl rfl) ?_
  refine oq (qv_as (.bool (decide (mem b 0))) rfl) ?_
  refine oq (qv_as (.bool (decide (oth b))) rfl) ?_
  refine ops_nil ?_
  refine vc_seq ?_
  refine vc_seq ?_
  refine vc_region ?_
  refine oq (qv_mv (Value.int .i64 op) rfl) ?_
  refine ops_nil ?_
  refine vc_block ?_
  refine vc_seq ?_
  refine vc_region ?_
  refine oq (qv_eql rfl rfl) ?_
  refine oq (qv_as (.bool (decide (op = 13))) rfl) ?_
  refine ops_nil ?_
  refine vc_if rfl (fun c1 => ?_) (fun c1 => ?_)
  ·
   refine vc_seq ?_
   refine vc_region ?_
   refine oq (qv_mv (.bool (decide (uneq a b))) rfl) ?_
   refine oq (qv_mv (.bool (decide (¬ (meetF a b = nE)))) rfl) ?_
   refine oq (qv_call (v := (.agg #[(.int .i64 ((fgF (uneq a b) (¬ (meetF a b = nE))).l)), (.int .i64 ((fgF (uneq a b) (¬ (meetF a b = nE))).h)), (.int .i64 ((fgF (uneq a b) (¬ (meetF a b = nE))).s))])) (flags_c (p := uneq a b) (q := ¬ (meetF a b = nE)) ) rfl rfl) ?_
   refine ops_stw (k := 2) (vs := [(.int .i64 ((fgF (uneq a b) (¬ (meetF a b = nE))).l)), (.int .i64 ((fgF (uneq a b) (¬ (meetF a b = nE))).h)), (.int .i64 ((fgF (uneq a b) (¬ (meetF a b = nE))).s))]) Try.size23 rfl rfl rfl rfl rfl rfl ?_
   refine ops_nil ?_
   refine vc_ret ?_
   refine blockQ_ret ?_
   refine rs1 _ (rv_c (vs := [(.int .i64 ((fgF (uneq a b) (¬ (meetF a b = nE))).l)), (.int .i64 ((fgF (uneq a b) (¬ (meetF a b = nE))).h)), (.int .i64 ((fgF (uneq a b) (¬ (meetF a b = nE))).s))]) Try.agg23 rfl (inOc (k := 2) rfl) rfl rfl) ?_
   exact (agg3 (show fgF (uneq a b) (¬ (meetF a b = nE)) = exF op a b from by first | (exfalso; omega) | exact (fg_congr (by rw [no13 (by omega)]) (by rw [yes13 (by omega)])).trans (cp_all ha hb he hf ho).1.symm))
  ·
   refine vc_seq ?_
   refine vc_region ?_
   refine oq (qv_eql rfl rfl) ?_
   refine oq (qv_as (.bool (decide (op = 14))) rfl) ?_
   refine ops_nil ?_
   refine vc_if rfl (fun c2 => ?_) (fun c2 => ?_)
   ·
    refine vc_seq ?_
    refine vc_region ?_
    refine oq (qv_mv (.bool (decide (¬ (meetF a b = nE)))) rfl) ?_
    refine oq (qv_mv (.bool (decide (uneq a b))) rfl) ?_
    refine oq (qv_call (v := (.agg #[(.int .i64 ((fgF (¬ (meetF a b = nE)) (uneq a b)).l)), (.int .i64 ((fgF (¬ (meetF a b = nE)) (uneq a b)).h)), (.int .i64 ((fgF (¬ (meetF a b = nE)) (uneq a b)).s))])) (flags_c (p := ¬ (meetF a b = nE)) (q := uneq a b) ) rfl rfl) ?_
    refine ops_stw (k := 2) (vs := [(.int .i64 ((fgF (¬ (meetF a b = nE)) (uneq a b)).l)), (.int .i64 ((fgF (¬ (meetF a b = nE)) (uneq a b)).h)), (.int .i64 ((fgF (¬ (meetF a b = nE)) (uneq a b)).s))]) Try.size23 rfl rfl rfl rfl rfl rfl ?_
    refine ops_nil ?_
    refine vc_ret ?_
    refine blockQ_ret ?_
    refine rs1 _ (rv_c (vs := [(.int .i64 ((fgF (¬ (meetF a b = nE)) (uneq a b)).l)), (.int .i64 ((fgF (¬ (meetF a b = nE)) (uneq a b)).h)), (.int .i64 ((fgF (¬ (meetF a b = nE)) (uneq a b)).s))]) Try.agg23 rfl (inOc (k := 2) rfl) rfl rfl) ?_
    exact (agg3 (show fgF (¬ (meetF a b = nE)) (uneq a b) = exF op a b from by first | (exfalso; omega) | exact (fg_congr (by rw [no14 (by omega)]) (by rw [yes14 (by omega)])).trans (cp_all ha hb he hf ho).1.symm))
   ·
    refine vc_seq ?_
    refine vc_region ?_
    refine oq (qv_eql rfl rfl) ?_
    refine oq (qv_as (.bool (decide (op = 15))) rfl) ?_
    refine ops_nil ?_
    refine vc_if rfl (fun c3 => ?_) (fun c3 => ?_)
    ·
     refine vc_seq ?_
     refine vc_region ?_
     refine oq (qv_fa (off := 0) Try.field23_1 rfl) ?_
     refine oq (qv_ldp (v := (.int .i64 a.h)) Try.plain3 rfl (inOc (k := 0) rfl) rfl) ?_
     refine oq (qv_fa (off := 0) Try.field23_0 rfl) ?_
     refine oq (qv_ldp (v := (.int .i64 b.l)) Try.plain3 rfl (inOc (k := 1) rfl) rfl) ?_
     refine oq (qv_geq rfl rfl) ?_
     refine oq (qv_fa (off := 0) Try.field23_0 rfl) ?_
     refine oq (qv_ldp (v := (.int .i64 a.l)) Try.plain3 rfl (inOc (k := 0) rfl) rfl) ?_
     refine oq (qv_fa (off := 0) Try.field23_1 rfl) ?_
     refine oq (qv_ldp (v := (.int .i64 b.h)) Try.plain3 rfl (inOc (k := 1) rfl) rfl) ?_
     refine oq (qv_lss rfl rfl) ?_
     refine oq (qv_call (v := (.agg #[(.int .i64 ((fgF (b.l ≤ a.h) (a.l < b.h)).l)), (.int .i64 ((fgF (b.l ≤ a.h) (a.l < b.h)).h)), (.int .i64 ((fgF (b.l ≤ a.h) (a.l < b.h)).s))])) (flags_c (p := b.l ≤ a.h) (q := a.l < b.h) ) rfl rfl) ?_
     refine ops_stw (k := 2) (vs := [(.int .i64 ((fgF (b.l ≤ a.h) (a.l < b.h)).l)), (.int .i64 ((fgF (b.l ≤ a.h) (a.l < b.h)).h)), (.int .i64 ((fgF (b.l ≤ a.h) (a.l < b.h)).s))]) Try.size23 rfl rfl rfl rfl rfl rfl ?_
     refine ops_nil ?_
     refine vc_ret ?_
     refine blockQ_ret ?_
     refine rs1 _ (rv_c (vs := [(.int .i64 ((fgF (b.l ≤ a.h) (a.l < b.h)).l)), (.int .i64 ((fgF (b.l ≤ a.h) (a.l < b.h)).h)), (.int .i64 ((fgF (b.l ≤ a.h) (a.l < b.h)).s))]) Try.agg23 rfl (inOc (k := 2) rfl) rfl rfl) ?_
     exact (agg3 (show fgF (b.l ≤ a.h) (a.l < b.h) = exF op a b from by first | (exfalso; omega) | exact (fg_congr (by rw [no15 (by omega)]) (by rw [yes15 (by omega)])).trans (cp_all ha hb he hf ho).1.symm))
    ·
     refine vc_seq ?_
     refine vc_region ?_
     refine oq (qv_eql rfl rfl) ?_
     refine oq (qv_as (.bool (decide (op = 16))) rfl) ?_
     refine ops_nil ?_
     refine vc_if rfl (fun c4 => ?_) (fun c4 => ?_)
     ·
      refine vc_seq ?_
      refine vc_region ?_
      refine oq (qv_fa (off := 0) Try.field23_1 rfl) ?_
      refine oq (qv_ldp (v := (.int .i64 a.h)) Try.plain3 rfl (inOc (k := 0) rfl) rfl) ?_
      refine oq (qv_fa (off := 0) Try.field23_0 rfl) ?_
      refine oq (qv_ldp (v := (.int .i64 b.l)) Try.plain3 rfl (inOc (k := 1) rfl) rfl) ?_
      refine oq (qv_gtr rfl rfl) ?_
      refine oq (qv_fa (off := 0) Try.field23_0 rfl) ?_
      refine oq (qv_ldp (v := (.int .i64 a.l)) Try.plain3 rfl (inOc (k := 0) rfl) rfl) ?_
      refine oq (qv_fa (off := 0) Try.field23_1 rfl) ?_
      refine oq (qv_ldp (v := (.int .i64 b.h)) Try.plain3 rfl (inOc (k := 1) rfl) rfl) ?_
      refine oq (qv_leq rfl rfl) ?_
      refine oq (qv_call (v := (.agg #[(.int .i64 ((fgF (b.l < a.h) (a.l ≤ b.h)).l)), (.int .i64 ((fgF (b.l < a.h) (a.l ≤ b.h)).h)), (.int .i64 ((fgF (b.l < a.h) (a.l ≤ b.h)).s))])) (flags_c (p := b.l < a.h) (q := a.l ≤ b.h) ) rfl rfl) ?_
      refine ops_stw (k := 2) (vs := [(.int .i64 ((fgF (b.l < a.h) (a.l ≤ b.h)).l)), (.int .i64 ((fgF (b.l < a.h) (a.l ≤ b.h)).h)), (.int .i64 ((fgF (b.l < a.h) (a.l ≤ b.h)).s))]) Try.size23 rfl rfl rfl rfl rfl rfl ?_
      refine ops_nil ?_
      refine vc_ret ?_
      refine blockQ_ret ?_
      refine rs1 _ (rv_c (vs := [(.int .i64 ((fgF (b.l < a.h) (a.l ≤ b.h)).l)), (.int .i64 ((fgF (b.l < a.h) (a.l ≤ b.h)).h)), (.int .i64 ((fgF (b.l < a.h) (a.l ≤ b.h)).s))]) Try.agg23 rfl (inOc (k := 2) rfl) rfl rfl) ?_
      exact (agg3 (show fgF (b.l < a.h) (a.l ≤ b.h) = exF op a b from by first | (exfalso; omega) | exact (fg_congr (by rw [no16 (by omega)]) (by rw [yes16 (by omega)])).trans (cp_all ha hb he hf ho).1.symm))
     ·
      refine vc_seq ?_
      refine vc_region ?_
      refine oq (qv_eql rfl rfl) ?_
      refine oq (qv_as (.bool (decide (op = 17))) rfl) ?_
      refine ops_nil ?_
      refine vc_if rfl (fun c5 => ?_) (fun c5 => ?_)
      ·
       refine vc_seq ?_
       refine vc_region ?_
       refine oq (qv_fa (off := 0) Try.field23_0 rfl) ?_
       refine oq (qv_ldp (v := (.int .i64 a.l)) Try.plain3 rfl (inOc (k := 0) rfl) rfl) ?_
       refine oq (qv_fa (off := 0) Try.field23_1 rfl) ?_
       refine oq (qv_ldp (v := (.int .i64 b.h)) Try.plain3 rfl (inOc (k := 1) rfl) rfl) ?_
       refine oq (qv_leq rfl rfl) ?_
       refine oq (qv_fa (off := 0) Try.field23_1 rfl) ?_
       refine oq (qv_ldp (v := (.int .i64 a.h)) Try.plain3 rfl (inOc (k := 0) rfl) rfl) ?_
       refine oq (qv_fa (off := 0) Try.field23_0 rfl) ?_
       refine oq (qv_ldp (v := (.int .i64 b.l)) Try.plain3 rfl (inOc (k := 1) rfl) rfl) ?_
       refine oq (qv_gtr rfl rfl) ?_
       refine oq (qv_call (v := (.agg #[(.int .i64 ((fgF (a.l ≤ b.h) (b.l < a.h)).l)), (.int .i64 ((fgF (a.l ≤ b.h) (b.l < a.h)).h)), (.int .i64 ((fgF (a.l ≤ b.h) (b.l < a.h)).s))])) (flags_c (p := a.l ≤ b.h) (q := b.l < a.h) ) rfl rfl) ?_
       refine ops_stw (k := 2) (vs := [(.int .i64 ((fgF (a.l ≤ b.h) (b.l < a.h)).l)), (.int .i64 ((fgF (a.l ≤ b.h) (b.l < a.h)).h)), (.int .i64 ((fgF (a.l ≤ b.h) (b.l < a.h)).s))]) Try.size23 rfl rfl rfl rfl rfl rfl ?_
       refine ops_nil ?_
       refine vc_ret ?_
       refine blockQ_ret ?_
       refine rs1 _ (rv_c (vs := [(.int .i64 ((fgF (a.l ≤ b.h) (b.l < a.h)).l)), (.int .i64 ((fgF (a.l ≤ b.h) (b.l < a.h)).h)), (.int .i64 ((fgF (a.l ≤ b.h) (b.l < a.h)).s))]) Try.agg23 rfl (inOc (k := 2) rfl) rfl rfl) ?_
       exact (agg3 (show fgF (a.l ≤ b.h) (b.l < a.h) = exF op a b from by first | (exfalso; omega) | exact (fg_congr (by rw [no17 (by omega)]) (by rw [yes17 (by omega)])).trans (cp_all ha hb he hf ho).1.symm))
      ·
       refine vc_seq ?_
       refine vc_region ?_
       refine oq (qv_eql rfl rfl) ?_
       refine oq (qv_as (.bool (decide (op = 18))) rfl) ?_
       refine ops_nil ?_
       refine vc_if rfl (fun c6 => ?_) (fun c6 => ?_)
       ·
        refine vc_seq ?_
        refine vc_region ?_
        refine oq (qv_fa (off := 0) Try.field23_0 rfl) ?_
        refine oq (qv_ldp (v := (.int .i64 a.l)) Try.plain3 rfl (inOc (k := 0) rfl) rfl) ?_
        refine oq (qv_fa (off := 0) Try.field23_1 rfl) ?_
        refine oq (qv_ldp (v := (.int .i64 b.h)) Try.plain3 rfl (inOc (k := 1) rfl) rfl) ?_
        refine oq (qv_lss rfl rfl) ?_
        refine oq (qv_fa (off := 0) Try.field23_1 rfl) ?_
        refine oq (qv_ldp (v := (.int .i64 a.h)) Try.plain3 rfl (inOc (k := 0) rfl) rfl) ?_
        refine oq (qv_fa (off := 0) Try.field23_0 rfl) ?_
        refine oq (qv_ldp (v := (.int .i64 b.l)) Try.plain3 rfl (inOc (k := 1) rfl) rfl) ?_
        refine oq (qv_geq rfl rfl) ?_
        refine oq (qv_call (v := (.agg #[(.int .i64 ((fgF (a.l < b.h) (b.l ≤ a.h)).l)), (.int .i64 ((fgF (a.l < b.h) (b.l ≤ a.h)).h)), (.int .i64 ((fgF (a.l < b.h) (b.l ≤ a.h)).s))])) (flags_c (p := a.l < b.h) (q := b.l ≤ a.h) ) rfl rfl) ?_
        refine ops_stw (k := 2) (vs := [(.int .i64 ((fgF (a.l < b.h) (b.l ≤ a.h)).l)), (.int .i64 ((fgF (a.l < b.h) (b.l ≤ a.h)).h)), (.int .i64 ((fgF (a.l < b.h) (b.l ≤ a.h)).s))]) Try.size23 rfl rfl rfl rfl rfl rfl ?_
        refine ops_nil ?_
        refine vc_ret ?_
        refine blockQ_ret ?_
        refine rs1 _ (rv_c (vs := [(.int .i64 ((fgF (a.l < b.h) (b.l ≤ a.h)).l)), (.int .i64 ((fgF (a.l < b.h) (b.l ≤ a.h)).h)), (.int .i64 ((fgF (a.l < b.h) (b.l ≤ a.h)).s))]) Try.agg23 rfl (inOc (k := 2) rfl) rfl rfl) ?_
        exact (agg3 (show fgF (a.l < b.h) (b.l ≤ a.h) = exF op a b from by first | (exfalso; omega) | exact (fg_congr (by rw [no18 (by omega)]) (by rw [yes18 (by omega)])).trans (cp_all ha hb he hf ho).1.symm))
       ·
        refine vc_seq ?_
        refine vc_region ?_
        refine oq (qv_eql rfl rfl) ?_
        refine oq (qv_as (.bool (decide (op = 19))) rfl) ?_
        refine ops_nil ?_
        refine vc_if rfl (fun c7 => ?_) (fun c7 => ?_)
        ·
         refine vc_seq ?_
         refine vc_region ?_
         refine oq (qv_mv (.bool (decide (mem a 0))) rfl) ?_
         refine oq (qv_mv (.bool (decide (mem a 0))) rfl) ?_
         by_cases g2 : mem a 0
         ·
          refine os (want_fn g2 rfl rfl rfl) ?_
          refine oq (qv_pick_t g2 rfl (rfl : ev _ _ = (Value.bool true))) ?_
          refine oq (qv_mv (.bool (decide (oth a))) rfl) ?_
          refine oq (qv_mv (.bool (decide (oth a))) rfl) ?_
          by_cases g3 : oth a
          ·
           refine og (qv_mv (.bool (decide (oth b))) rfl) (want_t g3 rfl rfl rfl) ?_
           refine oq (qv_pick_t g3 rfl (rfl : ev _ _ = (.bool (decide (oth b))))) ?_
           refine oq (qv_call (v := (.agg #[(.int .i64 ((fgF (True) (oth b)).l)), (.int .i64 ((fgF (True) (oth b)).h)), (.int .i64 ((fgF (True) (oth b)).s))])) (flags_c (p := True) (q := oth b) (ip := instDecidableTrue) ) rfl rfl) ?_
           refine ops_stw (k := 2) (vs := [(.int .i64 ((fgF (True) (oth b)).l)), (.int .i64 ((fgF (True) (oth b)).h)), (.int .i64 ((fgF (True) (oth b)).s))]) Try.size23 rfl rfl rfl rfl rfl rfl ?_
           refine ops_nil ?_
           refine vc_ret ?_
           refine blockQ_ret ?_
           refine rs1 _ (rv_c (vs := [(.int .i64 ((fgF (True) (oth b)).l)), (.int .i64 ((fgF (True) (oth b)).h)), (.int .i64 ((fgF (True) (oth b)).s))]) Try.agg23 rfl (inOc (k := 2) rfl) rfl rfl) ?_
           exact (agg3 (show fgF (True) (oth b) = exF op a b from by first | (exfalso; omega) | exact (fg_congr (by rw [no19 (by omega)]; simp [*]) (by rw [yes19 (by omega)]; simp [*])).trans (cp_all ha hb he hf ho).1.symm))
          ·
           refine os (want_tn g3 rfl rfl rfl) ?_
           refine oq (qv_pick_f g3 rfl (rfl : ev _ _ = (Value.bool false))) ?_
           refine oq (qv_call (v := (.agg #[(.int .i64 ((fgF (True) (False)).l)), (.int .i64 ((fgF (True) (False)).h)), (.int .i64 ((fgF (True) (False)).s))])) (flags_c (p := True) (q := False) (ip := instDecidableTrue) (iq := instDecidableFalse) ) rfl rfl) ?_
           refine ops_stw (k := 2) (vs := [(.int .i64 ((fgF (True) (False)).l)), (.int .i64 ((fgF (True) (False)).h)), (.int .i64 ((fgF (True) (False)).s))]) Try.size23 rfl rfl rfl rfl rfl rfl ?_
           refine ops_nil ?_
           refine vc_ret ?_
           refine blockQ_ret ?_
           refine rs1 _ (rv_c (vs := [(.int .i64 ((fgF (True) (False)).l)), (.int .i64 ((fgF (True) (False)).h)), (.int .i64 ((fgF (True) (False)).s))]) Try.agg23 rfl (inOc (k := 2) rfl) rfl rfl) ?_
           exact (agg3 (show fgF (True) (False) = exF op a b from by first | (exfalso; omega) | exact (fg_congr (by rw [no19 (by omega)]; simp [*]) (by rw [yes19 (by omega)]; simp [*])).trans (cp_all ha hb he hf ho).1.symm))
         ·
          refine og (qv_mv (.bool (decide (mem b 0))) rfl) (want_f g2 rfl rfl rfl) ?_
          refine oq (qv_pick_f g2 rfl (rfl : ev _ _ = (.bool (decide (mem b 0))))) ?_
          refine oq (qv_mv (.bool (decide (oth a))) rfl) ?_
          refine oq (qv_mv (.bool (decide (oth a))) rfl) ?_
          by_cases g4 : oth a
          ·
           refine og (qv_mv (.bool (decide (oth b))) rfl) (want_t g4 rfl rfl rfl) ?_
           refine oq (qv_pick_t g4 rfl (rfl : ev _ _ = (.bool (decide (oth b))))) ?_
           refine oq (qv_call (v := (.agg #[(.int .i64 ((fgF (mem b 0) (oth b)).l)), (.int .i64 ((fgF (mem b 0) (oth b)).h)), (.int .i64 ((fgF (mem b 0) (oth b)).s))])) (flags_c (p := mem b 0) (q := oth b) ) rfl rfl) ?_
           refine ops_stw (k := 2) (vs := [(.int .i64 ((fgF (mem b 0) (oth b)).l)), (.int .i64 ((fgF (mem b 0) (oth b)).h)), (.int .i64 ((fgF (mem b 0) (oth b)).s))]) Try.size23 rfl rfl rfl rfl rfl rfl ?_
           refine ops_nil ?_
           refine vc_ret ?_
           refine blockQ_ret ?_
           refine rs1 _ (rv_c (vs := [(.int .i64 ((fgF (mem b 0) (oth b)).l)), (.int .i64 ((fgF (mem b 0) (oth b)).h)), (.int .i64 ((fgF (mem b 0) (oth b)).s))]) Try.agg23 rfl (inOc (k := 2) rfl) rfl rfl) ?_
           exact (agg3 (show fgF (mem b 0) (oth b) = exF op a b from by first | (exfalso; omega) | exact (fg_congr (by rw [no19 (by omega)]; simp [*]) (by rw [yes19 (by omega)]; simp [*])).trans (cp_all ha hb he hf ho).1.symm))
          ·
           refine os (want_tn g4 rfl rfl rfl) ?_
           refine oq (qv_pick_f g4 rfl (rfl : ev _ _ = (Value.bool false))) ?_
           refine oq (qv_call (v := (.agg #[(.int .i64 ((fgF (mem b 0) (False)).l)), (.int .i64 ((fgF (mem b 0) (False)).h)), (.int .i64 ((fgF (mem b 0) (False)).s))])) (flags_c (p := mem b 0) (q := False) (iq := instDecidableFalse) ) rfl rfl) ?_
           refine ops_stw (k := 2) (vs := [(.int .i64 ((fgF (mem b 0) (False)).l)), (.int .i64 ((fgF (mem b 0) (False)).h)), (.int .i64 ((fgF (mem b 0) (False)).s))]) Try.size23 rfl rfl rfl rfl rfl rfl ?_
           refine ops_nil ?_
           refine vc_ret ?_
           refine blockQ_ret ?_
           refine rs1 _ (rv_c (vs := [(.int .i64 ((fgF (mem b 0) (False)).l)), (.int .i64 ((fgF (mem b 0) (False)).h)), (.int .i64 ((fgF (mem b 0) (False)).s))]) Try.agg23 rfl (inOc (k := 2) rfl) rfl rfl) ?_
           exact (agg3 (show fgF (mem b 0) (False) = exF op a b from by first | (exfalso; omega) | exact (fg_congr (by rw [no19 (by omega)]; simp [*]) (by rw [yes19 (by omega)]; simp [*])).trans (cp_all ha hb he hf ho).1.symm))
        ·
         refine vc_skip ?_
         refine vc_seq ?_
         refine vc_region ?_
         refine oq (qv_mv (.bool (decide (mem a 0))) rfl) ?_
         refine oq (qv_mv (.bool (decide (mem a 0))) rfl) ?_
         by_cases g5 : mem a 0
         ·
          refine og (qv_mv (.bool (decide (mem b 0))) rfl) (want_t g5 rfl rfl rfl) ?_
          refine oq (qv_pick_t g5 rfl (rfl : ev _ _ = (.bool (decide (mem b 0))))) ?_
          refine oq (qv_mv (.bool (decide (oth a))) rfl) ?_
          refine oq (qv_mv (.bool (decide (oth a))) rfl) ?_
          by_cases g6 : oth a
          ·
           refine os (want_fn g6 rfl rfl rfl) ?_
           refine oq (qv_pick_t g6 rfl (rfl : ev _ _ = (Value.bool true))) ?_
           refine oq (qv_call (v := (.agg #[(.int .i64 ((fgF (mem b 0) (True)).l)), (.int .i64 ((fgF (mem b 0) (True)).h)), (.int .i64 ((fgF (mem b 0) (True)).s))])) (flags_c (p := mem b 0) (q := True) (iq := instDecidableTrue) ) rfl rfl) ?_
           refine ops_stw (k := 2) (vs := [(.int .i64 ((fgF (mem b 0) (True)).l)), (.int .i64 ((fgF (mem b 0) (True)).h)), (.int .i64 ((fgF (mem b 0) (True)).s))]) Try.size23 rfl rfl rfl rfl rfl rfl ?_
           refine ops_nil ?_
           refine vc_ret ?_
           refine rs1 _ (rv_c (vs := [(.int .i64 ((fgF (mem b 0) (True)).l)), (.int .i64 ((fgF (mem b 0) (True)).h)), (.int .i64 ((fgF (mem b 0) (True)).s))]) Try.agg23 rfl (inOc (k := 2) rfl) rfl rfl) ?_
           exact (agg3 (show fgF (mem b 0) (True) = exF op a b from by first | (exfalso; omega) | exact (fg_congr (by rw [no20 (by omega)]; simp [*]) (by rw [yes20 (by omega)]; simp [*])).trans (cp_all ha hb he hf ho).1.symm))
          ·
           refine og (qv_mv (.bool (decide (oth b))) rfl) (want_f g6 rfl rfl rfl) ?_
           refine oq (qv_pick_f g6 rfl (rfl : ev _ _ = (.bool (decide (oth b))))) ?_
           refine oq (qv_call (v := (.agg #[(.int .i64 ((fgF (mem b 0) (oth b)).l)), (.int .i64 ((fgF (mem b 0) (oth b)).h)), (.int .i64 ((fgF (mem b 0) (oth b)).s))])) (flags_c (p := mem b 0) (q := oth b) ) rfl rfl) ?_
           refine ops_stw (k := 2) (vs := [(.int .i64 ((fgF (mem b 0) (oth b)).l)), (.int .i64 ((fgF (mem b 0) (oth b)).h)), (.int .i64 ((fgF (mem b 0) (oth b)).s))]) Try.size23 rfl rfl rfl rfl rfl rfl ?_
           refine ops_nil ?_
           refine vc_ret ?_
           refine rs1 _ (rv_c (vs := [(.int .i64 ((fgF (mem b 0) (oth b)).l)), (.int .i64 ((fgF (mem b 0) (oth b)).h)), (.int .i64 ((fgF (mem b 0) (oth b)).s))]) Try.agg23 rfl (inOc (k := 2) rfl) rfl rfl) ?_
           exact (agg3 (show fgF (mem b 0) (oth b) = exF op a b from by first | (exfalso; omega) | exact (fg_congr (by rw [no20 (by omega)]; simp [*]) (by rw [yes20 (by omega)]; simp [*])).trans (cp_all ha hb he hf ho).1.symm))
         ·
          refine os (want_tn g5 rfl rfl rfl) ?_
          refine oq (qv_pick_f g5 rfl (rfl : ev _ _ = (Value.bool false))) ?_
          refine oq (qv_mv (.bool (decide (oth a))) rfl) ?_
          refine oq (qv_mv (.bool (decide (oth a))) rfl) ?_
          by_cases g7 : oth a
          ·
           refine os (want_fn g7 rfl rfl rfl) ?_
           refine oq (qv_pick_t g7 rfl (rfl : ev _ _ = (Value.bool true))) ?_
           refine oq (qv_call (v := (.agg #[(.int .i64 ((fgF (False) (True)).l)), (.int .i64 ((fgF (False) (True)).h)), (.int .i64 ((fgF (False) (True)).s))])) (flags_c (p := False) (q := True) (ip := instDecidableFalse) (iq := instDecidableTrue) ) rfl rfl) ?_
           refine ops_stw (k := 2) (vs := [(.int .i64 ((fgF (False) (True)).l)), (.int .i64 ((fgF (False) (True)).h)), (.int .i64 ((fgF (False) (True)).s))]) Try.size23 rfl rfl rfl rfl rfl rfl ?_
           refine ops_nil ?_
           refine vc_ret ?_
           refine rs1 _ (rv_c (vs := [(.int .i64 ((fgF (False) (True)).l)), (.int .i64 ((fgF (False) (True)).h)), (.int .i64 ((fgF (False) (True)).s))]) Try.agg23 rfl (inOc (k := 2) rfl) rfl rfl) ?_
           exact (agg3 (show fgF (False) (True) = exF op a b from by first | (exfalso; omega) | exact (fg_congr (by rw [no20 (by omega)]; simp [*]) (by rw [yes20 (by omega)]; simp [*])).trans (cp_all ha hb he hf ho).1.symm))
          ·
           refine og (qv_mv (.bool (decide (oth b))) rfl) (want_f g7 rfl rfl rfl) ?_
           refine oq (qv_pick_f g7 rfl (rfl : ev _ _ = (.bool (decide (oth b))))) ?_
           refine oq (qv_call (v := (.agg #[(.int .i64 ((fgF (False) (oth b)).l)), (.int .i64 ((fgF (False) (oth b)).h)), (.int .i64 ((fgF (False) (oth b)).s))])) (flags_c (p := False) (q := oth b) (ip := instDecidableFalse) ) rfl rfl) ?_
           refine ops_stw (k := 2) (vs := [(.int .i64 ((fgF (False) (oth b)).l)), (.int .i64 ((fgF (False) (oth b)).h)), (.int .i64 ((fgF (False) (oth b)).s))]) Try.size23 rfl rfl rfl rfl rfl rfl ?_
           refine ops_nil ?_
           refine vc_ret ?_
           refine rs1 _ (rv_c (vs := [(.int .i64 ((fgF (False) (oth b)).l)), (.int .i64 ((fgF (False) (oth b)).h)), (.int .i64 ((fgF (False) (oth b)).s))]) Try.agg23 rfl (inOc (k := 2) rfl) rfl rfl) ?_
           exact (agg3 (show fgF (False) (oth b) = exF op a b from by first | (exfalso; omega) | exact (fg_congr (by rw [no20 (by omega)]; simp [*]) (by rw [yes20 (by omega)]; simp [*])).trans (cp_all ha hb he hf ho).1.symm))
 ·
  refine og (qv_ldm (vs := [(.int .i64 b.l), (.int .i64 b.h), (.int .i64 b.s)]) Try.agg23 rfl (inOc (k := 1) rfl) rfl rfl) (want_f g1 rfl rfl rfl) ?_
  refine og (qv_call (v := (.int .i64 (sizeF b))) (size_c (a := b) (by assumption)) rfl rfl) (want_f g1 rfl rfl rfl) ?_
  refine og (qv_gtr rfl rfl) (want_f g1 rfl rfl rfl) ?_
  refine oq (qv_pick_f g1 rfl (rfl : ev _ _ = (.bool (decide (1 < (sizeF b)))))) ?_
  refine oq (qv_mv (.bool (decide (1 < (sizeF b)))) rfl) ?_
  by_cases g8 : 1 < (sizeF b)
  ·
   refine os (want_fn g8 rfl rfl rfl) ?_
   refine os (want_fn g8 rfl rfl rfl) ?_
   refine os (want_fn g8 rfl rfl rfl) ?_
   refine os (want_fn g8 rfl rfl rfl) ?_
   refine os (want_fn g8 rfl rfl rfl) ?_
   refine oq (qv_pick_t g8 rfl (rfl : ev _ _ = (Value.bool true))) ?_
   refine oq (qv_as (.bool (decide (uneq a b))) (congrArg Value.bool (decide_eq_true (show (uneq a b) from by unfold uneq; first | omega | (constructor; exact fun z => Or.inr (Or.inr z); exact fun z => (z.resolve_left (by assumption)).resolve_left (by assumption)))).symm)) ?_
   refine ops_nil ?_
   refine vc_seq ?_
   refine vc_region ?_
   refine oq (qv_ldm (vs := [(.int .i64 a.l), (.int .i64 a.h), (.int .i64 a.s)]) Try.agg23 rfl (inOc (k := 0) rfl) rfl rfl) ?_
   refine oq (qv_call (v := (.tuple #[(.bool (decide (mem a 0))), (.bool (decide (oth a)))])) (truth_c (a := a) (by assumption)) rfl rfl) ?_
   refine oq (qv_mv (.tuple #[(.bool (decide (mem a 0))), (.bool (decide (oth a)))]) rfl) ?_
   refine oq (qv_ext (.bool (decide (mem a 0))) rfl rfl) ?_
   refine oq (qv_ext (.bool (decide (oth a))) rfl rfl) ?_
   refine oq (qv_as (.bool (decide (mem a 0))) rfl) ?_
   refine oq (qv_as (.bool (decide (oth a))) rfl) ?_
   refine ops_nil ?_
   refine vc_seq ?_
   refine vc_region ?_
   refine oq (qv_ldm (vs := [(.int .i64 b.l), (.int .i64 b.h), (.int .i64 b.s)]) Try.agg23 rfl (inOc (k := 1) rfl) rfl rfl) ?_
   refine oq (qv_call (v := (.tuple #[(.bool (decide (mem b 0))), (.bool (decide (oth b)))])) (truth_c (a := b) (by assumption)) rfl rfl) ?_
   refine oq (qv_mv (.tuple #[(.bool (decide (mem b 0))), (.bool (decide (oth b)))]) rfl) ?_
   refine oq (qv_ext (.bool (decide (mem b 0))) rfl rfl) ?_
   refine oq (qv_ext (.bool (decide (oth b))) rfl rfl) ?_
   refine oq (qv_as (.bool (decide (mem b 0))) rfl) ?_
   refine oq (qv_as (.bool (decide (oth b))) rfl) ?_
   refine ops_nil ?_
   refine vc_seq ?_
   refine vc_seq ?_
   refine vc_region ?_
   refine oq (qv_mv (Value.int .i64 op) rfl) ?_
   refine ops_nil ?_
   refine vc_block ?_
   refine vc_seq ?_
   refine vc_region ?_
   refine oq (qv_eql rfl rfl) ?_
   refine oq (qv_as (.bool (decide (op = 13))) rfl) ?_
   refine ops_nil ?_
   refine vc_if rfl (fun c8 => ?_) (fun c8 => ?_)
   ·
    refine vc_seq ?_
    refine vc_region ?_
    refine oq (qv_mv (.bool (decide (uneq a b))) rfl) ?_
    refine oq (qv_mv (.bool (decide (¬ (meetF a b = nE)))) rfl) ?_
    refine oq (qv_call (v := (.agg #[(.int .i64 ((fgF (uneq a b) (¬ (meetF a b = nE))).l)), (.int .i64 ((fgF (uneq a b) (¬ (meetF a b = nE))).h)), (.int .i64 ((fgF (uneq a b) (¬ (meetF a b = nE))).s))])) (flags_c (p := uneq a b) (q := ¬ (meetF a b = nE)) ) rfl rfl) ?_
    refine ops_stw (k := 2) (vs := [(.int .i64 ((fgF (uneq a b) (¬ (meetF a b = nE))).l)), (.int .i64 ((fgF (uneq a b) (¬ (meetF a b = nE))).h)), (.int .i64 ((fgF (uneq a b) (¬ (meetF a b = nE))).s))]) Try.size23 rfl rfl rfl rfl rfl rfl ?_
    refine ops_nil ?_
    refine vc_ret ?_
    refine blockQ_ret ?_
    refine rs1 _ (rv_c (vs := [(.int .i64 ((fgF (uneq a b) (¬ (meetF a b = nE))).l)), (.int .i64 ((fgF (uneq a b) (¬ (meetF a b = nE))).h)), (.int .i64 ((fgF (uneq a b) (¬ (meetF a b = nE))).s))]) Try.agg23 rfl (inOc (k := 2) rfl) rfl rfl) ?_
    exact (agg3 (show fgF (uneq a b) (¬ (meetF a b = nE)) = exF op a b from by first | (exfalso; omega) | exact (fg_congr (by rw [no13 (by omega)]) (by rw [yes13 (by omega)])).trans (cp_all ha hb he hf ho).1.symm))
   ·
    refine vc_seq ?_
    refine vc_region ?_
    refine oq (qv_eql rfl rfl) ?_
    refine oq (qv_as (.bool (decide (op = 14))) rfl) ?_
    refine ops_nil ?_
    refine vc_if rfl (fun c9 => ?_) (fun c9 => ?_)
    ·
     refine vc_seq ?_
     refine vc_region ?_
     refine oq (qv_mv (.bool (decide (¬ (meetF a b = nE)))) rfl) ?_
     refine oq (qv_mv (.bool (decide (uneq a b))) rfl) ?_
     refine oq (qv_call (v := (.agg #[(.int .i64 ((fgF (¬ (meetF a b = nE)) (uneq a b)).l)), (.int .i64 ((fgF (¬ (meetF a b = nE)) (uneq a b)).h)), (.int .i64 ((fgF (¬ (meetF a b = nE)) (uneq a b)).s))])) (flags_c (p := ¬ (meetF a b = nE)) (q := uneq a b) ) rfl rfl) ?_
     refine ops_stw (k := 2) (vs := [(.int .i64 ((fgF (¬ (meetF a b = nE)) (uneq a b)).l)), (.int .i64 ((fgF (¬ (meetF a b = nE)) (uneq a b)).h)), (.int .i64 ((fgF (¬ (meetF a b = nE)) (uneq a b)).s))]) Try.size23 rfl rfl rfl rfl rfl rfl ?_
     refine ops_nil ?_
     refine vc_ret ?_
     refine blockQ_ret ?_
     refine rs1 _ (rv_c (vs := [(.int .i64 ((fgF (¬ (meetF a b = nE)) (uneq a b)).l)), (.int .i64 ((fgF (¬ (meetF a b = nE)) (uneq a b)).h)), (.int .i64 ((fgF (¬ (meetF a b = nE)) (uneq a b)).s))]) Try.agg23 rfl (inOc (k := 2) rfl) rfl rfl) ?_
     exact (agg3 (show fgF (¬ (meetF a b = nE)) (uneq a b) = exF op a b from by first | (exfalso; omega) | exact (fg_congr (by rw [no14 (by omega)]) (by rw [yes14 (by omega)])).trans (cp_all ha hb he hf ho).1.symm))
    ·
     refine vc_seq ?_
     refine vc_region ?_
     refine oq (qv_eql rfl rfl) ?_
     refine oq (qv_as (.bool (decide (op = 15))) rfl) ?_
     refine ops_nil ?_
     refine vc_if rfl (fun c10 => ?_) (fun c10 => ?_)
     ·
      refine vc_seq ?_
      refine vc_region ?_
      refine oq (qv_fa (off := 0) Try.field23_1 rfl) ?_
      refine oq (qv_ldp (v := (.int .i64 a.h)) Try.plain3 rfl (inOc (k := 0) rfl) rfl) ?_
      refine oq (qv_fa (off := 0) Try.field23_0 rfl) ?_
      refine oq (qv_ldp (v := (.int .i64 b.l)) Try.plain3 rfl (inOc (k := 1) rfl) rfl) ?_
      refine oq (qv_geq rfl rfl) ?_
      refine oq (qv_fa (off := 0) Try.field23_0 rfl) ?_
      refine oq (qv_ldp (v := (.int .i64 a.l)) Try.plain3 rfl (inOc (k := 0) rfl) rfl) ?_
      refine oq (qv_fa (off := 0) Try.field23_1 rfl) ?_
      refine oq (qv_ldp (v := (.int .i64 b.h)) Try.plain3 rfl (inOc (k := 1) rfl) rfl) ?_
      refine oq (qv_lss rfl rfl) ?_
      refine oq (qv_call (v := (.agg #[(.int .i64 ((fgF (b.l ≤ a.h) (a.l < b.h)).l)), (.int .i64 ((fgF (b.l ≤ a.h) (a.l < b.h)).h)), (.int .i64 ((fgF (b.l ≤ a.h) (a.l < b.h)).s))])) (flags_c (p := b.l ≤ a.h) (q := a.l < b.h) ) rfl rfl) ?_
      refine ops_stw (k := 2) (vs := [(.int .i64 ((fgF (b.l ≤ a.h) (a.l < b.h)).l)), (.int .i64 ((fgF (b.l ≤ a.h) (a.l < b.h)).h)), (.int .i64 ((fgF (b.l ≤ a.h) (a.l < b.h)).s))]) Try.size23 rfl rfl rfl rfl rfl rfl ?_
      refine ops_nil ?_
      refine vc_ret ?_
      refine blockQ_ret ?_
      refine rs1 _ (rv_c (vs := [(.int .i64 ((fgF (b.l ≤ a.h) (a.l < b.h)).l)), (.int .i64 ((fgF (b.l ≤ a.h) (a.l < b.h)).h)), (.int .i64 ((fgF (b.l ≤ a.h) (a.l < b.h)).s))]) Try.agg23 rfl (inOc (k := 2) rfl) rfl rfl) ?_
      exact (agg3 (show fgF (b.l ≤ a.h) (a.l < b.h) = exF op a b from by first | (exfalso; omega) | exact (fg_congr (by rw [no15 (by omega)]) (by rw [yes15 (by omega)])).trans (cp_all ha hb he hf ho).1.symm))
     ·
      refine vc_seq ?_
      refine vc_region ?_
      refine oq (qv_eql rfl rfl) ?_
      refine oq (qv_as (.bool (decide (op = 16))) rfl) ?_
      refine ops_nil ?_
      refine vc_if rfl (fun c11 => ?_) (fun c11 => ?_)
      ·
       refine vc_seq ?_
       refine vc_region ?_
       refine oq (qv_fa (off := 0) Try.field23_1 rfl) ?_
       refine oq (qv_ldp (v := (.int .i64 a.h)) Try.plain3 rfl (inOc (k := 0) rfl) rfl) ?_
       refine oq (qv_fa (off := 0) Try.field23_0 rfl) ?_
       refine oq (qv_ldp (v := (.int .i64 b.l)) Try.plain3 rfl (inOc (k := 1) rfl) rfl) ?_
       refine oq (qv_gtr rfl rfl) ?_
       refine oq (qv_fa (off := 0) Try.field23_0 rfl) ?_
       refine oq (qv_ldp (v := (.int .i64 a.l)) Try.plain3 rfl (inOc (k := 0) rfl) rfl) ?_
       refine oq (qv_fa (off := 0) Try.field23_1 rfl) ?_
       refine oq (qv_ldp (v := (.int .i64 b.h)) Try.plain3 rfl (inOc (k := 1) rfl) rfl) ?_
       refine oq (qv_leq rfl rfl) ?_
       refine oq (qv_call (v := (.agg #[(.int .i64 ((fgF (b.l < a.h) (a.l ≤ b.h)).l)), (.int .i64 ((fgF (b.l < a.h) (a.l ≤ b.h)).h)), (.int .i64 ((fgF (b.l < a.h) (a.l ≤ b.h)).s))])) (flags_c (p := b.l < a.h) (q := a.l ≤ b.h) ) rfl rfl) ?_
       refine ops_stw (k := 2) (vs := [(.int .i64 ((fgF (b.l < a.h) (a.l ≤ b.h)).l)), (.int .i64 ((fgF (b.l < a.h) (a.l ≤ b.h)).h)), (.int .i64 ((fgF (b.l < a.h) (a.l ≤ b.h)).s))]) Try.size23 rfl rfl rfl rfl rfl rfl ?_
       refine ops_nil ?_
       refine vc_ret ?_
       refine blockQ_ret ?_
       refine rs1 _ (rv_c (vs := [(.int .i64 ((fgF (b.l < a.h) (a.l ≤ b.h)).l)), (.int .i64 ((fgF (b.l < a.h) (a.l ≤ b.h)).h)), (.int .i64 ((fgF (b.l < a.h) (a.l ≤ b.h)).s))]) Try.agg23 rfl (inOc (k := 2) rfl) rfl rfl) ?_
       exact (agg3 (show fgF (b.l < a.h) (a.l ≤ b.h) = exF op a b from by first | (exfalso; omega) | exact (fg_congr (by rw [no16 (by omega)]) (by rw [yes16 (by omega)])).trans (cp_all ha hb he hf ho).1.symm))
      ·
       refine vc_seq ?_
       refine vc_region ?_
       refine oq (qv_eql rfl rfl) ?_
       refine oq (qv_as (.bool (decide (op = 17))) rfl) ?_
       refine ops_nil ?_
       refine vc_if rfl (fun c12 => ?_) (fun c12 => ?_)
       ·
        refine vc_seq ?_
        refine vc_region ?_
        refine oq (qv_fa (off := 0) Try.field23_0 rfl) ?_
        refine oq (qv_ldp (v := (.int .i64 a.l)) Try.plain3 rfl (inOc (k := 0) rfl) rfl) ?_
        refine oq (qv_fa (off := 0) Try.field23_1 rfl) ?_
        refine oq (qv_ldp (v := (.int .i64 b.h)) Try.plain3 rfl (inOc (k := 1) rfl) rfl) ?_
        refine oq (qv_leq rfl rfl) ?_
        refine oq (qv_fa (off := 0) Try.field23_1 rfl) ?_
        refine oq (qv_ldp (v := (.int .i64 a.h)) Try.plain3 rfl (inOc (k := 0) rfl) rfl) ?_
        refine oq (qv_fa (off := 0) Try.field23_0 rfl) ?_
        refine oq (qv_ldp (v := (.int .i64 b.l)) Try.plain3 rfl (inOc (k := 1) rfl) rfl) ?_
        refine oq (qv_gtr rfl rfl) ?_
        refine oq (qv_call (v := (.agg #[(.int .i64 ((fgF (a.l ≤ b.h) (b.l < a.h)).l)), (.int .i64 ((fgF (a.l ≤ b.h) (b.l < a.h)).h)), (.int .i64 ((fgF (a.l ≤ b.h) (b.l < a.h)).s))])) (flags_c (p := a.l ≤ b.h) (q := b.l < a.h) ) rfl rfl) ?_
        refine ops_stw (k := 2) (vs := [(.int .i64 ((fgF (a.l ≤ b.h) (b.l < a.h)).l)), (.int .i64 ((fgF (a.l ≤ b.h) (b.l < a.h)).h)), (.int .i64 ((fgF (a.l ≤ b.h) (b.l < a.h)).s))]) Try.size23 rfl rfl rfl rfl rfl rfl ?_
        refine ops_nil ?_
        refine vc_ret ?_
        refine blockQ_ret ?_
        refine rs1 _ (rv_c (vs := [(.int .i64 ((fgF (a.l ≤ b.h) (b.l < a.h)).l)), (.int .i64 ((fgF (a.l ≤ b.h) (b.l < a.h)).h)), (.int .i64 ((fgF (a.l ≤ b.h) (b.l < a.h)).s))]) Try.agg23 rfl (inOc (k := 2) rfl) rfl rfl) ?_
        exact (agg3 (show fgF (a.l ≤ b.h) (b.l < a.h) = exF op a b from by first | (exfalso; omega) | exact (fg_congr (by rw [no17 (by omega)]) (by rw [yes17 (by omega)])).trans (cp_all ha hb he hf ho).1.symm))
       ·
        refine vc_seq ?_
        refine vc_region ?_
        refine oq (qv_eql rfl rfl) ?_
        refine oq (qv_as (.bool (decide (op = 18))) rfl) ?_
        refine ops_nil ?_
        refine vc_if rfl (fun c13 => ?_) (fun c13 => ?_)
        ·
         refine vc_seq ?_
         refine vc_region ?_
         refine oq (qv_fa (off := 0) Try.field23_0 rfl) ?_
         refine oq (qv_ldp (v := (.int .i64 a.l)) Try.plain3 rfl (inOc (k := 0) rfl) rfl) ?_
         refine oq (qv_fa (off := 0) Try.field23_1 rfl) ?_
         refine oq (qv_ldp (v := (.int .i64 b.h)) Try.plain3 rfl (inOc (k := 1) rfl) rfl) ?_
         refine oq (qv_lss rfl rfl) ?_
         refine oq (qv_fa (off := 0) Try.field23_1 rfl) ?_
         refine oq (qv_ldp (v := (.int .i64 a.h)) Try.plain3 rfl (inOc (k := 0) rfl) rfl) ?_
         refine oq (qv_fa (off := 0) Try.field23_0 rfl) ?_
         refine oq (qv_ldp (v := (.int .i64 b.l)) Try.plain3 rfl (inOc (k := 1) rfl) rfl) ?_
         refine oq (qv_geq rfl rfl) ?_
         refine oq (qv_call (v := (.agg #[(.int .i64 ((fgF (a.l < b.h) (b.l ≤ a.h)).l)), (.int .i64 ((fgF (a.l < b.h) (b.l ≤ a.h)).h)), (.int .i64 ((fgF (a.l < b.h) (b.l ≤ a.h)).s))])) (flags_c (p := a.l < b.h) (q := b.l ≤ a.h) ) rfl rfl) ?_
         refine ops_stw (k := 2) (vs := [(.int .i64 ((fgF (a.l < b.h) (b.l ≤ a.h)).l)), (.int .i64 ((fgF (a.l < b.h) (b.l ≤ a.h)).h)), (.int .i64 ((fgF (a.l < b.h) (b.l ≤ a.h)).s))]) Try.size23 rfl rfl rfl rfl rfl rfl ?_
         refine ops_nil ?_
         refine vc_ret ?_
         refine blockQ_ret ?_
         refine rs1 _ (rv_c (vs := [(.int .i64 ((fgF (a.l < b.h) (b.l ≤ a.h)).l)), (.int .i64 ((fgF (a.l < b.h) (b.l ≤ a.h)).h)), (.int .i64 ((fgF (a.l < b.h) (b.l ≤ a.h)).s))]) Try.agg23 rfl (inOc (k := 2) rfl) rfl rfl) ?_
         exact (agg3 (show fgF (a.l < b.h) (b.l ≤ a.h) = exF op a b from by first | (exfalso; omega) | exact (fg_congr (by rw [no18 (by omega)]) (by rw [yes18 (by omega)])).trans (cp_all ha hb he hf ho).1.symm))
        ·
         refine vc_seq ?_
         refine vc_region ?_
         refine oq (qv_eql rfl rfl) ?_
         refine oq (qv_as (.bool (decide (op = 19))) rfl) ?_
         refine ops_nil ?_
         refine vc_if rfl (fun c14 => ?_) (fun c14 => ?_)
         ·
          refine vc_seq ?_
          refine vc_region ?_
          refine oq (qv_mv (.bool (decide (mem a 0))) rfl) ?_
          refine oq (qv_mv (.bool (decide (mem a 0))) rfl) ?_
          by_cases g9 : mem a 0
          ·
           refine os (want_fn g9 rfl rfl rfl) ?_
           refine oq (qv_pick_t g9 rfl (rfl : ev _ _ = (Value.bool true))) ?_
           refine oq (qv_mv (.bool (decide (oth a))) rfl) ?_
           refine oq (qv_mv (.bool (decide (oth a))) rfl) ?_
           by_cases g10 : oth a
           ·
            refine og (qv_mv (.bool (decide (oth b))) rfl) (want_t g10 rfl rfl rfl) ?_
            refine oq (qv_pick_t g10 rfl (rfl : ev _ _ = (.bool (decide (oth b))))) ?_
            refine oq (qv_call (v := (.agg #[(.int .i64 ((fgF (True) (oth b)).l)), (.int .i64 ((fgF (True) (oth b)).h)), (.int .i64 ((fgF (True) (oth b)).s))])) (flags_c (p := True) (q := oth b) (ip := instDecidableTrue) ) rfl rfl) ?_
            refine ops_stw (k := 2) (vs := [(.int .i64 ((fgF (True) (oth b)).l)), (.int .i64 ((fgF (True) (oth b)).h)), (.int .i64 ((fgF (True) (oth b)).s))]) Try.size23 rfl rfl rfl rfl rfl rfl ?_
            refine ops_nil ?_
            refine vc_ret ?_
            refine blockQ_ret ?_
            refine rs1 _ (rv_c (vs := [(.int .i64 ((fgF (True) (oth b)).l)), (.int .i64 ((fgF (True) (oth b)).h)), (.int .i64 ((fgF (True) (oth b)).s))]) Try.agg23 rfl (inOc (k := 2) rfl) rfl rfl) ?_
            exact (agg3 (show fgF (True) (oth b) = exF op a b from by first | (exfalso; omega) | exact (fg_congr (by rw [no19 (by omega)]; simp [*]) (by rw [yes19 (by omega)]; simp [*])).trans (cp_all ha hb he hf ho).1.symm))
           ·
            refine os (want_tn g10 rfl rfl rfl) ?_
            refine oq (qv_pick_f g10 rfl (rfl : ev _ _ = (Value.bool false))) ?_
            refine oq (qv_call (v := (.agg #[(.int .i64 ((fgF (True) (False)).l)), (.int .i64 ((fgF (True) (False)).h)), (.int .i64 ((fgF (True) (False)).s))])) (flags_c (p := True) (q := False) (ip := instDecidableTrue) (iq := instDecidableFalse) ) rfl rfl) ?_
            refine ops_stw (k := 2) (vs := [(.int .i64 ((fgF (True) (False)).l)), (.int .i64 ((fgF (True) (False)).h)), (.int .i64 ((fgF (True) (False)).s))]) Try.size23 rfl rfl rfl rfl rfl rfl ?_
            refine ops_nil ?_
            refine vc_ret ?_
            refine blockQ_ret ?_
            refine rs1 _ (rv_c (vs := [(.int .i64 ((fgF (True) (False)).l)), (.int .i64 ((fgF (True) (False)).h)), (.int .i64 ((fgF (True) (False)).s))]) Try.agg23 rfl (inOc (k := 2) rfl) rfl rfl) ?_
            exact (agg3 (show fgF (True) (False) = exF op a b from by first | (exfalso; omega) | exact (fg_congr (by rw [no19 (by omega)]; simp [*]) (by rw [yes19 (by omega)]; simp [*])).trans (cp_all ha hb he hf ho).1.symm))
          ·
           refine og (qv_mv (.bool (decide (mem b 0))) rfl) (want_f g9 rfl rfl rfl) ?_
           refine oq (qv_pick_f g9 rfl (rfl : ev _ _ = (.bool (decide (mem b 0))))) ?_
           refine oq (qv_mv (.bool (decide (oth a))) rfl) ?_
           refine oq (qv_mv (.bool (decide (oth a))) rfl) ?_
           by_cases g11 : oth a
           ·
            refine og (qv_mv (.bool (decide (oth b))) rfl) (want_t g11 rfl rfl rfl) ?_
            refine oq (qv_pick_t g11 rfl (rfl : ev _ _ = (.bool (decide (oth b))))) ?_
            refine oq (qv_call (v := (.agg #[(.int .i64 ((fgF (mem b 0) (oth b)).l)), (.int .i64 ((fgF (mem b 0) (oth b)).h)), (.int .i64 ((fgF (mem b 0) (oth b)).s))])) (flags_c (p := mem b 0) (q := oth b) ) rfl rfl) ?_
            refine ops_stw (k := 2) (vs := [(.int .i64 ((fgF (mem b 0) (oth b)).l)), (.int .i64 ((fgF (mem b 0) (oth b)).h)), (.int .i64 ((fgF (mem b 0) (oth b)).s))]) Try.size23 rfl rfl rfl rfl rfl rfl ?_
            refine ops_nil ?_
            refine vc_ret ?_
            refine blockQ_ret ?_
            refine rs1 _ (rv_c (vs := [(.int .i64 ((fgF (mem b 0) (oth b)).l)), (.int .i64 ((fgF (mem b 0) (oth b)).h)), (.int .i64 ((fgF (mem b 0) (oth b)).s))]) Try.agg23 rfl (inOc (k := 2) rfl) rfl rfl) ?_
            exact (agg3 (show fgF (mem b 0) (oth b) = exF op a b from by first | (exfalso; omega) | exact (fg_congr (by rw [no19 (by omega)]; simp [*]) (by rw [yes19 (by omega)]; simp [*])).trans (cp_all ha hb he hf ho).1.symm))
           ·
            refine os (want_tn g11 rfl rfl rfl) ?_
            refine oq (qv_pick_f g11 rfl (rfl : ev _ _ = (Value.bool false))) ?_
            refine oq (qv_call (v := (.agg #[(.int .i64 ((fgF (mem b 0) (False)).l)), (.int .i64 ((fgF (mem b 0) (False)).h)), (.int .i64 ((fgF (mem b 0) (False)).s))])) (flags_c (p := mem b 0) (q := False) (iq := instDecidableFalse) ) rfl rfl) ?_
            refine ops_stw (k := 2) (vs := [(.int .i64 ((fgF (mem b 0) (False)).l)), (.int .i64 ((fgF (mem b 0) (False)).h)), (.int .i64 ((fgF (mem b 0) (False)).s))]) Try.size23 rfl rfl rfl rfl rfl rfl ?_
            refine ops_nil ?_
            refine vc_ret ?_
            refine blockQ_ret ?_
            refine rs1 _ (rv_c (vs := [(.int .i64 ((fgF (mem b 0) (False)).l)), (.int .i64 ((fgF (mem b 0) (False)).h)), (.int .i64 ((fgF (mem b 0) (False)).s))]) Try.agg23 rfl (inOc (k := 2) rfl) rfl rfl) ?_
            exact (agg3 (show fgF (mem b 0) (False) = exF op a b from by first | (exfalso; omega) | exact (fg_congr (by rw [no19 (by omega)]; simp [*]) (by rw [yes19 (by omega)]; simp [*])).trans (cp_all ha hb he hf ho).1.symm))
         ·
          refine vc_skip ?_
          refine vc_seq ?_
          refine vc_region ?_
          refine oq (qv_mv (.bool (decide (mem a 0))) rfl) ?_
          refine oq (qv_mv (.bool (decide (mem a 0))) rfl) ?_
          by_cases g12 : mem a 0
          ·
           refine og (qv_mv (.bool (decide (mem b 0))) rfl) (want_t g12 rfl rfl rfl) ?_
           refine oq (qv_pick_t g12 rfl (rfl : ev _ _ = (.bool (decide (mem b 0))))) ?_
           refine oq (qv_mv (.bool (decide (oth a))) rfl) ?_
           refine oq (qv_mv (.bool (decide (oth a))) rfl) ?_
           by_cases g13 : oth a
           ·
            refine os (want_fn g13 rfl rfl rfl) ?_
            refine oq (qv_pick_t g13 rfl (rfl : ev _ _ = (Value.bool true))) ?_
            refine oq (qv_call (v := (.agg #[(.int .i64 ((fgF (mem b 0) (True)).l)), (.int .i64 ((fgF (mem b 0) (True)).h)), (.int .i64 ((fgF (mem b 0) (True)).s))])) (flags_c (p := mem b 0) (q := True) (iq := instDecidableTrue) ) rfl rfl) ?_
            refine ops_stw (k := 2) (vs := [(.int .i64 ((fgF (mem b 0) (True)).l)), (.int .i64 ((fgF (mem b 0) (True)).h)), (.int .i64 ((fgF (mem b 0) (True)).s))]) Try.size23 rfl rfl rfl rfl rfl rfl ?_
            refine ops_nil ?_
            refine vc_ret ?_
            refine rs1 _ (rv_c (vs := [(.int .i64 ((fgF (mem b 0) (True)).l)), (.int .i64 ((fgF (mem b 0) (True)).h)), (.int .i64 ((fgF (mem b 0) (True)).s))]) Try.agg23 rfl (inOc (k := 2) rfl) rfl rfl) ?_
            exact (agg3 (show fgF (mem b 0) (True) = exF op a b from by first | (exfalso; omega) | exact (fg_congr (by rw [no20 (by omega)]; simp [*]) (by rw [yes20 (by omega)]; simp [*])).trans (cp_all ha hb he hf ho).1.symm))
           ·
            refine og (qv_mv (.bool (decide (oth b))) rfl) (want_f g13 rfl rfl rfl) ?_
            refine oq (qv_pick_f g13 rfl (rfl : ev _ _ = (.bool (decide (oth b))))) ?_
            refine oq (qv_call (v := (.agg #[(.int .i64 ((fgF (mem b 0) (oth b)).l)), (.int .i64 ((fgF (mem b 0) (oth b)).h)), (.int .i64 ((fgF (mem b 0) (oth b)).s))])) (flags_c (p := mem b 0) (q := oth b) ) rfl rfl) ?_
            refine ops_stw (k := 2) (vs := [(.int .i64 ((fgF (mem b 0) (oth b)).l)), (.int .i64 ((fgF (mem b 0) (oth b)).h)), (.int .i64 ((fgF (mem b 0) (oth b)).s))]) Try.size23 rfl rfl rfl rfl rfl rfl ?_
            refine ops_nil ?_
            refine vc_ret ?_
            refine rs1 _ (rv_c (vs := [(.int .i64 ((fgF (mem b 0) (oth b)).l)), (.int .i64 ((fgF (mem b 0) (oth b)).h)), (.int .i64 ((fgF (mem b 0) (oth b)).s))]) Try.agg23 rfl (inOc (k := 2) rfl) rfl rfl) ?_
            exact (agg3 (show fgF (mem b 0) (oth b) = exF op a b from by first | (exfalso; omega) | exact (fg_congr (by rw [no20 (by omega)]; simp [*]) (by rw [yes20 (by omega)]; simp [*])).trans (cp_all ha hb he hf ho).1.symm))
          ·
           refine os (want_tn g12 rfl rfl rfl) ?_
           refine oq (qv_pick_f g12 rfl (rfl : ev _ _ = (Value.bool false))) ?_
           refine oq (qv_mv (.bool (decide (oth a))) rfl) ?_
           refine oq (qv_mv (.bool (decide (oth a))) rfl) ?_
           by_cases g14 : oth a
           ·
            refine os (want_fn g14 rfl rfl rfl) ?_
            refine oq (qv_pick_t g14 rfl (rfl : ev _ _ = (Value.bool true))) ?_
            refine oq (qv_call (v := (.agg #[(.int .i64 ((fgF (False) (True)).l)), (.int .i64 ((fgF (False) (True)).h)), (.int .i64 ((fgF (False) (True)).s))])) (flags_c (p := False) (q := True) (ip := instDecidableFalse) (iq := instDecidableTrue) ) rfl rfl) ?_
            refine ops_stw (k := 2) (vs := [(.int .i64 ((fgF (False) (True)).l)), (.int .i64 ((fgF (False) (True)).h)), (.int .i64 ((fgF (False) (True)).s))]) Try.size23 rfl rfl rfl rfl rfl rfl ?_
            refine ops_nil ?_
            refine vc_ret ?_
            refine rs1 _ (rv_c (vs := [(.int .i64 ((fgF (False) (True)).l)), (.int .i64 ((fgF (False) (True)).h)), (.int .i64 ((fgF (False) (True)).s))]) Try.agg23 rfl (inOc (k := 2) rfl) rfl rfl) ?_
            exact (agg3 (show fgF (False) (True) = exF op a b from by first | (exfalso; omega) | exact (fg_congr (by rw [no20 (by omega)]; simp [*]) (by rw [yes20 (by omega)]; simp [*])).trans (cp_all ha hb he hf ho).1.symm))
           ·
            refine og (qv_mv (.bool (decide (oth b))) rfl) (want_f g14 rfl rfl rfl) ?_
            refine oq (qv_pick_f g14 rfl (rfl : ev _ _ = (.bool (decide (oth b))))) ?_
            refine oq (qv_call (v := (.agg #[(.int .i64 ((fgF (False) (oth b)).l)), (.int .i64 ((fgF (False) (oth b)).h)), (.int .i64 ((fgF (False) (oth b)).s))])) (flags_c (p := False) (q := oth b) (ip := instDecidableFalse) ) rfl rfl) ?_
            refine ops_stw (k := 2) (vs := [(.int .i64 ((fgF (False) (oth b)).l)), (.int .i64 ((fgF (False) (oth b)).h)), (.int .i64 ((fgF (False) (oth b)).s))]) Try.size23 rfl rfl rfl rfl rfl rfl ?_
            refine ops_nil ?_
            refine vc_ret ?_
            refine rs1 _ (rv_c (vs := [(.int .i64 ((fgF (False) (oth b)).l)), (.int .i64 ((fgF (False) (oth b)).h)), (.int .i64 ((fgF (False) (oth b)).s))]) Try.agg23 rfl (inOc (k := 2) rfl) rfl rfl) ?_
            exact (agg3 (show fgF (False) (oth b) = exF op a b from by first | (exfalso; omega) | exact (fg_congr (by rw [no20 (by omega)]; simp [*]) (by rw [yes20 (by omega)]; simp [*])).trans (cp_all ha hb he hf ho).1.symm))
  ·
   refine og (qv_fa (off := 0) Try.field23_0 rfl) (want_f g8 rfl rfl rfl) ?_
   refine og (qv_ldp (v := (.int .i64 a.l)) Try.plain3 rfl (inOc (k := 0) rfl) rfl) (want_f g8 rfl rfl rfl) ?_
   refine og (qv_fa (off := 0) Try.field23_0 rfl) (want_f g8 rfl rfl rfl) ?_
   refine og (qv_ldp (v := (.int .i64 b.l)) Try.plain3 rfl (inOc (k := 1) rfl) rfl) (want_f g8 rfl rfl rfl) ?_
   refine og (qv_neq rfl rfl) (want_f g8 rfl rfl rfl) ?_
   refine oq (qv_pick_f g8 rfl (rfl : ev _ _ = (.bool (decide (a.l ≠ b.l))))) ?_
   refine oq (qv_as (.bool (decide (uneq a b))) (congrArg Value.bool (decide_eq_decide.2 (show (a.l ≠ b.l) ↔ (uneq a b) from by unfold uneq; first | omega | (constructor; exact fun z => Or.inr (Or.inr z); exact fun z => (z.resolve_left (by assumption)).resolve_left (by assumption)))))) ?_
   refine ops_nil ?_
   refine vc_seq ?_
   refine vc_region ?_
   refine oq (qv_ldm (vs := [(.int .i64 a.l), (.int .i64 a.h), (.int .i64 a.s)]) Try.agg23 rfl (inOc (k := 0) rfl) rfl rfl) ?_
   refine oq (qv_call (v := (.tuple #[(.bool (decide (mem a 0))), (.bool (decide (oth a)))])) (truth_c (a := a) (by assumption)) rfl rfl) ?_
   refine oq (qv_mv (.tuple #[(.bool (decide (mem a 0))), (.bool (decide (oth a)))]) rfl) ?_
   refine oq (qv_ext (.bool (decide (mem a 0))) rfl rfl) ?_
   refine oq (qv_ext (.bool (decide (oth a))) rfl rfl) ?_
   refine oq (qv_as (.bool (decide (mem a 0))) rfl) ?_
   refine oq (qv_as (.bool (decide (oth a))) rfl) ?_
   refine ops_nil ?_
   refine vc_seq ?_
   refine vc_region ?_
   refine oq (qv_ldm (vs := [(.int .i64 b.l), (.int .i64 b.h), (.int .i64 b.s)]) Try.agg23 rfl (inOc (k := 1) rfl) rfl rfl) ?_
   refine oq (qv_call (v := (.tuple #[(.bool (decide (mem b 0))), (.bool (decide (oth b)))])) (truth_c (a := b) (by assumption)) rfl rfl) ?_
   refine oq (qv_mv (.tuple #[(.bool (decide (mem b 0))), (.bool (decide (oth b)))]) rfl) ?_
   refine oq (qv_ext (.bool (decide (mem b 0))) rfl rfl) ?_
   refine oq (qv_ext (.bool (decide (oth b))) rfl rfl) ?_
   refine oq (qv_as (.bool (decide (mem b 0))) rfl) ?_
   refine oq (qv_as (.bool (decide (oth b))) rfl) ?_
   refine ops_nil ?_
   refine vc_seq ?_
   refine vc_seq ?_
   refine vc_region ?_
   refine oq (qv_mv (Value.int .i64 op) rfl) ?_
   refine ops_nil ?_
   refine vc_block ?_
   refine vc_seq ?_
   refine vc_region ?_
   refine oq (qv_eql rfl rfl) ?_
   refine oq (qv_as (.bool (decide (op = 13))) rfl) ?_
   refine ops_nil ?_
   refine vc_if rfl (fun c15 => ?_) (fun c15 => ?_)
   ·
    refine vc_seq ?_
    refine vc_region ?_
    refine oq (qv_mv (.bool (decide (uneq a b))) rfl) ?_
    refine oq (qv_mv (.bool (decide (¬ (meetF a b = nE)))) rfl) ?_
    refine oq (qv_call (v := (.agg #[(.int .i64 ((fgF (uneq a b) (¬ (meetF a b = nE))).l)), (.int .i64 ((fgF (uneq a b) (¬ (meetF a b = nE))).h)), (.int .i64 ((fgF (uneq a b) (¬ (meetF a b = nE))).s))])) (flags_c (p := uneq a b) (q := ¬ (meetF a b = nE)) ) rfl rfl) ?_
    refine ops_stw (k := 2) (vs := [(.int .i64 ((fgF (uneq a b) (¬ (meetF a b = nE))).l)), (.int .i64 ((fgF (uneq a b) (¬ (meetF a b = nE))).h)), (.int .i64 ((fgF (uneq a b) (¬ (meetF a b = nE))).s))]) Try.size23 rfl rfl rfl rfl rfl rfl ?_
    refine ops_nil ?_
    refine vc_ret ?_
    refine blockQ_ret ?_
    refine rs1 _ (rv_c (vs := [(.int .i64 ((fgF (uneq a b) (¬ (meetF a b = nE))).l)), (.int .i64 ((fgF (uneq a b) (¬ (meetF a b = nE))).h)), (.int .i64 ((fgF (uneq a b) (¬ (meetF a b = nE))).s))]) Try.agg23 rfl (inOc (k := 2) rfl) rfl rfl) ?_
    exact (agg3 (show fgF (uneq a b) (¬ (meetF a b = nE)) = exF op a b from by first | (exfalso; omega) | exact (fg_congr (by rw [no13 (by omega)]) (by rw [yes13 (by omega)])).trans (cp_all ha hb he hf ho).1.symm))
   ·
    refine vc_seq ?_
    refine vc_region ?_
    refine oq (qv_eql rfl rfl) ?_
    refine oq (qv_as (.bool (decide (op = 14))) rfl) ?_
    refine ops_nil ?_
    refine vc_if rfl (fun c16 => ?_) (fun c16 => ?_)
    ·
     refine vc_seq ?_
     refine vc_region ?_
     refine oq (qv_mv (.bool (decide (¬ (meetF a b = nE)))) rfl) ?_
     refine oq (qv_mv (.bool (decide (uneq a b))) rfl) ?_
     refine oq (qv_call (v := (.agg #[(.int .i64 ((fgF (¬ (meetF a b = nE)) (uneq a b)).l)), (.int .i64 ((fgF (¬ (meetF a b = nE)) (uneq a b)).h)), (.int .i64 ((fgF (¬ (meetF a b = nE)) (uneq a b)).s))])) (flags_c (p := ¬ (meetF a b = nE)) (q := uneq a b) ) rfl rfl) ?_
     refine ops_stw (k := 2) (vs := [(.int .i64 ((fgF (¬ (meetF a b = nE)) (uneq a b)).l)), (.int .i64 ((fgF (¬ (meetF a b = nE)) (uneq a b)).h)), (.int .i64 ((fgF (¬ (meetF a b = nE)) (uneq a b)).s))]) Try.size23 rfl rfl rfl rfl rfl rfl ?_
     refine ops_nil ?_
     refine vc_ret ?_
     refine blockQ_ret ?_
     refine rs1 _ (rv_c (vs := [(.int .i64 ((fgF (¬ (meetF a b = nE)) (uneq a b)).l)), (.int .i64 ((fgF (¬ (meetF a b = nE)) (uneq a b)).h)), (.int .i64 ((fgF (¬ (meetF a b = nE)) (uneq a b)).s))]) Try.agg23 rfl (inOc (k := 2) rfl) rfl rfl) ?_
     exact (agg3 (show fgF (¬ (meetF a b = nE)) (uneq a b) = exF op a b from by first | (exfalso; omega) | exact (fg_congr (by rw [no14 (by omega)]) (by rw [yes14 (by omega)])).trans (cp_all ha hb he hf ho).1.symm))
    ·
     refine vc_seq ?_
     refine vc_region ?_
     refine oq (qv_eql rfl rfl) ?_
     refine oq (qv_as (.bool (decide (op = 15))) rfl) ?_
     refine ops_nil ?_
     refine vc_if rfl (fun c17 => ?_) (fun c17 => ?_)
     ·
      refine vc_seq ?_
      refine vc_region ?_
      refine oq (qv_fa (off := 0) Try.field23_1 rfl) ?_
      refine oq (qv_ldp (v := (.int .i64 a.h)) Try.plain3 rfl (inOc (k := 0) rfl) rfl) ?_
      refine oq (qv_fa (off := 0) Try.field23_0 rfl) ?_
      refine oq (qv_ldp (v := (.int .i64 b.l)) Try.plain3 rfl (inOc (k := 1) rfl) rfl) ?_
      refine oq (qv_geq rfl rfl) ?_
      refine oq (qv_fa (off := 0) Try.field23_0 rfl) ?_
      refine oq (qv_ldp (v := (.int .i64 a.l)) Try.plain3 rfl (inOc (k := 0) rfl) rfl) ?_
      refine oq (qv_fa (off := 0) Try.field23_1 rfl) ?_
      refine oq (qv_ldp (v := (.int .i64 b.h)) Try.plain3 rfl (inOc (k := 1) rfl) rfl) ?_
      refine oq (qv_lss rfl rfl) ?_
      refine oq (qv_call (v := (.agg #[(.int .i64 ((fgF (b.l ≤ a.h) (a.l < b.h)).l)), (.int .i64 ((fgF (b.l ≤ a.h) (a.l < b.h)).h)), (.int .i64 ((fgF (b.l ≤ a.h) (a.l < b.h)).s))])) (flags_c (p := b.l ≤ a.h) (q := a.l < b.h) ) rfl rfl) ?_
      refine ops_stw (k := 2) (vs := [(.int .i64 ((fgF (b.l ≤ a.h) (a.l < b.h)).l)), (.int .i64 ((fgF (b.l ≤ a.h) (a.l < b.h)).h)), (.int .i64 ((fgF (b.l ≤ a.h) (a.l < b.h)).s))]) Try.size23 rfl rfl rfl rfl rfl rfl ?_
      refine ops_nil ?_
      refine vc_ret ?_
      refine blockQ_ret ?_
      refine rs1 _ (rv_c (vs := [(.int .i64 ((fgF (b.l ≤ a.h) (a.l < b.h)).l)), (.int .i64 ((fgF (b.l ≤ a.h) (a.l < b.h)).h)), (.int .i64 ((fgF (b.l ≤ a.h) (a.l < b.h)).s))]) Try.agg23 rfl (inOc (k := 2) rfl) rfl rfl) ?_
      exact (agg3 (show fgF (b.l ≤ a.h) (a.l < b.h) = exF op a b from by first | (exfalso; omega) | exact (fg_congr (by rw [no15 (by omega)]) (by rw [yes15 (by omega)])).trans (cp_all ha hb he hf ho).1.symm))
     ·
      refine vc_seq ?_
      refine vc_region ?_
      refine oq (qv_eql rfl rfl) ?_
      refine oq (qv_as (.bool (decide (op = 16))) rfl) ?_
      refine ops_nil ?_
      refine vc_if rfl (fun c18 => ?_) (fun c18 => ?_)
      ·
       refine vc_seq ?_
       refine vc_region ?_
       refine oq (qv_fa (off := 0) Try.field23_1 rfl) ?_
       refine oq (qv_ldp (v := (.int .i64 a.h)) Try.plain3 rfl (inOc (k := 0) rfl) rfl) ?_
       refine oq (qv_fa (off := 0) Try.field23_0 rfl) ?_
       refine oq (qv_ldp (v := (.int .i64 b.l)) Try.plain3 rfl (inOc (k := 1) rfl) rfl) ?_
       refine oq (qv_gtr rfl rfl) ?_
       refine oq (qv_fa (off := 0) Try.field23_0 rfl) ?_
       refine oq (qv_ldp (v := (.int .i64 a.l)) Try.plain3 rfl (inOc (k := 0) rfl) rfl) ?_
       refine oq (qv_fa (off := 0) Try.field23_1 rfl) ?_
       refine oq (qv_ldp (v := (.int .i64 b.h)) Try.plain3 rfl (inOc (k := 1) rfl) rfl) ?_
       refine oq (qv_leq rfl rfl) ?_
       refine oq (qv_call (v := (.agg #[(.int .i64 ((fgF (b.l < a.h) (a.l ≤ b.h)).l)), (.int .i64 ((fgF (b.l < a.h) (a.l ≤ b.h)).h)), (.int .i64 ((fgF (b.l < a.h) (a.l ≤ b.h)).s))])) (flags_c (p := b.l < a.h) (q := a.l ≤ b.h) ) rfl rfl) ?_
       refine ops_stw (k := 2) (vs := [(.int .i64 ((fgF (b.l < a.h) (a.l ≤ b.h)).l)), (.int .i64 ((fgF (b.l < a.h) (a.l ≤ b.h)).h)), (.int .i64 ((fgF (b.l < a.h) (a.l ≤ b.h)).s))]) Try.size23 rfl rfl rfl rfl rfl rfl ?_
       refine ops_nil ?_
       refine vc_ret ?_
       refine blockQ_ret ?_
       refine rs1 _ (rv_c (vs := [(.int .i64 ((fgF (b.l < a.h) (a.l ≤ b.h)).l)), (.int .i64 ((fgF (b.l < a.h) (a.l ≤ b.h)).h)), (.int .i64 ((fgF (b.l < a.h) (a.l ≤ b.h)).s))]) Try.agg23 rfl (inOc (k := 2) rfl) rfl rfl) ?_
       exact (agg3 (show fgF (b.l < a.h) (a.l ≤ b.h) = exF op a b from by first | (exfalso; omega) | exact (fg_congr (by rw [no16 (by omega)]) (by rw [yes16 (by omega)])).trans (cp_all ha hb he hf ho).1.symm))
      ·
       refine vc_seq ?_
       refine vc_region ?_
       refine oq (qv_eql rfl rfl) ?_
       refine oq (qv_as (.bool (decide (op = 17))) rfl) ?_
       refine ops_nil ?_
       refine vc_if rfl (fun c19 => ?_) (fun c19 => ?_)
       ·
        refine vc_seq ?_
        refine vc_region ?_
        refine oq (qv_fa (off := 0) Try.field23_0 rfl) ?_
        refine oq (qv_ldp (v := (.int .i64 a.l)) Try.plain3 rfl (inOc (k := 0) rfl) rfl) ?_
        refine oq (qv_fa (off := 0) Try.field23_1 rfl) ?_
        refine oq (qv_ldp (v := (.int .i64 b.h)) Try.plain3 rfl (inOc (k := 1) rfl) rfl) ?_
        refine oq (qv_leq rfl rfl) ?_
        refine oq (qv_fa (off := 0) Try.field23_1 rfl) ?_
        refine oq (qv_ldp (v := (.int .i64 a.h)) Try.plain3 rfl (inOc (k := 0) rfl) rfl) ?_
        refine oq (qv_fa (off := 0) Try.field23_0 rfl) ?_
        refine oq (qv_ldp (v := (.int .i64 b.l)) Try.plain3 rfl (inOc (k := 1) rfl) rfl) ?_
        refine oq (qv_gtr rfl rfl) ?_
        refine oq (qv_call (v := (.agg #[(.int .i64 ((fgF (a.l ≤ b.h) (b.l < a.h)).l)), (.int .i64 ((fgF (a.l ≤ b.h) (b.l < a.h)).h)), (.int .i64 ((fgF (a.l ≤ b.h) (b.l < a.h)).s))])) (flags_c (p := a.l ≤ b.h) (q := b.l < a.h) ) rfl rfl) ?_
        refine ops_stw (k := 2) (vs := [(.int .i64 ((fgF (a.l ≤ b.h) (b.l < a.h)).l)), (.int .i64 ((fgF (a.l ≤ b.h) (b.l < a.h)).h)), (.int .i64 ((fgF (a.l ≤ b.h) (b.l < a.h)).s))]) Try.size23 rfl rfl rfl rfl rfl rfl ?_
        refine ops_nil ?_
        refine vc_ret ?_
        refine blockQ_ret ?_
        refine rs1 _ (rv_c (vs := [(.int .i64 ((fgF (a.l ≤ b.h) (b.l < a.h)).l)), (.int .i64 ((fgF (a.l ≤ b.h) (b.l < a.h)).h)), (.int .i64 ((fgF (a.l ≤ b.h) (b.l < a.h)).s))]) Try.agg23 rfl (inOc (k := 2) rfl) rfl rfl) ?_
        exact (agg3 (show fgF (a.l ≤ b.h) (b.l < a.h) = exF op a b from by first | (exfalso; omega) | exact (fg_congr (by rw [no17 (by omega)]) (by rw [yes17 (by omega)])).trans (cp_all ha hb he hf ho).1.symm))
       ·
        refine vc_seq ?_
        refine vc_region ?_
        refine oq (qv_eql rfl rfl) ?_
        refine oq (qv_as (.bool (decide (op = 18))) rfl) ?_
        refine ops_nil ?_
        refine vc_if rfl (fun c20 => ?_) (fun c20 => ?_)
        ·
         refine vc_seq ?_
         refine vc_region ?_
         refine oq (qv_fa (off := 0) Try.field23_0 rfl) ?_
         refine oq (qv_ldp (v := (.int .i64 a.l)) Try.plain3 rfl (inOc (k := 0) rfl) rfl) ?_
         refine oq (qv_fa (off := 0) Try.field23_1 rfl) ?_
         refine oq (qv_ldp (v := (.int .i64 b.h)) Try.plain3 rfl (inOc (k := 1) rfl) rfl) ?_
         refine oq (qv_lss rfl rfl) ?_
         refine oq (qv_fa (off := 0) Try.field23_1 rfl) ?_
         refine oq (qv_ldp (v := (.int .i64 a.h)) Try.plain3 rfl (inOc (k := 0) rfl) rfl) ?_
         refine oq (qv_fa (off := 0) Try.field23_0 rfl) ?_
         refine oq (qv_ldp (v := (.int .i64 b.l)) Try.plain3 rfl (inOc (k := 1) rfl) rfl) ?_
         refine oq (qv_geq rfl rfl) ?_
         refine oq (qv_call (v := (.agg #[(.int .i64 ((fgF (a.l < b.h) (b.l ≤ a.h)).l)), (.int .i64 ((fgF (a.l < b.h) (b.l ≤ a.h)).h)), (.int .i64 ((fgF (a.l < b.h) (b.l ≤ a.h)).s))])) (flags_c (p := a.l < b.h) (q := b.l ≤ a.h) ) rfl rfl) ?_
         refine ops_stw (k := 2) (vs := [(.int .i64 ((fgF (a.l < b.h) (b.l ≤ a.h)).l)), (.int .i64 ((fgF (a.l < b.h) (b.l ≤ a.h)).h)), (.int .i64 ((fgF (a.l < b.h) (b.l ≤ a.h)).s))]) Try.size23 rfl rfl rfl rfl rfl rfl ?_
         refine ops_nil ?_
         refine vc_ret ?_
         refine blockQ_ret ?_
         refine rs1 _ (rv_c (vs := [(.int .i64 ((fgF (a.l < b.h) (b.l ≤ a.h)).l)), (.int .i64 ((fgF (a.l < b.h) (b.l ≤ a.h)).h)), (.int .i64 ((fgF (a.l < b.h) (b.l ≤ a.h)).s))]) Try.agg23 rfl (inOc (k := 2) rfl) rfl rfl) ?_
         exact (agg3 (show fgF (a.l < b.h) (b.l ≤ a.h) = exF op a b from by first | (exfalso; omega) | exact (fg_congr (by rw [no18 (by omega)]) (by rw [yes18 (by omega)])).trans (cp_all ha hb he hf ho).1.symm))
        ·
         refine vc_seq ?_
         refine vc_region ?_
         refine oq (qv_eql rfl rfl) ?_
         refine oq (qv_as (.bool (decide (op = 19))) rfl) ?_
         refine ops_nil ?_
         refine vc_if rfl (fun c21 => ?_) (fun c21 => ?_)
         ·
          refine vc_seq ?_
          refine vc_region ?_
          refine oq (qv_mv (.bool (decide (mem a 0))) rfl) ?_
          refine oq (qv_mv (.bool (decide (mem a 0))) rfl) ?_
          by_cases g15 : mem a 0
          ·
           refine os (want_fn g15 rfl rfl rfl) ?_
           refine oq (qv_pick_t g15 rfl (rfl : ev _ _ = (Value.bool true))) ?_
           refine oq (qv_mv (.bool (decide (oth a))) rfl) ?_
           refine oq (qv_mv (.bool (decide (oth a))) rfl) ?_
           by_cases g16 : oth a
           ·
            refine og (qv_mv (.bool (decide (oth b))) rfl) (want_t g16 rfl rfl rfl) ?_
            refine oq (qv_pick_t g16 rfl (rfl : ev _ _ = (.bool (decide (oth b))))) ?_
            refine oq (qv_call (v := (.agg #[(.int .i64 ((fgF (True) (oth b)).l)), (.int .i64 ((fgF (True) (oth b)).h)), (.int .i64 ((fgF (True) (oth b)).s))])) (flags_c (p := True) (q := oth b) (ip := instDecidableTrue) ) rfl rfl) ?_
            refine ops_stw (k := 2) (vs := [(.int .i64 ((fgF (True) (oth b)).l)), (.int .i64 ((fgF (True) (oth b)).h)), (.int .i64 ((fgF (True) (oth b)).s))]) Try.size23 rfl rfl rfl rfl rfl rfl ?_
            refine ops_nil ?_
            refine vc_ret ?_
            refine blockQ_ret ?_
            refine rs1 _ (rv_c (vs := [(.int .i64 ((fgF (True) (oth b)).l)), (.int .i64 ((fgF (True) (oth b)).h)), (.int .i64 ((fgF (True) (oth b)).s))]) Try.agg23 rfl (inOc (k := 2) rfl) rfl rfl) ?_
            exact (agg3 (show fgF (True) (oth b) = exF op a b from by first | (exfalso; omega) | exact (fg_congr (by rw [no19 (by omega)]; simp [*]) (by rw [yes19 (by omega)]; simp [*])).trans (cp_all ha hb he hf ho).1.symm))
           ·
            refine os (want_tn g16 rfl rfl rfl) ?_
            refine oq (qv_pick_f g16 rfl (rfl : ev _ _ = (Value.bool false))) ?_
            refine oq (qv_call (v := (.agg #[(.int .i64 ((fgF (True) (False)).l)), (.int .i64 ((fgF (True) (False)).h)), (.int .i64 ((fgF (True) (False)).s))])) (flags_c (p := True) (q := False) (ip := instDecidableTrue) (iq := instDecidableFalse) ) rfl rfl) ?_
            refine ops_stw (k := 2) (vs := [(.int .i64 ((fgF (True) (False)).l)), (.int .i64 ((fgF (True) (False)).h)), (.int .i64 ((fgF (True) (False)).s))]) Try.size23 rfl rfl rfl rfl rfl rfl ?_
            refine ops_nil ?_
            refine vc_ret ?_
            refine blockQ_ret ?_
            refine rs1 _ (rv_c (vs := [(.int .i64 ((fgF (True) (False)).l)), (.int .i64 ((fgF (True) (False)).h)), (.int .i64 ((fgF (True) (False)).s))]) Try.agg23 rfl (inOc (k := 2) rfl) rfl rfl) ?_
            exact (agg3 (show fgF (True) (False) = exF op a b from by first | (exfalso; omega) | exact (fg_congr (by rw [no19 (by omega)]; simp [*]) (by rw [yes19 (by omega)]; simp [*])).trans (cp_all ha hb he hf ho).1.symm))
          ·
           refine og (qv_mv (.bool (decide (mem b 0))) rfl) (want_f g15 rfl rfl rfl) ?_
           refine oq (qv_pick_f g15 rfl (rfl : ev _ _ = (.bool (decide (mem b 0))))) ?_
           refine oq (qv_mv (.bool (decide (oth a))) rfl) ?_
           refine oq (qv_mv (.bool (decide (oth a))) rfl) ?_
           by_cases g17 : oth a
           ·
            refine og (qv_mv (.bool (decide (oth b))) rfl) (want_t g17 rfl rfl rfl) ?_
            refine oq (qv_pick_t g17 rfl (rfl : ev _ _ = (.bool (decide (oth b))))) ?_
            refine oq (qv_call (v := (.agg #[(.int .i64 ((fgF (mem b 0) (oth b)).l)), (.int .i64 ((fgF (mem b 0) (oth b)).h)), (.int .i64 ((fgF (mem b 0) (oth b)).s))])) (flags_c (p := mem b 0) (q := oth b) ) rfl rfl) ?_
            refine ops_stw (k := 2) (vs := [(.int .i64 ((fgF (mem b 0) (oth b)).l)), (.int .i64 ((fgF (mem b 0) (oth b)).h)), (.int .i64 ((fgF (mem b 0) (oth b)).s))]) Try.size23 rfl rfl rfl rfl rfl rfl ?_
            refine ops_nil ?_
            refine vc_ret ?_
            refine blockQ_ret ?_
            refine rs1 _ (rv_c (vs := [(.int .i64 ((fgF (mem b 0) (oth b)).l)), (.int .i64 ((fgF (mem b 0) (oth b)).h)), (.int .i64 ((fgF (mem b 0) (oth b)).s))]) Try.agg23 rfl (inOc (k := 2) rfl) rfl rfl) ?_
            exact (agg3 (show fgF (mem b 0) (oth b) = exF op a b from by first | (exfalso; omega) | exact (fg_congr (by rw [no19 (by omega)]; simp [*]) (by rw [yes19 (by omega)]; simp [*])).trans (cp_all ha hb he hf ho).1.symm))
           ·
            refine os (want_tn g17 rfl rfl rfl) ?_
            refine oq (qv_pick_f g17 rfl (rfl : ev _ _ = (Value.bool false))) ?_
            refine oq (qv_call (v := (.agg #[(.int .i64 ((fgF (mem b 0) (False)).l)), (.int .i64 ((fgF (mem b 0) (False)).h)), (.int .i64 ((fgF (mem b 0) (False)).s))])) (flags_c (p := mem b 0) (q := False) (iq := instDecidableFalse) ) rfl rfl) ?_
            refine ops_stw (k := 2) (vs := [(.int .i64 ((fgF (mem b 0) (False)).l)), (.int .i64 ((fgF (mem b 0) (False)).h)), (.int .i64 ((fgF (mem b 0) (False)).s))]) Try.size23 rfl rfl rfl rfl rfl rfl ?_
            refine ops_nil ?_
            refine vc_ret ?_
            refine blockQ_ret ?_
            refine rs1 _ (rv_c (vs := [(.int .i64 ((fgF (mem b 0) (False)).l)), (.int .i64 ((fgF (mem b 0) (False)).h)), (.int .i64 ((fgF (mem b 0) (False)).s))]) Try.agg23 rfl (inOc (k := 2) rfl) rfl rfl) ?_
            exact (agg3 (show fgF (mem b 0) (False) = exF op a b from by first | (exfalso; omega) | exact (fg_congr (by rw [no19 (by omega)]; simp [*]) (by rw [yes19 (by omega)]; simp [*])).trans (cp_all ha hb he hf ho).1.symm))
         ·
          refine vc_skip ?_
          refine vc_seq ?_
          refine vc_region ?_
          refine oq (qv_mv (.bool (decide (mem a 0))) rfl) ?_
          refine oq (qv_mv (.bool (decide (mem a 0))) rfl) ?_
          by_cases g18 : mem a 0
          ·
           refine og (qv_mv (.bool (decide (mem b 0))) rfl) (want_t g18 rfl rfl rfl) ?_
           refine oq (qv_pick_t g18 rfl (rfl : ev _ _ = (.bool (decide (mem b 0))))) ?_
           refine oq (qv_mv (.bool (decide (oth a))) rfl) ?_
           refine oq (qv_mv (.bool (decide (oth a))) rfl) ?_
           by_cases g19 : oth a
           ·
            refine os (want_fn g19 rfl rfl rfl) ?_
            refine oq (qv_pick_t g19 rfl (rfl : ev _ _ = (Value.bool true))) ?_
            refine oq (qv_call (v := (.agg #[(.int .i64 ((fgF (mem b 0) (True)).l)), (.int .i64 ((fgF (mem b 0) (True)).h)), (.int .i64 ((fgF (mem b 0) (True)).s))])) (flags_c (p := mem b 0) (q := True) (iq := instDecidableTrue) ) rfl rfl) ?_
            refine ops_stw (k := 2) (vs := [(.int .i64 ((fgF (mem b 0) (True)).l)), (.int .i64 ((fgF (mem b 0) (True)).h)), (.int .i64 ((fgF (mem b 0) (True)).s))]) Try.size23 rfl rfl rfl rfl rfl rfl ?_
            refine ops_nil ?_
            refine vc_ret ?_
            refine rs1 _ (rv_c (vs := [(.int .i64 ((fgF (mem b 0) (True)).l)), (.int .i64 ((fgF (mem b 0) (True)).h)), (.int .i64 ((fgF (mem b 0) (True)).s))]) Try.agg23 rfl (inOc (k := 2) rfl) rfl rfl) ?_
            exact (agg3 (show fgF (mem b 0) (True) = exF op a b from by first | (exfalso; omega) | exact (fg_congr (by rw [no20 (by omega)]; simp [*]) (by rw [yes20 (by omega)]; simp [*])).trans (cp_all ha hb he hf ho).1.symm))
           ·
            refine og (qv_mv (.bool (decide (oth b))) rfl) (want_f g19 rfl rfl rfl) ?_
            refine oq (qv_pick_f g19 rfl (rfl : ev _ _ = (.bool (decide (oth b))))) ?_
            refine oq (qv_call (v := (.agg #[(.int .i64 ((fgF (mem b 0) (oth b)).l)), (.int .i64 ((fgF (mem b 0) (oth b)).h)), (.int .i64 ((fgF (mem b 0) (oth b)).s))])) (flags_c (p := mem b 0) (q := oth b) ) rfl rfl) ?_
            refine ops_stw (k := 2) (vs := [(.int .i64 ((fgF (mem b 0) (oth b)).l)), (.int .i64 ((fgF (mem b 0) (oth b)).h)), (.int .i64 ((fgF (mem b 0) (oth b)).s))]) Try.size23 rfl rfl rfl rfl rfl rfl ?_
            refine ops_nil ?_
            refine vc_ret ?_
            refine rs1 _ (rv_c (vs := [(.int .i64 ((fgF (mem b 0) (oth b)).l)), (.int .i64 ((fgF (mem b 0) (oth b)).h)), (.int .i64 ((fgF (mem b 0) (oth b)).s))]) Try.agg23 rfl (inOc (k := 2) rfl) rfl rfl) ?_
            exact (agg3 (show fgF (mem b 0) (oth b) = exF op a b from by first | (exfalso; omega) | exact (fg_congr (by rw [no20 (by omega)]; simp [*]) (by rw [yes20 (by omega)]; simp [*])).trans (cp_all ha hb he hf ho).1.symm))
          ·
           refine os (want_tn g18 rfl rfl rfl) ?_
           refine oq (qv_pick_f g18 rfl (rfl : ev _ _ = (Value.bool false))) ?_
           refine oq (qv_mv (.bool (decide (oth a))) rfl) ?_
           refine oq (qv_mv (.bool (decide (oth a))) rfl) ?_
           by_cases g20 : oth a
           ·
            refine os (want_fn g20 rfl rfl rfl) ?_
            refine oq (qv_pick_t g20 rfl (rfl : ev _ _ = (Value.bool true))) ?_
            refine oq (qv_call (v := (.agg #[(.int .i64 ((fgF (False) (True)).l)), (.int .i64 ((fgF (False) (True)).h)), (.int .i64 ((fgF (False) (True)).s))])) (flags_c (p := False) (q := True) (ip := instDecidableFalse) (iq := instDecidableTrue) ) rfl rfl) ?_
            refine ops_stw (k := 2) (vs := [(.int .i64 ((fgF (False) (True)).l)), (.int .i64 ((fgF (False) (True)).h)), (.int .i64 ((fgF (False) (True)).s))]) Try.size23 rfl rfl rfl rfl rfl rfl ?_
            refine ops_nil ?_
            refine vc_ret ?_
            refine rs1 _ (rv_c (vs := [(.int .i64 ((fgF (False) (True)).l)), (.int .i64 ((fgF (False) (True)).h)), (.int .i64 ((fgF (False) (True)).s))]) Try.agg23 rfl (inOc (k := 2) rfl) rfl rfl) ?_
            exact (agg3 (show fgF (False) (True) = exF op a b from by first | (exfalso; omega) | exact (fg_congr (by rw [no20 (by omega)]; simp [*]) (by rw [yes20 (by omega)]; simp [*])).trans (cp_all ha hb he hf ho).1.symm))
           ·
            refine og (qv_mv (.bool (decide (oth b))) rfl) (want_f g20 rfl rfl rfl) ?_
            refine oq (qv_pick_f g20 rfl (rfl : ev _ _ = (.bool (decide (oth b))))) ?_
            refine oq (qv_call (v := (.agg #[(.int .i64 ((fgF (False) (oth b)).l)), (.int .i64 ((fgF (False) (oth b)).h)), (.int .i64 ((fgF (False) (oth b)).s))])) (flags_c (p := False) (q := oth b) (ip := instDecidableFalse) ) rfl rfl) ?_
            refine ops_stw (k := 2) (vs := [(.int .i64 ((fgF (False) (oth b)).l)), (.int .i64 ((fgF (False) (oth b)).h)), (.int .i64 ((fgF (False) (oth b)).s))]) Try.size23 rfl rfl rfl rfl rfl rfl ?_
            refine ops_nil ?_
            refine vc_ret ?_
            refine rs1 _ (rv_c (vs := [(.int .i64 ((fgF (False) (oth b)).l)), (.int .i64 ((fgF (False) (oth b)).h)), (.int .i64 ((fgF (False) (oth b)).s))]) Try.agg23 rfl (inOc (k := 2) rfl) rfl rfl) ?_
            exact (agg3 (show fgF (False) (oth b) = exF op a b from by first | (exfalso; omega) | exact (fg_congr (by rw [no20 (by omega)]; simp [*]) (by rw [yes20 (by omega)]; simp [*])).trans (cp_all ha hb he hf ho).1.symm))

end Go.Proofs.Ytapkilaikcihgaa
