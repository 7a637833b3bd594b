/- Walks of numeric: what each function returns. Printed by a program out of notes. -/
import Derived.Test.YtapkilaikcihgaaNp
import Derived.Test.YtapkilaikcihgaaNmO
namespace Go.Proofs.Ytapkilaikcihgaa
open Go.Vc
open Classical

set_option maxRecDepth 100000 in
set_option maxHeartbeats 4000000 in
theorem Binary_c {V : HV} {op : Int} {a b : Nm} :
    FnC Try.prog 23 [(Value.int .i64 op), (.agg #[(.int .i64 a.l), (.int .i64 a.h), (.int .i64 a.s)]), (.agg #[(.int .i64 b.l), (.int .i64 b.h), (.int .i64 b.s)])] V [] (fun v _ _ => v = .tuple #[(.agg #[(.int .i64 ((biN op a b).l)), (.int .i64 ((biN op a b).h)), (.int .i64 ((biN op a b).s))]), (.int .i64 (biE op a b))]) := by
 refine fn_intro (N := 93) Try.func23 (by kernel_rfl) rfl rfl rfl (Nat.le_of_ble_eq_true rfl) ?_
 intro w0 D
 refine vc_seq ?_
 refine vc_region ?_
 refine ops_box (v := (.agg #[(.int .i64 a.l), (.int .i64 a.h), (.int .i64 a.s)])) (cs := [(.int .i64 a.l), (.int .i64 a.h), (.int .i64 a.s)]) rfl rfl (fun b1 => ?_)
 refine ops_box (v := (.agg #[(.int .i64 b.l), (.int .i64 b.h), (.int .i64 b.s)])) (cs := [(.int .i64 b.l), (.int .i64 b.h), (.int .i64 b.s)]) rfl rfl (fun b2 => ?_)
 refine ops_alloc Try.ti23 rfl (fun b3 => ?_)
 refine oq (qv_as (Value.int .i64 0) rfl) ?_
 refine ops_nil ?_
 refine vc_seq ?_
 refine vc_seq ?_
 refine vc_res (σ' := [(Arr 23 b1 [(.int .i64 a.l), (.int .i64 a.h), (.int .i64 a.s)]), (Arr 23 b2 [(.int .i64 b.l), (.int .i64 b.h), (.int .i64 b.s)]), (Arr 23 b3 [(Value.int .i64 0), (Value.int .i64 0), (Value.int .i64 0)])]) rfl ?_
 refine vc_region ?_
 refine oq (qv_ldm (vs := [(.int .i64 a.l), (.int .i64 a.h), (.int .i64 a.s)]) Try.agg23 rfl (inOc (k := 0) rfl) rfl rfl) ?_
 refine oq (qv_call (v := (.bool (decide (vld a)))) (Valid_c (a := a)) rfl rfl) ?_
 refine oq (qv_not rfl) ?_
 refine oq (qv_mv (.bool (decide (¬ (vld a)))) rfl) ?_
 by_cases g1 : ¬ (vld a)
 ·
  refine os (want_fn g1 rfl rfl rfl) ?_
  refine os (want_fn g1 rfl rfl rfl) ?_
  refine os (want_fn g1 rfl rfl rfl) ?_
  refine oq (qv_pick_t g1 rfl (rfl : ev _ _ = (Value.bool true))) ?_
  refine oq (qv_mv (Value.bool true) rfl) ?_
  refine os (want_fnc rfl rfl rfl) ?_
  refine os (want_fnc rfl rfl rfl) ?_
  refine os (want_fnc rfl rfl rfl) ?_
  refine oq (qv_pick_tc rfl (rfl : ev _ _ = (Value.bool true))) ?_
  refine ops_nil ?_
  refine vc_tt rfl ?_
  refine vc_seq ?_
  have hno : ¬ biOk op a b := fun z => by obtain ⟨z1, z2, z3⟩ := z; first | exact absurd z1 (by assumption) | exact absurd z2 (by assumption) | omega
  refine vc_region ?_
  refine oq (qv_build (out := [(Value.int .i64 0), (Value.int .i64 0), (Value.int .i64 0)]) Try.build23 [] rfl rfl) ?_
  refine ops_stw (k := 2) (vs := [(Value.int .i64 0), (Value.int .i64 0), (Value.int .i64 0)]) Try.size23 rfl rfl rfl rfl rfl rfl ?_
  refine oq (qv_as (Value.int .i64 1) rfl) ?_
  refine ops_nil ?_
  refine vc_ret ?_
  refine rs2 _ (Value.int .i64 1) (rv_c (vs := [(Value.int .i64 0), (Value.int .i64 0), (Value.int .i64 0)]) Try.agg23 rfl (inOc (k := 2) rfl) rfl rfl) (rv_t rfl) ?_
  exact tup2 (agg3 (show (⟨0, 0, 0⟩ : Nm) = biN op a b from by first | (rw [biN_1 hno]; done) | (rw [biN_e hb hemp]; done) | (rw [(bi_no hb hne (by omega) hk).1]; done) | (rw [(bi_ar hb hne (by omega) hk).1, arF_8 (by omega)]; done) | (rw [(bi_ar hb hne (by omega) hk).1, arF_9 (by omega)]; done) | (rw [(bi_mul hb hne (by omega)).1]; done) | (rw [biN_l hb hne (by omega)]; done) | (rw [biN_c hb hne (by omega)]; done))) (congrArg (Value.int .i64) (show 1 = (biE op a b) from by first | (rw [biE_1 hno]; done) | (rw [biE_e hb hemp]; done) | (rw [(bi_no hb hne (by omega) hk).2]; done) | (rw [(bi_ar hb hne (by omega) hk).2]; done) | (rw [(bi_mul hb hne (by omega)).2]; done) | (rw [biE_o hb hne (by omega)]; done) | (rw [(bi_wide hb hne hns (by omega)).2]; done) | (rw [(bi_sml hb hne hs).2]; done) | (rw [biE_x hb hne]; done) | (rw [(bi_wide hb hne hns (by omega)).2, mkE_1 hmk]; done)))
 ·
  refine og (qv_ldm (vs := [(.int .i64 b.l), (.int .i64 b.h), (.int .i64 b.s)]) Try.agg23 rfl (inOc (k := 1) rfl) rfl rfl) (want_f g1 rfl rfl rfl) ?_
  refine og (qv_call (v := (.bool (decide (vld b)))) (Valid_c (a := b)) rfl rfl) (want_f g1 rfl rfl rfl) ?_
  refine og (qv_not rfl) (want_f g1 rfl rfl rfl) ?_
  refine oq (qv_pick_f g1 rfl (rfl : ev _ _ = (.bool (decide (¬ (vld b)))))) ?_
  refine oq (qv_mv (.bool (decide (¬ (vld b)))) rfl) ?_
  by_cases g2 : ¬ (vld b)
  ·
   refine os (want_fn g2 rfl rfl rfl) ?_
   refine os (want_fn g2 rfl rfl rfl) ?_
   refine os (want_fn g2 rfl rfl rfl) ?_
   refine oq (qv_pick_t g2 rfl (rfl : ev _ _ = (Value.bool true))) ?_
   refine ops_nil ?_
   refine vc_tt rfl ?_
   refine vc_seq ?_
   have hno : ¬ biOk op a b := fun z => by obtain ⟨z1, z2, z3⟩ := z; first | exact absurd z1 (by assumption) | exact absurd z2 (by assumption) | omega
   refine vc_region ?_
   refine oq (qv_build (out := [(Value.int .i64 0), (Value.int .i64 0), (Value.int .i64 0)]) Try.build23 [] rfl rfl) ?_
   refine ops_stw (k := 2) (vs := [(Value.int .i64 0), (Value.int .i64 0), (Value.int .i64 0)]) Try.size23 rfl rfl rfl rfl rfl rfl ?_
   refine oq (qv_as (Value.int .i64 1) rfl) ?_
   refine ops_nil ?_
   refine vc_ret ?_
   refine rs2 _ (Value.int .i64 1) (rv_c (vs := [(Value.int .i64 0), (Value.int .i64 0), (Value.int .i64 0)]) Try.agg23 rfl (inOc (k := 2) rfl) rfl rfl) (rv_t rfl) ?_
   exact tup2 (agg3 (show (⟨0, 0, 0⟩ : Nm) = biN op a b from by first | (rw [biN_1 hno]; done) | (rw [biN_e hb hemp]; done) | (rw [(bi_no hb hne (by omega) hk).1]; done) | (rw [(bi_ar hb hne (by omega) hk).1, arF_8 (by omega)]; done) | (rw [(bi_ar hb hne (by omega) hk).1, arF_9 (by omega)]; done) | (rw [(bi_mul hb hne (by omega)).1]; done) | (rw [biN_l hb hne (by omega)]; done) | (rw [biN_c hb hne (by omega)]; done))) (congrArg (Value.int .i64) (show 1 = (biE op a b) from by first | (rw [biE_1 hno]; done) | (rw [biE_e hb hemp]; done) | (rw [(bi_no hb hne (by omega) hk).2]; done) | (rw [(bi_ar hb hne (by omega) hk).2]; done) | (rw [(bi_mul hb hne (by omega)).2]; done) | (rw [biE_o hb hne (by omega)]; done) | (rw [(bi_wide hb hne hns (by omega)).2]; done) | (rw [(bi_sml hb hne hs).2]; done) | (rw [biE_x hb hne]; done) | (rw [(bi_wide hb hne hns (by omega)).2, mkE_1 hmk]; done)))
  ·
   refine og (qv_mv (Value.int .i64 op) rfl) (want_f g2 rfl rfl rfl) ?_
   refine og (qv_call (v := (.bool (decide (8 ≤ op ∧ op ≤ 22)))) (nknown_c) rfl rfl) (want_f g2 rfl rfl rfl) ?_
   refine og (qv_not rfl) (want_f g2 rfl rfl rfl) ?_
   refine oq (qv_pick_f g2 rfl (rfl : ev _ _ = (.bool (decide (¬ (8 ≤ op ∧ op ≤ 22)))))) ?_
   refine ops_nil ?_
   refine vc_if rfl (fun c1 => ?_) (fun c1 => ?_)
   ·
    refine vc_seq ?_
    have hno : ¬ biOk op a b := fun z => by obtain ⟨z1, z2, z3⟩ := z; first | exact absurd z1 (by assumption) | exact absurd z2 (by assumption) | omega
    refine vc_region ?_
    refine oq (qv_build (out := [(Value.int .i64 0), (Value.int .i64 0), (Value.int .i64 0)]) Try.build23 [] rfl rfl) ?_
    refine ops_stw (k := 2) (vs := [(Value.int .i64 0), (Value.int .i64 0), (Value.int .i64 0)]) Try.size23 rfl rfl rfl rfl rfl rfl ?_
    refine oq (qv_as (Value.int .i64 1) rfl) ?_
    refine ops_nil ?_
    refine vc_ret ?_
    refine rs2 _ (Value.int .i64 1) (rv_c (vs := [(Value.int .i64 0), (Value.int .i64 0), (Value.int .i64 0)]) Try.agg23 rfl (inOc (k := 2) rfl) rfl rfl) (rv_t rfl) ?_
    exact tup2 (agg3 (show (⟨0, 0, 0⟩ : Nm) = biN op a b from by first | (rw [biN_1 hno]; done) | (rw [biN_e hb hemp]; done) | (rw [(bi_no hb hne (by omega) hk).1]; done) | (rw [(bi_ar hb hne (by omega) hk).1, arF_8 (by omega)]; done) | (rw [(bi_ar hb hne (by omega) hk).1, arF_9 (by omega)]; done) | (rw [(bi_mul hb hne (by omega)).1]; done) | (rw [biN_l hb hne (by omega)]; done) | (rw [biN_c hb hne (by omega)]; done))) (congrArg (Value.int .i64) (show 1 = (biE op a b) from by first | (rw [biE_1 hno]; done) | (rw [biE_e hb hemp]; done) | (rw [(bi_no hb hne (by omega) hk).2]; done) | (rw [(bi_ar hb hne (by omega) hk).2]; done) | (rw [(bi_mul hb hne (by omega)).2]; done) | (rw [biE_o hb hne (by omega)]; done) | (rw [(bi_wide hb hne hns (by omega)).2]; done) | (rw [(bi_sml hb hne hs).2]; done) | (rw [biE_x hb hne]; done) | (rw [(bi_wide hb hne hns (by omega)).2, mkE_1 hmk]; done)))
   ·
    refine vc_skip ?_
    refine vc_seq ?_
    refine vc_seq ?_
    have hb : biOk op a b := ⟨Decidable.not_not.1 (by assumption), Decidable.not_not.1 (by assumption), by omega⟩
    refine vc_region ?_
    refine oq (qv_ldm (vs := [(.int .i64 a.l), (.int .i64 a.h), (.int .i64 a.s)]) Try.agg23 rfl (inOc (k := 0) rfl) rfl rfl) ?_
    refine oq (qv_call (v := (.bool (decide (a = nE)))) (isEmpty_c (a := a)) rfl rfl) ?_
    refine oq (qv_mv (.bool (decide (a = nE))) rfl) ?_
    by_cases g3 : a = nE
    ·
     refine os (want_fn g3 rfl rfl rfl) ?_
     refine os (want_fn g3 rfl rfl rfl) ?_
     refine oq (qv_pick_t g3 rfl (rfl : ev _ _ = (Value.bool true))) ?_
     refine ops_nil ?_
     refine vc_tt rfl ?_
     refine vc_seq ?_
     have hemp : a = nE ∨ b = nE := by first | exact Or.inl (by assumption) | exact Or.inr (by assumption)
     refine vc_region ?_
     refine oq (qv_call (v := (.agg #[(.int .i64 nE.l), (.int .i64 nE.h), (.int .i64 nE.s)])) (none_c) rfl rfl) ?_
     refine ops_stw (k := 2) (vs := [(.int .i64 nE.l), (.int .i64 nE.h), (.int .i64 nE.s)]) Try.size23 rfl rfl rfl rfl rfl rfl ?_
     refine oq (qv_as (Value.int .i64 0) rfl) ?_
     refine ops_nil ?_
     refine vc_ret ?_
     refine rs2 _ (Value.int .i64 0) (rv_c (vs := [(.int .i64 nE.l), (.int .i64 nE.h), (.int .i64 nE.s)]) Try.agg23 rfl (inOc (k := 2) rfl) rfl rfl) (rv_t rfl) ?_
     exact tup2 (agg3 (show nE = biN op a b from by first | (rw [biN_1 hno]; done) | (rw [biN_e hb hemp]; done) | (rw [(bi_no hb hne (by omega) hk).1]; done) | (rw [(bi_ar hb hne (by omega) hk).1, arF_8 (by omega)]; done) | (rw [(bi_ar hb hne (by omega) hk).1, arF_9 (by omega)]; done) | (rw [(bi_mul hb hne (by omega)).1]; done) | (rw [biN_l hb hne (by omega)]; done) | (rw [biN_c hb hne (by omega)]; done))) (congrArg (Value.int .i64) (show 0 = (biE op a b) from by first | (rw [biE_1 hno]; done) | (rw [biE_e hb hemp]; done) | (rw [(bi_no hb hne (by omega) hk).2]; done) | (rw [(bi_ar hb hne (by omega) hk).2]; done) | (rw [(bi_mul hb hne (by omega)).2]; done) | (rw [biE_o hb hne (by omega)]; done) | (rw [(bi_wide hb hne hns (by omega)).2]; done) | (rw [(bi_sml hb hne hs).2]; done) | (rw [biE_x hb hne]; done) | (rw [(bi_wide hb hne hns (by omega)).2, mkE_1 hmk]; done)))
    ·
     refine og (qv_ldm (vs := [(.int .i64 b.l), (.int .i64 b.h), (.int .i64 b.s)]) Try.agg23 rfl (inOc (k := 1) rfl) rfl rfl) (want_f g3 rfl rfl rfl) ?_
     refine og (qv_call (v := (.bool (decide (b = nE)))) (isEmpty_c (a := b)) rfl rfl) (want_f g3 rfl rfl rfl) ?_
     refine oq (qv_pick_f g3 rfl (rfl : ev _ _ = (.bool (decide (b = nE))))) ?_
     refine ops_nil ?_
     refine vc_if rfl (fun c2 => ?_) (fun c2 => ?_)
     ·
      refine vc_seq ?_
      have hemp : a = nE ∨ b = nE := by first | exact Or.inl (by assumption) | exact Or.inr (by assumption)
      refine vc_region ?_
      refine oq (qv_call (v := (.agg #[(.int .i64 nE.l), (.int .i64 nE.h), (.int .i64 nE.s)])) (none_c) rfl rfl) ?_
      refine ops_stw (k := 2) (vs := [(.int .i64 nE.l), (.int .i64 nE.h), (.int .i64 nE.s)]) Try.size23 rfl rfl rfl rfl rfl rfl ?_
      refine oq (qv_as (Value.int .i64 0) rfl) ?_
      refine ops_nil ?_
      refine vc_ret ?_
      refine rs2 _ (Value.int .i64 0) (rv_c (vs := [(.int .i64 nE.l), (.int .i64 nE.h), (.int .i64 nE.s)]) Try.agg23 rfl (inOc (k := 2) rfl) rfl rfl) (rv_t rfl) ?_
      exact tup2 (agg3 (show nE = biN op a b from by first | (rw [biN_1 hno]; done) | (rw [biN_e hb hemp]; done) | (rw [(bi_no hb hne (by omega) hk).1]; done) | (rw [(bi_ar hb hne (by omega) hk).1, arF_8 (by omega)]; done) | (rw [(bi_ar hb hne (by omega) hk).1, arF_9 (by omega)]; done) | (rw [(bi_mul hb hne (by omega)).1]; done) | (rw [biN_l hb hne (by omega)]; done) | (rw [biN_c hb hne (by omega)]; done))) (congrArg (Value.int .i64) (show 0 = (biE op a b) from by first | (rw [biE_1 hno]; done) | (rw [biE_e hb hemp]; done) | (rw [(bi_no hb hne (by omega) hk).2]; done) | (rw [(bi_ar hb hne (by omega) hk).2]; done) | (rw [(bi_mul hb hne (by omega)).2]; done) | (rw [biE_o hb hne (by omega)]; done) | (rw [(bi_wide hb hne hns (by omega)).2]; done) | (rw [(bi_sml hb hne hs).2]; done) | (rw [biE_x hb hne]; done) | (rw [(bi_wide hb hne hns (by omega)).2, mkE_1 hmk]; done)))
     ·
      refine vc_skip ?_
      refine vc_seq ?_
      refine vc_seq ?_
      have hne : ¬ (a = nE ∨ b = nE) := by rintro (e | e); exact absurd e (by assumption); exact absurd e (by assumption)
      have he : a ≠ nE := fun e => hne (Or.inl e)
      have hf : b ≠ nE := fun e => hne (Or.inr e)
      have bv := vld_bd hb.1
      have bw := vld_bd hb.2.1
      have las := step_le hb.1 he
      have lbs := step_le hb.2.1 hf
      have hva := hb.1
      have hvb := hb.2.1
      unfold fits at bv bw
      refine vc_region ?_
      refine oq (qv_mv (Value.int .i64 op) rfl) ?_
      refine ops_nil ?_
      refine vc_block ?_
      refine vc_seq ?_
      refine vc_block ?_
      refine vc_seq ?_
      refine vc_block ?_
      refine vc_seq ?_
      refine vc_block ?_
      refine vc_seq ?_
      refine vc_block ?_
      refine vc_seq ?_
      refine vc_seq ?_
      refine vc_seq ?_
      refine vc_region ?_
      refine oq (qv_eql rfl rfl) ?_
      refine oq (qv_as (.bool (decide (op = 9))) rfl) ?_
      refine ops_nil ?_
      refine vc_if rfl (fun c3 => ?_) (fun c3 => ?_)
      ·
       refine vc_exit ?_
       refine blockQ_hit ?_
       refine vc_region ?_
       refine oq (qv_fa (off := 0) Try.field23_1 rfl) ?_
       refine oq (qv_ldp (v := (.int .i64 b.h)) Try.plain3 rfl (inOc (k := 1) rfl) rfl) ?_
       refine oq (qv_neg rfl (by omega)) ?_
       refine oq (qv_fa (off := 0) Try.field23_0 rfl) ?_
       refine oq (qv_ldp (v := (.int .i64 b.l)) Try.plain3 rfl (inOc (k := 1) rfl) rfl) ?_
       refine oq (qv_neg rfl (by omega)) ?_
       refine oq (qv_fa (off := 0) Try.field23_2 rfl) ?_
       refine oq (qv_ldp (v := (.int .i64 b.s)) Try.plain3 rfl (inOc (k := 1) rfl) rfl) ?_
       refine oq (qv_build (out := [(.int .i64 (-b.h)), (.int .i64 (-b.l)), (.int .i64 b.s)]) Try.build23 [(0, [(.int .i64 (-b.h))]), (1, [(.int .i64 (-b.l))]), (2, [(.int .i64 b.s)])] rfl rfl) ?_
       refine ops_stw (k := 1) (vs := [(.int .i64 (-b.h)), (.int .i64 (-b.l)), (.int .i64 b.s)]) Try.size23 rfl rfl rfl rfl rfl rfl ?_
       refine ops_nil ?_
       refine vc_seq ?_
       refine vc_seq ?_
       refine vc_res (σ' := [(Arr 23 b1 [(.int .i64 a.l), (.int .i64 a.h), (.int .i64 a.s)]), (Arr 23 b2 [(.int .i64 (-b.h)), (.int .i64 (-b.l)), (.int .i64 b.s)]), (Arr 23 b3 [(Value.int .i64 0), (Value.int .i64 0), (Value.int .i64 0)])]) rfl ?_
       refine vc_region_any Try.mixed (by kernel_rfl) ?_
       refine qq (qv_fa (off := 0) Try.field23_0 rfl) ?_
       refine qq (qv_ldp (v := (.int .i64 a.l)) Try.plain3 rfl (inOc (k := 0) rfl) rfl) ?_
       refine qq (qv_fa (off := 0) Try.field23_0 rfl) ?_
       refine qq (qv_ldp (v := (.int .i64 (-b.h))) Try.plain3 rfl (inOc (k := 1) rfl) rfl) ?_
       refine qq (qv_add rfl rfl (by omega)) ?_
       refine qq (qv_fa (off := 0) Try.field23_1 rfl) ?_
       refine qq (qv_ldp (v := (.int .i64 a.h)) Try.plain3 rfl (inOc (k := 0) rfl) rfl) ?_
       refine qq (qv_fa (off := 0) Try.field23_1 rfl) ?_
       refine qq (qv_ldp (v := (.int .i64 (-b.l))) Try.plain3 rfl (inOc (k := 1) rfl) rfl) ?_
       refine qq (qv_add rfl rfl (by omega)) ?_
       refine qq (qv_as (.int .i64 (a.l - b.h)) (congrArg (Value.int .i64) (show (a.l + (-b.h)) = (a.l - b.h) from by omega))) ?_
       refine qq (qv_as (.int .i64 (a.h - b.l)) (congrArg (Value.int .i64) (show (a.h + (-b.l)) = (a.h - b.l) from by omega))) ?_
       refine qops_nil ?_
       refine vc_seq ?_
       refine vc_seq ?_
       refine vc_region ?_
       refine oq (qv_mv (.int .i64 (a.l - b.h)) rfl) ?_
       refine oq (qv_call (v := (.bool (decide (fits (a.l - b.h))))) (inRange_c) rfl rfl) ?_
       refine oq (qv_not rfl) ?_
       refine oq (qv_mv (.bool (decide (¬ (fits (a.l - b.h))))) rfl) ?_
       by_cases g4 : ¬ (fits (a.l - b.h))
       ·
        refine os (want_fn g4 rfl rfl rfl) ?_
        refine os (want_fn g4 rfl rfl rfl) ?_
        refine os (want_fn g4 rfl rfl rfl) ?_
        refine oq (qv_pick_t g4 rfl (rfl : ev _ _ = (Value.bool true))) ?_
        refine ops_nil ?_
        refine vc_tt rfl ?_
        refine vc_seq ?_
        have hk : ¬ arOk op a b := fun z => by obtain ⟨z1, z2, -⟩ := z; first | exact absurd (z1 (by omega)).1 (by assumption) | exact absurd (z1 (by omega)).2 (by assumption) | exact absurd (z2 (by omega)).1 (by assumption) | exact absurd (z2 (by omega)).2 (by assumption)
        refine vc_region ?_
        refine oq (qv_build (out := [(Value.int .i64 0), (Value.int .i64 0), (Value.int .i64 0)]) Try.build23 [] rfl rfl) ?_
        refine ops_stw (k := 2) (vs := [(Value.int .i64 0), (Value.int .i64 0), (Value.int .i64 0)]) Try.size23 rfl rfl rfl rfl rfl rfl ?_
        refine oq (qv_as (Value.int .i64 3) rfl) ?_
        refine ops_nil ?_
        refine vc_ret ?_
        refine blockQ_ret ?_
        refine blockQ_ret ?_
        refine blockQ_ret ?_
        refine rs2 _ (Value.int .i64 3) (rv_c (vs := [(Value.int .i64 0), (Value.int .i64 0), (Value.int .i64 0)]) Try.agg23 rfl (inOc (k := 2) rfl) rfl rfl) (rv_t rfl) ?_
        exact tup2 (agg3 (show (⟨0, 0, 0⟩ : Nm) = biN op a b from by first | (rw [biN_1 hno]; done) | (rw [biN_e hb hemp]; done) | (rw [(bi_no hb hne (by omega) hk).1]; done) | (rw [(bi_ar hb hne (by omega) hk).1, arF_8 (by omega)]; done) | (rw [(bi_ar hb hne (by omega) hk).1, arF_9 (by omega)]; done) | (rw [(bi_mul hb hne (by omega)).1]; done) | (rw [biN_l hb hne (by omega)]; done) | (rw [biN_c hb hne (by omega)]; done))) (congrArg (Value.int .i64) (show 3 = (biE op a b) from by first | (rw [biE_1 hno]; done) | (rw [biE_e hb hemp]; done) | (rw [(bi_no hb hne (by omega) hk).2]; done) | (rw [(bi_ar hb hne (by omega) hk).2]; done) | (rw [(bi_mul hb hne (by omega)).2]; done) | (rw [biE_o hb hne (by omega)]; done) | (rw [(bi_wide hb hne hns (by omega)).2]; done) | (rw [(bi_sml hb hne hs).2]; done) | (rw [biE_x hb hne]; done) | (rw [(bi_wide hb hne hns (by omega)).2, mkE_1 hmk]; done)))
       ·
        refine og (qv_mv (.int .i64 (a.h - b.l)) rfl) (want_f g4 rfl rfl rfl) ?_
        refine og (qv_call (v := (.bool (decide (fits (a.h - b.l))))) (inRange_c) rfl rfl) (want_f g4 rfl rfl rfl) ?_
        refine og (qv_not rfl) (want_f g4 rfl rfl rfl) ?_
        refine oq (qv_pick_f g4 rfl (rfl : ev _ _ = (.bool (decide (¬ (fits (a.h - b.l))))))) ?_
        refine ops_nil ?_
        refine vc_if rfl (fun c4 => ?_) (fun c4 => ?_)
        ·
         refine vc_seq ?_
         have hk : ¬ arOk op a b := fun z => by obtain ⟨z1, z2, -⟩ := z; first | exact absurd (z1 (by omega)).1 (by assumption) | exact absurd (z1 (by omega)).2 (by assumption) | exact absurd (z2 (by omega)).1 (by assumption) | exact absurd (z2 (by omega)).2 (by assumption)
         refine vc_region ?_
         refine oq (qv_build (out := [(Value.int .i64 0), (Value.int .i64 0), (Value.int .i64 0)]) Try.build23 [] rfl rfl) ?_
         refine ops_stw (k := 2) (vs := [(Value.int .i64 0), (Value.int .i64 0), (Value.int .i64 0)]) Try.size23 rfl rfl rfl rfl rfl rfl ?_
         refine oq (qv_as (Value.int .i64 3) rfl) ?_
         refine ops_nil ?_
         refine vc_ret ?_
         refine blockQ_ret ?_
         refine blockQ_ret ?_
         refine blockQ_ret ?_
         refine rs2 _ (Value.int .i64 3) (rv_c (vs := [(Value.int .i64 0), (Value.int .i64 0), (Value.int .i64 0)]) Try.agg23 rfl (inOc (k := 2) rfl) rfl rfl) (rv_t rfl) ?_
         exact tup2 (agg3 (show (⟨0, 0, 0⟩ : Nm) = biN op a b from by first | (rw [biN_1 hno]; done) | (rw [biN_e hb hemp]; done) | (rw [(bi_no hb hne (by omega) hk).1]; done) | (rw [(bi_ar hb hne (by omega) hk).1, arF_8 (by omega)]; done) | (rw [(bi_ar hb hne (by omega) hk).1, arF_9 (by omega)]; done) | (rw [(bi_mul hb hne (by omega)).1]; done) | (rw [biN_l hb hne (by omega)]; done) | (rw [biN_c hb hne (by omega)]; done))) (congrArg (Value.int .i64) (show 3 = (biE op a b) from by first | (rw [biE_1 hno]; done) | (rw [biE_e hb hemp]; done) | (rw [(bi_no hb hne (by omega) hk).2]; done) | (rw [(bi_ar hb hne (by omega) hk).2]; done) | (rw [(bi_mul hb hne (by omega)).2]; done) | (rw [biE_o hb hne (by omega)]; done) | (rw [(bi_wide hb hne hns (by omega)).2]; done) | (rw [(bi_sml hb hne hs).2]; done) | (rw [biE_x hb hne]; done) | (rw [(bi_wide hb hne hns (by omega)).2, mkE_1 hmk]; done)))
        ·
         refine vc_skip ?_
         refine vc_seq ?_
         have hk : arOk op a b := ⟨fun e => by first | omega | exact ⟨Decidable.not_not.1 (by assumption), Decidable.not_not.1 (by assumption)⟩, fun e => by first | omega | exact ⟨Decidable.not_not.1 (by assumption), Decidable.not_not.1 (by assumption)⟩, fun e => by omega⟩
         have hf1 : fits (a.l - b.h) := Decidable.not_not.1 (by assumption)
         have hf2 : fits (a.h - b.l) := Decidable.not_not.1 (by assumption)
         refine vc_region ?_
         refine oq (qv_mv (.int .i64 (a.l - b.h)) rfl) ?_
         refine oq (qv_mv (.int .i64 (a.h - b.l)) rfl) ?_
         refine oq (qv_fa (off := 0) Try.field23_2 rfl) ?_
         refine oq (qv_ldp (v := (.int .i64 a.s)) Try.plain3 rfl (inOc (k := 0) rfl) rfl) ?_
         refine oq (qv_fa (off := 0) Try.field23_2 rfl) ?_
         refine oq (qv_ldp (v := (.int .i64 b.s)) Try.plain3 rfl (inOc (k := 1) rfl) rfl) ?_
         refine ops_lit (n := 2) (s := 1) (cs := [(.int .i64 a.s), (.int .i64 b.s)]) Try.underlying37 Try.ti3 (Nat.le_of_ble_eq_true rfl) rfl rfl rfl (Nat.le_of_ble_eq_true rfl) rfl (fun b4 => ?_)
         refine oq (qv_call_own (v := (.int .i64 (gcdF [a.s, b.s]))) (k := 3) (b := b4) rfl (fun Vo hVo hbo => gcd_c (xs := [a.s, b.s]) (sl_own (n := 2) (c := 2) hbo rfl (Nat.le_refl _) (by omega)) (nn2 (by omega) (by omega))) rfl rfl) ?_
         refine oq (qv_call (v := (.agg #[(.int .i64 ((spanF (a.l - b.h) (a.h - b.l) (gcdF [a.s, b.s])).l)), (.int .i64 ((spanF (a.l - b.h) (a.h - b.l) (gcdF [a.s, b.s])).h)), (.int .i64 ((spanF (a.l - b.h) (a.h - b.l) (gcdF [a.s, b.s])).s))])) (span_c (hf1) (hf2) (gcdF_nn _)) rfl rfl) ?_
         refine ops_stw (k := 2) (vs := [(.int .i64 ((spanF (a.l - b.h) (a.h - b.l) (gcdF [a.s, b.s])).l)), (.int .i64 ((spanF (a.l - b.h) (a.h - b.l) (gcdF [a.s, b.s])).h)), (.int .i64 ((spanF (a.l - b.h) (a.h - b.l) (gcdF [a.s, b.s])).s))]) Try.size23 rfl rfl rfl rfl rfl rfl ?_
         refine oq (qv_as (Value.int .i64 0) rfl) ?_
         refine ops_nil ?_
         refine vc_ret ?_
         refine blockQ_ret ?_
         refine blockQ_ret ?_
         refine blockQ_ret ?_
         refine rs2 _ (Value.int .i64 0) (rv_c (vs := [(.int .i64 ((spanF (a.l - b.h) (a.h - b.l) (gcdF [a.s, b.s])).l)), (.int .i64 ((spanF (a.l - b.h) (a.h - b.l) (gcdF [a.s, b.s])).h)), (.int .i64 ((spanF (a.l - b.h) (a.h - b.l) (gcdF [a.s, b.s])).s))]) Try.agg23 rfl (inOc (k := 2) rfl) rfl rfl) (rv_t rfl) ?_
         exact tup2 (agg3 (show spanF (a.l - b.h) (a.h - b.l) (gcdF [a.s, b.s]) = biN op a b from by first | (rw [biN_1 hno]; done) | (rw [biN_e hb hemp]; done) | (rw [(bi_no hb hne (by omega) hk).1]; done) | (rw [(bi_ar hb hne (by omega) hk).1, arF_8 (by omega)]; done) | (rw [(bi_ar hb hne (by omega) hk).1, arF_9 (by omega)]; done) | (rw [(bi_mul hb hne (by omega)).1]; done) | (rw [biN_l hb hne (by omega)]; done) | (rw [biN_c hb hne (by omega)]; done))) (congrArg (Value.int .i64) (show 0 = (biE op a b) from by first | (rw [biE_1 hno]; done) | (rw [biE_e hb hemp]; done) | (rw [(bi_no hb hne (by omega) hk).2]; done) | (rw [(bi_ar hb hne (by omega) hk).2]; done) | (rw [(bi_mul hb hne (by omega)).2]; done) | (rw [biE_o hb hne (by omega)]; done) | (rw [(bi_wide hb hne hns (by omega)).2]; done) | (rw [(bi_sml hb hne hs).2]; done) | (rw [biE_x hb hne]; done) | (rw [(bi_wide hb hne hns (by omega)).2, mkE_1 hmk]; done)))
      ·
       refine vc_skip ?_
       refine vc_seq ?_
       refine vc_seq ?_
       refine vc_region ?_
       refine oq (qv_eql rfl rfl) ?_
       refine oq (qv_as (.bool (decide (op = 8))) rfl) ?_
       refine ops_nil ?_
       refine vc_if rfl (fun c5 => ?_) (fun c5 => ?_)
       ·
        refine vc_exit ?_
        refine blockQ_miss rfl ?_
        refine blockQ_hit ?_
        refine vc_seq ?_
        refine vc_seq ?_
        refine vc_region_any Try.mixed (by kernel_rfl) ?_
        refine qq (qv_fa (off := 0) Try.field23_0 rfl) ?_
        refine qq (qv_ldp (v := (.int .i64 a.l)) Try.plain3 rfl (inOc (k := 0) rfl) rfl) ?_
        refine qq (qv_fa (off := 0) Try.field23_0 rfl) ?_
        refine qq (qv_ldp (v := (.int .i64 b.l)) Try.plain3 rfl (inOc (k := 1) rfl) rfl) ?_
        refine qq (qv_add rfl rfl (by omega)) ?_
        refine qq (qv_fa (off := 0) Try.field23_1 rfl) ?_
        refine qq (qv_ldp (v := (.int .i64 a.h)) Try.plain3 rfl (inOc (k := 0) rfl) rfl) ?_
        refine qq (qv_fa (off := 0) Try.field23_1 rfl) ?_
        refine qq (qv_ldp (v := (.int .i64 b.h)) Try.plain3 rfl (inOc (k := 1) rfl) rfl) ?_
        refine qq (qv_add rfl rfl (by omega)) ?_
        refine qq (qv_as (.int .i64 (a.l + b.l)) rfl) ?_
        refine qq (qv_as (.int .i64 (a.h + b.h)) rfl) ?_
        refine qops_nil ?_
        refine vc_seq ?_
        refine vc_seq ?_
        refine vc_region ?_
        refine oq (qv_mv (.int .i64 (a.l + b.l)) rfl) ?_
        refine oq (qv_call (v := (.bool (decide (fits (a.l + b.l))))) (inRange_c) rfl rfl) ?_
        refine oq (qv_not rfl) ?_
        refine oq (qv_mv (.bool (decide (¬ (fits (a.l + b.l))))) rfl) ?_
        by_cases g5 : ¬ (fits (a.l + b.l))
        ·
         refine os (want_fn g5 rfl rfl rfl) ?_
         refine os (want_fn g5 rfl rfl rfl) ?_
         refine os (want_fn g5 rfl rfl rfl) ?_
         refine oq (qv_pick_t g5 rfl (rfl : ev _ _ = (Value.bool true))) ?_
         refine ops_nil ?_
         refine vc_tt rfl ?_
         refine vc_seq ?_
         have hk : ¬ arOk op a b := fun z => by obtain ⟨z1, z2, -⟩ := z; first | exact absurd (z1 (by omega)).1 (by assumption) | exact absurd (z1 (by omega)).2 (by assumption) | exact absurd (z2 (by omega)).1 (by assumption) | exact absurd (z2 (by omega)).2 (by assumption)
         refine vc_region ?_
         refine oq (qv_build (out := [(Value.int .i64 0), (Value.int .i64 0), (Value.int .i64 0)]) Try.build23 [] rfl rfl) ?_
         refine ops_stw (k := 2) (vs := [(Value.int .i64 0), (Value.int .i64 0), (Value.int .i64 0)]) Try.size23 rfl rfl rfl rfl rfl rfl ?_
         refine oq (qv_as (Value.int .i64 3) rfl) ?_
         refine ops_nil ?_
         refine vc_ret ?_
         refine blockQ_ret ?_
         refine blockQ_ret ?_
         refine blockQ_ret ?_
         refine rs2 _ (Value.int .i64 3) (rv_c (vs := [(Value.int .i64 0), (Value.int .i64 0), (Value.int .i64 0)]) Try.agg23 rfl (inOc (k := 2) rfl) rfl rfl) (rv_t rfl) ?_
         exact tup2 (agg3 (show (⟨0, 0, 0⟩ : Nm) = biN op a b from by first | (rw [biN_1 hno]; done) | (rw [biN_e hb hemp]; done) | (rw [(bi_no hb hne (by omega) hk).1]; done) | (rw [(bi_ar hb hne (by omega) hk).1, arF_8 (by omega)]; done) | (rw [(bi_ar hb hne (by omega) hk).1, arF_9 (by omega)]; done) | (rw [(bi_mul hb hne (by omega)).1]; done) | (rw [biN_l hb hne (by omega)]; done) | (rw [biN_c hb hne (by omega)]; done))) (congrArg (Value.int .i64) (show 3 = (biE op a b) from by first | (rw [biE_1 hno]; done) | (rw [biE_e hb hemp]; done) | (rw [(bi_no hb hne (by omega) hk).2]; done) | (rw [(bi_ar hb hne (by omega) hk).2]; done) | (rw [(bi_mul hb hne (by omega)).2]; done) | (rw [biE_o hb hne (by omega)]; done) | (rw [(bi_wide hb hne hns (by omega)).2]; done) | (rw [(bi_sml hb hne hs).2]; done) | (rw [biE_x hb hne]; done) | (rw [(bi_wide hb hne hns (by omega)).2, mkE_1 hmk]; done)))
        ·
         refine og (qv_mv (.int .i64 (a.h + b.h)) rfl) (want_f g5 rfl rfl rfl) ?_
         refine og (qv_call (v := (.bool (decide (fits (a.h + b.h))))) (inRange_c) rfl rfl) (want_f g5 rfl rfl rfl) ?_
         refine og (qv_not rfl) (want_f g5 rfl rfl rfl) ?_
         refine oq (qv_pick_f g5 rfl (rfl : ev _ _ = (.bool (decide (¬ (fits (a.h + b.h))))))) ?_
         refine ops_nil ?_
         refine vc_if rfl (fun c6 => ?_) (fun c6 => ?_)
         ·
          refine vc_seq ?_
          have hk : ¬ arOk op a b := fun z => by obtain ⟨z1, z2, -⟩ := z; first | exact absurd (z1 (by omega)).1 (by assumption) | exact absurd (z1 (by omega)).2 (by assumption) | exact absurd (z2 (by omega)).1 (by assumption) | exact absurd (z2 (by omega)).2 (by assumption)
          refine vc_region ?_
          refine oq (qv_build (out := [(Value.int .i64 0), (Value.int .i64 0), (Value.int .i64 0)]) Try.build23 [] rfl rfl) ?_
          refine ops_stw (k := 2) (vs := [(Value.int .i64 0), (Value.int .i64 0), (Value.int .i64 0)]) Try.size23 rfl rfl rfl rfl rfl rfl ?_
          refine oq (qv_as (Value.int .i64 3) rfl) ?_
          refine ops_nil ?_
          refine vc_ret ?_
          refine blockQ_ret ?_
          refine blockQ_ret ?_
          refine blockQ_ret ?_
          refine rs2 _ (Value.int .i64 3) (rv_c (vs := [(Value.int .i64 0), (Value.int .i64 0), (Value.int .i64 0)]) Try.agg23 rfl (inOc (k := 2) rfl) rfl rfl) (rv_t rfl) ?_
          exact tup2 (agg3 (show (⟨0, 0, 0⟩ : Nm) = biN op a b from by first | (rw [biN_1 hno]; done) | (rw [biN_e hb hemp]; done) | (rw [(bi_no hb hne (by omega) hk).1]; done) | (rw [(bi_ar hb hne (by omega) hk).1, arF_8 (by omega)]; done) | (rw [(bi_ar hb hne (by omega) hk).1, arF_9 (by omega)]; done) | (rw [(bi_mul hb hne (by omega)).1]; done) | (rw [biN_l hb hne (by omega)]; done) | (rw [biN_c hb hne (by omega)]; done))) (congrArg (Value.int .i64) (show 3 = (biE op a b) from by first | (rw [biE_1 hno]; done) | (rw [biE_e hb hemp]; done) | (rw [(bi_no hb hne (by omega) hk).2]; done) | (rw [(bi_ar hb hne (by omega) hk).2]; done) | (rw [(bi_mul hb hne (by omega)).2]; done) | (rw [biE_o hb hne (by omega)]; done) | (rw [(bi_wide hb hne hns (by omega)).2]; done) | (rw [(bi_sml hb hne hs).2]; done) | (rw [biE_x hb hne]; done) | (rw [(bi_wide hb hne hns (by omega)).2, mkE_1 hmk]; done)))
         ·
          refine vc_skip ?_
          refine vc_seq ?_
          have hk : arOk op a b := ⟨fun e => by first | omega | exact ⟨Decidable.not_not.1 (by assumption), Decidable.not_not.1 (by assumption)⟩, fun e => by first | omega | exact ⟨Decidable.not_not.1 (by assumption), Decidable.not_not.1 (by assumption)⟩, fun e => by omega⟩
          have hf1 : fits (a.l + b.l) := Decidable.not_not.1 (by assumption)
          have hf2 : fits (a.h + b.h) := Decidable.not_not.1 (by assumption)
          refine vc_region ?_
          refine oq (qv_mv (.int .i64 (a.l + b.l)) rfl) ?_
          refine oq (qv_mv (.int .i64 (a.h + b.h)) rfl) ?_
          refine oq (qv_fa (off := 0) Try.field23_2 rfl) ?_
          refine oq (qv_ldp (v := (.int .i64 a.s)) Try.plain3 rfl (inOc (k := 0) rfl) rfl) ?_
          refine oq (qv_fa (off := 0) Try.field23_2 rfl) ?_
          refine oq (qv_ldp (v := (.int .i64 b.s)) Try.plain3 rfl (inOc (k := 1) rfl) rfl) ?_
          refine ops_lit (n := 2) (s := 1) (cs := [(.int .i64 a.s), (.int .i64 b.s)]) Try.underlying37 Try.ti3 (Nat.le_of_ble_eq_true rfl) rfl rfl rfl (Nat.le_of_ble_eq_true rfl) rfl (fun b5 => ?_)
          refine oq (qv_call_own (v := (.int .i64 (gcdF [a.s, b.s]))) (k := 3) (b := b5) rfl (fun Vo hVo hbo => gcd_c (xs := [a.s, b.s]) (sl_own (n := 2) (c := 2) hbo rfl (Nat.le_refl _) (by omega)) (nn2 (by omega) (by omega))) rfl rfl) ?_
          refine oq (qv_call (v := (.agg #[(.int .i64 ((spanF (a.l + b.l) (a.h + b.h) (gcdF [a.s, b.s])).l)), (.int .i64 ((spanF (a.l + b.l) (a.h + b.h) (gcdF [a.s, b.s])).h)), (.int .i64 ((spanF (a.l + b.l) (a.h + b.h) (gcdF [a.s, b.s])).s))])) (span_c (hf1) (hf2) (gcdF_nn _)) rfl rfl) ?_
          refine ops_stw (k := 2) (vs := [(.int .i64 ((spanF (a.l + b.l) (a.h + b.h) (gcdF [a.s, b.s])).l)), (.int .i64 ((spanF (a.l + b.l) (a.h + b.h) (gcdF [a.s, b.s])).h)), (.int .i64 ((spanF (a.l + b.l) (a.h + b.h) (gcdF [a.s, b.s])).s))]) Try.size23 rfl rfl rfl rfl rfl rfl ?_
          refine oq (qv_as (Value.int .i64 0) rfl) ?_
          refine ops_nil ?_
          refine vc_ret ?_
          refine blockQ_ret ?_
          refine blockQ_ret ?_
          refine blockQ_ret ?_
          refine rs2 _ (Value.int .i64 0) (rv_c (vs := [(.int .i64 ((spanF (a.l + b.l) (a.h + b.h) (gcdF [a.s, b.s])).l)), (.int .i64 ((spanF (a.l + b.l) (a.h + b.h) (gcdF [a.s, b.s])).h)), (.int .i64 ((spanF (a.l + b.l) (a.h + b.h) (gcdF [a.s, b.s])).s))]) Try.agg23 rfl (inOc (k := 2) rfl) rfl rfl) (rv_t rfl) ?_
          exact tup2 (agg3 (show spanF (a.l + b.l) (a.h + b.h) (gcdF [a.s, b.s]) = biN op a b from by first | (rw [biN_1 hno]; done) | (rw [biN_e hb hemp]; done) | (rw [(bi_no hb hne (by omega) hk).1]; done) | (rw [(bi_ar hb hne (by omega) hk).1, arF_8 (by omega)]; done) | (rw [(bi_ar hb hne (by omega) hk).1, arF_9 (by omega)]; done) | (rw [(bi_mul hb hne (by omega)).1]; done) | (rw [biN_l hb hne (by omega)]; done) | (rw [biN_c hb hne (by omega)]; done))) (congrArg (Value.int .i64) (show 0 = (biE op a b) from by first | (rw [biE_1 hno]; done) | (rw [biE_e hb hemp]; done) | (rw [(bi_no hb hne (by omega) hk).2]; done) | (rw [(bi_ar hb hne (by omega) hk).2]; done) | (rw [(bi_mul hb hne (by omega)).2]; done) | (rw [biE_o hb hne (by omega)]; done) | (rw [(bi_wide hb hne hns (by omega)).2]; done) | (rw [(bi_sml hb hne hs).2]; done) | (rw [biE_x hb hne]; done) | (rw [(bi_wide hb hne hns (by omega)).2, mkE_1 hmk]; done)))
       ·
        refine vc_skip ?_
        refine vc_seq ?_
        refine vc_seq ?_
        refine vc_region ?_
        refine oq (qv_eql rfl rfl) ?_
        refine oq (qv_as (.bool (decide (op = 10))) rfl) ?_
        refine ops_nil ?_
        refine vc_if rfl (fun c7 => ?_) (fun c7 => ?_)
        ·
         refine vc_exit ?_
         refine blockQ_miss rfl ?_
         refine blockQ_miss rfl ?_
         refine blockQ_hit ?_
         refine vc_seq ?_
         refine vc_seq ?_
         refine vc_region ?_
         refine oq (qv_ldm (vs := [(.int .i64 a.l), (.int .i64 a.h), (.int .i64 a.s)]) Try.agg23 rfl (inOc (k := 0) rfl) rfl rfl) ?_
         refine oq (qv_ldm (vs := [(.int .i64 b.l), (.int .i64 b.h), (.int .i64 b.s)]) Try.agg23 rfl (inOc (k := 1) rfl) rfl rfl) ?_
         refine oq (qv_call (v := (.tuple #[(.agg #[(.int .i64 ((mulN a b).l)), (.int .i64 ((mulN a b).h)), (.int .i64 ((mulN a b).s))]), (.int .i64 (mulE a b))])) (multiplied_c hva hvb he hf) rfl rfl) ?_
         refine oq (qv_ext (.agg #[(.int .i64 ((mulN a b).l)), (.int .i64 ((mulN a b).h)), (.int .i64 ((mulN a b).s))]) rfl rfl) ?_
         refine oq (qv_ext (.int .i64 (mulE a b)) rfl rfl) ?_
         refine ops_stw (k := 2) (vs := [(.int .i64 ((mulN a b).l)), (.int .i64 ((mulN a b).h)), (.int .i64 ((mulN a b).s))]) Try.size23 rfl rfl rfl rfl rfl rfl ?_
         refine oq (qv_as (.int .i64 (mulE a b)) rfl) ?_
         refine ops_nil ?_
         refine vc_ret ?_
         refine blockQ_ret ?_
         refine blockQ_ret ?_
         refine rs2 _ (.int .i64 (mulE a b)) (rv_c (vs := [(.int .i64 ((mulN a b).l)), (.int .i64 ((mulN a b).h)), (.int .i64 ((mulN a b).s))]) Try.agg23 rfl (inOc (k := 2) rfl) rfl rfl) (rv_t rfl) ?_
         exact tup2 (agg3 (show mulN a b = biN op a b from by first | (rw [biN_1 hno]; done) | (rw [biN_e hb hemp]; done) | (rw [(bi_no hb hne (by omega) hk).1]; done) | (rw [(bi_ar hb hne (by omega) hk).1, arF_8 (by omega)]; done) | (rw [(bi_ar hb hne (by omega) hk).1, arF_9 (by omega)]; done) | (rw [(bi_mul hb hne (by omega)).1]; done) | (rw [biN_l hb hne (by omega)]; done) | (rw [biN_c hb hne (by omega)]; done))) (congrArg (Value.int .i64) (show (mulE a b) = (biE op a b) from by first | (rw [biE_1 hno]; done) | (rw [biE_e hb hemp]; done) | (rw [(bi_no hb hne (by omega) hk).2]; done) | (rw [(bi_ar hb hne (by omega) hk).2]; done) | (rw [(bi_mul hb hne (by omega)).2]; done) | (rw [biE_o hb hne (by omega)]; done) | (rw [(bi_wide hb hne hns (by omega)).2]; done) | (rw [(bi_sml hb hne hs).2]; done) | (rw [biE_x hb hne]; done) | (rw [(bi_wide hb hne hns (by omega)).2, mkE_1 hmk]; done)))
        ·
         refine vc_skip ?_
         refine vc_seq ?_
         refine vc_seq ?_
         refine vc_region ?_
         refine oq (qv_eql rfl rfl) ?_
         refine oq (qv_as (.bool (decide (op = 11))) rfl) ?_
         refine ops_nil ?_
         refine vc_if rfl (fun c8 => ?_) (fun c8 => ?_)
         ·
          refine vc_skip ?_
          refine vc_if_t rfl c8 ?_
          refine vc_exit ?_
          refine blockQ_miss rfl ?_
          refine blockQ_miss rfl ?_
          refine blockQ_miss rfl ?_
          refine blockQ_hit ?_
          refine vc_seq ?_
          refine vc_seq ?_
          refine vc_region ?_
          refine oq (qv_mv (Value.int .i64 op) rfl) ?_
          refine oq (qv_ldm (vs := [(.int .i64 a.l), (.int .i64 a.h), (.int .i64 a.s)]) Try.agg23 rfl (inOc (k := 0) rfl) rfl rfl) ?_
          refine oq (qv_ldm (vs := [(.int .i64 b.l), (.int .i64 b.h), (.int .i64 b.s)]) Try.agg23 rfl (inOc (k := 1) rfl) rfl rfl) ?_
          refine oq (qv_call (v := (.agg #[(.int .i64 ((lsF op a b).l)), (.int .i64 ((lsF op a b).h)), (.int .i64 ((lsF op a b).s))])) (listed_c hva hvb he hf (by omega)) rfl rfl) ?_
          refine ops_stw (k := 2) (vs := [(.int .i64 ((lsF op a b).l)), (.int .i64 ((lsF op a b).h)), (.int .i64 ((lsF op a b).s))]) Try.size23 rfl rfl rfl rfl rfl rfl ?_
          refine oq (qv_as (Value.int .i64 0) rfl) ?_
          refine ops_nil ?_
          refine vc_ret ?_
          refine blockQ_ret ?_
          refine rs2 _ (Value.int .i64 0) (rv_c (vs := [(.int .i64 ((lsF op a b).l)), (.int .i64 ((lsF op a b).h)), (.int .i64 ((lsF op a b).s))]) Try.agg23 rfl (inOc (k := 2) rfl) rfl rfl) (rv_t rfl) ?_
          exact tup2 (agg3 (show lsF op a b = biN op a b from by first | (rw [biN_1 hno]; done) | (rw [biN_e hb hemp]; done) | (rw [(bi_no hb hne (by omega) hk).1]; done) | (rw [(bi_ar hb hne (by omega) hk).1, arF_8 (by omega)]; done) | (rw [(bi_ar hb hne (by omega) hk).1, arF_9 (by omega)]; done) | (rw [(bi_mul hb hne (by omega)).1]; done) | (rw [biN_l hb hne (by omega)]; done) | (rw [biN_c hb hne (by omega)]; done))) (congrArg (Value.int .i64) (show 0 = (biE op a b) from by first | (rw [biE_1 hno]; done) | (rw [biE_e hb hemp]; done) | (rw [(bi_no hb hne (by omega) hk).2]; done) | (rw [(bi_ar hb hne (by omega) hk).2]; done) | (rw [(bi_mul hb hne (by omega)).2]; done) | (rw [biE_o hb hne (by omega)]; done) | (rw [(bi_wide hb hne hns (by omega)).2]; done) | (rw [(bi_sml hb hne hs).2]; done) | (rw [biE_x hb hne]; done) | (rw [(bi_wide hb hne hns (by omega)).2, mkE_1 hmk]; done)))
         ·
          refine vc_seq ?_
          refine vc_region ?_
          refine oq (qv_eql rfl rfl) ?_
          refine oq (qv_as (.bool (decide (op = 12))) rfl) ?_
          refine ops_nil ?_
          refine vc_if rfl (fun c9 => ?_) (fun c9 => ?_)
          ·
           refine vc_skip ?_
           refine vc_if_t rfl c9 ?_
           refine vc_exit ?_
           refine blockQ_miss rfl ?_
           refine blockQ_miss rfl ?_
           refine blockQ_miss rfl ?_
           refine blockQ_hit ?_
           refine vc_seq ?_
           refine vc_seq ?_
           refine vc_region ?_
           refine oq (qv_mv (Value.int .i64 op) rfl) ?_
           refine oq (qv_ldm (vs := [(.int .i64 a.l), (.int .i64 a.h), (.int .i64 a.s)]) Try.agg23 rfl (inOc (k := 0) rfl) rfl rfl) ?_
           refine oq (qv_ldm (vs := [(.int .i64 b.l), (.int .i64 b.h), (.int .i64 b.s)]) Try.agg23 rfl (inOc (k := 1) rfl) rfl rfl) ?_
           refine oq (qv_call (v := (.agg #[(.int .i64 ((lsF op a b).l)), (.int .i64 ((lsF op a b).h)), (.int .i64 ((lsF op a b).s))])) (listed_c hva hvb he hf (by omega)) rfl rfl) ?_
           refine ops_stw (k := 2) (vs := [(.int .i64 ((lsF op a b).l)), (.int .i64 ((lsF op a b).h)), (.int .i64 ((lsF op a b).s))]) Try.size23 rfl rfl rfl rfl rfl rfl ?_
           refine oq (qv_as (Value.int .i64 0) rfl) ?_
           refine ops_nil ?_
           refine vc_ret ?_
           refine blockQ_ret ?_
           refine rs2 _ (Value.int .i64 0) (rv_c (vs := [(.int .i64 ((lsF op a b).l)), (.int .i64 ((lsF op a b).h)), (.int .i64 ((lsF op a b).s))]) Try.agg23 rfl (inOc (k := 2) rfl) rfl rfl) (rv_t rfl) ?_
           exact tup2 (agg3 (show lsF op a b = biN op a b from by first | (rw [biN_1 hno]; done) | (rw [biN_e hb hemp]; done) | (rw [(bi_no hb hne (by omega) hk).1]; done) | (rw [(bi_ar hb hne (by omega) hk).1, arF_8 (by omega)]; done) | (rw [(bi_ar hb hne (by omega) hk).1, arF_9 (by omega)]; done) | (rw [(bi_mul hb hne (by omega)).1]; done) | (rw [biN_l hb hne (by omega)]; done) | (rw [biN_c hb hne (by omega)]; done))) (congrArg (Value.int .i64) (show 0 = (biE op a b) from by first | (rw [biE_1 hno]; done) | (rw [biE_e hb hemp]; done) | (rw [(bi_no hb hne (by omega) hk).2]; done) | (rw [(bi_ar hb hne (by omega) hk).2]; done) | (rw [(bi_mul hb hne (by omega)).2]; done) | (rw [biE_o hb hne (by omega)]; done) | (rw [(bi_wide hb hne hns (by omega)).2]; done) | (rw [(bi_sml hb hne hs).2]; done) | (rw [biE_x hb hne]; done) | (rw [(bi_wide hb hne hns (by omega)).2, mkE_1 hmk]; done)))
          ·
           refine vc_seq ?_
           refine vc_region ?_
           refine oq (qv_eql rfl rfl) ?_
           refine oq (qv_as (.bool (decide (op = 21))) rfl) ?_
           refine ops_nil ?_
           refine vc_if rfl (fun c10 => ?_) (fun c10 => ?_)
           ·
            refine vc_skip ?_
            refine vc_if_t rfl c10 ?_
            refine vc_exit ?_
            refine blockQ_miss rfl ?_
            refine blockQ_miss rfl ?_
            refine blockQ_miss rfl ?_
            refine blockQ_hit ?_
            refine vc_seq ?_
            refine vc_seq ?_
            refine vc_region ?_
            refine oq (qv_mv (Value.int .i64 op) rfl) ?_
            refine oq (qv_ldm (vs := [(.int .i64 a.l), (.int .i64 a.h), (.int .i64 a.s)]) Try.agg23 rfl (inOc (k := 0) rfl) rfl rfl) ?_
            refine oq (qv_ldm (vs := [(.int .i64 b.l), (.int .i64 b.h), (.int .i64 b.s)]) Try.agg23 rfl (inOc (k := 1) rfl) rfl rfl) ?_
            refine oq (qv_call (v := (.agg #[(.int .i64 ((lsF op a b).l)), (.int .i64 ((lsF op a b).h)), (.int .i64 ((lsF op a b).s))])) (listed_c hva hvb he hf (by omega)) rfl rfl) ?_
            refine ops_stw (k := 2) (vs := [(.int .i64 ((lsF op a b).l)), (.int .i64 ((lsF op a b).h)), (.int .i64 ((lsF op a b).s))]) Try.size23 rfl rfl rfl rfl rfl rfl ?_
            refine oq (qv_as (Value.int .i64 0) rfl) ?_
            refine ops_nil ?_
            refine vc_ret ?_
            refine blockQ_ret ?_
            refine rs2 _ (Value.int .i64 0) (rv_c (vs := [(.int .i64 ((lsF op a b).l)), (.int .i64 ((lsF op a b).h)), (.int .i64 ((lsF op a b).s))]) Try.agg23 rfl (inOc (k := 2) rfl) rfl rfl) (rv_t rfl) ?_
            exact tup2 (agg3 (show lsF op a b = biN op a b from by first | (rw [biN_1 hno]; done) | (rw [biN_e hb hemp]; done) | (rw [(bi_no hb hne (by omega) hk).1]; done) | (rw [(bi_ar hb hne (by omega) hk).1, arF_8 (by omega)]; done) | (rw [(bi_ar hb hne (by omega) hk).1, arF_9 (by omega)]; done) | (rw [(bi_mul hb hne (by omega)).1]; done) | (rw [biN_l hb hne (by omega)]; done) | (rw [biN_c hb hne (by omega)]; done))) (congrArg (Value.int .i64) (show 0 = (biE op a b) from by first | (rw [biE_1 hno]; done) | (rw [biE_e hb hemp]; done) | (rw [(bi_no hb hne (by omega) hk).2]; done) | (rw [(bi_ar hb hne (by omega) hk).2]; done) | (rw [(bi_mul hb hne (by omega)).2]; done) | (rw [biE_o hb hne (by omega)]; done) | (rw [(bi_wide hb hne hns (by omega)).2]; done) | (rw [(bi_sml hb hne hs).2]; done) | (rw [biE_x hb hne]; done) | (rw [(bi_wide hb hne hns (by omega)).2, mkE_1 hmk]; done)))
           ·
            refine vc_region ?_
            refine oq (qv_eql rfl rfl) ?_
            refine oq (qv_as (.bool (decide (op = 22))) rfl) ?_
            refine ops_nil ?_
            refine vc_if rfl (fun c11 => ?_) (fun c11 => ?_)
            ·
             refine vc_exit ?_
             refine blockQ_miss rfl ?_
             refine blockQ_miss rfl ?_
             refine blockQ_miss rfl ?_
             refine blockQ_hit ?_
             refine vc_seq ?_
             refine vc_seq ?_
             refine vc_region ?_
             refine oq (qv_mv (Value.int .i64 op) rfl) ?_
             refine oq (qv_ldm (vs := [(.int .i64 a.l), (.int .i64 a.h), (.int .i64 a.s)]) Try.agg23 rfl (inOc (k := 0) rfl) rfl rfl) ?_
             refine oq (qv_ldm (vs := [(.int .i64 b.l), (.int .i64 b.h), (.int .i64 b.s)]) Try.agg23 rfl (inOc (k := 1) rfl) rfl rfl) ?_
             refine oq (qv_call (v := (.agg #[(.int .i64 ((lsF op a b).l)), (.int .i64 ((lsF op a b).h)), (.int .i64 ((lsF op a b).s))])) (listed_c hva hvb he hf (by omega)) rfl rfl) ?_
             refine ops_stw (k := 2) (vs := [(.int .i64 ((lsF op a b).l)), (.int .i64 ((lsF op a b).h)), (.int .i64 ((lsF op a b).s))]) Try.size23 rfl rfl rfl rfl rfl rfl ?_
             refine oq (qv_as (Value.int .i64 0) rfl) ?_
             refine ops_nil ?_
             refine vc_ret ?_
             refine blockQ_ret ?_
             refine rs2 _ (Value.int .i64 0) (rv_c (vs := [(.int .i64 ((lsF op a b).l)), (.int .i64 ((lsF op a b).h)), (.int .i64 ((lsF op a b).s))]) Try.agg23 rfl (inOc (k := 2) rfl) rfl rfl) (rv_t rfl) ?_
             exact tup2 (agg3 (show lsF op a b = biN op a b from by first | (rw [biN_1 hno]; done) | (rw [biN_e hb hemp]; done) | (rw [(bi_no hb hne (by omega) hk).1]; done) | (rw [(bi_ar hb hne (by omega) hk).1, arF_8 (by omega)]; done) | (rw [(bi_ar hb hne (by omega) hk).1, arF_9 (by omega)]; done) | (rw [(bi_mul hb hne (by omega)).1]; done) | (rw [biN_l hb hne (by omega)]; done) | (rw [biN_c hb hne (by omega)]; done))) (congrArg (Value.int .i64) (show 0 = (biE op a b) from by first | (rw [biE_1 hno]; done) | (rw [biE_e hb hemp]; done) | (rw [(bi_no hb hne (by omega) hk).2]; done) | (rw [(bi_ar hb hne (by omega) hk).2]; done) | (rw [(bi_mul hb hne (by omega)).2]; done) | (rw [biE_o hb hne (by omega)]; done) | (rw [(bi_wide hb hne hns (by omega)).2]; done) | (rw [(bi_sml hb hne hs).2]; done) | (rw [biE_x hb hne]; done) | (rw [(bi_wide hb hne hns (by omega)).2, mkE_1 hmk]; done)))
            ·
             refine vc_skip ?_
             refine vc_exit ?_
             refine blockQ_miss rfl ?_
             refine blockQ_miss rfl ?_
             refine blockQ_miss rfl ?_
             refine blockQ_miss rfl ?_
             refine blockQ_hit ?_
             refine vc_seq ?_
             refine vc_region ?_
             refine oq (qv_mv (Value.int .i64 op) rfl) ?_
             refine oq (qv_ldm (vs := [(.int .i64 a.l), (.int .i64 a.h), (.int .i64 a.s)]) Try.agg23 rfl (inOc (k := 0) rfl) rfl rfl) ?_
             refine oq (qv_ldm (vs := [(.int .i64 b.l), (.int .i64 b.h), (.int .i64 b.s)]) Try.agg23 rfl (inOc (k := 1) rfl) rfl rfl) ?_
             refine oq (qv_call (v := (.agg #[(.int .i64 ((exF op a b).l)), (.int .i64 ((exF op a b).h)), (.int .i64 ((exF op a b).s))])) (compared_c hva hvb he hf (by omega)) rfl rfl) ?_
             refine ops_stw (k := 2) (vs := [(.int .i64 ((exF op a b).l)), (.int .i64 ((exF op a b).h)), (.int .i64 ((exF op a b).s))]) Try.size23 rfl rfl rfl rfl rfl rfl ?_
             refine oq (qv_as (Value.int .i64 0) rfl) ?_
             refine ops_nil ?_
             refine vc_ret ?_
             refine rs2 _ (Value.int .i64 0) (rv_c (vs := [(.int .i64 ((exF op a b).l)), (.int .i64 ((exF op a b).h)), (.int .i64 ((exF op a b).s))]) Try.agg23 rfl (inOc (k := 2) rfl) rfl rfl) (rv_t rfl) ?_
             exact tup2 (agg3 (show exF op a b = biN op a b from by first | (rw [biN_1 hno]; done) | (rw [biN_e hb hemp]; done) | (rw [(bi_no hb hne (by omega) hk).1]; done) | (rw [(bi_ar hb hne (by omega) hk).1, arF_8 (by omega)]; done) | (rw [(bi_ar hb hne (by omega) hk).1, arF_9 (by omega)]; done) | (rw [(bi_mul hb hne (by omega)).1]; done) | (rw [biN_l hb hne (by omega)]; done) | (rw [biN_c hb hne (by omega)]; done))) (congrArg (Value.int .i64) (show 0 = (biE op a b) from by first | (rw [biE_1 hno]; done) | (rw [biE_e hb hemp]; done) | (rw [(bi_no hb hne (by omega) hk).2]; done) | (rw [(bi_ar hb hne (by omega) hk).2]; done) | (rw [(bi_mul hb hne (by omega)).2]; done) | (rw [biE_o hb hne (by omega)]; done) | (rw [(bi_wide hb hne hns (by omega)).2]; done) | (rw [(bi_sml hb hne hs).2]; done) | (rw [biE_x hb hne]; done) | (rw [(bi_wide hb hne hns (by omega)).2, mkE_1 hmk]; done)))

set_option maxRecDepth 100000 in
set_option maxHeartbeats 4000000 in
theorem Has_c {V : HV} {a : Nm} {n : Int} :
    FnC Try.prog 35 [(.agg #[(.int .i64 a.l), (.int .i64 a.h), (.int .i64 a.s)]), (Value.int .i64 n)] V [] (fun v _ _ => v = (.bool (decide (vld a ∧ mem a n)))) := by
 refine fn_intro (N := 12) Try.func35 (by kernel_rfl) rfl rfl rfl (Nat.le_of_ble_eq_true rfl) ?_
 intro w0 D
 refine vc_seq ?_
 refine vc_region ?_
 refine ops_box (v := (.agg #[(.int .i64 a.l), (.int .i64 a.h), (.int .i64 a.s)])) (cs := [(.int .i64 a.l), (.int .i64 a.h), (.int .i64 a.s)]) rfl rfl (fun b1 => ?_)
 refine oq (qv_as (Value.bool false) rfl) ?_
 refine ops_nil ?_
 refine vc_seq ?_
 refine vc_res (σ' := [(Arr 23 b1 [(.int .i64 a.l), (.int .i64 a.h), (.int .i64 a.s)])]) rfl ?_
 refine vc_region ?_
 refine oq (qv_ldm (vs := [(.int .i64 a.l), (.int .i64 a.h), (.int .i64 a.s)]) Try.agg23 rfl (inOc (k := 0) rfl) rfl rfl) ?_
 refine oq (qv_call (v := (.bool (decide (vld a)))) (Valid_c (a := a)) rfl rfl) ?_
 refine oq (qv_mv (.bool (decide (vld a))) rfl) ?_
 by_cases g1 : vld a
 ·
  refine og (qv_ldm (vs := [(.int .i64 a.l), (.int .i64 a.h), (.int .i64 a.s)]) Try.agg23 rfl (inOc (k := 0) rfl) rfl rfl) (want_t g1 rfl rfl rfl) ?_
  refine og (qv_mv (Value.int .i64 n) rfl) (want_t g1 rfl rfl rfl) ?_
  refine og (qv_call (v := (.bool (decide (mem a n)))) (has_c (by assumption)) rfl rfl) (want_t g1 rfl rfl rfl) ?_
  refine oq (qv_pick_t g1 rfl (rfl : ev _ _ = (.bool (decide (mem a n))))) ?_
  refine oq (qv_as (.bool (decide (mem a n))) rfl) ?_
  refine ops_nil ?_
  refine vc_ret ?_
  exact rq1 (.bool (decide (vld a ∧ mem a n))) (congrArg Value.bool (decide_eq_decide.2 (show (mem a n) ↔ (vld a ∧ mem a n) from by exact ⟨fun m => ⟨by assumption, m⟩, fun m => m.2⟩))) rfl
 ·
  refine os (want_tn g1 rfl rfl rfl) ?_
  refine os (want_tn g1 rfl rfl rfl) ?_
  refine os (want_tn g1 rfl rfl rfl) ?_
  refine oq (qv_pick_f g1 rfl (rfl : ev _ _ = (Value.bool false))) ?_
  refine oq (qv_as (Value.bool false) rfl) ?_
  refine ops_nil ?_
  refine vc_ret ?_
  exact rq1 (.bool (decide (vld a ∧ mem a n))) (congrArg Value.bool (decide_eq_false (show ¬ (vld a ∧ mem a n) from by exact fun m => absurd m.1 (by assumption))).symm) rfl

set_option maxRecDepth 100000 in
set_option maxHeartbeats 4000000 in
theorem Subset_c {V : HV} {a b : Nm} :
    FnC Try.prog 15 [(.agg #[(.int .i64 a.l), (.int .i64 a.h), (.int .i64 a.s)]), (.agg #[(.int .i64 b.l), (.int .i64 b.h), (.int .i64 b.s)])] V [] (fun v _ _ => v = (.bool (decide (vld a ∧ vld b ∧ sub a b)))) := by
 refine fn_intro (N := 18) Try.func15 (by kernel_rfl) rfl rfl rfl (Nat.le_of_ble_eq_true rfl) ?_
 intro w0 D
 refine vc_seq ?_
 refine vc_region ?_
 refine ops_box (v := (.agg #[(.int .i64 a.l), (.int .i64 a.h), (.int .i64 a.s)])) (cs := [(.int .i64 a.l), (.int .i64 a.h), (.int .i64 a.s)]) rfl rfl (fun b1 => ?_)
 refine ops_box (v := (.agg #[(.int .i64 b.l), (.int .i64 b.h), (.int .i64 b.s)])) (cs := [(.int .i64 b.l), (.int .i64 b.h), (.int .i64 b.s)]) rfl rfl (fun b2 => ?_)
 refine oq (qv_as (Value.bool false) rfl) ?_
 refine ops_nil ?_
 refine vc_seq ?_
 refine vc_res (σ' := [(Arr 23 b1 [(.int .i64 a.l), (.int .i64 a.h), (.int .i64 a.s)]), (Arr 23 b2 [(.int .i64 b.l), (.int .i64 b.h), (.int .i64 b.s)])]) rfl ?_
 refine vc_region_any Try.mixed (by kernel_rfl) ?_
 refine qq (qv_ldm (vs := [(.int .i64 a.l), (.int .i64 a.h), (.int .i64 a.s)]) Try.agg23 rfl (inOc (k := 0) rfl) rfl rfl) ?_
 refine qq (qv_call (v := (.bool (decide (vld a)))) (Valid_c (a := a)) rfl rfl) ?_
 refine qq (qv_mv (.bool (decide (vld a))) rfl) ?_
 by_cases g1 : vld a
 ·
  refine qg (qv_ldm (vs := [(.int .i64 b.l), (.int .i64 b.h), (.int .i64 b.s)]) Try.agg23 rfl (inOc (k := 1) rfl) rfl rfl) (want_t g1 rfl rfl rfl) ?_
  refine qg (qv_call (v := (.bool (decide (vld b)))) (Valid_c (a := b)) rfl rfl) (want_t g1 rfl rfl rfl) ?_
  refine qq (qv_pick_t g1 rfl (rfl : ev _ _ = (.bool (decide (vld b))))) ?_
  refine qq (qv_mv (.bool (decide (vld b))) rfl) ?_
  by_cases g2 : vld b
  ·
   refine qg (qv_ldm (vs := [(.int .i64 a.l), (.int .i64 a.h), (.int .i64 a.s)]) Try.agg23 rfl (inOc (k := 0) rfl) rfl rfl) (want_t g2 rfl rfl rfl) ?_
   refine qg (qv_ldm (vs := [(.int .i64 b.l), (.int .i64 b.h), (.int .i64 b.s)]) Try.agg23 rfl (inOc (k := 1) rfl) rfl rfl) (want_t g2 rfl rfl rfl) ?_
   refine qg (qv_call (v := (.agg #[(.int .i64 ((meetF a b).l)), (.int .i64 ((meetF a b).h)), (.int .i64 ((meetF a b).s))])) (meet_c (a := a) (b := b) (by assumption) (by assumption)) rfl rfl) (want_t g2 rfl rfl rfl) ?_
   refine qg (qv_ldm (vs := [(.int .i64 a.l), (.int .i64 a.h), (.int .i64 a.s)]) Try.agg23 rfl (inOc (k := 0) rfl) rfl rfl) (want_t g2 rfl rfl rfl) ?_
   refine qg (qv_eqls Try.eq23 [(meetF a b).l, (meetF a b).h, (meetF a b).s] [a.l, a.h, a.s] rfl rfl rfl rfl rfl rfl eq3) (want_t g2 rfl rfl rfl) ?_
   refine qq (qv_pick_t g2 rfl (rfl : ev _ _ = (.bool (decide (((meetF a b).l) = a.l ∧ ((meetF a b).h) = a.h ∧ ((meetF a b).s) = a.s))))) ?_
   refine qq (qv_as (.bool (decide (((meetF a b).l) = a.l ∧ ((meetF a b).h) = a.h ∧ ((meetF a b).s) = a.s))) rfl) ?_
   refine qops_nil ?_
   refine vc_ret ?_
   exact rq1 (.bool (decide (vld a ∧ vld b ∧ sub a b))) (congrArg Value.bool (decide_eq_decide.2 (show (((meetF a b).l) = a.l ∧ ((meetF a b).h) = a.h ∧ ((meetF a b).s) = a.s) ↔ (vld a ∧ vld b ∧ sub a b) from by rw [← nm_iff, meet_sub (by assumption) (by assumption)]; exact ⟨fun m => ⟨by assumption, by assumption, m⟩, fun m => m.2.2⟩))) rfl
  ·
   refine qs (want_tn g2 rfl rfl rfl) ?_
   refine qs (want_tn g2 rfl rfl rfl) ?_
   refine qs (want_tn g2 rfl rfl rfl) ?_
   refine qs (want_tn g2 rfl rfl rfl) ?_
   refine qs (want_tn g2 rfl rfl rfl) ?_
   refine qq (qv_pick_f g2 rfl (rfl : ev _ _ = (Value.bool false))) ?_
   refine qq (qv_as (Value.bool false) rfl) ?_
   refine qops_nil ?_
   refine vc_ret ?_
   exact rq1 (.bool (decide (vld a ∧ vld b ∧ sub a b))) (congrArg Value.bool (decide_eq_false (show ¬ (vld a ∧ vld b ∧ sub a b) from by exact fun m => by first | exact absurd m.1 (by assumption) | exact absurd m.2.1 (by assumption))).symm) rfl
 ·
  refine qs (want_tn g1 rfl rfl rfl) ?_
  refine qs (want_tn g1 rfl rfl rfl) ?_
  refine qq (qv_pick_f g1 rfl (rfl : ev _ _ = (Value.bool false))) ?_
  refine qq (qv_mv (Value.bool false) rfl) ?_
  refine qs (want_tnc rfl rfl rfl) ?_
  refine qs (want_tnc rfl rfl rfl) ?_
  refine qs (want_tnc rfl rfl rfl) ?_
  refine qs (want_tnc rfl rfl rfl) ?_
  refine qs (want_tnc rfl rfl rfl) ?_
  refine qq (qv_pick_fc rfl (rfl : ev _ _ = (Value.bool false))) ?_
  refine qq (qv_as (Value.bool false) rfl) ?_
  refine qops_nil ?_
  refine vc_ret ?_
  exact rq1 (.bool (decide (vld a ∧ vld b ∧ sub a b))) (congrArg Value.bool (decide_eq_false (show ¬ (vld a ∧ vld b ∧ sub a b) from by exact fun m => by first | exact absurd m.1 (by assumption) | exact absurd m.2.1 (by assumption))).symm) rfl

set_option maxRecDepth 100000 in
set_option maxHeartbeats 4000000 in
theorem rSubset_c {V : HV} {a b : Nm} :
    FnC Try.prog 16 [(.agg #[(.int .i64 a.l), (.int .i64 a.h), (.int .i64 a.s)]), (.agg #[(.int .i64 b.l), (.int .i64 b.h), (.int .i64 b.s)])] V [] (fun v _ _ => v = (.bool (decide (vld a ∧ vld b ∧ sub a b)))) := by
 refine fn_intro (N := 38) Try.func16 (by kernel_rfl) rfl rfl rfl (Nat.le_of_ble_eq_true rfl) ?_
 intro w0 D
 refine vc_seq ?_
 refine vc_region ?_
 refine ops_box (v := (.agg #[(.int .i64 a.l), (.int .i64 a.h), (.int .i64 a.s)])) (cs := [(.int .i64 a.l), (.int .i64 a.h), (.int .i64 a.s)]) rfl rfl (fun b1 => ?_)
 refine ops_box (v := (.agg #[(.int .i64 b.l), (.int .i64 b.h), (.int .i64 b.s)])) (cs := [(.int .i64 b.l), (.int .i64 b.h), (.int .i64 b.s)]) rfl rfl (fun b2 => ?_)
 refine oq (qv_as (Value.bool false) rfl) ?_
 refine ops_nil ?_
 refine vc_seq ?_
 refine vc_seq ?_
 refine vc_res (σ' := [(Arr 23 b1 [(.int .i64 a.l), (.int .i64 a.h), (.int .i64 a.s)]), (Arr 23 b2 [(.int .i64 b.l), (.int .i64 b.h), (.int .i64 b.s)])]) rfl ?_
 refine vc_region ?_
 refine oq (qv_ldm (vs := [(.int .i64 a.l), (.int .i64 a.h), (.int .i64 a.s)]) Try.agg23 rfl (inOc (k := 0) rfl) rfl rfl) ?_
 refine oq (qv_call (v := (.bool (decide (vld a)))) (rValid_c (a := a)) rfl rfl) ?_
 refine oq (qv_not rfl) ?_
 refine oq (qv_mv (.bool (decide (¬ (vld a)))) rfl) ?_
 by_cases g1 : ¬ (vld a)
 ·
  refine os (want_fn g1 rfl rfl rfl) ?_
  refine os (want_fn g1 rfl rfl rfl) ?_
  refine os (want_fn g1 rfl rfl rfl) ?_
  refine oq (qv_pick_t g1 rfl (rfl : ev _ _ = (Value.bool true))) ?_
  refine ops_nil ?_
  refine vc_tt rfl ?_
  refine vc_seq ?_
  refine vc_region ?_
  refine oq (qv_as (Value.bool false) rfl) ?_
  refine ops_nil ?_
  refine vc_ret ?_
  exact rq1 (.bool (decide (vld a ∧ vld b ∧ sub a b))) (congrArg Value.bool (decide_eq_false (show ¬ (vld a ∧ vld b ∧ sub a b) from by exact fun m => by first | exact absurd m.1 (by assumption) | exact absurd m.2.1 (by assumption) | exact absurd (show vld b ∧ mem b a.l from ⟨hw, (hsi.1 m.2.2).1⟩) (by assumption) | exact absurd (show vld b ∧ mem b a.h from ⟨hw, (hsi.1 m.2.2).2.1⟩) (by assumption))).symm) rfl
 ·
  refine og (qv_ldm (vs := [(.int .i64 b.l), (.int .i64 b.h), (.int .i64 b.s)]) Try.agg23 rfl (inOc (k := 1) rfl) rfl rfl) (want_f g1 rfl rfl rfl) ?_
  refine og (qv_call (v := (.bool (decide (vld b)))) (rValid_c (a := b)) rfl rfl) (want_f g1 rfl rfl rfl) ?_
  refine og (qv_not rfl) (want_f g1 rfl rfl rfl) ?_
  refine oq (qv_pick_f g1 rfl (rfl : ev _ _ = (.bool (decide (¬ (vld b)))))) ?_
  refine ops_nil ?_
  refine vc_if rfl (fun c1 => ?_) (fun c1 => ?_)
  ·
   refine vc_seq ?_
   refine vc_region ?_
   refine oq (qv_as (Value.bool false) rfl) ?_
   refine ops_nil ?_
   refine vc_ret ?_
   exact rq1 (.bool (decide (vld a ∧ vld b ∧ sub a b))) (congrArg Value.bool (decide_eq_false (show ¬ (vld a ∧ vld b ∧ sub a b) from by exact fun m => by first | exact absurd m.1 (by assumption) | exact absurd m.2.1 (by assumption) | exact absurd (show vld b ∧ mem b a.l from ⟨hw, (hsi.1 m.2.2).1⟩) (by assumption) | exact absurd (show vld b ∧ mem b a.h from ⟨hw, (hsi.1 m.2.2).2.1⟩) (by assumption))).symm) rfl
  ·
   refine vc_skip ?_
   refine vc_seq ?_
   refine vc_seq ?_
   refine vc_region ?_
   refine oq (qv_ldm (vs := [(.int .i64 a.l), (.int .i64 a.h), (.int .i64 a.s)]) Try.agg23 rfl (inOc (k := 0) rfl) rfl rfl) ?_
   refine oq (qv_call (v := (.bool (decide (a.h < a.l)))) (rempty_c (a := a)) rfl rfl) ?_
   refine ops_nil ?_
   refine vc_if rfl (fun c2 => ?_) (fun c2 => ?_)
   ·
    refine vc_seq ?_
    have hv : vld a := Decidable.not_not.1 (by assumption)
    have hw : vld b := Decidable.not_not.1 (by assumption)
    have he : a = nE := (vld_lt hv).1 (by assumption)
    refine vc_region ?_
    refine oq (qv_as (Value.bool true) rfl) ?_
    refine ops_nil ?_
    refine vc_ret ?_
    exact rq1 (.bool (decide (vld a ∧ vld b ∧ sub a b))) (congrArg Value.bool (decide_eq_true (show (vld a ∧ vld b ∧ sub a b) from by first | exact ⟨hv, hw, fun n m => by rw [he] at m; exact absurd m mem_nE⟩ | exact ⟨hv, hw, hsi.2 ⟨(hv).2, (hv).2, by rw [show a.s = 0 by assumption]; exact Int.dvd_zero _⟩⟩)).symm) rfl
   ·
    refine vc_skip ?_
    refine vc_seq ?_
    have hv : vld a := Decidable.not_not.1 (by assumption)
    have hw : vld b := Decidable.not_not.1 (by assumption)
    have he : ¬ a = nE := fun e => absurd ((vld_lt hv).2 e) (by assumption)
    have hsi := sub_iff (b := b) hv he
    have ba := (vld_bd hv).2.2
    refine vc_region ?_
    refine oq (qv_ldm (vs := [(.int .i64 b.l), (.int .i64 b.h), (.int .i64 b.s)]) Try.agg23 rfl (inOc (k := 1) rfl) rfl rfl) ?_
    refine oq (qv_fa (off := 0) Try.field23_0 rfl) ?_
    refine oq (qv_ldp (v := (.int .i64 a.l)) Try.plain3 rfl (inOc (k := 0) rfl) rfl) ?_
    refine oq (qv_call (v := (.bool (decide (vld b ∧ mem b a.l)))) (rHas_c (a := b)) rfl rfl) ?_
    refine oq (qv_mv (.bool (decide (vld b ∧ mem b a.l))) rfl) ?_
    by_cases g2 : vld b ∧ mem b a.l
    ·
     refine og (qv_ldm (vs := [(.int .i64 b.l), (.int .i64 b.h), (.int .i64 b.s)]) Try.agg23 rfl (inOc (k := 1) rfl) rfl rfl) (want_t g2 rfl rfl rfl) ?_
     refine og (qv_fa (off := 0) Try.field23_1 rfl) (want_t g2 rfl rfl rfl) ?_
     refine og (qv_ldp (v := (.int .i64 a.h)) Try.plain3 rfl (inOc (k := 0) rfl) rfl) (want_t g2 rfl rfl rfl) ?_
     refine og (qv_call (v := (.bool (decide (vld b ∧ mem b a.h)))) (rHas_c (a := b)) rfl rfl) (want_t g2 rfl rfl rfl) ?_
     refine oq (qv_pick_t g2 rfl (rfl : ev _ _ = (.bool (decide (vld b ∧ mem b a.h))))) ?_
     refine oq (qv_mv (.bool (decide (vld b ∧ mem b a.h))) rfl) ?_
     by_cases g3 : vld b ∧ mem b a.h
     ·
      refine og (qv_fa (off := 0) Try.field23_2 rfl) (want_t g3 rfl rfl rfl) ?_
      refine og (qv_ldp (v := (.int .i64 a.s)) Try.plain3 rfl (inOc (k := 0) rfl) rfl) (want_t g3 rfl rfl rfl) ?_
      refine og (qv_eql rfl rfl) (want_t g3 rfl rfl rfl) ?_
      refine og (qv_mv (.bool (decide (a.s = 0))) rfl) (want_t g3 rfl rfl rfl) ?_
      by_cases g4 : a.s = 0
      ·
       refine os (want_fn g4 rfl rfl rfl) ?_
       refine os (want_fn g4 rfl rfl rfl) ?_
       refine os (want_fn g4 rfl rfl rfl) ?_
       refine os (want_fn g4 rfl rfl rfl) ?_
       
       refine os (want_fn g4 rfl rfl rfl) ?_
       refine os (want_fn g4 rfl rfl rfl) ?_
       refine og (qv_pick_t g4 rfl (rfl : ev _ _ = (Value.bool true))) (want_t g3 rfl rfl rfl) ?_
       refine oq (qv_pick_t g3 rfl (rfl : ev _ _ = (Value.bool true))) ?_
       refine oq (qv_as (Value.bool true) rfl) ?_
       refine ops_nil ?_
       refine vc_ret ?_
       exact rq1 (.bool (decide (vld a ∧ vld b ∧ sub a b))) (congrArg Value.bool (decide_eq_true (show (vld a ∧ vld b ∧ sub a b) from by first | exact ⟨hv, hw, fun n m => by rw [he] at m; exact absurd m mem_nE⟩ | exact ⟨hv, hw, hsi.2 ⟨(g2).2, (g3).2, by rw [show a.s = 0 by assumption]; exact Int.dvd_zero _⟩⟩)).symm) rfl
      ·
       refine og (qv_fa (off := 0) Try.field23_2 rfl) (want_f g4 rfl rfl rfl) ?_
       refine og (qv_ldp (v := (.int .i64 a.s)) Try.plain3 rfl (inOc (k := 0) rfl) rfl) (want_f g4 rfl rfl rfl) ?_
       refine og (qv_fa (off := 0) Try.field23_2 rfl) (want_f g4 rfl rfl rfl) ?_
       refine og (qv_ldp (v := (.int .i64 b.s)) Try.plain3 rfl (inOc (k := 1) rfl) rfl) (want_f g4 rfl rfl rfl) ?_
       have hbs : 0 < b.s := two_step hv hw he (by assumption) (g2).2 (g3).2
       refine og (qv_rem rfl rfl (by omega) (by omega)) (want_f g4 rfl rfl rfl) ?_
       refine og (qv_eql rfl rfl) (want_f g4 rfl rfl rfl) ?_
       refine og (qv_pick_f g4 rfl (rfl : ev _ _ = (.bool (decide ((a.s % b.s) = 0))))) (want_t g3 rfl rfl rfl) ?_
       refine oq (qv_pick_t g3 rfl (rfl : ev _ _ = (.bool (decide ((a.s % b.s) = 0))))) ?_
       refine oq (qv_as (.bool (decide ((a.s % b.s) = 0))) rfl) ?_
       refine ops_nil ?_
       refine vc_ret ?_
       exact rq1 (.bool (decide (vld a ∧ vld b ∧ sub a b))) (congrArg Value.bool (decide_eq_decide.2 (show ((a.s % b.s) = 0) ↔ (vld a ∧ vld b ∧ sub a b) from by rw [hsi, Int.dvd_iff_emod_eq_zero]; exact ⟨fun m => ⟨hv, hw, (g2).2, (g3).2, m⟩, fun m => m.2.2.2.2⟩))) rfl
     ·
      refine os (want_tn g3 rfl rfl rfl) ?_
      refine os (want_tn g3 rfl rfl rfl) ?_
      refine os (want_tn g3 rfl rfl rfl) ?_
      refine os (want_tn g3 rfl rfl rfl) ?_
      refine os (want_u rfl rfl rfl) ?_
      refine os (want_u rfl rfl rfl) ?_
      refine os (want_u rfl rfl rfl) ?_
      refine os (want_u rfl rfl rfl) ?_
      
      refine os (want_u rfl rfl rfl) ?_
      refine os (want_u rfl rfl rfl) ?_
      refine os (want_tn g3 rfl rfl rfl) ?_
      refine oq (qv_pick_f g3 rfl (rfl : ev _ _ = (Value.bool false))) ?_
      refine oq (qv_as (Value.bool false) rfl) ?_
      refine ops_nil ?_
      refine vc_ret ?_
      exact rq1 (.bool (decide (vld a ∧ vld b ∧ sub a b))) (congrArg Value.bool (decide_eq_false (show ¬ (vld a ∧ vld b ∧ sub a b) from by exact fun m => by first | exact absurd m.1 (by assumption) | exact absurd m.2.1 (by assumption) | exact absurd (show vld b ∧ mem b a.l from ⟨hw, (hsi.1 m.2.2).1⟩) (by assumption) | exact absurd (show vld b ∧ mem b a.h from ⟨hw, (hsi.1 m.2.2).2.1⟩) (by assumption))).symm) rfl
    ·
     refine os (want_tn g2 rfl rfl rfl) ?_
     refine os (want_tn g2 rfl rfl rfl) ?_
     refine os (want_tn g2 rfl rfl rfl) ?_
     refine os (want_tn g2 rfl rfl rfl) ?_
     refine oq (qv_pick_f g2 rfl (rfl : ev _ _ = (Value.bool false))) ?_
     refine oq (qv_mv (Value.bool false) rfl) ?_
     refine os (want_tnc rfl rfl rfl) ?_
     refine os (want_tnc rfl rfl rfl) ?_
     refine os (want_tnc rfl rfl rfl) ?_
     refine os (want_tnc rfl rfl rfl) ?_
     refine os (want_u rfl rfl rfl) ?_
     refine os (want_u rfl rfl rfl) ?_
     refine os (want_u rfl rfl rfl) ?_
     refine os (want_u rfl rfl rfl) ?_
     
     refine os (want_u rfl rfl rfl) ?_
     refine os (want_u rfl rfl rfl) ?_
     refine os (want_tnc rfl rfl rfl) ?_
     refine oq (qv_pick_fc rfl (rfl : ev _ _ = (Value.bool false))) ?_
     refine oq (qv_as (Value.bool false) rfl) ?_
     refine ops_nil ?_
     refine vc_ret ?_
     exact rq1 (.bool (decide (vld a ∧ vld b ∧ sub a b))) (congrArg Value.bool (decide_eq_false (show ¬ (vld a ∧ vld b ∧ sub a b) from by exact fun m => by first | exact absurd m.1 (by assumption) | exact absurd m.2.1 (by assumption) | exact absurd (show vld b ∧ mem b a.l from ⟨hw, (hsi.1 m.2.2).1⟩) (by assumption) | exact absurd (show vld b ∧ mem b a.h from ⟨hw, (hsi.1 m.2.2).2.1⟩) (by assumption))).symm) rfl

end Go.Proofs.Ytapkilaikcihgaa
