/- Walks of numeric: what each function returns. Printed by a program out of notes. -/
import Derived.Test.YtapkilaikcihgaaNu
namespace Go.Proofs.Ytapkilaikcihgaa
open Go.Vc
open Classical

set_option maxRecDepth 100000 in
set_option maxHeartbeats 4000000 in
theorem rBinary_c {V : HV} {op : Int} {a b : Nm} :
    FnC Try.prog 24 [(Value.int .i64 op), (.agg #[(.int .i64 a.l), (.int .i64 a.h), (.int .i64 a.s)]), (.agg #[(.int .i64 b.l), (.int .i64 b.h), (.int .i64 b.s)])] V [] (fun v _ _ => v = .tuple #[(.agg #[(.int .i64 ((biN op a b).l)), (.int .i64 ((biN op a b).h)), (.int .i64 ((biN op a b).s))]), (.int .i64 (biE op a b))]) := by
 refine fn_intro (N := 146) Try.func24 (by kernel_rfl) rfl rfl rfl (Nat.le_of_ble_eq_true rfl) ?_
 intro w0 D
 refine vc_seq ?_
 refine vc_region ?_
 refine ops_box (v := (.agg #[(.int .i64 a.l), (.int .i64 a.h), (.int .i64 a.s)])) (cs := [(.int .i64 a.l), (.int .i64 a.h), (.int .i64 a.s)]) rfl rfl (fun b1 => ?_)
 refine ops_box (v := (.agg #[(.int .i64 b.l), (.int .i64 b.h), (.int .i64 b.s)])) (cs := [(.int .i64 b.l), (.int .i64 b.h), (.int .i64 b.s)]) rfl rfl (fun b2 => ?_)
 refine ops_alloc Try.ti23 rfl (fun b3 => ?_)
 refine oq (qv_as (Value.int .i64 0) rfl) ?_
 refine ops_nil ?_
 refine vc_seq ?_
 refine vc_seq ?_
 refine vc_res (σ' := [(Arr 23 b1 [(.int .i64 a.l), (.int .i64 a.h), (.int .i64 a.s)]), (Arr 23 b2 [(.int .i64 b.l), (.int .i64 b.h), (.int .i64 b.s)]), (Arr 23 b3 [(Value.int .i64 0), (Value.int .i64 0), (Value.int .i64 0)])]) rfl ?_
 refine vc_region ?_
 refine oq (qv_ldm (vs := [(.int .i64 a.l), (.int .i64 a.h), (.int .i64 a.s)]) Try.agg23 rfl (inOc (k := 0) rfl) rfl rfl) ?_
 refine oq (qv_call (v := (.bool (decide (vld a)))) (rValid_c (a := a)) rfl rfl) ?_
 refine oq (qv_not rfl) ?_
 refine oq (qv_mv (.bool (decide (¬ (vld a)))) rfl) ?_
 by_cases g1 : ¬ (vld a)
 ·
  refine os (want_fn g1 rfl rfl rfl) ?_
  refine os (want_fn g1 rfl rfl rfl) ?_
  refine os (want_fn g1 rfl rfl rfl) ?_
  refine oq (qv_pick_t g1 rfl (rfl : ev _ _ = (Value.bool true))) ?_
  refine oq (qv_mv (Value.bool true) rfl) ?_
  refine os (want_fnc rfl rfl rfl) ?_
  refine os (want_fnc rfl rfl rfl) ?_
  refine os (want_fnc rfl rfl rfl) ?_
  refine oq (qv_pick_tc rfl (rfl : ev _ _ = (Value.bool true))) ?_
  refine ops_nil ?_
  refine vc_tt rfl ?_
  refine vc_seq ?_
  have hno : ¬ biOk op a b := fun z => by obtain ⟨z1, z2, z3⟩ := z; first | exact absurd z1 (by assumption) | exact absurd z2 (by assumption) | omega
  refine vc_region ?_
  refine oq (qv_build (out := [(Value.int .i64 0), (Value.int .i64 0), (Value.int .i64 0)]) Try.build23 [] rfl rfl) ?_
  refine ops_stw (k := 2) (vs := [(Value.int .i64 0), (Value.int .i64 0), (Value.int .i64 0)]) Try.size23 rfl rfl rfl rfl rfl rfl ?_
  refine oq (qv_as (Value.int .i64 1) rfl) ?_
  refine ops_nil ?_
  refine vc_ret ?_
  refine rs2 _ (Value.int .i64 1) (rv_c (vs := [(Value.int .i64 0), (Value.int .i64 0), (Value.int .i64 0)]) Try.agg23 rfl (inOc (k := 2) rfl) rfl rfl) (rv_t rfl) ?_
  exact tup2 (agg3 (show (⟨0, 0, 0⟩ : Nm) = biN op a b from by first | (rw [biN_1 hno]; done) | (rw [biN_e hb hemp]; done) | (rw [(bi_sml hb hne hs).1]; done) | (rw [biN_x hb hne (by omega)]; done) | (rw [(bi_wide hb hne hns (by omega)).1, mkN_1 hmk, hwd]; done) | (rw [(bi_wide hb hne hns (by omega)).1, hwd]; done) | (rw [biN_c hb hne (by omega)]; done))) (congrArg (Value.int .i64) (show 1 = (biE op a b) from by first | (rw [biE_1 hno]; done) | (rw [biE_e hb hemp]; done) | (rw [(bi_no hb hne (by omega) hk).2]; done) | (rw [(bi_ar hb hne (by omega) hk).2]; done) | (rw [(bi_mul hb hne (by omega)).2]; done) | (rw [biE_o hb hne (by omega)]; done) | (rw [(bi_wide hb hne hns (by omega)).2]; done) | (rw [(bi_sml hb hne hs).2]; done) | (rw [biE_x hb hne]; done) | (rw [(bi_wide hb hne hns (by omega)).2, mkE_1 hmk]; done)))
 ·
  refine og (qv_ldm (vs := [(.int .i64 b.l), (.int .i64 b.h), (.int .i64 b.s)]) Try.agg23 rfl (inOc (k := 1) rfl) rfl rfl) (want_f g1 rfl rfl rfl) ?_
  refine og (qv_call (v := (.bool (decide (vld b)))) (rValid_c (a := b)) rfl rfl) (want_f g1 rfl rfl rfl) ?_
  refine og (qv_not rfl) (want_f g1 rfl rfl rfl) ?_
  refine oq (qv_pick_f g1 rfl (rfl : ev _ _ = (.bool (decide (¬ (vld b)))))) ?_
  refine oq (qv_mv (.bool (decide (¬ (vld b)))) rfl) ?_
  by_cases g2 : ¬ (vld b)
  ·
   refine os (want_fn g2 rfl rfl rfl) ?_
   refine os (want_fn g2 rfl rfl rfl) ?_
   refine os (want_fn g2 rfl rfl rfl) ?_
   refine oq (qv_pick_t g2 rfl (rfl : ev _ _ = (Value.bool true))) ?_
   refine ops_nil ?_
   refine vc_tt rfl ?_
   refine vc_seq ?_
   have hno : ¬ biOk op a b := fun z => by obtain ⟨z1, z2, z3⟩ := z; first | exact absurd z1 (by assumption) | exact absurd z2 (by assumption) | omega
   refine vc_region ?_
   refine oq (qv_build (out := [(Value.int .i64 0), (Value.int .i64 0), (Value.int .i64 0)]) Try.build23 [] rfl rfl) ?_
   refine ops_stw (k := 2) (vs := [(Value.int .i64 0), (Value.int .i64 0), (Value.int .i64 0)]) Try.size23 rfl rfl rfl rfl rfl rfl ?_
   refine oq (qv_as (Value.int .i64 1) rfl) ?_
   refine ops_nil ?_
   refine vc_ret ?_
   refine rs2 _ (Value.int .i64 1) (rv_c (vs := [(Value.int .i64 0), (Value.int .i64 0), (Value.int .i64 0)]) Try.agg23 rfl (inOc (k := 2) rfl) rfl rfl) (rv_t rfl) ?_
   exact tup2 (agg3 (show (⟨0, 0, 0⟩ : Nm) = biN op a b from by first | (rw [biN_1 hno]; done) | (rw [biN_e hb hemp]; done) | (rw [(bi_sml hb hne hs).1]; done) | (rw [biN_x hb hne (by omega)]; done) | (rw [(bi_wide hb hne hns (by omega)).1, mkN_1 hmk, hwd]; done) | (rw [(bi_wide hb hne hns (by omega)).1, hwd]; done) | (rw [biN_c hb hne (by omega)]; done))) (congrArg (Value.int .i64) (show 1 = (biE op a b) from by first | (rw [biE_1 hno]; done) | (rw [biE_e hb hemp]; done) | (rw [(bi_no hb hne (by omega) hk).2]; done) | (rw [(bi_ar hb hne (by omega) hk).2]; done) | (rw [(bi_mul hb hne (by omega)).2]; done) | (rw [biE_o hb hne (by omega)]; done) | (rw [(bi_wide hb hne hns (by omega)).2]; done) | (rw [(bi_sml hb hne hs).2]; done) | (rw [biE_x hb hne]; done) | (rw [(bi_wide hb hne hns (by omega)).2, mkE_1 hmk]; done)))
  ·
   refine og (qv_mv (Value.int .i64 op) rfl) (want_f g2 rfl rfl rfl) ?_
   refine og (qv_call (v := (.bool (decide (8 ≤ op ∧ op ≤ 22)))) (rbinary_c) rfl rfl) (want_f g2 rfl rfl rfl) ?_
   refine og (qv_not rfl) (want_f g2 rfl rfl rfl) ?_
   refine oq (qv_pick_f g2 rfl (rfl : ev _ _ = (.bool (decide (¬ (8 ≤ op ∧ op ≤ 22)))))) ?_
   refine ops_nil ?_
   refine vc_if rfl (fun c1 => ?_) (fun c1 => ?_)
   ·
    refine vc_seq ?_
    have hno : ¬ biOk op a b := fun z => by obtain ⟨z1, z2, z3⟩ := z; first | exact absurd z1 (by assumption) | exact absurd z2 (by assumption) | omega
    refine vc_region ?_
    refine oq (qv_build (out := [(Value.int .i64 0), (Value.int .i64 0), (Value.int .i64 0)]) Try.build23 [] rfl rfl) ?_
    refine ops_stw (k := 2) (vs := [(Value.int .i64 0), (Value.int .i64 0), (Value.int .i64 0)]) Try.size23 rfl rfl rfl rfl rfl rfl ?_
    refine oq (qv_as (Value.int .i64 1) rfl) ?_
    refine ops_nil ?_
    refine vc_ret ?_
    refine rs2 _ (Value.int .i64 1) (rv_c (vs := [(Value.int .i64 0), (Value.int .i64 0), (Value.int .i64 0)]) Try.agg23 rfl (inOc (k := 2) rfl) rfl rfl) (rv_t rfl) ?_
    exact tup2 (agg3 (show (⟨0, 0, 0⟩ : Nm) = biN op a b from by first | (rw [biN_1 hno]; done) | (rw [biN_e hb hemp]; done) | (rw [(bi_sml hb hne hs).1]; done) | (rw [biN_x hb hne (by omega)]; done) | (rw [(bi_wide hb hne hns (by omega)).1, mkN_1 hmk, hwd]; done) | (rw [(bi_wide hb hne hns (by omega)).1, hwd]; done) | (rw [biN_c hb hne (by omega)]; done))) (congrArg (Value.int .i64) (show 1 = (biE op a b) from by first | (rw [biE_1 hno]; done) | (rw [biE_e hb hemp]; done) | (rw [(bi_no hb hne (by omega) hk).2]; done) | (rw [(bi_ar hb hne (by omega) hk).2]; done) | (rw [(bi_mul hb hne (by omega)).2]; done) | (rw [biE_o hb hne (by omega)]; done) | (rw [(bi_wide hb hne hns (by omega)).2]; done) | (rw [(bi_sml hb hne hs).2]; done) | (rw [biE_x hb hne]; done) | (rw [(bi_wide hb hne hns (by omega)).2, mkE_1 hmk]; done)))
   ·
    refine vc_skip ?_
    refine vc_seq ?_
    refine vc_seq ?_
    have hb : biOk op a b := ⟨Decidable.not_not.1 (by assumption), Decidable.not_not.1 (by assumption), by omega⟩
    refine vc_region ?_
    refine oq (qv_ldm (vs := [(.int .i64 a.l), (.int .i64 a.h), (.int .i64 a.s)]) Try.agg23 rfl (inOc (k := 0) rfl) rfl rfl) ?_
    refine oq (qv_call (v := (.bool (decide (a.h < a.l)))) (rempty_c (a := a)) rfl rfl) ?_
    refine oq (qv_mv (.bool (decide (a.h < a.l))) rfl) ?_
    by_cases g3 : a.h < a.l
    ·
     refine os (want_fn g3 rfl rfl rfl) ?_
     refine os (want_fn g3 rfl rfl rfl) ?_
     refine oq (qv_pick_t g3 rfl (rfl : ev _ _ = (Value.bool true))) ?_
     refine ops_nil ?_
     refine vc_tt rfl ?_
     refine vc_seq ?_
     have hemp : a = nE ∨ b = nE := by first | exact Or.inl ((vld_lt hb.1).1 (by assumption)) | exact Or.inr ((vld_lt hb.2.1).1 (by assumption))
     refine vc_region ?_
     refine oq (qv_call (v := (.agg #[(.int .i64 nE.l), (.int .i64 nE.h), (.int .i64 nE.s)])) (rNone_c) rfl rfl) ?_
     refine ops_stw (k := 2) (vs := [(.int .i64 nE.l), (.int .i64 nE.h), (.int .i64 nE.s)]) Try.size23 rfl rfl rfl rfl rfl rfl ?_
     refine oq (qv_as (Value.int .i64 0) rfl) ?_
     refine ops_nil ?_
     refine vc_ret ?_
     refine rs2 _ (Value.int .i64 0) (rv_c (vs := [(.int .i64 nE.l), (.int .i64 nE.h), (.int .i64 nE.s)]) Try.agg23 rfl (inOc (k := 2) rfl) rfl rfl) (rv_t rfl) ?_
     exact tup2 (agg3 (show nE = biN op a b from by first | (rw [biN_1 hno]; done) | (rw [biN_e hb hemp]; done) | (rw [(bi_sml hb hne hs).1]; done) | (rw [biN_x hb hne (by omega)]; done) | (rw [(bi_wide hb hne hns (by omega)).1, mkN_1 hmk, hwd]; done) | (rw [(bi_wide hb hne hns (by omega)).1, hwd]; done) | (rw [biN_c hb hne (by omega)]; done))) (congrArg (Value.int .i64) (show 0 = (biE op a b) from by first | (rw [biE_1 hno]; done) | (rw [biE_e hb hemp]; done) | (rw [(bi_no hb hne (by omega) hk).2]; done) | (rw [(bi_ar hb hne (by omega) hk).2]; done) | (rw [(bi_mul hb hne (by omega)).2]; done) | (rw [biE_o hb hne (by omega)]; done) | (rw [(bi_wide hb hne hns (by omega)).2]; done) | (rw [(bi_sml hb hne hs).2]; done) | (rw [biE_x hb hne]; done) | (rw [(bi_wide hb hne hns (by omega)).2, mkE_1 hmk]; done)))
    ·
     refine og (qv_ldm (vs := [(.int .i64 b.l), (.int .i64 b.h), (.int .i64 b.s)]) Try.agg23 rfl (inOc (k := 1) rfl) rfl rfl) (want_f g3 rfl rfl rfl) ?_
     refine og (qv_call (v := (.bool (decide (b.h < b.l)))) (rempty_c (a := b)) rfl rfl) (want_f g3 rfl rfl rfl) ?_
     refine oq (qv_pick_f g3 rfl (rfl : ev _ _ = (.bool (decide (b.h < b.l))))) ?_
     refine ops_nil ?_
     refine vc_if rfl (fun c2 => ?_) (fun c2 => ?_)
     ·
      refine vc_seq ?_
      have hemp : a = nE ∨ b = nE := by first | exact Or.inl ((vld_lt hb.1).1 (by assumption)) | exact Or.inr ((vld_lt hb.2.1).1 (by assumption))
      refine vc_region ?_
      refine oq (qv_call (v := (.agg #[(.int .i64 nE.l), (.int .i64 nE.h), (.int .i64 nE.s)])) (rNone_c) rfl rfl) ?_
      refine ops_stw (k := 2) (vs := [(.int .i64 nE.l), (.int .i64 nE.h), (.int .i64 nE.s)]) Try.size23 rfl rfl rfl rfl rfl rfl ?_
      refine oq (qv_as (Value.int .i64 0) rfl) ?_
      refine ops_nil ?_
      refine vc_ret ?_
      refine rs2 _ (Value.int .i64 0) (rv_c (vs := [(.int .i64 nE.l), (.int .i64 nE.h), (.int .i64 nE.s)]) Try.agg23 rfl (inOc (k := 2) rfl) rfl rfl) (rv_t rfl) ?_
      exact tup2 (agg3 (show nE = biN op a b from by first | (rw [biN_1 hno]; done) | (rw [biN_e hb hemp]; done) | (rw [(bi_sml hb hne hs).1]; done) | (rw [biN_x hb hne (by omega)]; done) | (rw [(bi_wide hb hne hns (by omega)).1, mkN_1 hmk, hwd]; done) | (rw [(bi_wide hb hne hns (by omega)).1, hwd]; done) | (rw [biN_c hb hne (by omega)]; done))) (congrArg (Value.int .i64) (show 0 = (biE op a b) from by first | (rw [biE_1 hno]; done) | (rw [biE_e hb hemp]; done) | (rw [(bi_no hb hne (by omega) hk).2]; done) | (rw [(bi_ar hb hne (by omega) hk).2]; done) | (rw [(bi_mul hb hne (by omega)).2]; done) | (rw [biE_o hb hne (by omega)]; done) | (rw [(bi_wide hb hne hns (by omega)).2]; done) | (rw [(bi_sml hb hne hs).2]; done) | (rw [biE_x hb hne]; done) | (rw [(bi_wide hb hne hns (by omega)).2, mkE_1 hmk]; done)))
     ·
      refine vc_skip ?_
      refine vc_seq ?_
      refine vc_seq ?_
      have hne : ¬ (a = nE ∨ b = nE) := by rintro (e | e); exact absurd ((vld_lt hb.1).2 e) (by assumption); exact absurd ((vld_lt hb.2.1).2 e) (by assumption)
      have he : a ≠ nE := fun e => hne (Or.inl e)
      have hf : b ≠ nE := fun e => hne (Or.inr e)
      have bv := vld_bd hb.1
      have bw := vld_bd hb.2.1
      have las := step_le hb.1 he
      have lbs := step_le hb.2.1 hf
      have hva := hb.1
      have hvb := hb.2.1
      unfold fits at bv bw
      have za := sizeV_1 hva
      have zb := sizeV_1 hvb
      have pb := size_pos hvb hf
      refine vc_region_any Try.mixed (by kernel_rfl) ?_
      refine qq (qv_ldm (vs := [(.int .i64 a.l), (.int .i64 a.h), (.int .i64 a.s)]) Try.agg23 rfl (inOc (k := 0) rfl) rfl rfl) ?_
      refine qq (qv_call (v := (.int .i64 (sizeV a))) (rSize_c (a := a)) rfl rfl) ?_
      refine qq (qv_ldm (vs := [(.int .i64 b.l), (.int .i64 b.h), (.int .i64 b.s)]) Try.agg23 rfl (inOc (k := 1) rfl) rfl rfl) ?_
      refine qq (qv_call (v := (.int .i64 (sizeV b))) (rSize_c (a := b)) rfl rfl) ?_
      refine qq (qv_quo rfl rfl (by omega) (by omega)) ?_
      refine qq (qv_leq rfl rfl) ?_
      refine qops_nil ?_
      refine vc_if rfl (fun c3 => ?_) (fun c3 => ?_)
      ·
       refine vc_seq ?_
       have hs : sml a b := (sml_div hvb hf).2 (by rw [← za, ← zb]; assumption)
       refine vc_region ?_
       refine oq (qv_mv (Value.int .i64 op) rfl) ?_
       refine oq (qv_ldm (vs := [(.int .i64 a.l), (.int .i64 a.h), (.int .i64 a.s)]) Try.agg23 rfl (inOc (k := 0) rfl) rfl rfl) ?_
       refine oq (qv_ldm (vs := [(.int .i64 b.l), (.int .i64 b.h), (.int .i64 b.s)]) Try.agg23 rfl (inOc (k := 1) rfl) rfl rfl) ?_
       refine oq (qv_call (v := (.tuple #[(.agg #[(.int .i64 ((exN op a b).l)), (.int .i64 ((exN op a b).h)), (.int .i64 ((exN op a b).s))]), (.int .i64 (exE op a b))])) (rListed_c hva hvb hs) rfl rfl) ?_
       refine oq (qv_ext (.agg #[(.int .i64 ((exN op a b).l)), (.int .i64 ((exN op a b).h)), (.int .i64 ((exN op a b).s))]) rfl rfl) ?_
       refine oq (qv_ext (.int .i64 (exE op a b)) rfl rfl) ?_
       refine ops_stw (k := 2) (vs := [(.int .i64 ((exN op a b).l)), (.int .i64 ((exN op a b).h)), (.int .i64 ((exN op a b).s))]) Try.size23 rfl rfl rfl rfl rfl rfl ?_
       refine oq (qv_as (.int .i64 (exE op a b)) rfl) ?_
       refine ops_nil ?_
       refine vc_ret ?_
       refine rs2 _ (.int .i64 (exE op a b)) (rv_c (vs := [(.int .i64 ((exN op a b).l)), (.int .i64 ((exN op a b).h)), (.int .i64 ((exN op a b).s))]) Try.agg23 rfl (inOc (k := 2) rfl) rfl rfl) (rv_t rfl) ?_
       exact tup2 (agg3 (show exN op a b = biN op a b from by first | (rw [biN_1 hno]; done) | (rw [biN_e hb hemp]; done) | (rw [(bi_sml hb hne hs).1]; done) | (rw [biN_x hb hne (by omega)]; done) | (rw [(bi_wide hb hne hns (by omega)).1, mkN_1 hmk, hwd]; done) | (rw [(bi_wide hb hne hns (by omega)).1, hwd]; done) | (rw [biN_c hb hne (by omega)]; done))) (congrArg (Value.int .i64) (show (exE op a b) = (biE op a b) from by first | (rw [biE_1 hno]; done) | (rw [biE_e hb hemp]; done) | (rw [(bi_no hb hne (by omega) hk).2]; done) | (rw [(bi_ar hb hne (by omega) hk).2]; done) | (rw [(bi_mul hb hne (by omega)).2]; done) | (rw [biE_o hb hne (by omega)]; done) | (rw [(bi_wide hb hne hns (by omega)).2]; done) | (rw [(bi_sml hb hne hs).2]; done) | (rw [biE_x hb hne]; done) | (rw [(bi_wide hb hne hns (by omega)).2, mkE_1 hmk]; done)))
      ·
       refine vc_skip ?_
       refine vc_seq ?_
       refine vc_seq ?_
       have hns : ¬ sml a b := fun z => absurd ((sml_div hvb hf).1 z) (by rw [← za, ← zb]; assumption)
       refine vc_region ?_
       refine oq (qv_mv (Value.int .i64 op) rfl) ?_
       refine ops_nil ?_
       refine vc_block ?_
       refine vc_seq ?_
       refine vc_seq ?_
       refine vc_region ?_
       refine oq (qv_eql rfl rfl) ?_
       refine oq (qv_as (.bool (decide (op = 8))) rfl) ?_
       refine ops_nil ?_
       refine vc_if rfl (fun c4 => ?_) (fun c4 => ?_)
       ·
        refine vc_skip ?_
        refine vc_if_t rfl c4 ?_
        refine vc_seq ?_
        refine vc_region ?_
        refine oq (qv_mv (Value.int .i64 op) rfl) ?_
        refine oq (qv_ldm (vs := [(.int .i64 a.l), (.int .i64 a.h), (.int .i64 a.s)]) Try.agg23 rfl (inOc (k := 0) rfl) rfl rfl) ?_
        refine oq (qv_ldm (vs := [(.int .i64 b.l), (.int .i64 b.h), (.int .i64 b.s)]) Try.agg23 rfl (inOc (k := 1) rfl) rfl rfl) ?_
        refine oq (qv_call (v := (.tuple #[(.agg #[(.int .i64 ((exN op a b).l)), (.int .i64 ((exN op a b).h)), (.int .i64 ((exN op a b).s))]), (.int .i64 (exE op a b))])) (rCorners_c hva hvb he hf (by omega)) rfl rfl) ?_
        refine oq (qv_ext (.agg #[(.int .i64 ((exN op a b).l)), (.int .i64 ((exN op a b).h)), (.int .i64 ((exN op a b).s))]) rfl rfl) ?_
        refine oq (qv_ext (.int .i64 (exE op a b)) rfl rfl) ?_
        refine ops_stw (k := 2) (vs := [(.int .i64 ((exN op a b).l)), (.int .i64 ((exN op a b).h)), (.int .i64 ((exN op a b).s))]) Try.size23 rfl rfl rfl rfl rfl rfl ?_
        refine oq (qv_as (.int .i64 (exE op a b)) rfl) ?_
        refine ops_nil ?_
        refine vc_ret ?_
        refine blockQ_ret ?_
        refine rs2 _ (.int .i64 (exE op a b)) (rv_c (vs := [(.int .i64 ((exN op a b).l)), (.int .i64 ((exN op a b).h)), (.int .i64 ((exN op a b).s))]) Try.agg23 rfl (inOc (k := 2) rfl) rfl rfl) (rv_t rfl) ?_
        exact tup2 (agg3 (show exN op a b = biN op a b from by first | (rw [biN_1 hno]; done) | (rw [biN_e hb hemp]; done) | (rw [(bi_sml hb hne hs).1]; done) | (rw [biN_x hb hne (by omega)]; done) | (rw [(bi_wide hb hne hns (by omega)).1, mkN_1 hmk, hwd]; done) | (rw [(bi_wide hb hne hns (by omega)).1, hwd]; done) | (rw [biN_c hb hne (by omega)]; done))) (congrArg (Value.int .i64) (show (exE op a b) = (biE op a b) from by first | (rw [biE_1 hno]; done) | (rw [biE_e hb hemp]; done) | (rw [(bi_no hb hne (by omega) hk).2]; done) | (rw [(bi_ar hb hne (by omega) hk).2]; done) | (rw [(bi_mul hb hne (by omega)).2]; done) | (rw [biE_o hb hne (by omega)]; done) | (rw [(bi_wide hb hne hns (by omega)).2]; done) | (rw [(bi_sml hb hne hs).2]; done) | (rw [biE_x hb hne]; done) | (rw [(bi_wide hb hne hns (by omega)).2, mkE_1 hmk]; done)))
       ·
        refine vc_seq ?_
        refine vc_region ?_
        refine oq (qv_eql rfl rfl) ?_
        refine oq (qv_as (.bool (decide (op = 9))) rfl) ?_
        refine ops_nil ?_
        refine vc_if rfl (fun c5 => ?_) (fun c5 => ?_)
        ·
         refine vc_skip ?_
         refine vc_if_t rfl c5 ?_
         refine vc_seq ?_
         refine vc_region ?_
         refine oq (qv_mv (Value.int .i64 op) rfl) ?_
         refine oq (qv_ldm (vs := [(.int .i64 a.l), (.int .i64 a.h), (.int .i64 a.s)]) Try.agg23 rfl (inOc (k := 0) rfl) rfl rfl) ?_
         refine oq (qv_ldm (vs := [(.int .i64 b.l), (.int .i64 b.h), (.int .i64 b.s)]) Try.agg23 rfl (inOc (k := 1) rfl) rfl rfl) ?_
         refine oq (qv_call (v := (.tuple #[(.agg #[(.int .i64 ((exN op a b).l)), (.int .i64 ((exN op a b).h)), (.int .i64 ((exN op a b).s))]), (.int .i64 (exE op a b))])) (rCorners_c hva hvb he hf (by omega)) rfl rfl) ?_
         refine oq (qv_ext (.agg #[(.int .i64 ((exN op a b).l)), (.int .i64 ((exN op a b).h)), (.int .i64 ((exN op a b).s))]) rfl rfl) ?_
         refine oq (qv_ext (.int .i64 (exE op a b)) rfl rfl) ?_
         refine ops_stw (k := 2) (vs := [(.int .i64 ((exN op a b).l)), (.int .i64 ((exN op a b).h)), (.int .i64 ((exN op a b).s))]) Try.size23 rfl rfl rfl rfl rfl rfl ?_
         refine oq (qv_as (.int .i64 (exE op a b)) rfl) ?_
         refine ops_nil ?_
         refine vc_ret ?_
         refine blockQ_ret ?_
         refine rs2 _ (.int .i64 (exE op a b)) (rv_c (vs := [(.int .i64 ((exN op a b).l)), (.int .i64 ((exN op a b).h)), (.int .i64 ((exN op a b).s))]) Try.agg23 rfl (inOc (k := 2) rfl) rfl rfl) (rv_t rfl) ?_
         exact tup2 (agg3 (show exN op a b = biN op a b from by first | (rw [biN_1 hno]; done) | (rw [biN_e hb hemp]; done) | (rw [(bi_sml hb hne hs).1]; done) | (rw [biN_x hb hne (by omega)]; done) | (rw [(bi_wide hb hne hns (by omega)).1, mkN_1 hmk, hwd]; done) | (rw [(bi_wide hb hne hns (by omega)).1, hwd]; done) | (rw [biN_c hb hne (by omega)]; done))) (congrArg (Value.int .i64) (show (exE op a b) = (biE op a b) from by first | (rw [biE_1 hno]; done) | (rw [biE_e hb hemp]; done) | (rw [(bi_no hb hne (by omega) hk).2]; done) | (rw [(bi_ar hb hne (by omega) hk).2]; done) | (rw [(bi_mul hb hne (by omega)).2]; done) | (rw [biE_o hb hne (by omega)]; done) | (rw [(bi_wide hb hne hns (by omega)).2]; done) | (rw [(bi_sml hb hne hs).2]; done) | (rw [biE_x hb hne]; done) | (rw [(bi_wide hb hne hns (by omega)).2, mkE_1 hmk]; done)))
        ·
         refine vc_region ?_
         refine oq (qv_eql rfl rfl) ?_
         refine oq (qv_as (.bool (decide (op = 10))) rfl) ?_
         refine ops_nil ?_
         refine vc_if rfl (fun c6 => ?_) (fun c6 => ?_)
         ·
          refine vc_seq ?_
          refine vc_region ?_
          refine oq (qv_mv (Value.int .i64 op) rfl) ?_
          refine oq (qv_ldm (vs := [(.int .i64 a.l), (.int .i64 a.h), (.int .i64 a.s)]) Try.agg23 rfl (inOc (k := 0) rfl) rfl rfl) ?_
          refine oq (qv_ldm (vs := [(.int .i64 b.l), (.int .i64 b.h), (.int .i64 b.s)]) Try.agg23 rfl (inOc (k := 1) rfl) rfl rfl) ?_
          refine oq (qv_call (v := (.tuple #[(.agg #[(.int .i64 ((exN op a b).l)), (.int .i64 ((exN op a b).h)), (.int .i64 ((exN op a b).s))]), (.int .i64 (exE op a b))])) (rCorners_c hva hvb he hf (by omega)) rfl rfl) ?_
          refine oq (qv_ext (.agg #[(.int .i64 ((exN op a b).l)), (.int .i64 ((exN op a b).h)), (.int .i64 ((exN op a b).s))]) rfl rfl) ?_
          refine oq (qv_ext (.int .i64 (exE op a b)) rfl rfl) ?_
          refine ops_stw (k := 2) (vs := [(.int .i64 ((exN op a b).l)), (.int .i64 ((exN op a b).h)), (.int .i64 ((exN op a b).s))]) Try.size23 rfl rfl rfl rfl rfl rfl ?_
          refine oq (qv_as (.int .i64 (exE op a b)) rfl) ?_
          refine ops_nil ?_
          refine vc_ret ?_
          refine blockQ_ret ?_
          refine rs2 _ (.int .i64 (exE op a b)) (rv_c (vs := [(.int .i64 ((exN op a b).l)), (.int .i64 ((exN op a b).h)), (.int .i64 ((exN op a b).s))]) Try.agg23 rfl (inOc (k := 2) rfl) rfl rfl) (rv_t rfl) ?_
          exact tup2 (agg3 (show exN op a b = biN op a b from by first | (rw [biN_1 hno]; done) | (rw [biN_e hb hemp]; done) | (rw [(bi_sml hb hne hs).1]; done) | (rw [biN_x hb hne (by omega)]; done) | (rw [(bi_wide hb hne hns (by omega)).1, mkN_1 hmk, hwd]; done) | (rw [(bi_wide hb hne hns (by omega)).1, hwd]; done) | (rw [biN_c hb hne (by omega)]; done))) (congrArg (Value.int .i64) (show (exE op a b) = (biE op a b) from by first | (rw [biE_1 hno]; done) | (rw [biE_e hb hemp]; done) | (rw [(bi_no hb hne (by omega) hk).2]; done) | (rw [(bi_ar hb hne (by omega) hk).2]; done) | (rw [(bi_mul hb hne (by omega)).2]; done) | (rw [biE_o hb hne (by omega)]; done) | (rw [(bi_wide hb hne hns (by omega)).2]; done) | (rw [(bi_sml hb hne hs).2]; done) | (rw [biE_x hb hne]; done) | (rw [(bi_wide hb hne hns (by omega)).2, mkE_1 hmk]; done)))
         ·
          refine vc_seq ?_
          refine vc_region ?_
          refine oq (qv_eql rfl rfl) ?_
          refine oq (qv_as (.bool (decide (op = 11))) rfl) ?_
          refine ops_nil ?_
          refine vc_if rfl (fun c7 => ?_) (fun c7 => ?_)
          ·
           refine vc_seq ?_
           have w1 := aw0 a.l
           have w2 := aw0 a.h
           have w3 := mag_bd (n := a.l) (by unfold fits; omega)
           have w4 := mag_bd (n := a.h) (by unfold fits; omega)
           have w5 := mx_or (mag a.l) (mag a.h)
           refine vc_region ?_
           refine oq (qv_fa (off := 0) Try.field23_0 rfl) ?_
           refine oq (qv_ldp (v := (.int .i64 a.l)) Try.plain3 rfl (inOc (k := 0) rfl) rfl) ?_
           refine oq (qv_call (v := (.int .i64 (aw a.l 0))) (rAway_c (by omega) (by omega)) rfl rfl) ?_
           refine oq (qv_as (.int .i64 (aw a.l 0)) rfl) ?_
           refine ops_nil ?_
           refine vc_seq ?_
           refine vc_seq ?_
           refine vc_region ?_
           refine oq (qv_fa (off := 0) Try.field23_1 rfl) ?_
           refine oq (qv_ldp (v := (.int .i64 a.h)) Try.plain3 rfl (inOc (k := 0) rfl) rfl) ?_
           refine oq (qv_call (v := (.int .i64 (aw a.h 0))) (rAway_c (by omega) (by omega)) rfl rfl) ?_
           refine oq (qv_mv (.int .i64 (aw a.l 0)) rfl) ?_
           refine oq (qv_gtr rfl rfl) ?_
           refine ops_nil ?_
           refine vc_if rfl (fun c8 => ?_) (fun c8 => ?_)
           ·
            refine vc_region ?_
            refine oq (qv_fa (off := 0) Try.field23_1 rfl) ?_
            refine oq (qv_ldp (v := (.int .i64 a.h)) Try.plain3 rfl (inOc (k := 0) rfl) rfl) ?_
            refine oq (qv_call (v := (.int .i64 (aw a.h 0))) (rAway_c (by omega) (by omega)) rfl rfl) ?_
            refine oq (qv_as (.int .i64 (aw a.h 0)) rfl) ?_
            refine ops_nil ?_
            refine vc_seq ?_
            refine vc_seq ?_
            refine vc_region ?_
            refine oq (qv_fa (off := 0) Try.field23_0 rfl) ?_
            refine oq (qv_ldp (v := (.int .i64 a.l)) Try.plain3 rfl (inOc (k := 0) rfl) rfl) ?_
            refine oq (qv_geq rfl rfl) ?_
            refine oq (qv_mv (.bool (decide (0 ≤ a.l))) rfl) ?_
            by_cases g4 : 0 ≤ a.l
            ·
             refine og (qv_fa (off := 0) Try.field23_0 rfl) (want_t g4 rfl rfl rfl) ?_
             refine og (qv_ldp (v := (.int .i64 b.l)) Try.plain3 rfl (inOc (k := 1) rfl) rfl) (want_t g4 rfl rfl rfl) ?_
             refine og (qv_geq rfl rfl) (want_t g4 rfl rfl rfl) ?_
             refine oq (qv_pick_t g4 rfl (rfl : ev _ _ = (.bool (decide (0 ≤ b.l))))) ?_
             refine ops_nil ?_
             refine vc_if rfl (fun c9 => ?_) (fun c9 => ?_)
             ·
              refine vc_seq ?_
              have w6 : (aw a.h 0) = mx (mag a.l) (mag a.h) := by first | (rw [w1]; unfold mx; rw [w1, w2] at *; split <;> omega) | (rw [w2]; unfold mx; rw [w1, w2] at *; split <;> omega)
              have hmk : mkOk 0 (aw a.h 0) 1 := ⟨by unfold fits; omega, by unfold fits; omega, by omega⟩
              have hwd : spanF 0 (aw a.h 0) 1 = wdF op a b := by rw [wd_1 (by omega) (by omega), w6]
              refine vc_region ?_
              refine oq (qv_mv (.int .i64 (aw a.h 0)) rfl) ?_
              refine oq (qv_call (v := (.tuple #[(.agg #[(.int .i64 ((mkN 0 (aw a.h 0) 1).l)), (.int .i64 ((mkN 0 (aw a.h 0) 1).h)), (.int .i64 ((mkN 0 (aw a.h 0) 1).s))]), (.int .i64 (mkE 0 (aw a.h 0) 1))])) (rMake_c) rfl rfl) ?_
              refine oq (qv_ext (.agg #[(.int .i64 ((mkN 0 (aw a.h 0) 1).l)), (.int .i64 ((mkN 0 (aw a.h 0) 1).h)), (.int .i64 ((mkN 0 (aw a.h 0) 1).s))]) rfl rfl) ?_
              refine oq (qv_ext (.int .i64 (mkE 0 (aw a.h 0) 1)) rfl rfl) ?_
              refine ops_stw (k := 2) (vs := [(.int .i64 ((mkN 0 (aw a.h 0) 1).l)), (.int .i64 ((mkN 0 (aw a.h 0) 1).h)), (.int .i64 ((mkN 0 (aw a.h 0) 1).s))]) Try.size23 rfl rfl rfl rfl rfl rfl ?_
              refine oq (qv_as (.int .i64 (mkE 0 (aw a.h 0) 1)) rfl) ?_
              refine ops_nil ?_
              refine vc_ret ?_
              refine blockQ_ret ?_
              refine rs2 _ (.int .i64 (mkE 0 (aw a.h 0) 1)) (rv_c (vs := [(.int .i64 ((mkN 0 (aw a.h 0) 1).l)), (.int .i64 ((mkN 0 (aw a.h 0) 1).h)), (.int .i64 ((mkN 0 (aw a.h 0) 1).s))]) Try.agg23 rfl (inOc (k := 2) rfl) rfl rfl) (rv_t rfl) ?_
              exact tup2 (agg3 (show mkN 0 (aw a.h 0) 1 = biN op a b from by first | (rw [biN_1 hno]; done) | (rw [biN_e hb hemp]; done) | (rw [(bi_sml hb hne hs).1]; done) | (rw [biN_x hb hne (by omega)]; done) | (rw [(bi_wide hb hne hns (by omega)).1, mkN_1 hmk, hwd]; done) | (rw [(bi_wide hb hne hns (by omega)).1, hwd]; done) | (rw [biN_c hb hne (by omega)]; done))) (congrArg (Value.int .i64) (show (mkE 0 (aw a.h 0) 1) = (biE op a b) from by first | (rw [biE_1 hno]; done) | (rw [biE_e hb hemp]; done) | (rw [(bi_no hb hne (by omega) hk).2]; done) | (rw [(bi_ar hb hne (by omega) hk).2]; done) | (rw [(bi_mul hb hne (by omega)).2]; done) | (rw [biE_o hb hne (by omega)]; done) | (rw [(bi_wide hb hne hns (by omega)).2]; done) | (rw [(bi_sml hb hne hs).2]; done) | (rw [biE_x hb hne]; done) | (rw [(bi_wide hb hne hns (by omega)).2, mkE_1 hmk]; done)))
             ·
              refine vc_skip ?_
              refine vc_seq ?_
              have w6 : (aw a.h 0) = mx (mag a.l) (mag a.h) := by first | (rw [w1]; unfold mx; rw [w1, w2] at *; split <;> omega) | (rw [w2]; unfold mx; rw [w1, w2] at *; split <;> omega)
              have hmk : mkOk (-(aw a.h 0)) (aw a.h 0) 1 := ⟨by unfold fits; omega, by unfold fits; omega, by omega⟩
              have hwd : spanF (-(aw a.h 0)) (aw a.h 0) 1 = wdF op a b := by rw [wd_2 (by omega) (by omega), w6]
              refine vc_region ?_
              refine oq (qv_mv (.int .i64 (aw a.h 0)) rfl) ?_
              refine oq (qv_neg rfl (by omega)) ?_
              refine oq (qv_mv (.int .i64 (aw a.h 0)) rfl) ?_
              refine oq (qv_call (v := (.tuple #[(.agg #[(.int .i64 ((mkN (-(aw a.h 0)) (aw a.h 0) 1).l)), (.int .i64 ((mkN (-(aw a.h 0)) (aw a.h 0) 1).h)), (.int .i64 ((mkN (-(aw a.h 0)) (aw a.h 0) 1).s))]), (.int .i64 (mkE (-(aw a.h 0)) (aw a.h 0) 1))])) (rMake_c) rfl rfl) ?_
              refine oq (qv_ext (.agg #[(.int .i64 ((mkN (-(aw a.h 0)) (aw a.h 0) 1).l)), (.int .i64 ((mkN (-(aw a.h 0)) (aw a.h 0) 1).h)), (.int .i64 ((mkN (-(aw a.h 0)) (aw a.h 0) 1).s))]) rfl rfl) ?_
              refine oq (qv_ext (.int .i64 (mkE (-(aw a.h 0)) (aw a.h 0) 1)) rfl rfl) ?_
              refine ops_stw (k := 2) (vs := [(.int .i64 ((mkN (-(aw a.h 0)) (aw a.h 0) 1).l)), (.int .i64 ((mkN (-(aw a.h 0)) (aw a.h 0) 1).h)), (.int .i64 ((mkN (-(aw a.h 0)) (aw a.h 0) 1).s))]) Try.size23 rfl rfl rfl rfl rfl rfl ?_
              refine oq (qv_as (.int .i64 (mkE (-(aw a.h 0)) (aw a.h 0) 1)) rfl) ?_
              refine ops_nil ?_
              refine vc_ret ?_
              refine blockQ_ret ?_
              refine rs2 _ (.int .i64 (mkE (-(aw a.h 0)) (aw a.h 0) 1)) (rv_c (vs := [(.int .i64 ((mkN (-(aw a.h 0)) (aw a.h 0) 1).l)), (.int .i64 ((mkN (-(aw a.h 0)) (aw a.h 0) 1).h)), (.int .i64 ((mkN (-(aw a.h 0)) (aw a.h 0) 1).s))]) Try.agg23 rfl (inOc (k := 2) rfl) rfl rfl) (rv_t rfl) ?_
              exact tup2 (agg3 (show mkN (-(aw a.h 0)) (aw a.h 0) 1 = biN op a b from by first | (rw [biN_1 hno]; done) | (rw [biN_e hb hemp]; done) | (rw [(bi_sml hb hne hs).1]; done) | (rw [biN_x hb hne (by omega)]; done) | (rw [(bi_wide hb hne hns (by omega)).1, mkN_1 hmk, hwd]; done) | (rw [(bi_wide hb hne hns (by omega)).1, hwd]; done) | (rw [biN_c hb hne (by omega)]; done))) (congrArg (Value.int .i64) (show (mkE (-(aw a.h 0)) (aw a.h 0) 1) = (biE op a b) from by first | (rw [biE_1 hno]; done) | (rw [biE_e hb hemp]; done) | (rw [(bi_no hb hne (by omega) hk).2]; done) | (rw [(bi_ar hb hne (by omega) hk).2]; done) | (rw [(bi_mul hb hne (by omega)).2]; done) | (rw [biE_o hb hne (by omega)]; done) | (rw [(bi_wide hb hne hns (by omega)).2]; done) | (rw [(bi_sml hb hne hs).2]; done) | (rw [biE_x hb hne]; done) | (rw [(bi_wide hb hne hns (by omega)).2, mkE_1 hmk]; done)))
            ·
             refine os (want_tn g4 rfl rfl rfl) ?_
             refine os (want_tn g4 rfl rfl rfl) ?_
             refine os (want_tn g4 rfl rfl rfl) ?_
             refine oq (qv_pick_f g4 rfl (rfl : ev _ _ = (Value.bool false))) ?_
             refine ops_nil ?_
             refine vc_ff rfl ?_
             refine vc_skip ?_
             refine vc_seq ?_
             have w6 : (aw a.h 0) = mx (mag a.l) (mag a.h) := by first | (rw [w1]; unfold mx; rw [w1, w2] at *; split <;> omega) | (rw [w2]; unfold mx; rw [w1, w2] at *; split <;> omega)
             have hmk : mkOk (-(aw a.h 0)) (aw a.h 0) 1 := ⟨by unfold fits; omega, by unfold fits; omega, by omega⟩
             have hwd : spanF (-(aw a.h 0)) (aw a.h 0) 1 = wdF op a b := by rw [wd_2 (by omega) (by omega), w6]
             refine vc_region ?_
             refine oq (qv_mv (.int .i64 (aw a.h 0)) rfl) ?_
             refine oq (qv_neg rfl (by omega)) ?_
             refine oq (qv_mv (.int .i64 (aw a.h 0)) rfl) ?_
             refine oq (qv_call (v := (.tuple #[(.agg #[(.int .i64 ((mkN (-(aw a.h 0)) (aw a.h 0) 1).l)), (.int .i64 ((mkN (-(aw a.h 0)) (aw a.h 0) 1).h)), (.int .i64 ((mkN (-(aw a.h 0)) (aw a.h 0) 1).s))]), (.int .i64 (mkE (-(aw a.h 0)) (aw a.h 0) 1))])) (rMake_c) rfl rfl) ?_
             refine oq (qv_ext (.agg #[(.int .i64 ((mkN (-(aw a.h 0)) (aw a.h 0) 1).l)), (.int .i64 ((mkN (-(aw a.h 0)) (aw a.h 0) 1).h)), (.int .i64 ((mkN (-(aw a.h 0)) (aw a.h 0) 1).s))]) rfl rfl) ?_
             refine oq (qv_ext (.int .i64 (mkE (-(aw a.h 0)) (aw a.h 0) 1)) rfl rfl) ?_
             refine ops_stw (k := 2) (vs := [(.int .i64 ((mkN (-(aw a.h 0)) (aw a.h 0) 1).l)), (.int .i64 ((mkN (-(aw a.h 0)) (aw a.h 0) 1).h)), (.int .i64 ((mkN (-(aw a.h 0)) (aw a.h 0) 1).s))]) Try.size23 rfl rfl rfl rfl rfl rfl ?_
             refine oq (qv_as (.int .i64 (mkE (-(aw a.h 0)) (aw a.h 0) 1)) rfl) ?_
             refine ops_nil ?_
             refine vc_ret ?_
             refine blockQ_ret ?_
             refine rs2 _ (.int .i64 (mkE (-(aw a.h 0)) (aw a.h 0) 1)) (rv_c (vs := [(.int .i64 ((mkN (-(aw a.h 0)) (aw a.h 0) 1).l)), (.int .i64 ((mkN (-(aw a.h 0)) (aw a.h 0) 1).h)), (.int .i64 ((mkN (-(aw a.h 0)) (aw a.h 0) 1).s))]) Try.agg23 rfl (inOc (k := 2) rfl) rfl rfl) (rv_t rfl) ?_
             exact tup2 (agg3 (show mkN (-(aw a.h 0)) (aw a.h 0) 1 = biN op a b from by first | (rw [biN_1 hno]; done) | (rw [biN_e hb hemp]; done) | (rw [(bi_sml hb hne hs).1]; done) | (rw [biN_x hb hne (by omega)]; done) | (rw [(bi_wide hb hne hns (by omega)).1, mkN_1 hmk, hwd]; done) | (rw [(bi_wide hb hne hns (by omega)).1, hwd]; done) | (rw [biN_c hb hne (by omega)]; done))) (congrArg (Value.int .i64) (show (mkE (-(aw a.h 0)) (aw a.h 0) 1) = (biE op a b) from by first | (rw [biE_1 hno]; done) | (rw [biE_e hb hemp]; done) | (rw [(bi_no hb hne (by omega) hk).2]; done) | (rw [(bi_ar hb hne (by omega) hk).2]; done) | (rw [(bi_mul hb hne (by omega)).2]; done) | (rw [biE_o hb hne (by omega)]; done) | (rw [(bi_wide hb hne hns (by omega)).2]; done) | (rw [(bi_sml hb hne hs).2]; done) | (rw [biE_x hb hne]; done) | (rw [(bi_wide hb hne hns (by omega)).2, mkE_1 hmk]; done)))
           ·
            refine vc_skip ?_
            refine vc_seq ?_
            refine vc_seq ?_
            refine vc_region ?_
            refine oq (qv_fa (off := 0) Try.field23_0 rfl) ?_
            refine oq (qv_ldp (v := (.int .i64 a.l)) Try.plain3 rfl (inOc (k := 0) rfl) rfl) ?_
            refine oq (qv_geq rfl rfl) ?_
            refine oq (qv_mv (.bool (decide (0 ≤ a.l))) rfl) ?_
            by_cases g5 : 0 ≤ a.l
            ·
             refine og (qv_fa (off := 0) Try.field23_0 rfl) (want_t g5 rfl rfl rfl) ?_
             refine og (qv_ldp (v := (.int .i64 b.l)) Try.plain3 rfl (inOc (k := 1) rfl) rfl) (want_t g5 rfl rfl rfl) ?_
             refine og (qv_geq rfl rfl) (want_t g5 rfl rfl rfl) ?_
             refine oq (qv_pick_t g5 rfl (rfl : ev _ _ = (.bool (decide (0 ≤ b.l))))) ?_
             refine ops_nil ?_
             refine vc_if rfl (fun c10 => ?_) (fun c10 => ?_)
             ·
              refine vc_seq ?_
              have w6 : (aw a.l 0) = mx (mag a.l) (mag a.h) := by first | (rw [w1]; unfold mx; rw [w1, w2] at *; split <;> omega) | (rw [w2]; unfold mx; rw [w1, w2] at *; split <;> omega)
              have hmk : mkOk 0 (aw a.l 0) 1 := ⟨by unfold fits; omega, by unfold fits; omega, by omega⟩
              have hwd : spanF 0 (aw a.l 0) 1 = wdF op a b := by rw [wd_1 (by omega) (by omega), w6]
              refine vc_region ?_
              refine oq (qv_mv (.int .i64 (aw a.l 0)) rfl) ?_
              refine oq (qv_call (v := (.tuple #[(.agg #[(.int .i64 ((mkN 0 (aw a.l 0) 1).l)), (.int .i64 ((mkN 0 (aw a.l 0) 1).h)), (.int .i64 ((mkN 0 (aw a.l 0) 1).s))]), (.int .i64 (mkE 0 (aw a.l 0) 1))])) (rMake_c) rfl rfl) ?_
              refine oq (qv_ext (.agg #[(.int .i64 ((mkN 0 (aw a.l 0) 1).l)), (.int .i64 ((mkN 0 (aw a.l 0) 1).h)), (.int .i64 ((mkN 0 (aw a.l 0) 1).s))]) rfl rfl) ?_
              refine oq (qv_ext (.int .i64 (mkE 0 (aw a.l 0) 1)) rfl rfl) ?_
              refine ops_stw (k := 2) (vs := [(.int .i64 ((mkN 0 (aw a.l 0) 1).l)), (.int .i64 ((mkN 0 (aw a.l 0) 1).h)), (.int .i64 ((mkN 0 (aw a.l 0) 1).s))]) Try.size23 rfl rfl rfl rfl rfl rfl ?_
              refine oq (qv_as (.int .i64 (mkE 0 (aw a.l 0) 1)) rfl) ?_
              refine ops_nil ?_
              refine vc_ret ?_
              refine blockQ_ret ?_
              refine rs2 _ (.int .i64 (mkE 0 (aw a.l 0) 1)) (rv_c (vs := [(.int .i64 ((mkN 0 (aw a.l 0) 1).l)), (.int .i64 ((mkN 0 (aw a.l 0) 1).h)), (.int .i64 ((mkN 0 (aw a.l 0) 1).s))]) Try.agg23 rfl (inOc (k := 2) rfl) rfl rfl) (rv_t rfl) ?_
              exact tup2 (agg3 (show mkN 0 (aw a.l 0) 1 = biN op a b from by first | (rw [biN_1 hno]; done) | (rw [biN_e hb hemp]; done) | (rw [(bi_sml hb hne hs).1]; done) | (rw [biN_x hb hne (by omega)]; done) | (rw [(bi_wide hb hne hns (by omega)).1, mkN_1 hmk, hwd]; done) | (rw [(bi_wide hb hne hns (by omega)).1, hwd]; done) | (rw [biN_c hb hne (by omega)]; done))) (congrArg (Value.int .i64) (show (mkE 0 (aw a.l 0) 1) = (biE op a b) from by first | (rw [biE_1 hno]; done) | (rw [biE_e hb hemp]; done) | (rw [(bi_no hb hne (by omega) hk).2]; done) | (rw [(bi_ar hb hne (by omega) hk).2]; done) | (rw [(bi_mul hb hne (by omega)).2]; done) | (rw [biE_o hb hne (by omega)]; done) | (rw [(bi_wide hb hne hns (by omega)).2]; done) | (rw [(bi_sml hb hne hs).2]; done) | (rw [biE_x hb hne]; done) | (rw [(bi_wide hb hne hns (by omega)).2, mkE_1 hmk]; done)))
             ·
              refine vc_skip ?_
              refine vc_seq ?_
              have w6 : (aw a.l 0) = mx (mag a.l) (mag a.h) := by first | (rw [w1]; unfold mx; rw [w1, w2] at *; split <;> omega) | (rw [w2]; unfold mx; rw [w1, w2] at *; split <;> omega)
              have hmk : mkOk (-(aw a.l 0)) (aw a.l 0) 1 := ⟨by unfold fits; omega, by unfold fits; omega, by omega⟩
              have hwd : spanF (-(aw a.l 0)) (aw a.l 0) 1 = wdF op a b := by rw [wd_2 (by omega) (by omega), w6]
              refine vc_region ?_
              refine oq (qv_mv (.int .i64 (aw a.l 0)) rfl) ?_
              refine oq (qv_neg rfl (by omega)) ?_
              refine oq (qv_mv (.int .i64 (aw a.l 0)) rfl) ?_
              refine oq (qv_call (v := (.tuple #[(.agg #[(.int .i64 ((mkN (-(aw a.l 0)) (aw a.l 0) 1).l)), (.int .i64 ((mkN (-(aw a.l 0)) (aw a.l 0) 1).h)), (.int .i64 ((mkN (-(aw a.l 0)) (aw a.l 0) 1).s))]), (.int .i64 (mkE (-(aw a.l 0)) (aw a.l 0) 1))])) (rMake_c) rfl rfl) ?_
              refine oq (qv_ext (.agg #[(.int .i64 ((mkN (-(aw a.l 0)) (aw a.l 0) 1).l)), (.int .i64 ((mkN (-(aw a.l 0)) (aw a.l 0) 1).h)), (.int .i64 ((mkN (-(aw a.l 0)) (aw a.l 0) 1).s))]) rfl rfl) ?_
              refine oq (qv_ext (.int .i64 (mkE (-(aw a.l 0)) (aw a.l 0) 1)) rfl rfl) ?_
              refine ops_stw (k := 2) (vs := [(.int .i64 ((mkN (-(aw a.l 0)) (aw a.l 0) 1).l)), (.int .i64 ((mkN (-(aw a.l 0)) (aw a.l 0) 1).h)), (.int .i64 ((mkN (-(aw a.l 0)) (aw a.l 0) 1).s))]) Try.size23 rfl rfl rfl rfl rfl rfl ?_
              refine oq (qv_as (.int .i64 (mkE (-(aw a.l 0)) (aw a.l 0) 1)) rfl) ?_
              refine ops_nil ?_
              refine vc_ret ?_
              refine blockQ_ret ?_
              refine rs2 _ (.int .i64 (mkE (-(aw a.l 0)) (aw a.l 0) 1)) (rv_c (vs := [(.int .i64 ((mkN (-(aw a.l 0)) (aw a.l 0) 1).l)), (.int .i64 ((mkN (-(aw a.l 0)) (aw a.l 0) 1).h)), (.int .i64 ((mkN (-(aw a.l 0)) (aw a.l 0) 1).s))]) Try.agg23 rfl (inOc (k := 2) rfl) rfl rfl) (rv_t rfl) ?_
              exact tup2 (agg3 (show mkN (-(aw a.l 0)) (aw a.l 0) 1 = biN op a b from by first | (rw [biN_1 hno]; done) | (rw [biN_e hb hemp]; done) | (rw [(bi_sml hb hne hs).1]; done) | (rw [biN_x hb hne (by omega)]; done) | (rw [(bi_wide hb hne hns (by omega)).1, mkN_1 hmk, hwd]; done) | (rw [(bi_wide hb hne hns (by omega)).1, hwd]; done) | (rw [biN_c hb hne (by omega)]; done))) (congrArg (Value.int .i64) (show (mkE (-(aw a.l 0)) (aw a.l 0) 1) = (biE op a b) from by first | (rw [biE_1 hno]; done) | (rw [biE_e hb hemp]; done) | (rw [(bi_no hb hne (by omega) hk).2]; done) | (rw [(bi_ar hb hne (by omega) hk).2]; done) | (rw [(bi_mul hb hne (by omega)).2]; done) | (rw [biE_o hb hne (by omega)]; done) | (rw [(bi_wide hb hne hns (by omega)).2]; done) | (rw [(bi_sml hb hne hs).2]; done) | (rw [biE_x hb hne]; done) | (rw [(bi_wide hb hne hns (by omega)).2, mkE_1 hmk]; done)))
            ·
             refine os (want_tn g5 rfl rfl rfl) ?_
             refine os (want_tn g5 rfl rfl rfl) ?_
             refine os (want_tn g5 rfl rfl rfl) ?_
             refine oq (qv_pick_f g5 rfl (rfl : ev _ _ = (Value.bool false))) ?_
             refine ops_nil ?_
             refine vc_ff rfl ?_
             refine vc_skip ?_
             refine vc_seq ?_
             have w6 : (aw a.l 0) = mx (mag a.l) (mag a.h) := by first | (rw [w1]; unfold mx; rw [w1, w2] at *; split <;> omega) | (rw [w2]; unfold mx; rw [w1, w2] at *; split <;> omega)
             have hmk : mkOk (-(aw a.l 0)) (aw a.l 0) 1 := ⟨by unfold fits; omega, by unfold fits; omega, by omega⟩
             have hwd : spanF (-(aw a.l 0)) (aw a.l 0) 1 = wdF op a b := by rw [wd_2 (by omega) (by omega), w6]
             refine vc_region ?_
             refine oq (qv_mv (.int .i64 (aw a.l 0)) rfl) ?_
             refine oq (qv_neg rfl (by omega)) ?_
             refine oq (qv_mv (.int .i64 (aw a.l 0)) rfl) ?_
             refine oq (qv_call (v := (.tuple #[(.agg #[(.int .i64 ((mkN (-(aw a.l 0)) (aw a.l 0) 1).l)), (.int .i64 ((mkN (-(aw a.l 0)) (aw a.l 0) 1).h)), (.int .i64 ((mkN (-(aw a.l 0)) (aw a.l 0) 1).s))]), (.int .i64 (mkE (-(aw a.l 0)) (aw a.l 0) 1))])) (rMake_c) rfl rfl) ?_
             refine oq (qv_ext (.agg #[(.int .i64 ((mkN (-(aw a.l 0)) (aw a.l 0) 1).l)), (.int .i64 ((mkN (-(aw a.l 0)) (aw a.l 0) 1).h)), (.int .i64 ((mkN (-(aw a.l 0)) (aw a.l 0) 1).s))]) rfl rfl) ?_
             refine oq (qv_ext (.int .i64 (mkE (-(aw a.l 0)) (aw a.l 0) 1)) rfl rfl) ?_
             refine ops_stw (k := 2) (vs := [(.int .i64 ((mkN (-(aw a.l 0)) (aw a.l 0) 1).l)), (.int .i64 ((mkN (-(aw a.l 0)) (aw a.l 0) 1).h)), (.int .i64 ((mkN (-(aw a.l 0)) (aw a.l 0) 1).s))]) Try.size23 rfl rfl rfl rfl rfl rfl ?_
             refine oq (qv_as (.int .i64 (mkE (-(aw a.l 0)) (aw a.l 0) 1)) rfl) ?_
             refine ops_nil ?_
             refine vc_ret ?_
             refine blockQ_ret ?_
             refine rs2 _ (.int .i64 (mkE (-(aw a.l 0)) (aw a.l 0) 1)) (rv_c (vs := [(.int .i64 ((mkN (-(aw a.l 0)) (aw a.l 0) 1).l)), (.int .i64 ((mkN (-(aw a.l 0)) (aw a.l 0) 1).h)), (.int .i64 ((mkN (-(aw a.l 0)) (aw a.l 0) 1).s))]) Try.agg23 rfl (inOc (k := 2) rfl) rfl rfl) (rv_t rfl) ?_
             exact tup2 (agg3 (show mkN (-(aw a.l 0)) (aw a.l 0) 1 = biN op a b from by first | (rw [biN_1 hno]; done) | (rw [biN_e hb hemp]; done) | (rw [(bi_sml hb hne hs).1]; done) | (rw [biN_x hb hne (by omega)]; done) | (rw [(bi_wide hb hne hns (by omega)).1, mkN_1 hmk, hwd]; done) | (rw [(bi_wide hb hne hns (by omega)).1, hwd]; done) | (rw [biN_c hb hne (by omega)]; done))) (congrArg (Value.int .i64) (show (mkE (-(aw a.l 0)) (aw a.l 0) 1) = (biE op a b) from by first | (rw [biE_1 hno]; done) | (rw [biE_e hb hemp]; done) | (rw [(bi_no hb hne (by omega) hk).2]; done) | (rw [(bi_ar hb hne (by omega) hk).2]; done) | (rw [(bi_mul hb hne (by omega)).2]; done) | (rw [biE_o hb hne (by omega)]; done) | (rw [(bi_wide hb hne hns (by omega)).2]; done) | (rw [(bi_sml hb hne hs).2]; done) | (rw [biE_x hb hne]; done) | (rw [(bi_wide hb hne hns (by omega)).2, mkE_1 hmk]; done)))
          ·
           refine vc_seq ?_
           refine vc_region ?_
           refine oq (qv_eql rfl rfl) ?_
           refine oq (qv_as (.bool (decide (op = 12))) rfl) ?_
           refine ops_nil ?_
           refine vc_if rfl (fun c11 => ?_) (fun c11 => ?_)
           ·
            refine vc_seq ?_
            refine vc_region ?_
            refine oq (qv_as (Value.int .i64 0) rfl) ?_
            refine oq (qv_as (Value.int .i64 0) rfl) ?_
            refine ops_nil ?_
            refine vc_seq ?_
            refine vc_seq ?_
            refine vc_region ?_
            refine oq (qv_fa (off := 0) Try.field23_0 rfl) ?_
            refine oq (qv_ldp (v := (.int .i64 b.l)) Try.plain3 rfl (inOc (k := 1) rfl) rfl) ?_
            refine oq (qv_lss rfl rfl) ?_
            refine ops_nil ?_
            refine vc_if rfl (fun c12 => ?_) (fun c12 => ?_)
            ·
             refine vc_region ?_
             refine oq (qv_fa (off := 0) Try.field23_0 rfl) ?_
             refine oq (qv_ldp (v := (.int .i64 b.l)) Try.plain3 rfl (inOc (k := 1) rfl) rfl) ?_
             refine oq (qv_add rfl rfl (by omega)) ?_
             refine oq (qv_as (.int .i64 (b.l + 1)) rfl) ?_
             refine ops_nil ?_
             refine vc_seq ?_
             refine vc_seq ?_
             refine vc_region ?_
             refine oq (qv_fa (off := 0) Try.field23_1 rfl) ?_
             refine oq (qv_ldp (v := (.int .i64 b.h)) Try.plain3 rfl (inOc (k := 1) rfl) rfl) ?_
             refine oq (qv_gtr rfl rfl) ?_
             refine ops_nil ?_
             refine vc_if rfl (fun c13 => ?_) (fun c13 => ?_)
             ·
              refine vc_region ?_
              refine oq (qv_fa (off := 0) Try.field23_1 rfl) ?_
              refine oq (qv_ldp (v := (.int .i64 b.h)) Try.plain3 rfl (inOc (k := 1) rfl) rfl) ?_
              refine oq (qv_sub rfl rfl (by omega)) ?_
              refine oq (qv_as (.int .i64 (b.h - 1)) rfl) ?_
              refine ops_nil ?_
              refine vc_seq ?_
              have hmk : mkOk (b.l + 1) (b.h - 1) 1 := ⟨by unfold fits; omega, by unfold fits; omega, by omega⟩
              have hwd : spanF (b.l + 1) (b.h - 1) 1 = wdF op a b := by rw [wd_3 (by omega), show mn (b.l + 1) 0 = b.l + 1 by unfold mn; split <;> omega, show mx (b.h - 1) 0 = b.h - 1 by unfold mx; split <;> omega]
              refine vc_region ?_
              refine oq (qv_mv (.int .i64 (b.l + 1)) rfl) ?_
              refine oq (qv_mv (.int .i64 (b.h - 1)) rfl) ?_
              refine oq (qv_call (v := (.tuple #[(.agg #[(.int .i64 ((mkN (b.l + 1) (b.h - 1) 1).l)), (.int .i64 ((mkN (b.l + 1) (b.h - 1) 1).h)), (.int .i64 ((mkN (b.l + 1) (b.h - 1) 1).s))]), (.int .i64 (mkE (b.l + 1) (b.h - 1) 1))])) (rMake_c) rfl rfl) ?_
              refine oq (qv_ext (.agg #[(.int .i64 ((mkN (b.l + 1) (b.h - 1) 1).l)), (.int .i64 ((mkN (b.l + 1) (b.h - 1) 1).h)), (.int .i64 ((mkN (b.l + 1) (b.h - 1) 1).s))]) rfl rfl) ?_
              refine oq (qv_ext (.int .i64 (mkE (b.l + 1) (b.h - 1) 1)) rfl rfl) ?_
              refine ops_stw (k := 2) (vs := [(.int .i64 ((mkN (b.l + 1) (b.h - 1) 1).l)), (.int .i64 ((mkN (b.l + 1) (b.h - 1) 1).h)), (.int .i64 ((mkN (b.l + 1) (b.h - 1) 1).s))]) Try.size23 rfl rfl rfl rfl rfl rfl ?_
              refine oq (qv_as (.int .i64 (mkE (b.l + 1) (b.h - 1) 1)) rfl) ?_
              refine ops_nil ?_
              refine vc_ret ?_
              refine blockQ_ret ?_
              refine rs2 _ (.int .i64 (mkE (b.l + 1) (b.h - 1) 1)) (rv_c (vs := [(.int .i64 ((mkN (b.l + 1) (b.h - 1) 1).l)), (.int .i64 ((mkN (b.l + 1) (b.h - 1) 1).h)), (.int .i64 ((mkN (b.l + 1) (b.h - 1) 1).s))]) Try.agg23 rfl (inOc (k := 2) rfl) rfl rfl) (rv_t rfl) ?_
              exact tup2 (agg3 (show mkN (b.l + 1) (b.h - 1) 1 = biN op a b from by first | (rw [biN_1 hno]; done) | (rw [biN_e hb hemp]; done) | (rw [(bi_sml hb hne hs).1]; done) | (rw [biN_x hb hne (by omega)]; done) | (rw [(bi_wide hb hne hns (by omega)).1, mkN_1 hmk, hwd]; done) | (rw [(bi_wide hb hne hns (by omega)).1, hwd]; done) | (rw [biN_c hb hne (by omega)]; done))) (congrArg (Value.int .i64) (show (mkE (b.l + 1) (b.h - 1) 1) = (biE op a b) from by first | (rw [biE_1 hno]; done) | (rw [biE_e hb hemp]; done) | (rw [(bi_no hb hne (by omega) hk).2]; done) | (rw [(bi_ar hb hne (by omega) hk).2]; done) | (rw [(bi_mul hb hne (by omega)).2]; done) | (rw [biE_o hb hne (by omega)]; done) | (rw [(bi_wide hb hne hns (by omega)).2]; done) | (rw [(bi_sml hb hne hs).2]; done) | (rw [biE_x hb hne]; done) | (rw [(bi_wide hb hne hns (by omega)).2, mkE_1 hmk]; done)))
             ·
              refine vc_skip ?_
              refine vc_seq ?_
              have hmk : mkOk (b.l + 1) 0 1 := ⟨by unfold fits; omega, by unfold fits; omega, by omega⟩
              have hwd : spanF (b.l + 1) 0 1 = wdF op a b := by rw [wd_3 (by omega), show mn (b.l + 1) 0 = b.l + 1 by unfold mn; split <;> omega, show mx (b.h - 1) 0 = 0 by unfold mx; split <;> omega]
              refine vc_region ?_
              refine oq (qv_mv (.int .i64 (b.l + 1)) rfl) ?_
              refine oq (qv_mv (Value.int .i64 0) rfl) ?_
              refine oq (qv_call (v := (.tuple #[(.agg #[(.int .i64 ((mkN (b.l + 1) 0 1).l)), (.int .i64 ((mkN (b.l + 1) 0 1).h)), (.int .i64 ((mkN (b.l + 1) 0 1).s))]), (.int .i64 (mkE (b.l + 1) 0 1))])) (rMake_c) rfl rfl) ?_
              refine oq (qv_ext (.agg #[(.int .i64 ((mkN (b.l + 1) 0 1).l)), (.int .i64 ((mkN (b.l + 1) 0 1).h)), (.int .i64 ((mkN (b.l + 1) 0 1).s))]) rfl rfl) ?_
              refine oq (qv_ext (.int .i64 (mkE (b.l + 1) 0 1)) rfl rfl) ?_
              refine ops_stw (k := 2) (vs := [(.int .i64 ((mkN (b.l + 1) 0 1).l)), (.int .i64 ((mkN (b.l + 1) 0 1).h)), (.int .i64 ((mkN (b.l + 1) 0 1).s))]) Try.size23 rfl rfl rfl rfl rfl rfl ?_
              refine oq (qv_as (.int .i64 (mkE (b.l + 1) 0 1)) rfl) ?_
              refine ops_nil ?_
              refine vc_ret ?_
              refine blockQ_ret ?_
              refine rs2 _ (.int .i64 (mkE (b.l + 1) 0 1)) (rv_c (vs := [(.int .i64 ((mkN (b.l + 1) 0 1).l)), (.int .i64 ((mkN (b.l + 1) 0 1).h)), (.int .i64 ((mkN (b.l + 1) 0 1).s))]) Try.agg23 rfl (inOc (k := 2) rfl) rfl rfl) (rv_t rfl) ?_
              exact tup2 (agg3 (show mkN (b.l + 1) 0 1 = biN op a b from by first | (rw [biN_1 hno]; done) | (rw [biN_e hb hemp]; done) | (rw [(bi_sml hb hne hs).1]; done) | (rw [biN_x hb hne (by omega)]; done) | (rw [(bi_wide hb hne hns (by omega)).1, mkN_1 hmk, hwd]; done) | (rw [(bi_wide hb hne hns (by omega)).1, hwd]; done) | (rw [biN_c hb hne (by omega)]; done))) (congrArg (Value.int .i64) (show (mkE (b.l + 1) 0 1) = (biE op a b) from by first | (rw [biE_1 hno]; done) | (rw [biE_e hb hemp]; done) | (rw [(bi_no hb hne (by omega) hk).2]; done) | (rw [(bi_ar hb hne (by omega) hk).2]; done) | (rw [(bi_mul hb hne (by omega)).2]; done) | (rw [biE_o hb hne (by omega)]; done) | (rw [(bi_wide hb hne hns (by omega)).2]; done) | (rw [(bi_sml hb hne hs).2]; done) | (rw [biE_x hb hne]; done) | (rw [(bi_wide hb hne hns (by omega)).2, mkE_1 hmk]; done)))
            ·
             refine vc_skip ?_
             refine vc_seq ?_
             refine vc_seq ?_
             refine vc_region ?_
             refine oq (qv_fa (off := 0) Try.field23_1 rfl) ?_
             refine oq (qv_ldp (v := (.int .i64 b.h)) Try.plain3 rfl (inOc (k := 1) rfl) rfl) ?_
             refine oq (qv_gtr rfl rfl) ?_
             refine ops_nil ?_
             refine vc_if rfl (fun c14 => ?_) (fun c14 => ?_)
             ·
              refine vc_region ?_
              refine oq (qv_fa (off := 0) Try.field23_1 rfl) ?_
              refine oq (qv_ldp (v := (.int .i64 b.h)) Try.plain3 rfl (inOc (k := 1) rfl) rfl) ?_
              refine oq (qv_sub rfl rfl (by omega)) ?_
              refine oq (qv_as (.int .i64 (b.h - 1)) rfl) ?_
              refine ops_nil ?_
              refine vc_seq ?_
              have hmk : mkOk 0 (b.h - 1) 1 := ⟨by unfold fits; omega, by unfold fits; omega, by omega⟩
              have hwd : spanF 0 (b.h - 1) 1 = wdF op a b := by rw [wd_3 (by omega), show mn (b.l + 1) 0 = 0 by unfold mn; split <;> omega, show mx (b.h - 1) 0 = b.h - 1 by unfold mx; split <;> omega]
              refine vc_region ?_
              refine oq (qv_mv (Value.int .i64 0) rfl) ?_
              refine oq (qv_mv (.int .i64 (b.h - 1)) rfl) ?_
              refine oq (qv_call (v := (.tuple #[(.agg #[(.int .i64 ((mkN 0 (b.h - 1) 1).l)), (.int .i64 ((mkN 0 (b.h - 1) 1).h)), (.int .i64 ((mkN 0 (b.h - 1) 1).s))]), (.int .i64 (mkE 0 (b.h - 1) 1))])) (rMake_c) rfl rfl) ?_
              refine oq (qv_ext (.agg #[(.int .i64 ((mkN 0 (b.h - 1) 1).l)), (.int .i64 ((mkN 0 (b.h - 1) 1).h)), (.int .i64 ((mkN 0 (b.h - 1) 1).s))]) rfl rfl) ?_
              refine oq (qv_ext (.int .i64 (mkE 0 (b.h - 1) 1)) rfl rfl) ?_
              refine ops_stw (k := 2) (vs := [(.int .i64 ((mkN 0 (b.h - 1) 1).l)), (.int .i64 ((mkN 0 (b.h - 1) 1).h)), (.int .i64 ((mkN 0 (b.h - 1) 1).s))]) Try.size23 rfl rfl rfl rfl rfl rfl ?_
              refine oq (qv_as (.int .i64 (mkE 0 (b.h - 1) 1)) rfl) ?_
              refine ops_nil ?_
              refine vc_ret ?_
              refine blockQ_ret ?_
              refine rs2 _ (.int .i64 (mkE 0 (b.h - 1) 1)) (rv_c (vs := [(.int .i64 ((mkN 0 (b.h - 1) 1).l)), (.int .i64 ((mkN 0 (b.h - 1) 1).h)), (.int .i64 ((mkN 0 (b.h - 1) 1).s))]) Try.agg23 rfl (inOc (k := 2) rfl) rfl rfl) (rv_t rfl) ?_
              exact tup2 (agg3 (show mkN 0 (b.h - 1) 1 = biN op a b from by first | (rw [biN_1 hno]; done) | (rw [biN_e hb hemp]; done) | (rw [(bi_sml hb hne hs).1]; done) | (rw [biN_x hb hne (by omega)]; done) | (rw [(bi_wide hb hne hns (by omega)).1, mkN_1 hmk, hwd]; done) | (rw [(bi_wide hb hne hns (by omega)).1, hwd]; done) | (rw [biN_c hb hne (by omega)]; done))) (congrArg (Value.int .i64) (show (mkE 0 (b.h - 1) 1) = (biE op a b) from by first | (rw [biE_1 hno]; done) | (rw [biE_e hb hemp]; done) | (rw [(bi_no hb hne (by omega) hk).2]; done) | (rw [(bi_ar hb hne (by omega) hk).2]; done) | (rw [(bi_mul hb hne (by omega)).2]; done) | (rw [biE_o hb hne (by omega)]; done) | (rw [(bi_wide hb hne hns (by omega)).2]; done) | (rw [(bi_sml hb hne hs).2]; done) | (rw [biE_x hb hne]; done) | (rw [(bi_wide hb hne hns (by omega)).2, mkE_1 hmk]; done)))
             ·
              refine vc_skip ?_
              refine vc_seq ?_
              have hmk : mkOk 0 0 1 := ⟨by unfold fits; omega, by unfold fits; omega, by omega⟩
              have hwd : spanF 0 0 1 = wdF op a b := by rw [wd_3 (by omega), show mn (b.l + 1) 0 = 0 by unfold mn; split <;> omega, show mx (b.h - 1) 0 = 0 by unfold mx; split <;> omega]
              refine vc_region ?_
              refine oq (qv_mv (Value.int .i64 0) rfl) ?_
              refine oq (qv_mv (Value.int .i64 0) rfl) ?_
              refine oq (qv_call (v := (.tuple #[(.agg #[(.int .i64 ((mkN 0 0 1).l)), (.int .i64 ((mkN 0 0 1).h)), (.int .i64 ((mkN 0 0 1).s))]), (.int .i64 (mkE 0 0 1))])) (rMake_c) rfl rfl) ?_
              refine oq (qv_ext (.agg #[(.int .i64 ((mkN 0 0 1).l)), (.int .i64 ((mkN 0 0 1).h)), (.int .i64 ((mkN 0 0 1).s))]) rfl rfl) ?_
              refine oq (qv_ext (.int .i64 (mkE 0 0 1)) rfl rfl) ?_
              refine ops_stw (k := 2) (vs := [(.int .i64 ((mkN 0 0 1).l)), (.int .i64 ((mkN 0 0 1).h)), (.int .i64 ((mkN 0 0 1).s))]) Try.size23 rfl rfl rfl rfl rfl rfl ?_
              refine oq (qv_as (.int .i64 (mkE 0 0 1)) rfl) ?_
              refine ops_nil ?_
              refine vc_ret ?_
              refine blockQ_ret ?_
              refine rs2 _ (.int .i64 (mkE 0 0 1)) (rv_c (vs := [(.int .i64 ((mkN 0 0 1).l)), (.int .i64 ((mkN 0 0 1).h)), (.int .i64 ((mkN 0 0 1).s))]) Try.agg23 rfl (inOc (k := 2) rfl) rfl rfl) (rv_t rfl) ?_
              exact tup2 (agg3 (show mkN 0 0 1 = biN op a b from by first | (rw [biN_1 hno]; done) | (rw [biN_e hb hemp]; done) | (rw [(bi_sml hb hne hs).1]; done) | (rw [biN_x hb hne (by omega)]; done) | (rw [(bi_wide hb hne hns (by omega)).1, mkN_1 hmk, hwd]; done) | (rw [(bi_wide hb hne hns (by omega)).1, hwd]; done) | (rw [biN_c hb hne (by omega)]; done))) (congrArg (Value.int .i64) (show (mkE 0 0 1) = (biE op a b) from by first | (rw [biE_1 hno]; done) | (rw [biE_e hb hemp]; done) | (rw [(bi_no hb hne (by omega) hk).2]; done) | (rw [(bi_ar hb hne (by omega) hk).2]; done) | (rw [(bi_mul hb hne (by omega)).2]; done) | (rw [biE_o hb hne (by omega)]; done) | (rw [(bi_wide hb hne hns (by omega)).2]; done) | (rw [(bi_sml hb hne hs).2]; done) | (rw [biE_x hb hne]; done) | (rw [(bi_wide hb hne hns (by omega)).2, mkE_1 hmk]; done)))
           ·
            refine vc_seq ?_
            refine vc_region ?_
            refine oq (qv_eql rfl rfl) ?_
            refine oq (qv_as (.bool (decide (op = 21))) rfl) ?_
            refine ops_nil ?_
            refine vc_if rfl (fun c15 => ?_) (fun c15 => ?_)
            ·
             refine vc_seq ?_
             refine vc_region ?_
             refine oq (qv_mv (Value.int .i64 op) rfl) ?_
             refine oq (qv_fa (off := 0) Try.field23_1 rfl) ?_
             refine oq (qv_ldp (v := (.int .i64 a.h)) Try.plain3 rfl (inOc (k := 0) rfl) rfl) ?_
             refine oq (qv_fa (off := 0) Try.field23_1 rfl) ?_
             refine oq (qv_ldp (v := (.int .i64 b.h)) Try.plain3 rfl (inOc (k := 1) rfl) rfl) ?_
             refine oq (qv_call (v := (.tuple #[(.int .i64 (vN op a.h b.h)), (.bool (decide (valOk op a.h b.h)))])) (rValue_c (by unfold fits; omega) (by unfold fits; omega)) rfl rfl) ?_
             refine oq (qv_mv (.tuple #[(.int .i64 (vN op a.h b.h)), (.bool (decide (valOk op a.h b.h)))]) rfl) ?_
             refine oq (qv_ext (.int .i64 (vN op a.h b.h)) rfl rfl) ?_
             refine oq (qv_ext (.bool (decide (valOk op a.h b.h))) rfl rfl) ?_
             refine oq (qv_as (.int .i64 (vN op a.h b.h)) rfl) ?_
             refine oq (qv_as (.bool (decide (valOk op a.h b.h))) rfl) ?_
             refine ops_nil ?_
             refine vc_seq ?_
             have hwd : upF (joinF a b) (vN op a.h b.h) = wdF op a b := by rw [wd_4 (by omega), vN_o (by omega), val21 (by omega)]
             refine vc_region ?_
             refine oq (qv_ldm (vs := [(.int .i64 a.l), (.int .i64 a.h), (.int .i64 a.s)]) Try.agg23 rfl (inOc (k := 0) rfl) rfl rfl) ?_
             refine oq (qv_ldm (vs := [(.int .i64 b.l), (.int .i64 b.h), (.int .i64 b.s)]) Try.agg23 rfl (inOc (k := 1) rfl) rfl rfl) ?_
             refine oq (qv_call (v := (.agg #[(.int .i64 ((joinF a b).l)), (.int .i64 ((joinF a b).h)), (.int .i64 ((joinF a b).s))])) (rJoin_c (a := a) (b := b) (hva) (hvb)) rfl rfl) ?_
             refine oq (qv_mv (.int .i64 (vN op a.h b.h)) rfl) ?_
             refine oq (qv_call (v := (.agg #[(.int .i64 ((upF (joinF a b) (vN op a.h b.h)).l)), (.int .i64 ((upF (joinF a b) (vN op a.h b.h)).h)), (.int .i64 ((upF (joinF a b) (vN op a.h b.h)).s))])) (rUpto_c (a := joinF a b) (join_least hva hvb).ok) rfl rfl) ?_
             refine ops_stw (k := 2) (vs := [(.int .i64 ((upF (joinF a b) (vN op a.h b.h)).l)), (.int .i64 ((upF (joinF a b) (vN op a.h b.h)).h)), (.int .i64 ((upF (joinF a b) (vN op a.h b.h)).s))]) Try.size23 rfl rfl rfl rfl rfl rfl ?_
             refine oq (qv_as (Value.int .i64 0) rfl) ?_
             refine ops_nil ?_
             refine vc_ret ?_
             refine blockQ_ret ?_
             refine rs2 _ (Value.int .i64 0) (rv_c (vs := [(.int .i64 ((upF (joinF a b) (vN op a.h b.h)).l)), (.int .i64 ((upF (joinF a b) (vN op a.h b.h)).h)), (.int .i64 ((upF (joinF a b) (vN op a.h b.h)).s))]) Try.agg23 rfl (inOc (k := 2) rfl) rfl rfl) (rv_t rfl) ?_
             exact tup2 (agg3 (show upF (joinF a b) (vN op a.h b.h) = biN op a b from by first | (rw [biN_1 hno]; done) | (rw [biN_e hb hemp]; done) | (rw [(bi_sml hb hne hs).1]; done) | (rw [biN_x hb hne (by omega)]; done) | (rw [(bi_wide hb hne hns (by omega)).1, mkN_1 hmk, hwd]; done) | (rw [(bi_wide hb hne hns (by omega)).1, hwd]; done) | (rw [biN_c hb hne (by omega)]; done))) (congrArg (Value.int .i64) (show 0 = (biE op a b) from by first | (rw [biE_1 hno]; done) | (rw [biE_e hb hemp]; done) | (rw [(bi_no hb hne (by omega) hk).2]; done) | (rw [(bi_ar hb hne (by omega) hk).2]; done) | (rw [(bi_mul hb hne (by omega)).2]; done) | (rw [biE_o hb hne (by omega)]; done) | (rw [(bi_wide hb hne hns (by omega)).2]; done) | (rw [(bi_sml hb hne hs).2]; done) | (rw [biE_x hb hne]; done) | (rw [(bi_wide hb hne hns (by omega)).2, mkE_1 hmk]; done)))
            ·
             refine vc_seq ?_
             refine vc_region ?_
             refine oq (qv_eql rfl rfl) ?_
             refine oq (qv_as (.bool (decide (op = 22))) rfl) ?_
             refine ops_nil ?_
             refine vc_if rfl (fun c16 => ?_) (fun c16 => ?_)
             ·
              refine vc_seq ?_
              refine vc_region ?_
              refine oq (qv_mv (Value.int .i64 op) rfl) ?_
              refine oq (qv_fa (off := 0) Try.field23_0 rfl) ?_
              refine oq (qv_ldp (v := (.int .i64 a.l)) Try.plain3 rfl (inOc (k := 0) rfl) rfl) ?_
              refine oq (qv_fa (off := 0) Try.field23_0 rfl) ?_
              refine oq (qv_ldp (v := (.int .i64 b.l)) Try.plain3 rfl (inOc (k := 1) rfl) rfl) ?_
              refine oq (qv_call (v := (.tuple #[(.int .i64 (vN op a.l b.l)), (.bool (decide (valOk op a.l b.l)))])) (rValue_c (by unfold fits; omega) (by unfold fits; omega)) rfl rfl) ?_
              refine oq (qv_mv (.tuple #[(.int .i64 (vN op a.l b.l)), (.bool (decide (valOk op a.l b.l)))]) rfl) ?_
              refine oq (qv_ext (.int .i64 (vN op a.l b.l)) rfl rfl) ?_
              refine oq (qv_ext (.bool (decide (valOk op a.l b.l))) rfl rfl) ?_
              refine oq (qv_as (.int .i64 (vN op a.l b.l)) rfl) ?_
              refine oq (qv_as (.bool (decide (valOk op a.l b.l))) rfl) ?_
              refine ops_nil ?_
              refine vc_seq ?_
              have hvn : vN op a.l b.l = mx a.l b.l := by rw [vN_o (by omega), val22 (by omega)]
              have hmb := mx_or a.l b.l
              have hwd : abF (joinF a b) (vN op a.l b.l - 1) = wdF op a b := by rw [wd_5 (by omega), hvn]
              refine vc_region ?_
              refine oq (qv_ldm (vs := [(.int .i64 a.l), (.int .i64 a.h), (.int .i64 a.s)]) Try.agg23 rfl (inOc (k := 0) rfl) rfl rfl) ?_
              refine oq (qv_ldm (vs := [(.int .i64 b.l), (.int .i64 b.h), (.int .i64 b.s)]) Try.agg23 rfl (inOc (k := 1) rfl) rfl rfl) ?_
              refine oq (qv_call (v := (.agg #[(.int .i64 ((joinF a b).l)), (.int .i64 ((joinF a b).h)), (.int .i64 ((joinF a b).s))])) (rJoin_c (a := a) (b := b) (hva) (hvb)) rfl rfl) ?_
              refine oq (qv_mv (.int .i64 (vN op a.l b.l)) rfl) ?_
              refine oq (qv_sub rfl rfl (by omega)) ?_
              refine oq (qv_call (v := (.agg #[(.int .i64 ((abF (joinF a b) ((vN op a.l b.l) - 1)).l)), (.int .i64 ((abF (joinF a b) ((vN op a.l b.l) - 1)).h)), (.int .i64 ((abF (joinF a b) ((vN op a.l b.l) - 1)).s))])) (rAbove_c (a := joinF a b) (join_least hva hvb).ok) rfl rfl) ?_
              refine ops_stw (k := 2) (vs := [(.int .i64 ((abF (joinF a b) ((vN op a.l b.l) - 1)).l)), (.int .i64 ((abF (joinF a b) ((vN op a.l b.l) - 1)).h)), (.int .i64 ((abF (joinF a b) ((vN op a.l b.l) - 1)).s))]) Try.size23 rfl rfl rfl rfl rfl rfl ?_
              refine oq (qv_as (Value.int .i64 0) rfl) ?_
              refine ops_nil ?_
              refine vc_ret ?_
              refine blockQ_ret ?_
              refine rs2 _ (Value.int .i64 0) (rv_c (vs := [(.int .i64 ((abF (joinF a b) ((vN op a.l b.l) - 1)).l)), (.int .i64 ((abF (joinF a b) ((vN op a.l b.l) - 1)).h)), (.int .i64 ((abF (joinF a b) ((vN op a.l b.l) - 1)).s))]) Try.agg23 rfl (inOc (k := 2) rfl) rfl rfl) (rv_t rfl) ?_
              exact tup2 (agg3 (show abF (joinF a b) ((vN op a.l b.l) - 1) = biN op a b from by first | (rw [biN_1 hno]; done) | (rw [biN_e hb hemp]; done) | (rw [(bi_sml hb hne hs).1]; done) | (rw [biN_x hb hne (by omega)]; done) | (rw [(bi_wide hb hne hns (by omega)).1, mkN_1 hmk, hwd]; done) | (rw [(bi_wide hb hne hns (by omega)).1, hwd]; done) | (rw [biN_c hb hne (by omega)]; done))) (congrArg (Value.int .i64) (show 0 = (biE op a b) from by first | (rw [biE_1 hno]; done) | (rw [biE_e hb hemp]; done) | (rw [(bi_no hb hne (by omega) hk).2]; done) | (rw [(bi_ar hb hne (by omega) hk).2]; done) | (rw [(bi_mul hb hne (by omega)).2]; done) | (rw [biE_o hb hne (by omega)]; done) | (rw [(bi_wide hb hne hns (by omega)).2]; done) | (rw [(bi_sml hb hne hs).2]; done) | (rw [biE_x hb hne]; done) | (rw [(bi_wide hb hne hns (by omega)).2, mkE_1 hmk]; done)))
             ·
              refine vc_skip ?_
              refine vc_seq ?_
              refine vc_region ?_
              refine oq (qv_mv (Value.int .i64 op) rfl) ?_
              refine oq (qv_ldm (vs := [(.int .i64 a.l), (.int .i64 a.h), (.int .i64 a.s)]) Try.agg23 rfl (inOc (k := 0) rfl) rfl rfl) ?_
              refine oq (qv_ldm (vs := [(.int .i64 b.l), (.int .i64 b.h), (.int .i64 b.s)]) Try.agg23 rfl (inOc (k := 1) rfl) rfl rfl) ?_
              refine oq (qv_call (v := (.agg #[(.int .i64 ((exF op a b).l)), (.int .i64 ((exF op a b).h)), (.int .i64 ((exF op a b).s))])) (rCompared_c hva hvb he hf (by omega)) rfl rfl) ?_
              refine ops_stw (k := 2) (vs := [(.int .i64 ((exF op a b).l)), (.int .i64 ((exF op a b).h)), (.int .i64 ((exF op a b).s))]) Try.size23 rfl rfl rfl rfl rfl rfl ?_
              refine oq (qv_as (Value.int .i64 0) rfl) ?_
              refine ops_nil ?_
              refine vc_ret ?_
              refine rs2 _ (Value.int .i64 0) (rv_c (vs := [(.int .i64 ((exF op a b).l)), (.int .i64 ((exF op a b).h)), (.int .i64 ((exF op a b).s))]) Try.agg23 rfl (inOc (k := 2) rfl) rfl rfl) (rv_t rfl) ?_
              exact tup2 (agg3 (show exF op a b = biN op a b from by first | (rw [biN_1 hno]; done) | (rw [biN_e hb hemp]; done) | (rw [(bi_sml hb hne hs).1]; done) | (rw [biN_x hb hne (by omega)]; done) | (rw [(bi_wide hb hne hns (by omega)).1, mkN_1 hmk, hwd]; done) | (rw [(bi_wide hb hne hns (by omega)).1, hwd]; done) | (rw [biN_c hb hne (by omega)]; done))) (congrArg (Value.int .i64) (show 0 = (biE op a b) from by first | (rw [biE_1 hno]; done) | (rw [biE_e hb hemp]; done) | (rw [(bi_no hb hne (by omega) hk).2]; done) | (rw [(bi_ar hb hne (by omega) hk).2]; done) | (rw [(bi_mul hb hne (by omega)).2]; done) | (rw [biE_o hb hne (by omega)]; done) | (rw [(bi_wide hb hne hns (by omega)).2]; done) | (rw [(bi_sml hb hne hs).2]; done) | (rw [biE_x hb hne]; done) | (rw [(bi_wide hb hne hns (by omega)).2, mkE_1 hmk]; done)))

set_option maxRecDepth 100000 in
set_option maxHeartbeats 4000000 in
theorem NumericComputes_n {V : HV} {op : Int} {a b : Nm} :
    FnC Try.prog 4 [(Value.int .i64 op), (.agg #[(.int .i64 a.l), (.int .i64 a.h), (.int .i64 a.s)]), (.agg #[(.int .i64 b.l), (.int .i64 b.h), (.int .i64 b.s)])] V [] (fun v _ _ => v = (Value.bool true)) := by
 refine fn_intro (N := 61) Try.func4 (by kernel_rfl) rfl rfl rfl (Nat.le_of_ble_eq_true rfl) ?_
 intro w0 D
 refine vc_seq ?_
 refine vc_region ?_
 refine ops_box (v := (.agg #[(.int .i64 a.l), (.int .i64 a.h), (.int .i64 a.s)])) (cs := [(.int .i64 a.l), (.int .i64 a.h), (.int .i64 a.s)]) rfl rfl (fun b1 => ?_)
 refine ops_box (v := (.agg #[(.int .i64 b.l), (.int .i64 b.h), (.int .i64 b.s)])) (cs := [(.int .i64 b.l), (.int .i64 b.h), (.int .i64 b.s)]) rfl rfl (fun b2 => ?_)
 refine oq (qv_as (Value.bool false) rfl) ?_
 refine ops_nil ?_
 refine vc_seq ?_
 refine vc_seq ?_
 refine vc_res (σ' := [(Arr 23 b1 [(.int .i64 a.l), (.int .i64 a.h), (.int .i64 a.s)]), (Arr 23 b2 [(.int .i64 b.l), (.int .i64 b.h), (.int .i64 b.s)])]) rfl ?_
 refine vc_region ?_
 refine oq (qv_call (v := (Value.bool true)) (known_c) rfl rfl) ?_
 refine oq (qv_notc rfl) ?_
 refine ops_nil ?_
 refine vc_ff rfl ?_
 refine vc_skip ?_
 refine vc_seq ?_
 refine vc_region ?_
 refine oq (qv_mv (Value.int .i64 op) rfl) ?_
 refine oq (qv_ldm (vs := [(.int .i64 a.l), (.int .i64 a.h), (.int .i64 a.s)]) Try.agg23 rfl (inOc (k := 0) rfl) rfl rfl) ?_
 refine oq (qv_call (v := (.tuple #[(.agg #[(.int .i64 ((unN op a).l)), (.int .i64 ((unN op a).h)), (.int .i64 ((unN op a).s))]), (.int .i64 (unE op a))])) (Unary_c (a := a)) rfl rfl) ?_
 refine oq (qv_mv (.tuple #[(.agg #[(.int .i64 ((unN op a).l)), (.int .i64 ((unN op a).h)), (.int .i64 ((unN op a).s))]), (.int .i64 (unE op a))]) rfl) ?_
 refine oq (qv_ext (.agg #[(.int .i64 ((unN op a).l)), (.int .i64 ((unN op a).h)), (.int .i64 ((unN op a).s))]) rfl rfl) ?_
 refine oq (qv_ext (.int .i64 (unE op a)) rfl rfl) ?_
 refine ops_alloc Try.ti23 rfl (fun b3 => ?_)
 refine ops_stw (k := 2) (vs := [(.int .i64 ((unN op a).l)), (.int .i64 ((unN op a).h)), (.int .i64 ((unN op a).s))]) Try.size23 rfl rfl rfl rfl rfl rfl ?_
 refine oq (qv_as (.int .i64 (unE op a)) rfl) ?_
 refine ops_nil ?_
 refine vc_seq ?_
 refine vc_res (σ' := [(Arr 23 b1 [(.int .i64 a.l), (.int .i64 a.h), (.int .i64 a.s)]), (Arr 23 b2 [(.int .i64 b.l), (.int .i64 b.h), (.int .i64 b.s)]), (Arr 23 b3 [(.int .i64 ((unN op a).l)), (.int .i64 ((unN op a).h)), (.int .i64 ((unN op a).s))])]) rfl ?_
 refine vc_region ?_
 refine oq (qv_mv (Value.int .i64 op) rfl) ?_
 refine oq (qv_ldm (vs := [(.int .i64 a.l), (.int .i64 a.h), (.int .i64 a.s)]) Try.agg23 rfl (inOc (k := 0) rfl) rfl rfl) ?_
 refine oq (qv_call (v := (.tuple #[(.agg #[(.int .i64 ((unN op a).l)), (.int .i64 ((unN op a).h)), (.int .i64 ((unN op a).s))]), (.int .i64 (unE op a))])) (rUnary_c (a := a)) rfl rfl) ?_
 refine oq (qv_mv (.tuple #[(.agg #[(.int .i64 ((unN op a).l)), (.int .i64 ((unN op a).h)), (.int .i64 ((unN op a).s))]), (.int .i64 (unE op a))]) rfl) ?_
 refine oq (qv_ext (.agg #[(.int .i64 ((unN op a).l)), (.int .i64 ((unN op a).h)), (.int .i64 ((unN op a).s))]) rfl rfl) ?_
 refine oq (qv_ext (.int .i64 (unE op a)) rfl rfl) ?_
 refine ops_alloc Try.ti23 rfl (fun b4 => ?_)
 refine ops_stw (k := 3) (vs := [(.int .i64 ((unN op a).l)), (.int .i64 ((unN op a).h)), (.int .i64 ((unN op a).s))]) Try.size23 rfl rfl rfl rfl rfl rfl ?_
 refine oq (qv_as (.int .i64 (unE op a)) rfl) ?_
 refine ops_nil ?_
 refine vc_seq ?_
 refine vc_res (σ' := [(Arr 23 b1 [(.int .i64 a.l), (.int .i64 a.h), (.int .i64 a.s)]), (Arr 23 b2 [(.int .i64 b.l), (.int .i64 b.h), (.int .i64 b.s)]), (Arr 23 b3 [(.int .i64 ((unN op a).l)), (.int .i64 ((unN op a).h)), (.int .i64 ((unN op a).s))]), (Arr 23 b4 [(.int .i64 ((unN op a).l)), (.int .i64 ((unN op a).h)), (.int .i64 ((unN op a).s))])]) rfl ?_
 refine vc_region ?_
 refine oq (qv_mv (Value.int .i64 op) rfl) ?_
 refine oq (qv_ldm (vs := [(.int .i64 a.l), (.int .i64 a.h), (.int .i64 a.s)]) Try.agg23 rfl (inOc (k := 0) rfl) rfl rfl) ?_
 refine oq (qv_ldm (vs := [(.int .i64 b.l), (.int .i64 b.h), (.int .i64 b.s)]) Try.agg23 rfl (inOc (k := 1) rfl) rfl rfl) ?_
 refine oq (qv_call (v := (.tuple #[(.agg #[(.int .i64 ((biN op a b).l)), (.int .i64 ((biN op a b).h)), (.int .i64 ((biN op a b).s))]), (.int .i64 (biE op a b))])) (Binary_c (a := a) (b := b)) rfl rfl) ?_
 refine oq (qv_mv (.tuple #[(.agg #[(.int .i64 ((biN op a b).l)), (.int .i64 ((biN op a b).h)), (.int .i64 ((biN op a b).s))]), (.int .i64 (biE op a b))]) rfl) ?_
 refine oq (qv_ext (.agg #[(.int .i64 ((biN op a b).l)), (.int .i64 ((biN op a b).h)), (.int .i64 ((biN op a b).s))]) rfl rfl) ?_
 refine oq (qv_ext (.int .i64 (biE op a b)) rfl rfl) ?_
 refine ops_alloc Try.ti23 rfl (fun b5 => ?_)
 refine ops_stw (k := 4) (vs := [(.int .i64 ((biN op a b).l)), (.int .i64 ((biN op a b).h)), (.int .i64 ((biN op a b).s))]) Try.size23 rfl rfl rfl rfl rfl rfl ?_
 refine oq (qv_as (.int .i64 (biE op a b)) rfl) ?_
 refine ops_nil ?_
 refine vc_seq ?_
 refine vc_res (σ' := [(Arr 23 b1 [(.int .i64 a.l), (.int .i64 a.h), (.int .i64 a.s)]), (Arr 23 b2 [(.int .i64 b.l), (.int .i64 b.h), (.int .i64 b.s)]), (Arr 23 b3 [(.int .i64 ((unN op a).l)), (.int .i64 ((unN op a).h)), (.int .i64 ((unN op a).s))]), (Arr 23 b4 [(.int .i64 ((unN op a).l)), (.int .i64 ((unN op a).h)), (.int .i64 ((unN op a).s))]), (Arr 23 b5 [(.int .i64 ((biN op a b).l)), (.int .i64 ((biN op a b).h)), (.int .i64 ((biN op a b).s))])]) rfl ?_
 refine vc_region ?_
 refine oq (qv_mv (Value.int .i64 op) rfl) ?_
 refine oq (qv_ldm (vs := [(.int .i64 a.l), (.int .i64 a.h), (.int .i64 a.s)]) Try.agg23 rfl (inOc (k := 0) rfl) rfl rfl) ?_
 refine oq (qv_ldm (vs := [(.int .i64 b.l), (.int .i64 b.h), (.int .i64 b.s)]) Try.agg23 rfl (inOc (k := 1) rfl) rfl rfl) ?_
 refine oq (qv_call (v := (.tuple #[(.agg #[(.int .i64 ((biN op a b).l)), (.int .i64 ((biN op a b).h)), (.int .i64 ((biN op a b).s))]), (.int .i64 (biE op a b))])) (rBinary_c (a := a) (b := b)) rfl rfl) ?_
 refine oq (qv_mv (.tuple #[(.agg #[(.int .i64 ((biN op a b).l)), (.int .i64 ((biN op a b).h)), (.int .i64 ((biN op a b).s))]), (.int .i64 (biE op a b))]) rfl) ?_
 refine oq (qv_ext (.agg #[(.int .i64 ((biN op a b).l)), (.int .i64 ((biN op a b).h)), (.int .i64 ((biN op a b).s))]) rfl rfl) ?_
 refine oq (qv_ext (.int .i64 (biE op a b)) rfl rfl) ?_
 refine ops_alloc Try.ti23 rfl (fun b6 => ?_)
 refine ops_stw (k := 5) (vs := [(.int .i64 ((biN op a b).l)), (.int .i64 ((biN op a b).h)), (.int .i64 ((biN op a b).s))]) Try.size23 rfl rfl rfl rfl rfl rfl ?_
 refine oq (qv_as (.int .i64 (biE op a b)) rfl) ?_
 refine ops_nil ?_
 refine vc_seq ?_
 refine vc_res (σ' := [(Arr 23 b1 [(.int .i64 a.l), (.int .i64 a.h), (.int .i64 a.s)]), (Arr 23 b2 [(.int .i64 b.l), (.int .i64 b.h), (.int .i64 b.s)]), (Arr 23 b3 [(.int .i64 ((unN op a).l)), (.int .i64 ((unN op a).h)), (.int .i64 ((unN op a).s))]), (Arr 23 b4 [(.int .i64 ((unN op a).l)), (.int .i64 ((unN op a).h)), (.int .i64 ((unN op a).s))]), (Arr 23 b5 [(.int .i64 ((biN op a b).l)), (.int .i64 ((biN op a b).h)), (.int .i64 ((biN op a b).s))]), (Arr 23 b6 [(.int .i64 ((biN op a b).l)), (.int .i64 ((biN op a b).h)), (.int .i64 ((biN op a b).s))])]) rfl ?_
 refine vc_region ?_
 refine oq (qv_ldm (vs := [(.int .i64 ((unN op a).l)), (.int .i64 ((unN op a).h)), (.int .i64 ((unN op a).s))]) Try.agg23 rfl (inOc (k := 2) rfl) rfl rfl) ?_
 refine oq (qv_ldm (vs := [(.int .i64 ((unN op a).l)), (.int .i64 ((unN op a).h)), (.int .i64 ((unN op a).s))]) Try.agg23 rfl (inOc (k := 3) rfl) rfl rfl) ?_
 refine oq (qv_eqls Try.eq23 [(unN op a).l, (unN op a).h, (unN op a).s] [(unN op a).l, (unN op a).h, (unN op a).s] rfl rfl rfl rfl rfl rfl eq3) ?_
 refine oq (qv_mv (.bool (decide (((unN op a).l) = ((unN op a).l) ∧ ((unN op a).h) = ((unN op a).h) ∧ ((unN op a).s) = ((unN op a).s)))) rfl) ?_
 by_cases g1 : ((unN op a).l) = ((unN op a).l) ∧ ((unN op a).h) = ((unN op a).h) ∧ ((unN op a).s) = ((unN op a).s)
 ·
  refine og (qv_mv (.int .i64 (unE op a)) rfl) (want_t g1 rfl rfl rfl) ?_
  refine og (qv_mv (.int .i64 (unE op a)) rfl) (want_t g1 rfl rfl rfl) ?_
  refine og (qv_eql rfl rfl) (want_t g1 rfl rfl rfl) ?_
  refine oq (qv_pick_t g1 rfl (rfl : ev _ _ = (.bool (decide ((unE op a) = (unE op a)))))) ?_
  refine oq (qv_mv (.bool (decide ((unE op a) = (unE op a)))) rfl) ?_
  by_cases g2 : (unE op a) = (unE op a)
  ·
   refine og (qv_ldm (vs := [(.int .i64 ((biN op a b).l)), (.int .i64 ((biN op a b).h)), (.int .i64 ((biN op a b).s))]) Try.agg23 rfl (inOc (k := 4) rfl) rfl rfl) (want_t g2 rfl rfl rfl) ?_
   refine og (qv_ldm (vs := [(.int .i64 ((biN op a b).l)), (.int .i64 ((biN op a b).h)), (.int .i64 ((biN op a b).s))]) Try.agg23 rfl (inOc (k := 5) rfl) rfl rfl) (want_t g2 rfl rfl rfl) ?_
   refine og (qv_eqls Try.eq23 [(biN op a b).l, (biN op a b).h, (biN op a b).s] [(biN op a b).l, (biN op a b).h, (biN op a b).s] rfl rfl rfl rfl rfl rfl eq3) (want_t g2 rfl rfl rfl) ?_
   refine oq (qv_pick_t g2 rfl (rfl : ev _ _ = (.bool (decide (((biN op a b).l) = ((biN op a b).l) ∧ ((biN op a b).h) = ((biN op a b).h) ∧ ((biN op a b).s) = ((biN op a b).s)))))) ?_
   refine oq (qv_mv (.bool (decide (((biN op a b).l) = ((biN op a b).l) ∧ ((biN op a b).h) = ((biN op a b).h) ∧ ((biN op a b).s) = ((biN op a b).s)))) rfl) ?_
   by_cases g3 : ((biN op a b).l) = ((biN op a b).l) ∧ ((biN op a b).h) = ((biN op a b).h) ∧ ((biN op a b).s) = ((biN op a b).s)
   ·
    refine og (qv_mv (.int .i64 (biE op a b)) rfl) (want_t g3 rfl rfl rfl) ?_
    refine og (qv_mv (.int .i64 (biE op a b)) rfl) (want_t g3 rfl rfl rfl) ?_
    refine og (qv_eql rfl rfl) (want_t g3 rfl rfl rfl) ?_
    refine oq (qv_pick_t g3 rfl (rfl : ev _ _ = (.bool (decide ((biE op a b) = (biE op a b)))))) ?_
    refine oq (qv_as (.bool (decide ((biE op a b) = (biE op a b)))) rfl) ?_
    refine ops_nil ?_
    refine vc_ret ?_
    exact rq1 (Value.bool true) (congrArg Value.bool (decide_eq_true (show ((biE op a b) = (biE op a b)) from by rfl))) rfl
   ·
    exact absurd ⟨rfl, rfl, rfl⟩ g3
  ·
   exact absurd rfl g2
 ·
  exact absurd ⟨rfl, rfl, rfl⟩ g1

theorem NumericComputes_c {V : HV} {op al ah ax bl bh bx : Int} : FnC Try.prog 4 [.int .i64 op, Value.agg #[.int .i64 al, .int .i64 ah, .int .i64 ax], Value.agg #[.int .i64 bl, .int .i64 bh, .int .i64 bx]] V [] (fun v _ _ => v = .bool true) := NumericComputes_n (a := ⟨al, ah, ax⟩) (b := ⟨bl, bh, bx⟩)
end Go.Proofs.Ytapkilaikcihgaa
