/- Walks of numeric: what each function returns. Printed by a program out of notes. -/
import Derived.Test.YtapkilaikcihgaaNp
namespace Go.Proofs.Ytapkilaikcihgaa
open Go.Vc
open Classical

set_option maxRecDepth 100000 in
set_option maxHeartbeats 4000000 in
theorem rMeets0_c {V : HV} {a b : Nm} (ha : vld a) (hb : vld b) (he : a ≠ nE) (hf : b ≠ nE) (hz : sizeF a ≤ sizeF b) :
    FnC Try.prog 90 [(.agg #[(.int .i64 a.l), (.int .i64 a.h), (.int .i64 a.s)]), (.agg #[(.int .i64 b.l), (.int .i64 b.h), (.int .i64 b.s)])] V [] (fun v _ _ => v = (.bool (decide (¬ meetF a b = nE)))) := by
 refine fn_intro (N := 96) Try.func90 (by kernel_rfl) rfl rfl rfl (Nat.le_of_ble_eq_true rfl) ?_
 intro w0 D
 have ba := vld_bd ha
 have bb := vld_bd hb
 unfold fits at ba bb
 have za := sizeV_1 ha
 have zb := sizeV_1 hb
 have pa := size_pos ha he
 have pb := size_pos hb hf
 refine vc_seq ?_
 refine vc_region ?_
 refine ops_box (v := (.agg #[(.int .i64 a.l), (.int .i64 a.h), (.int .i64 a.s)])) (cs := [(.int .i64 a.l), (.int .i64 a.h), (.int .i64 a.s)]) rfl rfl (fun b1 => ?_)
 refine ops_box (v := (.agg #[(.int .i64 b.l), (.int .i64 b.h), (.int .i64 b.s)])) (cs := [(.int .i64 b.l), (.int .i64 b.h), (.int .i64 b.s)]) rfl rfl (fun b2 => ?_)
 refine oq (qv_as (Value.bool false) rfl) ?_
 refine ops_nil ?_
 refine vc_seq ?_
 refine vc_seq ?_
 refine vc_res (σ' := [(Arr 23 b1 [(.int .i64 a.l), (.int .i64 a.h), (.int .i64 a.s)]), (Arr 23 b2 [(.int .i64 b.l), (.int .i64 b.h), (.int .i64 b.s)])]) rfl ?_
 refine vc_region_any Try.mixed (by kernel_rfl) ?_
 refine qq (qv_ldm (vs := [(.int .i64 a.l), (.int .i64 a.h), (.int .i64 a.s)]) Try.agg23 rfl (inOc (k := 0) rfl) rfl rfl) ?_
 refine qq (qv_call (v := (.int .i64 (sizeV a))) (rSize_c (a := a)) rfl rfl) ?_
 refine qq (qv_ldm (vs := [(.int .i64 b.l), (.int .i64 b.h), (.int .i64 b.s)]) Try.agg23 rfl (inOc (k := 1) rfl) rfl rfl) ?_
 refine qq (qv_call (v := (.int .i64 (sizeV b))) (rSize_c (a := b)) rfl rfl) ?_
 refine qq (qv_gtr rfl rfl) ?_
 refine qops_nil ?_
 refine vc_if rfl (fun c1 => ?_) (fun c1 => ?_)
 ·
  omega
 ·
  refine vc_skip ?_
  refine vc_seq ?_
  refine vc_seq ?_
  refine vc_region ?_
  refine oq (qv_ldm (vs := [(.int .i64 a.l), (.int .i64 a.h), (.int .i64 a.s)]) Try.agg23 rfl (inOc (k := 0) rfl) rfl rfl) ?_
  refine oq (qv_call (v := (.int .i64 (sizeV a))) (rSize_c (a := a)) rfl rfl) ?_
  refine oq (qv_eql rfl rfl) ?_
  refine ops_nil ?_
  refine vc_if rfl (fun c2 => ?_) (fun c2 => ?_)
  ·
   refine vc_seq ?_
   refine vc_region ?_
   refine oq (qv_ldm (vs := [(.int .i64 b.l), (.int .i64 b.h), (.int .i64 b.s)]) Try.agg23 rfl (inOc (k := 1) rfl) rfl rfl) ?_
   refine oq (qv_fa (off := 0) Try.field23_0 rfl) ?_
   refine oq (qv_ldp (v := (.int .i64 a.l)) Try.plain3 rfl (inOc (k := 0) rfl) rfl) ?_
   refine oq (qv_call (v := (.bool (decide (vld b ∧ mem b a.l)))) (rHas_c (a := b)) rfl rfl) ?_
   refine oq (qv_as (.bool (decide (vld b ∧ mem b a.l))) rfl) ?_
   refine ops_nil ?_
   refine vc_ret ?_
   exact rq1 (.bool (decide (¬ meetF a b = nE))) (congrArg Value.bool (decide_eq_decide.2 (show (vld b ∧ mem b a.l) ↔ (¬ meetF a b = nE) from by first | exact mt_sw ha hb | exact mt_one ha hb (by omega)))) rfl
  ·
   refine vc_skip ?_
   refine vc_seq ?_
   have sa : 1 ≤ a.s := Decidable.byContradiction fun q => by have := sizeF_1 he (show a.s = 0 by omega); omega
   have sb : 1 ≤ b.s := Decidable.byContradiction fun q => by have := sizeF_1 hf (show b.s = 0 by omega); omega
   have las := step_le ha he
   have lbs := step_le hb hf
   have ab := (vld_ne ha he).2.2.1
   have bb2 := (vld_ne hb hf).2.2.1
   refine vc_region_any Try.mixed (by kernel_rfl) ?_
   refine qq (qv_fa (off := 0) Try.field23_0 rfl) ?_
   refine qq (qv_ldp (v := (.int .i64 a.l)) Try.plain3 rfl (inOc (k := 0) rfl) rfl) ?_
   refine qq (qv_fa (off := 0) Try.field23_1 rfl) ?_
   refine qq (qv_ldp (v := (.int .i64 a.h)) Try.plain3 rfl (inOc (k := 0) rfl) rfl) ?_
   refine qq (qv_as (.int .i64 a.l) rfl) ?_
   refine qq (qv_as (.int .i64 a.h) rfl) ?_
   refine qops_nil ?_
   refine vc_seq ?_
   refine vc_seq ?_
   refine vc_region ?_
   refine oq (qv_fa (off := 0) Try.field23_0 rfl) ?_
   refine oq (qv_ldp (v := (.int .i64 b.l)) Try.plain3 rfl (inOc (k := 1) rfl) rfl) ?_
   refine oq (qv_mv (.int .i64 a.l) rfl) ?_
   refine oq (qv_gtr rfl rfl) ?_
   refine ops_nil ?_
   refine vc_if rfl (fun c3 => ?_) (fun c3 => ?_)
   ·
    refine vc_region ?_
    refine oq (qv_fa (off := 0) Try.field23_0 rfl) ?_
    refine oq (qv_ldp (v := (.int .i64 b.l)) Try.plain3 rfl (inOc (k := 1) rfl) rfl) ?_
    refine oq (qv_as (.int .i64 b.l) rfl) ?_
    refine ops_nil ?_
    refine vc_seq ?_
    refine vc_seq ?_
    refine vc_region ?_
    refine oq (qv_fa (off := 0) Try.field23_1 rfl) ?_
    refine oq (qv_ldp (v := (.int .i64 b.h)) Try.plain3 rfl (inOc (k := 1) rfl) rfl) ?_
    refine oq (qv_mv (.int .i64 a.h) rfl) ?_
    refine oq (qv_lss rfl rfl) ?_
    refine ops_nil ?_
    refine vc_if rfl (fun c4 => ?_) (fun c4 => ?_)
    ·
     refine vc_region ?_
     refine oq (qv_fa (off := 0) Try.field23_1 rfl) ?_
     refine oq (qv_ldp (v := (.int .i64 b.h)) Try.plain3 rfl (inOc (k := 1) rfl) rfl) ?_
     refine oq (qv_as (.int .i64 b.h) rfl) ?_
     refine ops_nil ?_
     refine vc_seq ?_
     refine vc_region ?_
     refine oq (qv_fa (off := 0) Try.field23_2 rfl) ?_
     refine oq (qv_ldp (v := (.int .i64 a.s)) Try.plain3 rfl (inOc (k := 0) rfl) rfl) ?_
     refine oq (qv_fa (off := 0) Try.field23_2 rfl) ?_
     refine oq (qv_ldp (v := (.int .i64 b.s)) Try.plain3 rfl (inOc (k := 1) rfl) rfl) ?_
     refine oq (qv_call (v := (.int .i64 ((Int.gcd a.s b.s : Int)))) (rGcd_c (by omega) (by omega)) rfl rfl) ?_
     obtain ⟨g, hg⟩ : ∃ z : Int, z = (Int.gcd a.s b.s : Int) := ⟨_, rfl⟩
     refine oq (qv_as (Value.int .i64 g) (show _ = _ from congrArg (Value.int .i64) hg.symm)) ?_
     refine ops_nil ?_
     refine vc_seq ?_
     refine vc_seq ?_
     have g0 : 0 < g := by have := Int.gcd_pos_of_ne_zero_left b.s (show a.s ≠ 0 by omega); omega
     have aw0_ := aw_nn a.l b.l
     refine vc_region ?_
     refine oq (qv_mv (.int .i64 b.l) rfl) ?_
     refine oq (qv_mv (.int .i64 b.h) rfl) ?_
     refine oq (qv_gtr rfl rfl) ?_
     refine oq (qv_mv (.bool (decide (b.h < b.l))) rfl) ?_
     by_cases g1 : b.h < b.l
     ·
      refine os (want_fn g1 rfl rfl rfl) ?_
      refine os (want_fn g1 rfl rfl rfl) ?_
      refine os (want_fn g1 rfl rfl rfl) ?_
      refine os (want_fn g1 rfl rfl rfl) ?_
      refine os (want_fn g1 rfl rfl rfl) ?_
      refine os (want_fn g1 rfl rfl rfl) ?_
      refine os (want_fn g1 rfl rfl rfl) ?_
      refine os (want_fn g1 rfl rfl rfl) ?_
      refine oq (qv_pick_t g1 rfl (rfl : ev _ _ = (Value.bool true))) ?_
      refine ops_nil ?_
      refine vc_tt rfl ?_
      refine vc_seq ?_
      refine vc_region ?_
      refine oq (qv_as (Value.bool false) rfl) ?_
      refine ops_nil ?_
      refine vc_ret ?_
      exact rq1 (.bool (decide (¬ meetF a b = nE))) (congrArg Value.bool (decide_eq_false (show ¬ (¬ meetF a b = nE) from by first | exact fun z => z (mt_loop (i := i) (lo := b.l) (hi := b.h) ha sa sb hg rfl (by omega) (by omega) hn0 hj (by omega)) | exact fun z => z (mt_far (lo := b.l) (hi := b.h) ha (by omega) (by omega) (by omega)) | exact fun z => z (mt_gcd ha (fun q => by rw [← hg] at q; exact absurd (Int.emod_eq_zero_of_dvd q) (by assumption))))).symm) rfl
     ·
      refine og (qv_fa (off := 0) Try.field23_0 rfl) (want_f g1 rfl rfl rfl) ?_
      refine og (qv_ldp (v := (.int .i64 a.l)) Try.plain3 rfl (inOc (k := 0) rfl) rfl) (want_f g1 rfl rfl rfl) ?_
      refine og (qv_fa (off := 0) Try.field23_0 rfl) (want_f g1 rfl rfl rfl) ?_
      refine og (qv_ldp (v := (.int .i64 b.l)) Try.plain3 rfl (inOc (k := 1) rfl) rfl) (want_f g1 rfl rfl rfl) ?_
      refine og (qv_call (v := (.int .i64 (aw a.l b.l))) (rAway_c (by omega) (by omega)) rfl rfl) (want_f g1 rfl rfl rfl) ?_
      refine og (qv_mv (Value.int .i64 g) rfl) (want_f g1 rfl rfl rfl) ?_
      refine og (qv_rem rfl rfl (by omega) (by omega)) (want_f g1 rfl rfl rfl) ?_
      refine og (qv_neq rfl rfl) (want_f g1 rfl rfl rfl) ?_
      refine oq (qv_pick_f g1 rfl (rfl : ev _ _ = (.bool (decide (((aw a.l b.l) % g) ≠ 0))))) ?_
      refine ops_nil ?_
      refine vc_if rfl (fun c5 => ?_) (fun c5 => ?_)
      ·
       refine vc_seq ?_
       refine vc_region ?_
       refine oq (qv_as (Value.bool false) rfl) ?_
       refine ops_nil ?_
       refine vc_ret ?_
       exact rq1 (.bool (decide (¬ meetF a b = nE))) (congrArg Value.bool (decide_eq_false (show ¬ (¬ meetF a b = nE) from by first | exact fun z => z (mt_loop (i := i) (lo := b.l) (hi := b.h) ha sa sb hg rfl (by omega) (by omega) hn0 hj (by omega)) | exact fun z => z (mt_far (lo := b.l) (hi := b.h) ha (by omega) (by omega) (by omega)) | exact fun z => z (mt_gcd ha (fun q => by rw [← hg] at q; exact absurd (Int.emod_eq_zero_of_dvd q) (by assumption))))).symm) rfl
      ·
       refine vc_skip ?_
       refine vc_seq ?_
       have mc := mt_ceil (a := a) (lo := b.l) sa (by omega)
       have gle := Int.ediv_le_self (a := b.s) g (by omega)
       refine vc_region_any Try.mixed (by kernel_rfl) ?_
       refine qq (qv_fa (off := 0) Try.field23_0 rfl) ?_
       refine qq (qv_ldp (v := (.int .i64 a.l)) Try.plain3 rfl (inOc (k := 0) rfl) rfl) ?_
       refine qq (qv_mv (.int .i64 b.l) rfl) ?_
       refine qq (qv_fa (off := 0) Try.field23_0 rfl) ?_
       refine qq (qv_ldp (v := (.int .i64 a.l)) Try.plain3 rfl (inOc (k := 0) rfl) rfl) ?_
       refine qq (qv_sub rfl rfl (by omega)) ?_
       refine qq (qv_fa (off := 0) Try.field23_2 rfl) ?_
       refine qq (qv_ldp (v := (.int .i64 a.s)) Try.plain3 rfl (inOc (k := 0) rfl) rfl) ?_
       refine qq (qv_add rfl rfl (by omega)) ?_
       refine qq (qv_sub rfl rfl (by omega)) ?_
       refine qq (qv_fa (off := 0) Try.field23_2 rfl) ?_
       refine qq (qv_ldp (v := (.int .i64 a.s)) Try.plain3 rfl (inOc (k := 0) rfl) rfl) ?_
       refine qq (qv_quo rfl rfl (by omega) (by omega)) ?_
       refine qq (qv_fa (off := 0) Try.field23_2 rfl) ?_
       refine qq (qv_ldp (v := (.int .i64 a.s)) Try.plain3 rfl (inOc (k := 0) rfl) rfl) ?_
       refine qq (qv_mul rfl rfl (by omega)) ?_
       refine qq (qv_add rfl rfl (by omega)) ?_
       obtain ⟨n0, hn0⟩ : ∃ z : Int, z = a.l + (((((b.l - a.l) + a.s) - 1) / a.s) * a.s) := ⟨_, rfl⟩
       refine qq (qv_as (Value.int .i64 n0) (show _ = _ from congrArg (Value.int .i64) hn0.symm)) ?_
       refine qops_nil ?_
       refine vc_seq ?_
       refine vc_seq ?_
       refine vc_region ?_
       refine oq (qv_as (Value.int .i64 0) rfl) ?_
       refine ops_nil ?_
       refine vc_block ?_
       refine vc_loop (α := Int × Int) (fun (xx : Int × Int) => [(0, (.agg #[(.int .i64 a.l), (.int .i64 a.h), (.int .i64 a.s)])), (1, (.agg #[(.int .i64 b.l), (.int .i64 b.h), (.int .i64 b.s)])), (2, (Value.pointer (some ⟨b1, 0, none⟩))), (3, (Value.pointer (some ⟨b2, 0, none⟩))), (5, (.int .i64 b.l)), (6, (.int .i64 b.h)), (7, (Value.int .i64 g)), (14, (.bool (decide ((sizeV b) < (sizeV a))))), (20, (.bool (decide ((sizeV a) = 1)))), (32, (.bool (decide (a.l < b.l)))), (38, (.bool (decide (b.h < a.h)))), (58, (.bool (decide (((aw a.l b.l) % g) ≠ 0)))), (8, (Value.int .i64 xx.2)), (9, (Value.int .i64 xx.1))]) (fun (xx : Int × Int) V' σ' => V = V' ∧ [(Arr 23 b1 [(.int .i64 a.l), (.int .i64 a.h), (.int .i64 a.s)]), (Arr 23 b2 [(.int .i64 b.l), (.int .i64 b.h), (.int .i64 b.s)])] = σ' ∧ 0 ≤ xx.1 ∧ xx.2 = n0 + xx.1 * a.s ∧ (∀ j : Int, 0 ≤ j → j < xx.1 → ¬ mem b (n0 + j * a.s)) ∧ n0 ≤ xx.2 ∧ xx.2 ≤ 4398046511104 ∧ xx.1 ≤ b.s) (fun (xx : Int × Int) => (b.s / g - xx.1).toNat) (0, n0) ?_ ?_ ?_
       · exact ⟨rfl, rfl, rfl, rfl, rfl, rfl, rfl, rfl, rfl, rfl, rfl, rfl, rfl, rfl, trivial⟩
       · exact ⟨rfl, rfl, by omega, by simp, fun j a b => by omega, by omega, by omega, by omega⟩
       rintro ⟨i, n⟩ e1 V0l σ0l hI0
       obtain ⟨rfl, rfl, i1, hn, hj, i2, i3, i4⟩ : V = V0l ∧ [(Arr 23 b1 [(.int .i64 a.l), (.int .i64 a.h), (.int .i64 a.s)]), (Arr 23 b2 [(.int .i64 b.l), (.int .i64 b.h), (.int .i64 b.s)])] = σ0l ∧ 0 ≤ i ∧ n = n0 + i * a.s ∧ (∀ j : Int, 0 ≤ j → j < i → ¬ mem b (n0 + j * a.s)) ∧ n0 ≤ n ∧ n ≤ 4398046511104 ∧ i ≤ b.s := hI0
       change VC _ _ _ _ _ _ (upds 96 [(0, (.agg #[(.int .i64 a.l), (.int .i64 a.h), (.int .i64 a.s)])), (1, (.agg #[(.int .i64 b.l), (.int .i64 b.h), (.int .i64 b.s)])), (2, (Value.pointer (some ⟨b1, 0, none⟩))), (3, (Value.pointer (some ⟨b2, 0, none⟩))), (5, (.int .i64 b.l)), (6, (.int .i64 b.h)), (7, (Value.int .i64 g)), (14, (.bool (decide ((sizeV b) < (sizeV a))))), (20, (.bool (decide ((sizeV a) = 1)))), (32, (.bool (decide (a.l < b.l)))), (38, (.bool (decide (b.h < a.h)))), (58, (.bool (decide (((aw a.l b.l) % g) ≠ 0)))), (8, (Value.int .i64 n)), (9, (Value.int .i64 i))] e1) _ _
       refine vc_seq ?_
       refine vc_seq ?_
       refine vc_region ?_
       refine oq (qv_mv (Value.int .i64 i) rfl) ?_
       refine oq (qv_fa (off := 0) Try.field23_2 rfl) ?_
       refine oq (qv_ldp (v := (.int .i64 b.s)) Try.plain3 rfl (inOc (k := 1) rfl) rfl) ?_
       refine oq (qv_mv (Value.int .i64 g) rfl) ?_
       refine oq (qv_quo rfl rfl (by omega) (by omega)) ?_
       refine oq (qv_lss rfl rfl) ?_
       refine oq (qv_mv (.bool (decide (i < (b.s / g)))) rfl) ?_
       by_cases g2 : i < (b.s / g)
       ·
        refine og (qv_mv (Value.int .i64 n) rfl) (want_t g2 rfl rfl rfl) ?_
        refine og (qv_mv (.int .i64 b.h) rfl) (want_t g2 rfl rfl rfl) ?_
        refine og (qv_leq rfl rfl) (want_t g2 rfl rfl rfl) ?_
        refine oq (qv_pick_t g2 rfl (rfl : ev _ _ = (.bool (decide (n ≤ b.h))))) ?_
        refine ops_nil ?_
        refine vc_if rfl (fun c6 => ?_) (fun c6 => ?_)
        ·
         refine vc_skip ?_
         refine vc_seq ?_
         refine vc_block ?_
         refine vc_seq ?_
         refine vc_seq ?_
         refine vc_region ?_
         refine oq (qv_ldm (vs := [(.int .i64 b.l), (.int .i64 b.h), (.int .i64 b.s)]) Try.agg23 rfl (inOc (k := 1) rfl) rfl rfl) ?_
         refine oq (qv_mv (Value.int .i64 n) rfl) ?_
         refine oq (qv_call (v := (.bool (decide (vld b ∧ mem b n)))) (rHas_c (a := b)) rfl rfl) ?_
         refine ops_nil ?_
         refine vc_if rfl (fun c7 => ?_) (fun c7 => ?_)
         ·
          refine vc_seq ?_
          have hma : mem a n := mt_mem (lo := b.l) sa (by omega) (by rw [← hn0]; exact hn) (by omega) (by omega)
          refine vc_region ?_
          refine oq (qv_as (Value.bool true) rfl) ?_
          refine ops_nil ?_
          refine vc_ret ?_
          refine blockQ_ret ?_
          refine blockQ_ret ?_
          exact rq1 (.bool (decide (¬ meetF a b = nE))) (congrArg Value.bool (decide_eq_true (show (¬ meetF a b = nE) from by exact mt_yes ha hb hma (And.right (by assumption)))).symm) rfl
         ·
          refine vc_skip ?_
          refine vc_region ?_
          refine oq (qv_mv (Value.int .i64 n) rfl) ?_
          refine oq (qv_fa (off := 0) Try.field23_2 rfl) ?_
          refine oq (qv_ldp (v := (.int .i64 a.s)) Try.plain3 rfl (inOc (k := 0) rfl) rfl) ?_
          refine oq (qv_add rfl rfl (by omega)) ?_
          refine oq (qv_as (.int .i64 (n + a.s)) rfl) ?_
          refine ops_nil ?_
          refine vc_region ?_
          refine oq (qv_mv (Value.int .i64 i) rfl) ?_
          refine oq (qv_add rfl rfl (by omega)) ?_
          refine oq (qv_as (.int .i64 (i + 1)) rfl) ?_
          refine ops_nil ?_
          refine ⟨(i + 1, n + a.s), ⟨rfl, rfl, rfl, rfl, rfl, rfl, rfl, rfl, rfl, rfl, rfl, rfl, (congrArg (Value.int .i64) (show (n + a.s) = ((n + a.s)) from by rfl)), (congrArg (Value.int .i64) (show (i + 1) = ((i + 1)) from by rfl)), trivial⟩, ⟨rfl, rfl, by omega, by rw [Int.add_mul]; omega, all_snoc hj (fun m => absurd (show vld b ∧ mem b n from ⟨hb, by rw [hn]; exact m⟩) (by assumption)), by omega, by omega, by omega⟩, by omega⟩
        ·
         refine vc_exit ?_
         refine blockQ_hit ?_
         refine vc_seq ?_
         refine vc_region ?_
         refine oq (qv_as (Value.bool false) rfl) ?_
         refine ops_nil ?_
         refine vc_ret ?_
         exact rq1 (.bool (decide (¬ meetF a b = nE))) (congrArg Value.bool (decide_eq_false (show ¬ (¬ meetF a b = nE) from by first | exact fun z => z (mt_loop (i := i) (lo := b.l) (hi := b.h) ha sa sb hg rfl (by omega) (by omega) hn0 hj (by omega)) | exact fun z => z (mt_far (lo := b.l) (hi := b.h) ha (by omega) (by omega) (by omega)) | exact fun z => z (mt_gcd ha (fun q => by rw [← hg] at q; exact absurd (Int.emod_eq_zero_of_dvd q) (by assumption))))).symm) rfl
       ·
        refine os (want_tn g2 rfl rfl rfl) ?_
        refine os (want_tn g2 rfl rfl rfl) ?_
        refine os (want_tn g2 rfl rfl rfl) ?_
        refine oq (qv_pick_f g2 rfl (rfl : ev _ _ = (Value.bool false))) ?_
        refine ops_nil ?_
        refine vc_ff rfl ?_
        refine vc_exit ?_
        refine blockQ_hit ?_
        refine vc_seq ?_
        refine vc_region ?_
        refine oq (qv_as (Value.bool false) rfl) ?_
        refine ops_nil ?_
        refine vc_ret ?_
        exact rq1 (.bool (decide (¬ meetF a b = nE))) (congrArg Value.bool (decide_eq_false (show ¬ (¬ meetF a b = nE) from by first | exact fun z => z (mt_loop (i := i) (lo := b.l) (hi := b.h) ha sa sb hg rfl (by omega) (by omega) hn0 hj (by omega)) | exact fun z => z (mt_far (lo := b.l) (hi := b.h) ha (by omega) (by omega) (by omega)) | exact fun z => z (mt_gcd ha (fun q => by rw [← hg] at q; exact absurd (Int.emod_eq_zero_of_dvd q) (by assumption))))).symm) rfl
    ·
     refine vc_skip ?_
     refine vc_seq ?_
     refine vc_region ?_
     refine oq (qv_fa (off := 0) Try.field23_2 rfl) ?_
     refine oq (qv_ldp (v := (.int .i64 a.s)) Try.plain3 rfl (inOc (k := 0) rfl) rfl) ?_
     refine oq (qv_fa (off := 0) Try.field23_2 rfl) ?_
     refine oq (qv_ldp (v := (.int .i64 b.s)) Try.plain3 rfl (inOc (k := 1) rfl) rfl) ?_
     refine oq (qv_call (v := (.int .i64 ((Int.gcd a.s b.s : Int)))) (rGcd_c (by omega) (by omega)) rfl rfl) ?_
     obtain ⟨g, hg⟩ : ∃ z : Int, z = (Int.gcd a.s b.s : Int) := ⟨_, rfl⟩
     refine oq (qv_as (Value.int .i64 g) (show _ = _ from congrArg (Value.int .i64) hg.symm)) ?_
     refine ops_nil ?_
     refine vc_seq ?_
     refine vc_seq ?_
     have g0 : 0 < g := by have := Int.gcd_pos_of_ne_zero_left b.s (show a.s ≠ 0 by omega); omega
     have aw0_ := aw_nn a.l b.l
     refine vc_region ?_
     refine oq (qv_mv (.int .i64 b.l) rfl) ?_
     refine oq (qv_mv (.int .i64 a.h) rfl) ?_
     refine oq (qv_gtr rfl rfl) ?_
     refine oq (qv_mv (.bool (decide (a.h < b.l))) rfl) ?_
     by_cases g3 : a.h < b.l
     ·
      refine os (want_fn g3 rfl rfl rfl) ?_
      refine os (want_fn g3 rfl rfl rfl) ?_
      refine os (want_fn g3 rfl rfl rfl) ?_
      refine os (want_fn g3 rfl rfl rfl) ?_
      refine os (want_fn g3 rfl rfl rfl) ?_
      refine os (want_fn g3 rfl rfl rfl) ?_
      refine os (want_fn g3 rfl rfl rfl) ?_
      refine os (want_fn g3 rfl rfl rfl) ?_
      refine oq (qv_pick_t g3 rfl (rfl : ev _ _ = (Value.bool true))) ?_
      refine ops_nil ?_
      refine vc_tt rfl ?_
      refine vc_seq ?_
      refine vc_region ?_
      refine oq (qv_as (Value.bool false) rfl) ?_
      refine ops_nil ?_
      refine vc_ret ?_
      exact rq1 (.bool (decide (¬ meetF a b = nE))) (congrArg Value.bool (decide_eq_false (show ¬ (¬ meetF a b = nE) from by first | exact fun z => z (mt_loop (i := i) (lo := b.l) (hi := a.h) ha sa sb hg rfl (by omega) (by omega) hn0 hj (by omega)) | exact fun z => z (mt_far (lo := b.l) (hi := a.h) ha (by omega) (by omega) (by omega)) | exact fun z => z (mt_gcd ha (fun q => by rw [← hg] at q; exact absurd (Int.emod_eq_zero_of_dvd q) (by assumption))))).symm) rfl
     ·
      refine og (qv_fa (off := 0) Try.field23_0 rfl) (want_f g3 rfl rfl rfl) ?_
      refine og (qv_ldp (v := (.int .i64 a.l)) Try.plain3 rfl (inOc (k := 0) rfl) rfl) (want_f g3 rfl rfl rfl) ?_
      refine og (qv_fa (off := 0) Try.field23_0 rfl) (want_f g3 rfl rfl rfl) ?_
      refine og (qv_ldp (v := (.int .i64 b.l)) Try.plain3 rfl (inOc (k := 1) rfl) rfl) (want_f g3 rfl rfl rfl) ?_
      refine og (qv_call (v := (.int .i64 (aw a.l b.l))) (rAway_c (by omega) (by omega)) rfl rfl) (want_f g3 rfl rfl rfl) ?_
      refine og (qv_mv (Value.int .i64 g) rfl) (want_f g3 rfl rfl rfl) ?_
      refine og (qv_rem rfl rfl (by omega) (by omega)) (want_f g3 rfl rfl rfl) ?_
      refine og (qv_neq rfl rfl) (want_f g3 rfl rfl rfl) ?_
      refine oq (qv_pick_f g3 rfl (rfl : ev _ _ = (.bool (decide (((aw a.l b.l) % g) ≠ 0))))) ?_
      refine ops_nil ?_
      refine vc_if rfl (fun c8 => ?_) (fun c8 => ?_)
      ·
       refine vc_seq ?_
       refine vc_region ?_
       refine oq (qv_as (Value.bool false) rfl) ?_
       refine ops_nil ?_
       refine vc_ret ?_
       exact rq1 (.bool (decide (¬ meetF a b = nE))) (congrArg Value.bool (decide_eq_false (show ¬ (¬ meetF a b = nE) from by first | exact fun z => z (mt_loop (i := i) (lo := b.l) (hi := a.h) ha sa sb hg rfl (by omega) (by omega) hn0 hj (by omega)) | exact fun z => z (mt_far (lo := b.l) (hi := a.h) ha (by omega) (by omega) (by omega)) | exact fun z => z (mt_gcd ha (fun q => by rw [← hg] at q; exact absurd (Int.emod_eq_zero_of_dvd q) (by assumption))))).symm) rfl
      ·
       refine vc_skip ?_
       refine vc_seq ?_
       have mc := mt_ceil (a := a) (lo := b.l) sa (by omega)
       have gle := Int.ediv_le_self (a := b.s) g (by omega)
       refine vc_region_any Try.mixed (by kernel_rfl) ?_
       refine qq (qv_fa (off := 0) Try.field23_0 rfl) ?_
       refine qq (qv_ldp (v := (.int .i64 a.l)) Try.plain3 rfl (inOc (k := 0) rfl) rfl) ?_
       refine qq (qv_mv (.int .i64 b.l) rfl) ?_
       refine qq (qv_fa (off := 0) Try.field23_0 rfl) ?_
       refine qq (qv_ldp (v := (.int .i64 a.l)) Try.plain3 rfl (inOc (k := 0) rfl) rfl) ?_
       refine qq (qv_sub rfl rfl (by omega)) ?_
       refine qq (qv_fa (off := 0) Try.field23_2 rfl) ?_
       refine qq (qv_ldp (v := (.int .i64 a.s)) Try.plain3 rfl (inOc (k := 0) rfl) rfl) ?_
       refine qq (qv_add rfl rfl (by omega)) ?_
       refine qq (qv_sub rfl rfl (by omega)) ?_
       refine qq (qv_fa (off := 0) Try.field23_2 rfl) ?_
       refine qq (qv_ldp (v := (.int .i64 a.s)) Try.plain3 rfl (inOc (k := 0) rfl) rfl) ?_
       refine qq (qv_quo rfl rfl (by omega) (by omega)) ?_
       refine qq (qv_fa (off := 0) Try.field23_2 rfl) ?_
       refine qq (qv_ldp (v := (.int .i64 a.s)) Try.plain3 rfl (inOc (k := 0) rfl) rfl) ?_
       refine qq (qv_mul rfl rfl (by omega)) ?_
       refine qq (qv_add rfl rfl (by omega)) ?_
       obtain ⟨n0, hn0⟩ : ∃ z : Int, z = a.l + (((((b.l - a.l) + a.s) - 1) / a.s) * a.s) := ⟨_, rfl⟩
       refine qq (qv_as (Value.int .i64 n0) (show _ = _ from congrArg (Value.int .i64) hn0.symm)) ?_
       refine qops_nil ?_
       refine vc_seq ?_
       refine vc_seq ?_
       refine vc_region ?_
       refine oq (qv_as (Value.int .i64 0) rfl) ?_
       refine ops_nil ?_
       refine vc_block ?_
       refine vc_loop (α := Int × Int) (fun (xx : Int × Int) => [(0, (.agg #[(.int .i64 a.l), (.int .i64 a.h), (.int .i64 a.s)])), (1, (.agg #[(.int .i64 b.l), (.int .i64 b.h), (.int .i64 b.s)])), (2, (Value.pointer (some ⟨b1, 0, none⟩))), (3, (Value.pointer (some ⟨b2, 0, none⟩))), (5, (.int .i64 b.l)), (6, (.int .i64 a.h)), (7, (Value.int .i64 g)), (14, (.bool (decide ((sizeV b) < (sizeV a))))), (20, (.bool (decide ((sizeV a) = 1)))), (32, (.bool (decide (a.l < b.l)))), (38, (.bool (decide (b.h < a.h)))), (58, (.bool (decide (((aw a.l b.l) % g) ≠ 0)))), (8, (Value.int .i64 xx.2)), (9, (Value.int .i64 xx.1))]) (fun (xx : Int × Int) V' σ' => V = V' ∧ [(Arr 23 b1 [(.int .i64 a.l), (.int .i64 a.h), (.int .i64 a.s)]), (Arr 23 b2 [(.int .i64 b.l), (.int .i64 b.h), (.int .i64 b.s)])] = σ' ∧ 0 ≤ xx.1 ∧ xx.2 = n0 + xx.1 * a.s ∧ (∀ j : Int, 0 ≤ j → j < xx.1 → ¬ mem b (n0 + j * a.s)) ∧ n0 ≤ xx.2 ∧ xx.2 ≤ 4398046511104 ∧ xx.1 ≤ b.s) (fun (xx : Int × Int) => (b.s / g - xx.1).toNat) (0, n0) ?_ ?_ ?_
       · exact ⟨rfl, rfl, rfl, rfl, rfl, rfl, rfl, rfl, rfl, rfl, rfl, rfl, rfl, rfl, trivial⟩
       · exact ⟨rfl, rfl, by omega, by simp, fun j a b => by omega, by omega, by omega, by omega⟩
       rintro ⟨i, n⟩ e2 V0l σ0l hI0
       obtain ⟨rfl, rfl, i5, hn, hj, i6, i7, i8⟩ : V = V0l ∧ [(Arr 23 b1 [(.int .i64 a.l), (.int .i64 a.h), (.int .i64 a.s)]), (Arr 23 b2 [(.int .i64 b.l), (.int .i64 b.h), (.int .i64 b.s)])] = σ0l ∧ 0 ≤ i ∧ n = n0 + i * a.s ∧ (∀ j : Int, 0 ≤ j → j < i → ¬ mem b (n0 + j * a.s)) ∧ n0 ≤ n ∧ n ≤ 4398046511104 ∧ i ≤ b.s := hI0
       change VC _ _ _ _ _ _ (upds 96 [(0, (.agg #[(.int .i64 a.l), (.int .i64 a.h), (.int .i64 a.s)])), (1, (.agg #[(.int .i64 b.l), (.int .i64 b.h), (.int .i64 b.s)])), (2, (Value.pointer (some ⟨b1, 0, none⟩))), (3, (Value.pointer (some ⟨b2, 0, none⟩))), (5, (.int .i64 b.l)), (6, (.int .i64 a.h)), (7, (Value.int .i64 g)), (14, (.bool (decide ((sizeV b) < (sizeV a))))), (20, (.bool (decide ((sizeV a) = 1)))), (32, (.bool (decide (a.l < b.l)))), (38, (.bool (decide (b.h < a.h)))), (58, (.bool (decide (((aw a.l b.l) % g) ≠ 0)))), (8, (Value.int .i64 n)), (9, (Value.int .i64 i))] e2) _ _
       refine vc_seq ?_
       refine vc_seq ?_
       refine vc_region ?_
       refine oq (qv_mv (Value.int .i64 i) rfl) ?_
       refine oq (qv_fa (off := 0) Try.field23_2 rfl) ?_
       refine oq (qv_ldp (v := (.int .i64 b.s)) Try.plain3 rfl (inOc (k := 1) rfl) rfl) ?_
       refine oq (qv_mv (Value.int .i64 g) rfl) ?_
       refine oq (qv_quo rfl rfl (by omega) (by omega)) ?_
       refine oq (qv_lss rfl rfl) ?_
       refine oq (qv_mv (.bool (decide (i < (b.s / g)))) rfl) ?_
       by_cases g4 : i < (b.s / g)
       ·
        refine og (qv_mv (Value.int .i64 n) rfl) (want_t g4 rfl rfl rfl) ?_
        refine og (qv_mv (.int .i64 a.h) rfl) (want_t g4 rfl rfl rfl) ?_
        refine og (qv_leq rfl rfl) (want_t g4 rfl rfl rfl) ?_
        refine oq (qv_pick_t g4 rfl (rfl : ev _ _ = (.bool (decide (n ≤ a.h))))) ?_
        refine ops_nil ?_
        refine vc_if rfl (fun c9 => ?_) (fun c9 => ?_)
        ·
         refine vc_skip ?_
         refine vc_seq ?_
         refine vc_block ?_
         refine vc_seq ?_
         refine vc_seq ?_
         refine vc_region ?_
         refine oq (qv_ldm (vs := [(.int .i64 b.l), (.int .i64 b.h), (.int .i64 b.s)]) Try.agg23 rfl (inOc (k := 1) rfl) rfl rfl) ?_
         refine oq (qv_mv (Value.int .i64 n) rfl) ?_
         refine oq (qv_call (v := (.bool (decide (vld b ∧ mem b n)))) (rHas_c (a := b)) rfl rfl) ?_
         refine ops_nil ?_
         refine vc_if rfl (fun c10 => ?_) (fun c10 => ?_)
         ·
          refine vc_seq ?_
          have hma : mem a n := mt_mem (lo := b.l) sa (by omega) (by rw [← hn0]; exact hn) (by omega) (by omega)
          refine vc_region ?_
          refine oq (qv_as (Value.bool true) rfl) ?_
          refine ops_nil ?_
          refine vc_ret ?_
          refine blockQ_ret ?_
          refine blockQ_ret ?_
          exact rq1 (.bool (decide (¬ meetF a b = nE))) (congrArg Value.bool (decide_eq_true (show (¬ meetF a b = nE) from by exact mt_yes ha hb hma (And.right (by assumption)))).symm) rfl
         ·
          refine vc_skip ?_
          refine vc_region ?_
          refine oq (qv_mv (Value.int .i64 n) rfl) ?_
          refine oq (qv_fa (off := 0) Try.field23_2 rfl) ?_
          refine oq (qv_ldp (v := (.int .i64 a.s)) Try.plain3 rfl (inOc (k := 0) rfl) rfl) ?_
          refine oq (qv_add rfl rfl (by omega)) ?_
          refine oq (qv_as (.int .i64 (n + a.s)) rfl) ?_
          refine ops_nil ?_
          refine vc_region ?_
          refine oq (qv_mv (Value.int .i64 i) rfl) ?_
          refine oq (qv_add rfl rfl (by omega)) ?_
          refine oq (qv_as (.int .i64 (i + 1)) rfl) ?_
          refine ops_nil ?_
          refine ⟨(i + 1, n + a.s), ⟨rfl, rfl, rfl, rfl, rfl, rfl, rfl, rfl, rfl, rfl, rfl, rfl, (congrArg (Value.int .i64) (show (n + a.s) = ((n + a.s)) from by rfl)), (congrArg (Value.int .i64) (show (i + 1) = ((i + 1)) from by rfl)), trivial⟩, ⟨rfl, rfl, by omega, by rw [Int.add_mul]; omega, all_snoc hj (fun m => absurd (show vld b ∧ mem b n from ⟨hb, by rw [hn]; exact m⟩) (by assumption)), by omega, by omega, by omega⟩, by omega⟩
        ·
         refine vc_exit ?_
         refine blockQ_hit ?_
         refine vc_seq ?_
         refine vc_region ?_
         refine oq (qv_as (Value.bool false) rfl) ?_
         refine ops_nil ?_
         refine vc_ret ?_
         exact rq1 (.bool (decide (¬ meetF a b = nE))) (congrArg Value.bool (decide_eq_false (show ¬ (¬ meetF a b = nE) from by first | exact fun z => z (mt_loop (i := i) (lo := b.l) (hi := a.h) ha sa sb hg rfl (by omega) (by omega) hn0 hj (by omega)) | exact fun z => z (mt_far (lo := b.l) (hi := a.h) ha (by omega) (by omega) (by omega)) | exact fun z => z (mt_gcd ha (fun q => by rw [← hg] at q; exact absurd (Int.emod_eq_zero_of_dvd q) (by assumption))))).symm) rfl
       ·
        refine os (want_tn g4 rfl rfl rfl) ?_
        refine os (want_tn g4 rfl rfl rfl) ?_
        refine os (want_tn g4 rfl rfl rfl) ?_
        refine oq (qv_pick_f g4 rfl (rfl : ev _ _ = (Value.bool false))) ?_
        refine ops_nil ?_
        refine vc_ff rfl ?_
        refine vc_exit ?_
        refine blockQ_hit ?_
        refine vc_seq ?_
        refine vc_region ?_
        refine oq (qv_as (Value.bool false) rfl) ?_
        refine ops_nil ?_
        refine vc_ret ?_
        exact rq1 (.bool (decide (¬ meetF a b = nE))) (congrArg Value.bool (decide_eq_false (show ¬ (¬ meetF a b = nE) from by first | exact fun z => z (mt_loop (i := i) (lo := b.l) (hi := a.h) ha sa sb hg rfl (by omega) (by omega) hn0 hj (by omega)) | exact fun z => z (mt_far (lo := b.l) (hi := a.h) ha (by omega) (by omega) (by omega)) | exact fun z => z (mt_gcd ha (fun q => by rw [← hg] at q; exact absurd (Int.emod_eq_zero_of_dvd q) (by assumption))))).symm) rfl
   ·
    refine vc_skip ?_
    refine vc_seq ?_
    refine vc_seq ?_
    refine vc_region ?_
    refine oq (qv_fa (off := 0) Try.field23_1 rfl) ?_
    refine oq (qv_ldp (v := (.int .i64 b.h)) Try.plain3 rfl (inOc (k := 1) rfl) rfl) ?_
    refine oq (qv_mv (.int .i64 a.h) rfl) ?_
    refine oq (qv_lss rfl rfl) ?_
    refine ops_nil ?_
    refine vc_if rfl (fun c11 => ?_) (fun c11 => ?_)
    ·
     refine vc_region ?_
     refine oq (qv_fa (off := 0) Try.field23_1 rfl) ?_
     refine oq (qv_ldp (v := (.int .i64 b.h)) Try.plain3 rfl (inOc (k := 1) rfl) rfl) ?_
     refine oq (qv_as (.int .i64 b.h) rfl) ?_
     refine ops_nil ?_
     refine vc_seq ?_
     refine vc_region ?_
     refine oq (qv_fa (off := 0) Try.field23_2 rfl) ?_
     refine oq (qv_ldp (v := (.int .i64 a.s)) Try.plain3 rfl (inOc (k := 0) rfl) rfl) ?_
     refine oq (qv_fa (off := 0) Try.field23_2 rfl) ?_
     refine oq (qv_ldp (v := (.int .i64 b.s)) Try.plain3 rfl (inOc (k := 1) rfl) rfl) ?_
     refine oq (qv_call (v := (.int .i64 ((Int.gcd a.s b.s : Int)))) (rGcd_c (by omega) (by omega)) rfl rfl) ?_
     obtain ⟨g, hg⟩ : ∃ z : Int, z = (Int.gcd a.s b.s : Int) := ⟨_, rfl⟩
     refine oq (qv_as (Value.int .i64 g) (show _ = _ from congrArg (Value.int .i64) hg.symm)) ?_
     refine ops_nil ?_
     refine vc_seq ?_
     refine vc_seq ?_
     have g0 : 0 < g := by have := Int.gcd_pos_of_ne_zero_left b.s (show a.s ≠ 0 by omega); omega
     have aw0_ := aw_nn a.l b.l
     refine vc_region ?_
     refine oq (qv_mv (.int .i64 a.l) rfl) ?_
     refine oq (qv_mv (.int .i64 b.h) rfl) ?_
     refine oq (qv_gtr rfl rfl) ?_
     refine oq (qv_mv (.bool (decide (b.h < a.l))) rfl) ?_
     by_cases g5 : b.h < a.l
     ·
      refine os (want_fn g5 rfl rfl rfl) ?_
      refine os (want_fn g5 rfl rfl rfl) ?_
      refine os (want_fn g5 rfl rfl rfl) ?_
      refine os (want_fn g5 rfl rfl rfl) ?_
      refine os (want_fn g5 rfl rfl rfl) ?_
      refine os (want_fn g5 rfl rfl rfl) ?_
      refine os (want_fn g5 rfl rfl rfl) ?_
      refine os (want_fn g5 rfl rfl rfl) ?_
      refine oq (qv_pick_t g5 rfl (rfl : ev _ _ = (Value.bool true))) ?_
      refine ops_nil ?_
      refine vc_tt rfl ?_
      refine vc_seq ?_
      refine vc_region ?_
      refine oq (qv_as (Value.bool false) rfl) ?_
      refine ops_nil ?_
      refine vc_ret ?_
      exact rq1 (.bool (decide (¬ meetF a b = nE))) (congrArg Value.bool (decide_eq_false (show ¬ (¬ meetF a b = nE) from by first | exact fun z => z (mt_loop (i := i) (lo := a.l) (hi := b.h) ha sa sb hg rfl (by omega) (by omega) hn0 hj (by omega)) | exact fun z => z (mt_far (lo := a.l) (hi := b.h) ha (by omega) (by omega) (by omega)) | exact fun z => z (mt_gcd ha (fun q => by rw [← hg] at q; exact absurd (Int.emod_eq_zero_of_dvd q) (by assumption))))).symm) rfl
     ·
      refine og (qv_fa (off := 0) Try.field23_0 rfl) (want_f g5 rfl rfl rfl) ?_
      refine og (qv_ldp (v := (.int .i64 a.l)) Try.plain3 rfl (inOc (k := 0) rfl) rfl) (want_f g5 rfl rfl rfl) ?_
      refine og (qv_fa (off := 0) Try.field23_0 rfl) (want_f g5 rfl rfl rfl) ?_
      refine og (qv_ldp (v := (.int .i64 b.l)) Try.plain3 rfl (inOc (k := 1) rfl) rfl) (want_f g5 rfl rfl rfl) ?_
      refine og (qv_call (v := (.int .i64 (aw a.l b.l))) (rAway_c (by omega) (by omega)) rfl rfl) (want_f g5 rfl rfl rfl) ?_
      refine og (qv_mv (Value.int .i64 g) rfl) (want_f g5 rfl rfl rfl) ?_
      refine og (qv_rem rfl rfl (by omega) (by omega)) (want_f g5 rfl rfl rfl) ?_
      refine og (qv_neq rfl rfl) (want_f g5 rfl rfl rfl) ?_
      refine oq (qv_pick_f g5 rfl (rfl : ev _ _ = (.bool (decide (((aw a.l b.l) % g) ≠ 0))))) ?_
      refine ops_nil ?_
      refine vc_if rfl (fun c12 => ?_) (fun c12 => ?_)
      ·
       refine vc_seq ?_
       refine vc_region ?_
       refine oq (qv_as (Value.bool false) rfl) ?_
       refine ops_nil ?_
       refine vc_ret ?_
       exact rq1 (.bool (decide (¬ meetF a b = nE))) (congrArg Value.bool (decide_eq_false (show ¬ (¬ meetF a b = nE) from by first | exact fun z => z (mt_loop (i := i) (lo := a.l) (hi := b.h) ha sa sb hg rfl (by omega) (by omega) hn0 hj (by omega)) | exact fun z => z (mt_far (lo := a.l) (hi := b.h) ha (by omega) (by omega) (by omega)) | exact fun z => z (mt_gcd ha (fun q => by rw [← hg] at q; exact absurd (Int.emod_eq_zero_of_dvd q) (by assumption))))).symm) rfl
      ·
       refine vc_skip ?_
       refine vc_seq ?_
       have mc := mt_ceil (a := a) (lo := a.l) sa (by omega)
       have gle := Int.ediv_le_self (a := b.s) g (by omega)
       refine vc_region_any Try.mixed (by kernel_rfl) ?_
       refine qq (qv_fa (off := 0) Try.field23_0 rfl) ?_
       refine qq (qv_ldp (v := (.int .i64 a.l)) Try.plain3 rfl (inOc (k := 0) rfl) rfl) ?_
       refine qq (qv_mv (.int .i64 a.l) rfl) ?_
       refine qq (qv_fa (off := 0) Try.field23_0 rfl) ?_
       refine qq (qv_ldp (v := (.int .i64 a.l)) Try.plain3 rfl (inOc (k := 0) rfl) rfl) ?_
       refine qq (qv_sub rfl rfl (by omega)) ?_
       refine qq (qv_fa (off := 0) Try.field23_2 rfl) ?_
       refine qq (qv_ldp (v := (.int .i64 a.s)) Try.plain3 rfl (inOc (k := 0) rfl) rfl) ?_
       refine qq (qv_add rfl rfl (by omega)) ?_
       refine qq (qv_sub rfl rfl (by omega)) ?_
       refine qq (qv_fa (off := 0) Try.field23_2 rfl) ?_
       refine qq (qv_ldp (v := (.int .i64 a.s)) Try.plain3 rfl (inOc (k := 0) rfl) rfl) ?_
       refine qq (qv_quo rfl rfl (by omega) (by omega)) ?_
       refine qq (qv_fa (off := 0) Try.field23_2 rfl) ?_
       refine qq (qv_ldp (v := (.int .i64 a.s)) Try.plain3 rfl (inOc (k := 0) rfl) rfl) ?_
       refine qq (qv_mul rfl rfl (by omega)) ?_
       refine qq (qv_add rfl rfl (by omega)) ?_
       obtain ⟨n0, hn0⟩ : ∃ z : Int, z = a.l + (((((a.l - a.l) + a.s) - 1) / a.s) * a.s) := ⟨_, rfl⟩
       refine qq (qv_as (Value.int .i64 n0) (show _ = _ from congrArg (Value.int .i64) hn0.symm)) ?_
       refine qops_nil ?_
       refine vc_seq ?_
       refine vc_seq ?_
       refine vc_region ?_
       refine oq (qv_as (Value.int .i64 0) rfl) ?_
       refine ops_nil ?_
       refine vc_block ?_
       refine vc_loop (α := Int × Int) (fun (xx : Int × Int) => [(0, (.agg #[(.int .i64 a.l), (.int .i64 a.h), (.int .i64 a.s)])), (1, (.agg #[(.int .i64 b.l), (.int .i64 b.h), (.int .i64 b.s)])), (2, (Value.pointer (some ⟨b1, 0, none⟩))), (3, (Value.pointer (some ⟨b2, 0, none⟩))), (5, (.int .i64 a.l)), (6, (.int .i64 b.h)), (7, (Value.int .i64 g)), (14, (.bool (decide ((sizeV b) < (sizeV a))))), (20, (.bool (decide ((sizeV a) = 1)))), (32, (.bool (decide (a.l < b.l)))), (38, (.bool (decide (b.h < a.h)))), (58, (.bool (decide (((aw a.l b.l) % g) ≠ 0)))), (8, (Value.int .i64 xx.2)), (9, (Value.int .i64 xx.1))]) (fun (xx : Int × Int) V' σ' => V = V' ∧ [(Arr 23 b1 [(.int .i64 a.l), (.int .i64 a.h), (.int .i64 a.s)]), (Arr 23 b2 [(.int .i64 b.l), (.int .i64 b.h), (.int .i64 b.s)])] = σ' ∧ 0 ≤ xx.1 ∧ xx.2 = n0 + xx.1 * a.s ∧ (∀ j : Int, 0 ≤ j → j < xx.1 → ¬ mem b (n0 + j * a.s)) ∧ n0 ≤ xx.2 ∧ xx.2 ≤ 4398046511104 ∧ xx.1 ≤ b.s) (fun (xx : Int × Int) => (b.s / g - xx.1).toNat) (0, n0) ?_ ?_ ?_
       · exact ⟨rfl, rfl, rfl, rfl, rfl, rfl, rfl, rfl, rfl, rfl, rfl, rfl, rfl, rfl, trivial⟩
       · exact ⟨rfl, rfl, by omega, by simp, fun j a b => by omega, by omega, by omega, by omega⟩
       rintro ⟨i, n⟩ e3 V0l σ0l hI0
       obtain ⟨rfl, rfl, i9, hn, hj, i10, i11, i12⟩ : V = V0l ∧ [(Arr 23 b1 [(.int .i64 a.l), (.int .i64 a.h), (.int .i64 a.s)]), (Arr 23 b2 [(.int .i64 b.l), (.int .i64 b.h), (.int .i64 b.s)])] = σ0l ∧ 0 ≤ i ∧ n = n0 + i * a.s ∧ (∀ j : Int, 0 ≤ j → j < i → ¬ mem b (n0 + j * a.s)) ∧ n0 ≤ n ∧ n ≤ 4398046511104 ∧ i ≤ b.s := hI0
       change VC _ _ _ _ _ _ (upds 96 [(0, (.agg #[(.int .i64 a.l), (.int .i64 a.h), (.int .i64 a.s)])), (1, (.agg #[(.int .i64 b.l), (.int .i64 b.h), (.int .i64 b.s)])), (2, (Value.pointer (some ⟨b1, 0, none⟩))), (3, (Value.pointer (some ⟨b2, 0, none⟩))), (5, (.int .i64 a.l)), (6, (.int .i64 b.h)), (7, (Value.int .i64 g)), (14, (.bool (decide ((sizeV b) < (sizeV a))))), (20, (.bool (decide ((sizeV a) = 1)))), (32, (.bool (decide (a.l < b.l)))), (38, (.bool (decide (b.h < a.h)))), (58, (.bool (decide (((aw a.l b.l) % g) ≠ 0)))), (8, (Value.int .i64 n)), (9, (Value.int .i64 i))] e3) _ _
       refine vc_seq ?_
       refine vc_seq ?_
       refine vc_region ?_
       refine oq (qv_mv (Value.int .i64 i) rfl) ?_
       refine oq (qv_fa (off := 0) Try.field23_2 rfl) ?_
       refine oq (qv_ldp (v := (.int .i64 b.s)) Try.plain3 rfl (inOc (k := 1) rfl) rfl) ?_
       refine oq (qv_mv (Value.int .i64 g) rfl) ?_
       refine oq (qv_quo rfl rfl (by omega) (by omega)) ?_
       refine oq (qv_lss rfl rfl) ?_
       refine oq (qv_mv (.bool (decide (i < (b.s / g)))) rfl) ?_
       by_cases g6 : i < (b.s / g)
       ·
        refine og (qv_mv (Value.int .i64 n) rfl) (want_t g6 rfl rfl rfl) ?_
        refine og (qv_mv (.int .i64 b.h) rfl) (want_t g6 rfl rfl rfl) ?_
        refine og (qv_leq rfl rfl) (want_t g6 rfl rfl rfl) ?_
        refine oq (qv_pick_t g6 rfl (rfl : ev _ _ = (.bool (decide (n ≤ b.h))))) ?_
        refine ops_nil ?_
        refine vc_if rfl (fun c13 => ?_) (fun c13 => ?_)
        ·
         refine vc_skip ?_
         refine vc_seq ?_
         refine vc_block ?_
         refine vc_seq ?_
         refine vc_seq ?_
         refine vc_region ?_
         refine oq (qv_ldm (vs := [(.int .i64 b.l), (.int .i64 b.h), (.int .i64 b.s)]) Try.agg23 rfl (inOc (k := 1) rfl) rfl rfl) ?_
         refine oq (qv_mv (Value.int .i64 n) rfl) ?_
         refine oq (qv_call (v := (.bool (decide (vld b ∧ mem b n)))) (rHas_c (a := b)) rfl rfl) ?_
         refine ops_nil ?_
         refine vc_if rfl (fun c14 => ?_) (fun c14 => ?_)
         ·
          refine vc_seq ?_
          have hma : mem a n := mt_mem (lo := a.l) sa (by omega) (by rw [← hn0]; exact hn) (by omega) (by omega)
          refine vc_region ?_
          refine oq (qv_as (Value.bool true) rfl) ?_
          refine ops_nil ?_
          refine vc_ret ?_
          refine blockQ_ret ?_
          refine blockQ_ret ?_
          exact rq1 (.bool (decide (¬ meetF a b = nE))) (congrArg Value.bool (decide_eq_true (show (¬ meetF a b = nE) from by exact mt_yes ha hb hma (And.right (by assumption)))).symm) rfl
         ·
          refine vc_skip ?_
          refine vc_region ?_
          refine oq (qv_mv (Value.int .i64 n) rfl) ?_
          refine oq (qv_fa (off := 0) Try.field23_2 rfl) ?_
          refine oq (qv_ldp (v := (.int .i64 a.s)) Try.plain3 rfl (inOc (k := 0) rfl) rfl) ?_
          refine oq (qv_add rfl rfl (by omega)) ?_
          refine oq (qv_as (.int .i64 (n + a.s)) rfl) ?_
          refine ops_nil ?_
          refine vc_region ?_
          refine oq (qv_mv (Value.int .i64 i) rfl) ?_
          refine oq (qv_add rfl rfl (by omega)) ?_
          refine oq (qv_as (.int .i64 (i + 1)) rfl) ?_
          refine ops_nil ?_
          refine ⟨(i + 1, n + a.s), ⟨rfl, rfl, rfl, rfl, rfl, rfl, rfl, rfl, rfl, rfl, rfl, rfl, (congrArg (Value.int .i64) (show (n + a.s) = ((n + a.s)) from by rfl)), (congrArg (Value.int .i64) (show (i + 1) = ((i + 1)) from by rfl)), trivial⟩, ⟨rfl, rfl, by omega, by rw [Int.add_mul]; omega, all_snoc hj (fun m => absurd (show vld b ∧ mem b n from ⟨hb, by rw [hn]; exact m⟩) (by assumption)), by omega, by omega, by omega⟩, by omega⟩
        ·
         refine vc_exit ?_
         refine blockQ_hit ?_
         refine vc_seq ?_
         refine vc_region ?_
         refine oq (qv_as (Value.bool false) rfl) ?_
         refine ops_nil ?_
         refine vc_ret ?_
         exact rq1 (.bool (decide (¬ meetF a b = nE))) (congrArg Value.bool (decide_eq_false (show ¬ (¬ meetF a b = nE) from by first | exact fun z => z (mt_loop (i := i) (lo := a.l) (hi := b.h) ha sa sb hg rfl (by omega) (by omega) hn0 hj (by omega)) | exact fun z => z (mt_far (lo := a.l) (hi := b.h) ha (by omega) (by omega) (by omega)) | exact fun z => z (mt_gcd ha (fun q => by rw [← hg] at q; exact absurd (Int.emod_eq_zero_of_dvd q) (by assumption))))).symm) rfl
       ·
        refine os (want_tn g6 rfl rfl rfl) ?_
        refine os (want_tn g6 rfl rfl rfl) ?_
        refine os (want_tn g6 rfl rfl rfl) ?_
        refine oq (qv_pick_f g6 rfl (rfl : ev _ _ = (Value.bool false))) ?_
        refine ops_nil ?_
        refine vc_ff rfl ?_
        refine vc_exit ?_
        refine blockQ_hit ?_
        refine vc_seq ?_
        refine vc_region ?_
        refine oq (qv_as (Value.bool false) rfl) ?_
        refine ops_nil ?_
        refine vc_ret ?_
        exact rq1 (.bool (decide (¬ meetF a b = nE))) (congrArg Value.bool (decide_eq_false (show ¬ (¬ meetF a b = nE) from by first | exact fun z => z (mt_loop (i := i) (lo := a.l) (hi := b.h) ha sa sb hg rfl (by omega) (by omega) hn0 hj (by omega)) | exact fun z => z (mt_far (lo := a.l) (hi := b.h) ha (by omega) (by omega) (by omega)) | exact fun z => z (mt_gcd ha (fun q => by rw [← hg] at q; exact absurd (Int.emod_eq_zero_of_dvd q) (by assumption))))).symm) rfl
    ·
     refine vc_skip ?_
     refine vc_seq ?_
     refine vc_region ?_
     refine oq (qv_fa (off := 0) Try.field23_2 rfl) ?_
     refine oq (qv_ldp (v := (.int .i64 a.s)) Try.plain3 rfl (inOc (k := 0) rfl) rfl) ?_
     refine oq (qv_fa (off := 0) Try.field23_2 rfl) ?_
     refine oq (qv_ldp (v := (.int .i64 b.s)) Try.plain3 rfl (inOc (k := 1) rfl) rfl) ?_
     refine oq (qv_call (v := (.int .i64 ((Int.gcd a.s b.s : Int)))) (rGcd_c (by omega) (by omega)) rfl rfl) ?_
     obtain ⟨g, hg⟩ : ∃ z : Int, z = (Int.gcd a.s b.s : Int) := ⟨_, rfl⟩
     refine oq (qv_as (Value.int .i64 g) (show _ = _ from congrArg (Value.int .i64) hg.symm)) ?_
     refine ops_nil ?_
     refine vc_seq ?_
     refine vc_seq ?_
     have g0 : 0 < g := by have := Int.gcd_pos_of_ne_zero_left b.s (show a.s ≠ 0 by omega); omega
     have aw0_ := aw_nn a.l b.l
     refine vc_region ?_
     refine oq (qv_mv (.int .i64 a.l) rfl) ?_
     refine oq (qv_mv (.int .i64 a.h) rfl) ?_
     refine oq (qv_gtr rfl rfl) ?_
     refine oq (qv_mv (.bool (decide (a.h < a.l))) rfl) ?_
     by_cases g7 : a.h < a.l
     ·
      refine os (want_fn g7 rfl rfl rfl) ?_
      refine os (want_fn g7 rfl rfl rfl) ?_
      refine os (want_fn g7 rfl rfl rfl) ?_
      refine os (want_fn g7 rfl rfl rfl) ?_
      refine os (want_fn g7 rfl rfl rfl) ?_
      refine os (want_fn g7 rfl rfl rfl) ?_
      refine os (want_fn g7 rfl rfl rfl) ?_
      refine os (want_fn g7 rfl rfl rfl) ?_
      refine oq (qv_pick_t g7 rfl (rfl : ev _ _ = (Value.bool true))) ?_
      refine ops_nil ?_
      refine vc_tt rfl ?_
      refine vc_seq ?_
      refine vc_region ?_
      refine oq (qv_as (Value.bool false) rfl) ?_
      refine ops_nil ?_
      refine vc_ret ?_
      exact rq1 (.bool (decide (¬ meetF a b = nE))) (congrArg Value.bool (decide_eq_false (show ¬ (¬ meetF a b = nE) from by first | exact fun z => z (mt_loop (i := i) (lo := a.l) (hi := a.h) ha sa sb hg rfl (by omega) (by omega) hn0 hj (by omega)) | exact fun z => z (mt_far (lo := a.l) (hi := a.h) ha (by omega) (by omega) (by omega)) | exact fun z => z (mt_gcd ha (fun q => by rw [← hg] at q; exact absurd (Int.emod_eq_zero_of_dvd q) (by assumption))))).symm) rfl
     ·
      refine og (qv_fa (off := 0) Try.field23_0 rfl) (want_f g7 rfl rfl rfl) ?_
      refine og (qv_ldp (v := (.int .i64 a.l)) Try.plain3 rfl (inOc (k := 0) rfl) rfl) (want_f g7 rfl rfl rfl) ?_
      refine og (qv_fa (off := 0) Try.field23_0 rfl) (want_f g7 rfl rfl rfl) ?_
      refine og (qv_ldp (v := (.int .i64 b.l)) Try.plain3 rfl (inOc (k := 1) rfl) rfl) (want_f g7 rfl rfl rfl) ?_
      refine og (qv_call (v := (.int .i64 (aw a.l b.l))) (rAway_c (by omega) (by omega)) rfl rfl) (want_f g7 rfl rfl rfl) ?_
      refine og (qv_mv (Value.int .i64 g) rfl) (want_f g7 rfl rfl rfl) ?_
      refine og (qv_rem rfl rfl (by omega) (by omega)) (want_f g7 rfl rfl rfl) ?_
      refine og (qv_neq rfl rfl) (want_f g7 rfl rfl rfl) ?_
      refine oq (qv_pick_f g7 rfl (rfl : ev _ _ = (.bool (decide (((aw a.l b.l) % g) ≠ 0))))) ?_
      refine ops_nil ?_
      refine vc_if rfl (fun c15 => ?_) (fun c15 => ?_)
      ·
       refine vc_seq ?_
       refine vc_region ?_
       refine oq (qv_as (Value.bool false) rfl) ?_
       refine ops_nil ?_
       refine vc_ret ?_
       exact rq1 (.bool (decide (¬ meetF a b = nE))) (congrArg Value.bool (decide_eq_false (show ¬ (¬ meetF a b = nE) from by first | exact fun z => z (mt_loop (i := i) (lo := a.l) (hi := a.h) ha sa sb hg rfl (by omega) (by omega) hn0 hj (by omega)) | exact fun z => z (mt_far (lo := a.l) (hi := a.h) ha (by omega) (by omega) (by omega)) | exact fun z => z (mt_gcd ha (fun q => by rw [← hg] at q; exact absurd (Int.emod_eq_zero_of_dvd q) (by assumption))))).symm) rfl
      ·
       refine vc_skip ?_
       refine vc_seq ?_
       have mc := mt_ceil (a := a) (lo := a.l) sa (by omega)
       have gle := Int.ediv_le_self (a := b.s) g (by omega)
       refine vc_region_any Try.mixed (by kernel_rfl) ?_
       refine qq (qv_fa (off := 0) Try.field23_0 rfl) ?_
       refine qq (qv_ldp (v := (.int .i64 a.l)) Try.plain3 rfl (inOc (k := 0) rfl) rfl) ?_
       refine qq (qv_mv (.int .i64 a.l) rfl) ?_
       refine qq (qv_fa (off := 0) Try.field23_0 rfl) ?_
       refine qq (qv_ldp (v := (.int .i64 a.l)) Try.plain3 rfl (inOc (k := 0) rfl) rfl) ?_
       refine qq (qv_sub rfl rfl (by omega)) ?_
       refine qq (qv_fa (off := 0) Try.field23_2 rfl) ?_
       refine qq (qv_ldp (v := (.int .i64 a.s)) Try.plain3 rfl (inOc (k := 0) rfl) rfl) ?_
       refine qq (qv_add rfl rfl (by omega)) ?_
       refine qq (qv_sub rfl rfl (by omega)) ?_
       refine qq (qv_fa (off := 0) Try.field23_2 rfl) ?_
       refine qq (qv_ldp (v := (.int .i64 a.s)) Try.plain3 rfl (inOc (k := 0) rfl) rfl) ?_
       refine qq (qv_quo rfl rfl (by omega) (by omega)) ?_
       refine qq (qv_fa (off := 0) Try.field23_2 rfl) ?_
       refine qq (qv_ldp (v := (.int .i64 a.s)) Try.plain3 rfl (inOc (k := 0) rfl) rfl) ?_
       refine qq (qv_mul rfl rfl (by omega)) ?_
       refine qq (qv_add rfl rfl (by omega)) ?_
       obtain ⟨n0, hn0⟩ : ∃ z : Int, z = a.l + (((((a.l - a.l) + a.s) - 1) / a.s) * a.s) := ⟨_, rfl⟩
       refine qq (qv_as (Value.int .i64 n0) (show _ = _ from congrArg (Value.int .i64) hn0.symm)) ?_
       refine qops_nil ?_
       refine vc_seq ?_
       refine vc_seq ?_
       refine vc_region ?_
       refine oq (qv_as (Value.int .i64 0) rfl) ?_
       refine ops_nil ?_
       refine vc_block ?_
       refine vc_loop (α := Int × Int) (fun (xx : Int × Int) => [(0, (.agg #[(.int .i64 a.l), (.int .i64 a.h), (.int .i64 a.s)])), (1, (.agg #[(.int .i64 b.l), (.int .i64 b.h), (.int .i64 b.s)])), (2, (Value.pointer (some ⟨b1, 0, none⟩))), (3, (Value.pointer (some ⟨b2, 0, none⟩))), (5, (.int .i64 a.l)), (6, (.int .i64 a.h)), (7, (Value.int .i64 g)), (14, (.bool (decide ((sizeV b) < (sizeV a))))), (20, (.bool (decide ((sizeV a) = 1)))), (32, (.bool (decide (a.l < b.l)))), (38, (.bool (decide (b.h < a.h)))), (58, (.bool (decide (((aw a.l b.l) % g) ≠ 0)))), (8, (Value.int .i64 xx.2)), (9, (Value.int .i64 xx.1))]) (fun (xx : Int × Int) V' σ' => V = V' ∧ [(Arr 23 b1 [(.int .i64 a.l), (.int .i64 a.h), (.int .i64 a.s)]), (Arr 23 b2 [(.int .i64 b.l), (.int .i64 b.h), (.int .i64 b.s)])] = σ' ∧ 0 ≤ xx.1 ∧ xx.2 = n0 + xx.1 * a.s ∧ (∀ j : Int, 0 ≤ j → j < xx.1 → ¬ mem b (n0 + j * a.s)) ∧ n0 ≤ xx.2 ∧ xx.2 ≤ 4398046511104 ∧ xx.1 ≤ b.s) (fun (xx : Int × Int) => (b.s / g - xx.1).toNat) (0, n0) ?_ ?_ ?_
       · exact ⟨rfl, rfl, rfl, rfl, rfl, rfl, rfl, rfl, rfl, rfl, rfl, rfl, rfl, rfl, trivial⟩
       · exact ⟨rfl, rfl, by omega, by simp, fun j a b => by omega, by omega, by omega, by omega⟩
       rintro ⟨i, n⟩ e4 V0l σ0l hI0
       obtain ⟨rfl, rfl, i13, hn, hj, i14, i15, i16⟩ : V = V0l ∧ [(Arr 23 b1 [(.int .i64 a.l), (.int .i64 a.h), (.int .i64 a.s)]), (Arr 23 b2 [(.int .i64 b.l), (.int .i64 b.h), (.int .i64 b.s)])] = σ0l ∧ 0 ≤ i ∧ n = n0 + i * a.s ∧ (∀ j : Int, 0 ≤ j → j < i → ¬ mem b (n0 + j * a.s)) ∧ n0 ≤ n ∧ n ≤ 4398046511104 ∧ i ≤ b.s := hI0
       change VC _ _ _ _ _ _ (upds 96 [(0, (.agg #[(.int .i64 a.l), (.int .i64 a.h), (.int .i64 a.s)])), (1, (.agg #[(.int .i64 b.l), (.int .i64 b.h), (.int .i64 b.s)])), (2, (Value.pointer (some ⟨b1, 0, none⟩))), (3, (Value.pointer (some ⟨b2, 0, none⟩))), (5, (.int .i64 a.l)), (6, (.int .i64 a.h)), (7, (Value.int .i64 g)), (14, (.bool (decide ((sizeV b) < (sizeV a))))), (20, (.bool (decide ((sizeV a) = 1)))), (32, (.bool (decide (a.l < b.l)))), (38, (.bool (decide (b.h < a.h)))), (58, (.bool (decide (((aw a.l b.l) % g) ≠ 0)))), (8, (Value.int .i64 n)), (9, (Value.int .i64 i))] e4) _ _
       refine vc_seq ?_
       refine vc_seq ?_
       refine vc_region ?_
       refine oq (qv_mv (Value.int .i64 i) rfl) ?_
       refine oq (qv_fa (off := 0) Try.field23_2 rfl) ?_
       refine oq (qv_ldp (v := (.int .i64 b.s)) Try.plain3 rfl (inOc (k := 1) rfl) rfl) ?_
       refine oq (qv_mv (Value.int .i64 g) rfl) ?_
       refine oq (qv_quo rfl rfl (by omega) (by omega)) ?_
       refine oq (qv_lss rfl rfl) ?_
       refine oq (qv_mv (.bool (decide (i < (b.s / g)))) rfl) ?_
       by_cases g8 : i < (b.s / g)
       ·
        refine og (qv_mv (Value.int .i64 n) rfl) (want_t g8 rfl rfl rfl) ?_
        refine og (qv_mv (.int .i64 a.h) rfl) (want_t g8 rfl rfl rfl) ?_
        refine og (qv_leq rfl rfl) (want_t g8 rfl rfl rfl) ?_
        refine oq (qv_pick_t g8 rfl (rfl : ev _ _ = (.bool (decide (n ≤ a.h))))) ?_
        refine ops_nil ?_
        refine vc_if rfl (fun c16 => ?_) (fun c16 => ?_)
        ·
         refine vc_skip ?_
         refine vc_seq ?_
         refine vc_block ?_
         refine vc_seq ?_
         refine vc_seq ?_
         refine vc_region ?_
         refine oq (qv_ldm (vs := [(.int .i64 b.l), (.int .i64 b.h), (.int .i64 b.s)]) Try.agg23 rfl (inOc (k := 1) rfl) rfl rfl) ?_
         refine oq (qv_mv (Value.int .i64 n) rfl) ?_
         refine oq (qv_call (v := (.bool (decide (vld b ∧ mem b n)))) (rHas_c (a := b)) rfl rfl) ?_
         refine ops_nil ?_
         refine vc_if rfl (fun c17 => ?_) (fun c17 => ?_)
         ·
          refine vc_seq ?_
          have hma : mem a n := mt_mem (lo := a.l) sa (by omega) (by rw [← hn0]; exact hn) (by omega) (by omega)
          refine vc_region ?_
          refine oq (qv_as (Value.bool true) rfl) ?_
          refine ops_nil ?_
          refine vc_ret ?_
          refine blockQ_ret ?_
          refine blockQ_ret ?_
          exact rq1 (.bool (decide (¬ meetF a b = nE))) (congrArg Value.bool (decide_eq_true (show (¬ meetF a b = nE) from by exact mt_yes ha hb hma (And.right (by assumption)))).symm) rfl
         ·
          refine vc_skip ?_
          refine vc_region ?_
          refine oq (qv_mv (Value.int .i64 n) rfl) ?_
          refine oq (qv_fa (off := 0) Try.field23_2 rfl) ?_
          refine oq (qv_ldp (v := (.int .i64 a.s)) Try.plain3 rfl (inOc (k := 0) rfl) rfl) ?_
          refine oq (qv_add rfl rfl (by omega)) ?_
          refine oq (qv_as (.int .i64 (n + a.s)) rfl) ?_
          refine ops_nil ?_
          refine vc_region ?_
          refine oq (qv_mv (Value.int .i64 i) rfl) ?_
          refine oq (qv_add rfl rfl (by omega)) ?_
          refine oq (qv_as (.int .i64 (i + 1)) rfl) ?_
          refine ops_nil ?_
          refine ⟨(i + 1, n + a.s), ⟨rfl, rfl, rfl, rfl, rfl, rfl, rfl, rfl, rfl, rfl, rfl, rfl, (congrArg (Value.int .i64) (show (n + a.s) = ((n + a.s)) from by rfl)), (congrArg (Value.int .i64) (show (i + 1) = ((i + 1)) from by rfl)), trivial⟩, ⟨rfl, rfl, by omega, by rw [Int.add_mul]; omega, all_snoc hj (fun m => absurd (show vld b ∧ mem b n from ⟨hb, by rw [hn]; exact m⟩) (by assumption)), by omega, by omega, by omega⟩, by omega⟩
        ·
         refine vc_exit ?_
         refine blockQ_hit ?_
         refine vc_seq ?_
         refine vc_region ?_
         refine oq (qv_as (Value.bool false) rfl) ?_
         refine ops_nil ?_
         refine vc_ret ?_
         exact rq1 (.bool (decide (¬ meetF a b = nE))) (congrArg Value.bool (decide_eq_false (show ¬ (¬ meetF a b = nE) from by first | exact fun z => z (mt_loop (i := i) (lo := a.l) (hi := a.h) ha sa sb hg rfl (by omega) (by omega) hn0 hj (by omega)) | exact fun z => z (mt_far (lo := a.l) (hi := a.h) ha (by omega) (by omega) (by omega)) | exact fun z => z (mt_gcd ha (fun q => by rw [← hg] at q; exact absurd (Int.emod_eq_zero_of_dvd q) (by assumption))))).symm) rfl
       ·
        refine os (want_tn g8 rfl rfl rfl) ?_
        refine os (want_tn g8 rfl rfl rfl) ?_
        refine os (want_tn g8 rfl rfl rfl) ?_
        refine oq (qv_pick_f g8 rfl (rfl : ev _ _ = (Value.bool false))) ?_
        refine ops_nil ?_
        refine vc_ff rfl ?_
        refine vc_exit ?_
        refine blockQ_hit ?_
        refine vc_seq ?_
        refine vc_region ?_
        refine oq (qv_as (Value.bool false) rfl) ?_
        refine ops_nil ?_
        refine vc_ret ?_
        exact rq1 (.bool (decide (¬ meetF a b = nE))) (congrArg Value.bool (decide_eq_false (show ¬ (¬ meetF a b = nE) from by first | exact fun z => z (mt_loop (i := i) (lo := a.l) (hi := a.h) ha sa sb hg rfl (by omega) (by omega) hn0 hj (by omega)) | exact fun z => z (mt_far (lo := a.l) (hi := a.h) ha (by omega) (by omega) (by omega)) | exact fun z => z (mt_gcd ha (fun q => by rw [← hg] at q; exact absurd (Int.emod_eq_zero_of_dvd q) (by assumption))))).symm) rfl

set_option maxRecDepth 100000 in
set_option maxHeartbeats 4000000 in
theorem rMeets_c {V : HV} {a b : Nm} (ha : vld a) (hb : vld b) (he : a ≠ nE) (hf : b ≠ nE) :
    FnC Try.prog 90 [(.agg #[(.int .i64 a.l), (.int .i64 a.h), (.int .i64 a.s)]), (.agg #[(.int .i64 b.l), (.int .i64 b.h), (.int .i64 b.s)])] V [] (fun v _ _ => v = (.bool (decide (¬ meetF a b = nE)))) := by
 refine fn_intro (N := 96) Try.func90 (by kernel_rfl) rfl rfl rfl (Nat.le_of_ble_eq_true rfl) ?_
 intro w0 D
 have ba := vld_bd ha
 have bb := vld_bd hb
 unfold fits at ba bb
 have za := sizeV_1 ha
 have zb := sizeV_1 hb
 have pa := size_pos ha he
 have pb := size_pos hb hf
 refine vc_seq ?_
 refine vc_region ?_
 refine ops_box (v := (.agg #[(.int .i64 a.l), (.int .i64 a.h), (.int .i64 a.s)])) (cs := [(.int .i64 a.l), (.int .i64 a.h), (.int .i64 a.s)]) rfl rfl (fun b1 => ?_)
 refine ops_box (v := (.agg #[(.int .i64 b.l), (.int .i64 b.h), (.int .i64 b.s)])) (cs := [(.int .i64 b.l), (.int .i64 b.h), (.int .i64 b.s)]) rfl rfl (fun b2 => ?_)
 refine oq (qv_as (Value.bool false) rfl) ?_
 refine ops_nil ?_
 refine vc_seq ?_
 refine vc_seq ?_
 refine vc_res (σ' := [(Arr 23 b1 [(.int .i64 a.l), (.int .i64 a.h), (.int .i64 a.s)]), (Arr 23 b2 [(.int .i64 b.l), (.int .i64 b.h), (.int .i64 b.s)])]) rfl ?_
 refine vc_region_any Try.mixed (by kernel_rfl) ?_
 refine qq (qv_ldm (vs := [(.int .i64 a.l), (.int .i64 a.h), (.int .i64 a.s)]) Try.agg23 rfl (inOc (k := 0) rfl) rfl rfl) ?_
 refine qq (qv_call (v := (.int .i64 (sizeV a))) (rSize_c (a := a)) rfl rfl) ?_
 refine qq (qv_ldm (vs := [(.int .i64 b.l), (.int .i64 b.h), (.int .i64 b.s)]) Try.agg23 rfl (inOc (k := 1) rfl) rfl rfl) ?_
 refine qq (qv_call (v := (.int .i64 (sizeV b))) (rSize_c (a := b)) rfl rfl) ?_
 refine qq (qv_gtr rfl rfl) ?_
 refine qops_nil ?_
 refine vc_if rfl (fun c1 => ?_) (fun c1 => ?_)
 ·
  refine vc_seq ?_
  refine vc_region ?_
  refine oq (qv_ldm (vs := [(.int .i64 b.l), (.int .i64 b.h), (.int .i64 b.s)]) Try.agg23 rfl (inOc (k := 1) rfl) rfl rfl) ?_
  refine oq (qv_ldm (vs := [(.int .i64 a.l), (.int .i64 a.h), (.int .i64 a.s)]) Try.agg23 rfl (inOc (k := 0) rfl) rfl rfl) ?_
  refine oq (qv_call (v := (.bool (decide (¬ meetF b a = nE)))) (rMeets0_c (a := b) (b := a) hb ha hf he (by omega)) rfl rfl) ?_
  refine oq (qv_as (.bool (decide (¬ meetF b a = nE))) rfl) ?_
  refine ops_nil ?_
  refine vc_ret ?_
  exact rq1 (.bool (decide (¬ meetF a b = nE))) (congrArg Value.bool (decide_eq_decide.2 (show (¬ meetF b a = nE) ↔ (¬ meetF a b = nE) from by first | exact mt_sw ha hb | exact mt_one ha hb (by omega)))) rfl
 ·
  refine vc_skip ?_
  refine vc_seq ?_
  refine vc_seq ?_
  refine vc_region ?_
  refine oq (qv_ldm (vs := [(.int .i64 a.l), (.int .i64 a.h), (.int .i64 a.s)]) Try.agg23 rfl (inOc (k := 0) rfl) rfl rfl) ?_
  refine oq (qv_call (v := (.int .i64 (sizeV a))) (rSize_c (a := a)) rfl rfl) ?_
  refine oq (qv_eql rfl rfl) ?_
  refine ops_nil ?_
  refine vc_if rfl (fun c2 => ?_) (fun c2 => ?_)
  ·
   refine vc_seq ?_
   refine vc_region ?_
   refine oq (qv_ldm (vs := [(.int .i64 b.l), (.int .i64 b.h), (.int .i64 b.s)]) Try.agg23 rfl (inOc (k := 1) rfl) rfl rfl) ?_
   refine oq (qv_fa (off := 0) Try.field23_0 rfl) ?_
   refine oq (qv_ldp (v := (.int .i64 a.l)) Try.plain3 rfl (inOc (k := 0) rfl) rfl) ?_
   refine oq (qv_call (v := (.bool (decide (vld b ∧ mem b a.l)))) (rHas_c (a := b)) rfl rfl) ?_
   refine oq (qv_as (.bool (decide (vld b ∧ mem b a.l))) rfl) ?_
   refine ops_nil ?_
   refine vc_ret ?_
   exact rq1 (.bool (decide (¬ meetF a b = nE))) (congrArg Value.bool (decide_eq_decide.2 (show (vld b ∧ mem b a.l) ↔ (¬ meetF a b = nE) from by first | exact mt_sw ha hb | exact mt_one ha hb (by omega)))) rfl
  ·
   refine vc_skip ?_
   refine vc_seq ?_
   have sa : 1 ≤ a.s := Decidable.byContradiction fun q => by have := sizeF_1 he (show a.s = 0 by omega); omega
   have sb : 1 ≤ b.s := Decidable.byContradiction fun q => by have := sizeF_1 hf (show b.s = 0 by omega); omega
   have las := step_le ha he
   have lbs := step_le hb hf
   have ab := (vld_ne ha he).2.2.1
   have bb2 := (vld_ne hb hf).2.2.1
   refine vc_region_any Try.mixed (by kernel_rfl) ?_
   refine qq (qv_fa (off := 0) Try.field23_0 rfl) ?_
   refine qq (qv_ldp (v := (.int .i64 a.l)) Try.plain3 rfl (inOc (k := 0) rfl) rfl) ?_
   refine qq (qv_fa (off := 0) Try.field23_1 rfl) ?_
   refine qq (qv_ldp (v := (.int .i64 a.h)) Try.plain3 rfl (inOc (k := 0) rfl) rfl) ?_
   refine qq (qv_as (.int .i64 a.l) rfl) ?_
   refine qq (qv_as (.int .i64 a.h) rfl) ?_
   refine qops_nil ?_
   refine vc_seq ?_
   refine vc_seq ?_
   refine vc_region ?_
   refine oq (qv_fa (off := 0) Try.field23_0 rfl) ?_
   refine oq (qv_ldp (v := (.int .i64 b.l)) Try.plain3 rfl (inOc (k := 1) rfl) rfl) ?_
   refine oq (qv_mv (.int .i64 a.l) rfl) ?_
   refine oq (qv_gtr rfl rfl) ?_
   refine ops_nil ?_
   refine vc_if rfl (fun c3 => ?_) (fun c3 => ?_)
   ·
    refine vc_region ?_
    refine oq (qv_fa (off := 0) Try.field23_0 rfl) ?_
    refine oq (qv_ldp (v := (.int .i64 b.l)) Try.plain3 rfl (inOc (k := 1) rfl) rfl) ?_
    refine oq (qv_as (.int .i64 b.l) rfl) ?_
    refine ops_nil ?_
    refine vc_seq ?_
    refine vc_seq ?_
    refine vc_region ?_
    refine oq (qv_fa (off := 0) Try.field23_1 rfl) ?_
    refine oq (qv_ldp (v := (.int .i64 b.h)) Try.plain3 rfl (inOc (k := 1) rfl) rfl) ?_
    refine oq (qv_mv (.int .i64 a.h) rfl) ?_
    refine oq (qv_lss rfl rfl) ?_
    refine ops_nil ?_
    refine vc_if rfl (fun c4 => ?_) (fun c4 => ?_)
    ·
     refine vc_region ?_
     refine oq (qv_fa (off := 0) Try.field23_1 rfl) ?_
     refine oq (qv_ldp (v := (.int .i64 b.h)) Try.plain3 rfl (inOc (k := 1) rfl) rfl) ?_
     refine oq (qv_as (.int .i64 b.h) rfl) ?_
     refine ops_nil ?_
     refine vc_seq ?_
     refine vc_region ?_
     refine oq (qv_fa (off := 0) Try.field23_2 rfl) ?_
     refine oq (qv_ldp (v := (.int .i64 a.s)) Try.plain3 rfl (inOc (k := 0) rfl) rfl) ?_
     refine oq (qv_fa (off := 0) Try.field23_2 rfl) ?_
     refine oq (qv_ldp (v := (.int .i64 b.s)) Try.plain3 rfl (inOc (k := 1) rfl) rfl) ?_
     refine oq (qv_call (v := (.int .i64 ((Int.gcd a.s b.s : Int)))) (rGcd_c (by omega) (by omega)) rfl rfl) ?_
     obtain ⟨g, hg⟩ : ∃ z : Int, z = (Int.gcd a.s b.s : Int) := ⟨_, rfl⟩
     refine oq (qv_as (Value.int .i64 g) (show _ = _ from congrArg (Value.int .i64) hg.symm)) ?_
     refine ops_nil ?_
     refine vc_seq ?_
     refine vc_seq ?_
     have g0 : 0 < g := by have := Int.gcd_pos_of_ne_zero_left b.s (show a.s ≠ 0 by omega); omega
     have aw0_ := aw_nn a.l b.l
     refine vc_region ?_
     refine oq (qv_mv (.int .i64 b.l) rfl) ?_
     refine oq (qv_mv (.int .i64 b.h) rfl) ?_
     refine oq (qv_gtr rfl rfl) ?_
     refine oq (qv_mv (.bool (decide (b.h < b.l))) rfl) ?_
     by_cases g1 : b.h < b.l
     ·
      refine os (want_fn g1 rfl rfl rfl) ?_
      refine os (want_fn g1 rfl rfl rfl) ?_
      refine os (want_fn g1 rfl rfl rfl) ?_
      refine os (want_fn g1 rfl rfl rfl) ?_
      refine os (want_fn g1 rfl rfl rfl) ?_
      refine os (want_fn g1 rfl rfl rfl) ?_
      refine os (want_fn g1 rfl rfl rfl) ?_
      refine os (want_fn g1 rfl rfl rfl) ?_
      refine oq (qv_pick_t g1 rfl (rfl : ev _ _ = (Value.bool true))) ?_
      refine ops_nil ?_
      refine vc_tt rfl ?_
      refine vc_seq ?_
      refine vc_region ?_
      refine oq (qv_as (Value.bool false) rfl) ?_
      refine ops_nil ?_
      refine vc_ret ?_
      exact rq1 (.bool (decide (¬ meetF a b = nE))) (congrArg Value.bool (decide_eq_false (show ¬ (¬ meetF a b = nE) from by first | exact fun z => z (mt_loop (i := i) (lo := b.l) (hi := b.h) ha sa sb hg rfl (by omega) (by omega) hn0 hj (by omega)) | exact fun z => z (mt_far (lo := b.l) (hi := b.h) ha (by omega) (by omega) (by omega)) | exact fun z => z (mt_gcd ha (fun q => by rw [← hg] at q; exact absurd (Int.emod_eq_zero_of_dvd q) (by assumption))))).symm) rfl
     ·
      refine og (qv_fa (off := 0) Try.field23_0 rfl) (want_f g1 rfl rfl rfl) ?_
      refine og (qv_ldp (v := (.int .i64 a.l)) Try.plain3 rfl (inOc (k := 0) rfl) rfl) (want_f g1 rfl rfl rfl) ?_
      refine og (qv_fa (off := 0) Try.field23_0 rfl) (want_f g1 rfl rfl rfl) ?_
      refine og (qv_ldp (v := (.int .i64 b.l)) Try.plain3 rfl (inOc (k := 1) rfl) rfl) (want_f g1 rfl rfl rfl) ?_
      refine og (qv_call (v := (.int .i64 (aw a.l b.l))) (rAway_c (by omega) (by omega)) rfl rfl) (want_f g1 rfl rfl rfl) ?_
      refine og (qv_mv (Value.int .i64 g) rfl) (want_f g1 rfl rfl rfl) ?_
      refine og (qv_rem rfl rfl (by omega) (by omega)) (want_f g1 rfl rfl rfl) ?_
      refine og (qv_neq rfl rfl) (want_f g1 rfl rfl rfl) ?_
      refine oq (qv_pick_f g1 rfl (rfl : ev _ _ = (.bool (decide (((aw a.l b.l) % g) ≠ 0))))) ?_
      refine ops_nil ?_
      refine vc_if rfl (fun c5 => ?_) (fun c5 => ?_)
      ·
       refine vc_seq ?_
       refine vc_region ?_
       refine oq (qv_as (Value.bool false) rfl) ?_
       refine ops_nil ?_
       refine vc_ret ?_
       exact rq1 (.bool (decide (¬ meetF a b = nE))) (congrArg Value.bool (decide_eq_false (show ¬ (¬ meetF a b = nE) from by first | exact fun z => z (mt_loop (i := i) (lo := b.l) (hi := b.h) ha sa sb hg rfl (by omega) (by omega) hn0 hj (by omega)) | exact fun z => z (mt_far (lo := b.l) (hi := b.h) ha (by omega) (by omega) (by omega)) | exact fun z => z (mt_gcd ha (fun q => by rw [← hg] at q; exact absurd (Int.emod_eq_zero_of_dvd q) (by assumption))))).symm) rfl
      ·
       refine vc_skip ?_
       refine vc_seq ?_
       have mc := mt_ceil (a := a) (lo := b.l) sa (by omega)
       have gle := Int.ediv_le_self (a := b.s) g (by omega)
       refine vc_region_any Try.mixed (by kernel_rfl) ?_
       refine qq (qv_fa (off := 0) Try.field23_0 rfl) ?_
       refine qq (qv_ldp (v := (.int .i64 a.l)) Try.plain3 rfl (inOc (k := 0) rfl) rfl) ?_
       refine qq (qv_mv (.int .i64 b.l) rfl) ?_
       refine qq (qv_fa (off := 0) Try.field23_0 rfl) ?_
       refine qq (qv_ldp (v := (.int .i64 a.l)) Try.plain3 rfl (inOc (k := 0) rfl) rfl) ?_
       refine qq (qv_sub rfl rfl (by omega)) ?_
       refine qq (qv_fa (off := 0) Try.field23_2 rfl) ?_
       refine qq (qv_ldp (v := (.int .i64 a.s)) Try.plain3 rfl (inOc (k := 0) rfl) rfl) ?_
       refine qq (qv_add rfl rfl (by omega)) ?_
       refine qq (qv_sub rfl rfl (by omega)) ?_
       refine qq (qv_fa (off := 0) Try.field23_2 rfl) ?_
       refine qq (qv_ldp (v := (.int .i64 a.s)) Try.plain3 rfl (inOc (k := 0) rfl) rfl) ?_
       refine qq (qv_quo rfl rfl (by omega) (by omega)) ?_
       refine qq (qv_fa (off := 0) Try.field23_2 rfl) ?_
       refine qq (qv_ldp (v := (.int .i64 a.s)) Try.plain3 rfl (inOc (k := 0) rfl) rfl) ?_
       refine qq (qv_mul rfl rfl (by omega)) ?_
       refine qq (qv_add rfl rfl (by omega)) ?_
       obtain ⟨n0, hn0⟩ : ∃ z : Int, z = a.l + (((((b.l - a.l) + a.s) - 1) / a.s) * a.s) := ⟨_, rfl⟩
       refine qq (qv_as (Value.int .i64 n0) (show _ = _ from congrArg (Value.int .i64) hn0.symm)) ?_
       refine qops_nil ?_
       refine vc_seq ?_
       refine vc_seq ?_
       refine vc_region ?_
       refine oq (qv_as (Value.int .i64 0) rfl) ?_
       refine ops_nil ?_
       refine vc_block ?_
       refine vc_loop (α := Int × Int) (fun (xx : Int × Int) => [(0, (.agg #[(.int .i64 a.l), (.int .i64 a.h), (.int .i64 a.s)])), (1, (.agg #[(.int .i64 b.l), (.int .i64 b.h), (.int .i64 b.s)])), (2, (Value.pointer (some ⟨b1, 0, none⟩))), (3, (Value.pointer (some ⟨b2, 0, none⟩))), (5, (.int .i64 b.l)), (6, (.int .i64 b.h)), (7, (Value.int .i64 g)), (14, (.bool (decide ((sizeV b) < (sizeV a))))), (20, (.bool (decide ((sizeV a) = 1)))), (32, (.bool (decide (a.l < b.l)))), (38, (.bool (decide (b.h < a.h)))), (58, (.bool (decide (((aw a.l b.l) % g) ≠ 0)))), (8, (Value.int .i64 xx.2)), (9, (Value.int .i64 xx.1))]) (fun (xx : Int × Int) V' σ' => V = V' ∧ [(Arr 23 b1 [(.int .i64 a.l), (.int .i64 a.h), (.int .i64 a.s)]), (Arr 23 b2 [(.int .i64 b.l), (.int .i64 b.h), (.int .i64 b.s)])] = σ' ∧ 0 ≤ xx.1 ∧ xx.2 = n0 + xx.1 * a.s ∧ (∀ j : Int, 0 ≤ j → j < xx.1 → ¬ mem b (n0 + j * a.s)) ∧ n0 ≤ xx.2 ∧ xx.2 ≤ 4398046511104 ∧ xx.1 ≤ b.s) (fun (xx : Int × Int) => (b.s / g - xx.1).toNat) (0, n0) ?_ ?_ ?_
       · exact ⟨rfl, rfl, rfl, rfl, rfl, rfl, rfl, rfl, rfl, rfl, rfl, rfl, rfl, rfl, trivial⟩
       · exact ⟨rfl, rfl, by omega, by simp, fun j a b => by omega, by omega, by omega, by omega⟩
       rintro ⟨i, n⟩ e1 V0l σ0l hI0
       obtain ⟨rfl, rfl, i1, hn, hj, i2, i3, i4⟩ : V = V0l ∧ [(Arr 23 b1 [(.int .i64 a.l), (.int .i64 a.h), (.int .i64 a.s)]), (Arr 23 b2 [(.int .i64 b.l), (.int .i64 b.h), (.int .i64 b.s)])] = σ0l ∧ 0 ≤ i ∧ n = n0 + i * a.s ∧ (∀ j : Int, 0 ≤ j → j < i → ¬ mem b (n0 + j * a.s)) ∧ n0 ≤ n ∧ n ≤ 4398046511104 ∧ i ≤ b.s := hI0
       change VC _ _ _ _ _ _ (upds 96 [(0, (.agg #[(.int .i64 a.l), (.int .i64 a.h), (.int .i64 a.s)])), (1, (.agg #[(.int .i64 b.l), (.int .i64 b.h), (.int .i64 b.s)])), (2, (Value.pointer (some ⟨b1, 0, none⟩))), (3, (Value.pointer (some ⟨b2, 0, none⟩))), (5, (.int .i64 b.l)), (6, (.int .i64 b.h)), (7, (Value.int .i64 g)), (14, (.bool (decide ((sizeV b) < (sizeV a))))), (20, (.bool (decide ((sizeV a) = 1)))), (32, (.bool (decide (a.l < b.l)))), (38, (.bool (decide (b.h < a.h)))), (58, (.bool (decide (((aw a.l b.l) % g) ≠ 0)))), (8, (Value.int .i64 n)), (9, (Value.int .i64 i))] e1) _ _
       refine vc_seq ?_
       refine vc_seq ?_
       refine vc_region ?_
       refine oq (qv_mv (Value.int .i64 i) rfl) ?_
       refine oq (qv_fa (off := 0) Try.field23_2 rfl) ?_
       refine oq (qv_ldp (v := (.int .i64 b.s)) Try.plain3 rfl (inOc (k := 1) rfl) rfl) ?_
       refine oq (qv_mv (Value.int .i64 g) rfl) ?_
       refine oq (qv_quo rfl rfl (by omega) (by omega)) ?_
       refine oq (qv_lss rfl rfl) ?_
       refine oq (qv_mv (.bool (decide (i < (b.s / g)))) rfl) ?_
       by_cases g2 : i < (b.s / g)
       ·
        refine og (qv_mv (Value.int .i64 n) rfl) (want_t g2 rfl rfl rfl) ?_
        refine og (qv_mv (.int .i64 b.h) rfl) (want_t g2 rfl rfl rfl) ?_
        refine og (qv_leq rfl rfl) (want_t g2 rfl rfl rfl) ?_
        refine oq (qv_pick_t g2 rfl (rfl : ev _ _ = (.bool (decide (n ≤ b.h))))) ?_
        refine ops_nil ?_
        refine vc_if rfl (fun c6 => ?_) (fun c6 => ?_)
        ·
         refine vc_skip ?_
         refine vc_seq ?_
         refine vc_block ?_
         refine vc_seq ?_
         refine vc_seq ?_
         refine vc_region ?_
         refine oq (qv_ldm (vs := [(.int .i64 b.l), (.int .i64 b.h), (.int .i64 b.s)]) Try.agg23 rfl (inOc (k := 1) rfl) rfl rfl) ?_
         refine oq (qv_mv (Value.int .i64 n) rfl) ?_
         refine oq (qv_call (v := (.bool (decide (vld b ∧ mem b n)))) (rHas_c (a := b)) rfl rfl) ?_
         refine ops_nil ?_
         refine vc_if rfl (fun c7 => ?_) (fun c7 => ?_)
         ·
          refine vc_seq ?_
          have hma : mem a n := mt_mem (lo := b.l) sa (by omega) (by rw [← hn0]; exact hn) (by omega) (by omega)
          refine vc_region ?_
          refine oq (qv_as (Value.bool true) rfl) ?_
          refine ops_nil ?_
          refine vc_ret ?_
          refine blockQ_ret ?_
          refine blockQ_ret ?_
          exact rq1 (.bool (decide (¬ meetF a b = nE))) (congrArg Value.bool (decide_eq_true (show (¬ meetF a b = nE) from by exact mt_yes ha hb hma (And.right (by assumption)))).symm) rfl
         ·
          refine vc_skip ?_
          refine vc_region ?_
          refine oq (qv_mv (Value.int .i64 n) rfl) ?_
          refine oq (qv_fa (off := 0) Try.field23_2 rfl) ?_
          refine oq (qv_ldp (v := (.int .i64 a.s)) Try.plain3 rfl (inOc (k := 0) rfl) rfl) ?_
          refine oq (qv_add rfl rfl (by omega)) ?_
          refine oq (qv_as (.int .i64 (n + a.s)) rfl) ?_
          refine ops_nil ?_
          refine vc_region ?_
          refine oq (qv_mv (Value.int .i64 i) rfl) ?_
          refine oq (qv_add rfl rfl (by omega)) ?_
          refine oq (qv_as (.int .i64 (i + 1)) rfl) ?_
          refine ops_nil ?_
          refine ⟨(i + 1, n + a.s), ⟨rfl, rfl, rfl, rfl, rfl, rfl, rfl, rfl, rfl, rfl, rfl, rfl, (congrArg (Value.int .i64) (show (n + a.s) = ((n + a.s)) from by rfl)), (congrArg (Value.int .i64) (show (i + 1) = ((i + 1)) from by rfl)), trivial⟩, ⟨rfl, rfl, by omega, by rw [Int.add_mul]; omega, all_snoc hj (fun m => absurd (show vld b ∧ mem b n from ⟨hb, by rw [hn]; exact m⟩) (by assumption)), by omega, by omega, by omega⟩, by omega⟩
        ·
         refine vc_exit ?_
         refine blockQ_hit ?_
         refine vc_seq ?_
         refine vc_region ?_
         refine oq (qv_as (Value.bool false) rfl) ?_
         refine ops_nil ?_
         refine vc_ret ?_
         exact rq1 (.bool (decide (¬ meetF a b = nE))) (congrArg Value.bool (decide_eq_false (show ¬ (¬ meetF a b = nE) from by first | exact fun z => z (mt_loop (i := i) (lo := b.l) (hi := b.h) ha sa sb hg rfl (by omega) (by omega) hn0 hj (by omega)) | exact fun z => z (mt_far (lo := b.l) (hi := b.h) ha (by omega) (by omega) (by omega)) | exact fun z => z (mt_gcd ha (fun q => by rw [← hg] at q; exact absurd (Int.emod_eq_zero_of_dvd q) (by assumption))))).symm) rfl
       ·
        refine os (want_tn g2 rfl rfl rfl) ?_
        refine os (want_tn g2 rfl rfl rfl) ?_
        refine os (want_tn g2 rfl rfl rfl) ?_
        refine oq (qv_pick_f g2 rfl (rfl : ev _ _ = (Value.bool false))) ?_
        refine ops_nil ?_
        refine vc_ff rfl ?_
        refine vc_exit ?_
        refine blockQ_hit ?_
        refine vc_seq ?_
        refine vc_region ?_
        refine oq (qv_as (Value.bool false) rfl) ?_
        refine ops_nil ?_
        refine vc_ret ?_
        exact rq1 (.bool (decide (¬ meetF a b = nE))) (congrArg Value.bool (decide_eq_false (show ¬ (¬ meetF a b = nE) from by first | exact fun z => z (mt_loop (i := i) (lo := b.l) (hi := b.h) ha sa sb hg rfl (by omega) (by omega) hn0 hj (by omega)) | exact fun z => z (mt_far (lo := b.l) (hi := b.h) ha (by omega) (by omega) (by omega)) | exact fun z => z (mt_gcd ha (fun q => by rw [← hg] at q; exact absurd (Int.emod_eq_zero_of_dvd q) (by assumption))))).symm) rfl
    ·
     refine vc_skip ?_
     refine vc_seq ?_
     refine vc_region ?_
     refine oq (qv_fa (off := 0) Try.field23_2 rfl) ?_
     refine oq (qv_ldp (v := (.int .i64 a.s)) Try.plain3 rfl (inOc (k := 0) rfl) rfl) ?_
     refine oq (qv_fa (off := 0) Try.field23_2 rfl) ?_
     refine oq (qv_ldp (v := (.int .i64 b.s)) Try.plain3 rfl (inOc (k := 1) rfl) rfl) ?_
     refine oq (qv_call (v := (.int .i64 ((Int.gcd a.s b.s : Int)))) (rGcd_c (by omega) (by omega)) rfl rfl) ?_
     obtain ⟨g, hg⟩ : ∃ z : Int, z = (Int.gcd a.s b.s : Int) := ⟨_, rfl⟩
     refine oq (qv_as (Value.int .i64 g) (show _ = _ from congrArg (Value.int .i64) hg.symm)) ?_
     refine ops_nil ?_
     refine vc_seq ?_
     refine vc_seq ?_
     have g0 : 0 < g := by have := Int.gcd_pos_of_ne_zero_left b.s (show a.s ≠ 0 by omega); omega
     have aw0_ := aw_nn a.l b.l
     refine vc_region ?_
     refine oq (qv_mv (.int .i64 b.l) rfl) ?_
     refine oq (qv_mv (.int .i64 a.h) rfl) ?_
     refine oq (qv_gtr rfl rfl) ?_
     refine oq (qv_mv (.bool (decide (a.h < b.l))) rfl) ?_
     by_cases g3 : a.h < b.l
     ·
      refine os (want_fn g3 rfl rfl rfl) ?_
      refine os (want_fn g3 rfl rfl rfl) ?_
      refine os (want_fn g3 rfl rfl rfl) ?_
      refine os (want_fn g3 rfl rfl rfl) ?_
      refine os (want_fn g3 rfl rfl rfl) ?_
      refine os (want_fn g3 rfl rfl rfl) ?_
      refine os (want_fn g3 rfl rfl rfl) ?_
      refine os (want_fn g3 rfl rfl rfl) ?_
      refine oq (qv_pick_t g3 rfl (rfl : ev _ _ = (Value.bool true))) ?_
      refine ops_nil ?_
      refine vc_tt rfl ?_
      refine vc_seq ?_
      refine vc_region ?_
      refine oq (qv_as (Value.bool false) rfl) ?_
      refine ops_nil ?_
      refine vc_ret ?_
      exact rq1 (.bool (decide (¬ meetF a b = nE))) (congrArg Value.bool (decide_eq_false (show ¬ (¬ meetF a b = nE) from by first | exact fun z => z (mt_loop (i := i) (lo := b.l) (hi := a.h) ha sa sb hg rfl (by omega) (by omega) hn0 hj (by omega)) | exact fun z => z (mt_far (lo := b.l) (hi := a.h) ha (by omega) (by omega) (by omega)) | exact fun z => z (mt_gcd ha (fun q => by rw [← hg] at q; exact absurd (Int.emod_eq_zero_of_dvd q) (by assumption))))).symm) rfl
     ·
      refine og (qv_fa (off := 0) Try.field23_0 rfl) (want_f g3 rfl rfl rfl) ?_
      refine og (qv_ldp (v := (.int .i64 a.l)) Try.plain3 rfl (inOc (k := 0) rfl) rfl) (want_f g3 rfl rfl rfl) ?_
      refine og (qv_fa (off := 0) Try.field23_0 rfl) (want_f g3 rfl rfl rfl) ?_
      refine og (qv_ldp (v := (.int .i64 b.l)) Try.plain3 rfl (inOc (k := 1) rfl) rfl) (want_f g3 rfl rfl rfl) ?_
      refine og (qv_call (v := (.int .i64 (aw a.l b.l))) (rAway_c (by omega) (by omega)) rfl rfl) (want_f g3 rfl rfl rfl) ?_
      refine og (qv_mv (Value.int .i64 g) rfl) (want_f g3 rfl rfl rfl) ?_
      refine og (qv_rem rfl rfl (by omega) (by omega)) (want_f g3 rfl rfl rfl) ?_
      refine og (qv_neq rfl rfl) (want_f g3 rfl rfl rfl) ?_
      refine oq (qv_pick_f g3 rfl (rfl : ev _ _ = (.bool (decide (((aw a.l b.l) % g) ≠ 0))))) ?_
      refine ops_nil ?_
      refine vc_if rfl (fun c8 => ?_) (fun c8 => ?_)
      ·
       refine vc_seq ?_
       refine vc_region ?_
       refine oq (qv_as (Value.bool false) rfl) ?_
       refine ops_nil ?_
       refine vc_ret ?_
       exact rq1 (.bool (decide (¬ meetF a b = nE))) (congrArg Value.bool (decide_eq_false (show ¬ (¬ meetF a b = nE) from by first | exact fun z => z (mt_loop (i := i) (lo := b.l) (hi := a.h) ha sa sb hg rfl (by omega) (by omega) hn0 hj (by omega)) | exact fun z => z (mt_far (lo := b.l) (hi := a.h) ha (by omega) (by omega) (by omega)) | exact fun z => z (mt_gcd ha (fun q => by rw [← hg] at q; exact absurd (Int.emod_eq_zero_of_dvd q) (by assumption))))).symm) rfl
      ·
       refine vc_skip ?_
       refine vc_seq ?_
       have mc := mt_ceil (a := a) (lo := b.l) sa (by omega)
       have gle := Int.ediv_le_self (a := b.s) g (by omega)
       refine vc_region_any Try.mixed (by kernel_rfl) ?_
       refine qq (qv_fa (off := 0) Try.field23_0 rfl) ?_
       refine qq (qv_ldp (v := (.int .i64 a.l)) Try.plain3 rfl (inOc (k := 0) rfl) rfl) ?_
       refine qq (qv_mv (.int .i64 b.l) rfl) ?_
       refine qq (qv_fa (off := 0) Try.field23_0 rfl) ?_
       refine qq (qv_ldp (v := (.int .i64 a.l)) Try.plain3 rfl (inOc (k := 0) rfl) rfl) ?_
       refine qq (qv_sub rfl rfl (by omega)) ?_
       refine qq (qv_fa (off := 0) Try.field23_2 rfl) ?_
       refine qq (qv_ldp (v := (.int .i64 a.s)) Try.plain3 rfl (inOc (k := 0) rfl) rfl) ?_
       refine qq (qv_add rfl rfl (by omega)) ?_
       refine qq (qv_sub rfl rfl (by omega)) ?_
       refine qq (qv_fa (off := 0) Try.field23_2 rfl) ?_
       refine qq (qv_ldp (v := (.int .i64 a.s)) Try.plain3 rfl (inOc (k := 0) rfl) rfl) ?_
       refine qq (qv_quo rfl rfl (by omega) (by omega)) ?_
       refine qq (qv_fa (off := 0) Try.field23_2 rfl) ?_
       refine qq (qv_ldp (v := (.int .i64 a.s)) Try.plain3 rfl (inOc (k := 0) rfl) rfl) ?_
       refine qq (qv_mul rfl rfl (by omega)) ?_
       refine qq (qv_add rfl rfl (by omega)) ?_
       obtain ⟨n0, hn0⟩ : ∃ z : Int, z = a.l + (((((b.l - a.l) + a.s) - 1) / a.s) * a.s) := ⟨_, rfl⟩
       refine qq (qv_as (Value.int .i64 n0) (show _ = _ from congrArg (Value.int .i64) hn0.symm)) ?_
       refine qops_nil ?_
       refine vc_seq ?_
       refine vc_seq ?_
       refine vc_region ?_
       refine oq (qv_as (Value.int .i64 0) rfl) ?_
       refine ops_nil ?_
       refine vc_block ?_
       refine vc_loop (α := Int × Int) (fun (xx : Int × Int) => [(0, (.agg #[(.int .i64 a.l), (.int .i64 a.h), (.int .i64 a.s)])), (1, (.agg #[(.int .i64 b.l), (.int .i64 b.h), (.int .i64 b.s)])), (2, (Value.pointer (some ⟨b1, 0, none⟩))), (3, (Value.pointer (some ⟨b2, 0, none⟩))), (5, (.int .i64 b.l)), (6, (.int .i64 a.h)), (7, (Value.int .i64 g)), (14, (.bool (decide ((sizeV b) < (sizeV a))))), (20, (.bool (decide ((sizeV a) = 1)))), (32, (.bool (decide (a.l < b.l)))), (38, (.bool (decide (b.h < a.h)))), (58, (.bool (decide (((aw a.l b.l) % g) ≠ 0)))), (8, (Value.int .i64 xx.2)), (9, (Value.int .i64 xx.1))]) (fun (xx : Int × Int) V' σ' => V = V' ∧ [(Arr 23 b1 [(.int .i64 a.l), (.int .i64 a.h), (.int .i64 a.s)]), (Arr 23 b2 [(.int .i64 b.l), (.int .i64 b.h), (.int .i64 b.s)])] = σ' ∧ 0 ≤ xx.1 ∧ xx.2 = n0 + xx.1 * a.s ∧ (∀ j : Int, 0 ≤ j → j < xx.1 → ¬ mem b (n0 + j * a.s)) ∧ n0 ≤ xx.2 ∧ xx.2 ≤ 4398046511104 ∧ xx.1 ≤ b.s) (fun (xx : Int × Int) => (b.s / g - xx.1).toNat) (0, n0) ?_ ?_ ?_
       · exact ⟨rfl, rfl, rfl, rfl, rfl, rfl, rfl, rfl, rfl, rfl, rfl, rfl, rfl, rfl, trivial⟩
       · exact ⟨rfl, rfl, by omega, by simp, fun j a b => by omega, by omega, by omega, by omega⟩
       rintro ⟨i, n⟩ e2 V0l σ0l hI0
       obtain ⟨rfl, rfl, i5, hn, hj, i6, i7, i8⟩ : V = V0l ∧ [(Arr 23 b1 [(.int .i64 a.l), (.int .i64 a.h), (.int .i64 a.s)]), (Arr 23 b2 [(.int .i64 b.l), (.int .i64 b.h), (.int .i64 b.s)])] = σ0l ∧ 0 ≤ i ∧ n = n0 + i * a.s ∧ (∀ j : Int, 0 ≤ j → j < i → ¬ mem b (n0 + j * a.s)) ∧ n0 ≤ n ∧ n ≤ 4398046511104 ∧ i ≤ b.s := hI0
       change VC _ _ _ _ _ _ (upds 96 [(0, (.agg #[(.int .i64 a.l), (.int .i64 a.h), (.int .i64 a.s)])), (1, (.agg #[(.int .i64 b.l), (.int .i64 b.h), (.int .i64 b.s)])), (2, (Value.pointer (some ⟨b1, 0, none⟩))), (3, (Value.pointer (some ⟨b2, 0, none⟩))), (5, (.int .i64 b.l)), (6, (.int .i64 a.h)), (7, (Value.int .i64 g)), (14, (.bool (decide ((sizeV b) < (sizeV a))))), (20, (.bool (decide ((sizeV a) = 1)))), (32, (.bool (decide (a.l < b.l)))), (38, (.bool (decide (b.h < a.h)))), (58, (.bool (decide (((aw a.l b.l) % g) ≠ 0)))), (8, (Value.int .i64 n)), (9, (Value.int .i64 i))] e2) _ _
       refine vc_seq ?_
       refine vc_seq ?_
       refine vc_region ?_
       refine oq (qv_mv (Value.int .i64 i) rfl) ?_
       refine oq (qv_fa (off := 0) Try.field23_2 rfl) ?_
       refine oq (qv_ldp (v := (.int .i64 b.s)) Try.plain3 rfl (inOc (k := 1) rfl) rfl) ?_
       refine oq (qv_mv (Value.int .i64 g) rfl) ?_
       refine oq (qv_quo rfl rfl (by omega) (by omega)) ?_
       refine oq (qv_lss rfl rfl) ?_
       refine oq (qv_mv (.bool (decide (i < (b.s / g)))) rfl) ?_
       by_cases g4 : i < (b.s / g)
       ·
        refine og (qv_mv (Value.int .i64 n) rfl) (want_t g4 rfl rfl rfl) ?_
        refine og (qv_mv (.int .i64 a.h) rfl) (want_t g4 rfl rfl rfl) ?_
        refine og (qv_leq rfl rfl) (want_t g4 rfl rfl rfl) ?_
        refine oq (qv_pick_t g4 rfl (rfl : ev _ _ = (.bool (decide (n ≤ a.h))))) ?_
        refine ops_nil ?_
        refine vc_if rfl (fun c9 => ?_) (fun c9 => ?_)
        ·
         refine vc_skip ?_
         refine vc_seq ?_
         refine vc_block ?_
         refine vc_seq ?_
         refine vc_seq ?_
         refine vc_region ?_
         refine oq (qv_ldm (vs := [(.int .i64 b.l), (.int .i64 b.h), (.int .i64 b.s)]) Try.agg23 rfl (inOc (k := 1) rfl) rfl rfl) ?_
         refine oq (qv_mv (Value.int .i64 n) rfl) ?_
         refine oq (qv_call (v := (.bool (decide (vld b ∧ mem b n)))) (rHas_c (a := b)) rfl rfl) ?_
         refine ops_nil ?_
         refine vc_if rfl (fun c10 => ?_) (fun c10 => ?_)
         ·
          refine vc_seq ?_
          have hma : mem a n := mt_mem (lo := b.l) sa (by omega) (by rw [← hn0]; exact hn) (by omega) (by omega)
          refine vc_region ?_
          refine oq (qv_as (Value.bool true) rfl) ?_
          refine ops_nil ?_
          refine vc_ret ?_
          refine blockQ_ret ?_
          refine blockQ_ret ?_
          exact rq1 (.bool (decide (¬ meetF a b = nE))) (congrArg Value.bool (decide_eq_true (show (¬ meetF a b = nE) from by exact mt_yes ha hb hma (And.right (by assumption)))).symm) rfl
         ·
          refine vc_skip ?_
          refine vc_region ?_
          refine oq (qv_mv (Value.int .i64 n) rfl) ?_
          refine oq (qv_fa (off := 0) Try.field23_2 rfl) ?_
          refine oq (qv_ldp (v := (.int .i64 a.s)) Try.plain3 rfl (inOc (k := 0) rfl) rfl) ?_
          refine oq (qv_add rfl rfl (by omega)) ?_
          refine oq (qv_as (.int .i64 (n + a.s)) rfl) ?_
          refine ops_nil ?_
          refine vc_region ?_
          refine oq (qv_mv (Value.int .i64 i) rfl) ?_
          refine oq (qv_add rfl rfl (by omega)) ?_
          refine oq (qv_as (.int .i64 (i + 1)) rfl) ?_
          refine ops_nil ?_
          refine ⟨(i + 1, n + a.s), ⟨rfl, rfl, rfl, rfl, rfl, rfl, rfl, rfl, rfl, rfl, rfl, rfl, (congrArg (Value.int .i64) (show (n + a.s) = ((n + a.s)) from by rfl)), (congrArg (Value.int .i64) (show (i + 1) = ((i + 1)) from by rfl)), trivial⟩, ⟨rfl, rfl, by omega, by rw [Int.add_mul]; omega, all_snoc hj (fun m => absurd (show vld b ∧ mem b n from ⟨hb, by rw [hn]; exact m⟩) (by assumption)), by omega, by omega, by omega⟩, by omega⟩
        ·
         refine vc_exit ?_
         refine blockQ_hit ?_
         refine vc_seq ?_
         refine vc_region ?_
         refine oq (qv_as (Value.bool false) rfl) ?_
         refine ops_nil ?_
         refine vc_ret ?_
         exact rq1 (.bool (decide (¬ meetF a b = nE))) (congrArg Value.bool (decide_eq_false (show ¬ (¬ meetF a b = nE) from by first | exact fun z => z (mt_loop (i := i) (lo := b.l) (hi := a.h) ha sa sb hg rfl (by omega) (by omega) hn0 hj (by omega)) | exact fun z => z (mt_far (lo := b.l) (hi := a.h) ha (by omega) (by omega) (by omega)) | exact fun z => z (mt_gcd ha (fun q => by rw [← hg] at q; exact absurd (Int.emod_eq_zero_of_dvd q) (by assumption))))).symm) rfl
       ·
        refine os (want_tn g4 rfl rfl rfl) ?_
        refine os (want_tn g4 rfl rfl rfl) ?_
        refine os (want_tn g4 rfl rfl rfl) ?_
        refine oq (qv_pick_f g4 rfl (rfl : ev _ _ = (Value.bool false))) ?_
        refine ops_nil ?_
        refine vc_ff rfl ?_
        refine vc_exit ?_
        refine blockQ_hit ?_
        refine vc_seq ?_
        refine vc_region ?_
        refine oq (qv_as (Value.bool false) rfl) ?_
        refine ops_nil ?_
        refine vc_ret ?_
        exact rq1 (.bool (decide (¬ meetF a b = nE))) (congrArg Value.bool (decide_eq_false (show ¬ (¬ meetF a b = nE) from by first | exact fun z => z (mt_loop (i := i) (lo := b.l) (hi := a.h) ha sa sb hg rfl (by omega) (by omega) hn0 hj (by omega)) | exact fun z => z (mt_far (lo := b.l) (hi := a.h) ha (by omega) (by omega) (by omega)) | exact fun z => z (mt_gcd ha (fun q => by rw [← hg] at q; exact absurd (Int.emod_eq_zero_of_dvd q) (by assumption))))).symm) rfl
   ·
    refine vc_skip ?_
    refine vc_seq ?_
    refine vc_seq ?_
    refine vc_region ?_
    refine oq (qv_fa (off := 0) Try.field23_1 rfl) ?_
    refine oq (qv_ldp (v := (.int .i64 b.h)) Try.plain3 rfl (inOc (k := 1) rfl) rfl) ?_
    refine oq (qv_mv (.int .i64 a.h) rfl) ?_
    refine oq (qv_lss rfl rfl) ?_
    refine ops_nil ?_
    refine vc_if rfl (fun c11 => ?_) (fun c11 => ?_)
    ·
     refine vc_region ?_
     refine oq (qv_fa (off := 0) Try.field23_1 rfl) ?_
     refine oq (qv_ldp (v := (.int .i64 b.h)) Try.plain3 rfl (inOc (k := 1) rfl) rfl) ?_
     refine oq (qv_as (.int .i64 b.h) rfl) ?_
     refine ops_nil ?_
     refine vc_seq ?_
     refine vc_region ?_
     refine oq (qv_fa (off := 0) Try.field23_2 rfl) ?_
     refine oq (qv_ldp (v := (.int .i64 a.s)) Try.plain3 rfl (inOc (k := 0) rfl) rfl) ?_
     refine oq (qv_fa (off := 0) Try.field23_2 rfl) ?_
     refine oq (qv_ldp (v := (.int .i64 b.s)) Try.plain3 rfl (inOc (k := 1) rfl) rfl) ?_
     refine oq (qv_call (v := (.int .i64 ((Int.gcd a.s b.s : Int)))) (rGcd_c (by omega) (by omega)) rfl rfl) ?_
     obtain ⟨g, hg⟩ : ∃ z : Int, z = (Int.gcd a.s b.s : Int) := ⟨_, rfl⟩
     refine oq (qv_as (Value.int .i64 g) (show _ = _ from congrArg (Value.int .i64) hg.symm)) ?_
     refine ops_nil ?_
     refine vc_seq ?_
     refine vc_seq ?_
     have g0 : 0 < g := by have := Int.gcd_pos_of_ne_zero_left b.s (show a.s ≠ 0 by omega); omega
     have aw0_ := aw_nn a.l b.l
     refine vc_region ?_
     refine oq (qv_mv (.int .i64 a.l) rfl) ?_
     refine oq (qv_mv (.int .i64 b.h) rfl) ?_
     refine oq (qv_gtr rfl rfl) ?_
     refine oq (qv_mv (.bool (decide (b.h < a.l))) rfl) ?_
     by_cases g5 : b.h < a.l
     ·
      refine os (want_fn g5 rfl rfl rfl) ?_
      refine os (want_fn g5 rfl rfl rfl) ?_
      refine os (want_fn g5 rfl rfl rfl) ?_
      refine os (want_fn g5 rfl rfl rfl) ?_
      refine os (want_fn g5 rfl rfl rfl) ?_
      refine os (want_fn g5 rfl rfl rfl) ?_
      refine os (want_fn g5 rfl rfl rfl) ?_
      refine os (want_fn g5 rfl rfl rfl) ?_
      refine oq (qv_pick_t g5 rfl (rfl : ev _ _ = (Value.bool true))) ?_
      refine ops_nil ?_
      refine vc_tt rfl ?_
      refine vc_seq ?_
      refine vc_region ?_
      refine oq (qv_as (Value.bool false) rfl) ?_
      refine ops_nil ?_
      refine vc_ret ?_
      exact rq1 (.bool (decide (¬ meetF a b = nE))) (congrArg Value.bool (decide_eq_false (show ¬ (¬ meetF a b = nE) from by first | exact fun z => z (mt_loop (i := i) (lo := a.l) (hi := b.h) ha sa sb hg rfl (by omega) (by omega) hn0 hj (by omega)) | exact fun z => z (mt_far (lo := a.l) (hi := b.h) ha (by omega) (by omega) (by omega)) | exact fun z => z (mt_gcd ha (fun q => by rw [← hg] at q; exact absurd (Int.emod_eq_zero_of_dvd q) (by assumption))))).symm) rfl
     ·
      refine og (qv_fa (off := 0) Try.field23_0 rfl) (want_f g5 rfl rfl rfl) ?_
      refine og (qv_ldp (v := (.int .i64 a.l)) Try.plain3 rfl (inOc (k := 0) rfl) rfl) (want_f g5 rfl rfl rfl) ?_
      refine og (qv_fa (off := 0) Try.field23_0 rfl) (want_f g5 rfl rfl rfl) ?_
      refine og (qv_ldp (v := (.int .i64 b.l)) Try.plain3 rfl (inOc (k := 1) rfl) rfl) (want_f g5 rfl rfl rfl) ?_
      refine og (qv_call (v := (.int .i64 (aw a.l b.l))) (rAway_c (by omega) (by omega)) rfl rfl) (want_f g5 rfl rfl rfl) ?_
      refine og (qv_mv (Value.int .i64 g) rfl) (want_f g5 rfl rfl rfl) ?_
      refine og (qv_rem rfl rfl (by omega) (by omega)) (want_f g5 rfl rfl rfl) ?_
      refine og (qv_neq rfl rfl) (want_f g5 rfl rfl rfl) ?_
      refine oq (qv_pick_f g5 rfl (rfl : ev _ _ = (.bool (decide (((aw a.l b.l) % g) ≠ 0))))) ?_
      refine ops_nil ?_
      refine vc_if rfl (fun c12 => ?_) (fun c12 => ?_)
      ·
       refine vc_seq ?_
       refine vc_region ?_
       refine oq (qv_as (Value.bool false) rfl) ?_
       refine ops_nil ?_
       refine vc_ret ?_
       exact rq1 (.bool (decide (¬ meetF a b = nE))) (congrArg Value.bool (decide_eq_false (show ¬ (¬ meetF a b = nE) from by first | exact fun z => z (mt_loop (i := i) (lo := a.l) (hi := b.h) ha sa sb hg rfl (by omega) (by omega) hn0 hj (by omega)) | exact fun z => z (mt_far (lo := a.l) (hi := b.h) ha (by omega) (by omega) (by omega)) | exact fun z => z (mt_gcd ha (fun q => by rw [← hg] at q; exact absurd (Int.emod_eq_zero_of_dvd q) (by assumption))))).symm) rfl
      ·
       refine vc_skip ?_
       refine vc_seq ?_
       have mc := mt_ceil (a := a) (lo := a.l) sa (by omega)
       have gle := Int.ediv_le_self (a := b.s) g (by omega)
       refine vc_region_any Try.mixed (by kernel_rfl) ?_
       refine qq (qv_fa (off := 0) Try.field23_0 rfl) ?_
       refine qq (qv_ldp (v := (.int .i64 a.l)) Try.plain3 rfl (inOc (k := 0) rfl) rfl) ?_
       refine qq (qv_mv (.int .i64 a.l) rfl) ?_
       refine qq (qv_fa (off := 0) Try.field23_0 rfl) ?_
       refine qq (qv_ldp (v := (.int .i64 a.l)) Try.plain3 rfl (inOc (k := 0) rfl) rfl) ?_
       refine qq (qv_sub rfl rfl (by omega)) ?_
       refine qq (qv_fa (off := 0) Try.field23_2 rfl) ?_
       refine qq (qv_ldp (v := (.int .i64 a.s)) Try.plain3 rfl (inOc (k := 0) rfl) rfl) ?_
       refine qq (qv_add rfl rfl (by omega)) ?_
       refine qq (qv_sub rfl rfl (by omega)) ?_
       refine qq (qv_fa (off := 0) Try.field23_2 rfl) ?_
       refine qq (qv_ldp (v := (.int .i64 a.s)) Try.plain3 rfl (inOc (k := 0) rfl) rfl) ?_
       refine qq (qv_quo rfl rfl (by omega) (by omega)) ?_
       refine qq (qv_fa (off := 0) Try.field23_2 rfl) ?_
       refine qq (qv_ldp (v := (.int .i64 a.s)) Try.plain3 rfl (inOc (k := 0) rfl) rfl) ?_
       refine qq (qv_mul rfl rfl (by omega)) ?_
       refine qq (qv_add rfl rfl (by omega)) ?_
       obtain ⟨n0, hn0⟩ : ∃ z : Int, z = a.l + (((((a.l - a.l) + a.s) - 1) / a.s) * a.s) := ⟨_, rfl⟩
       refine qq (qv_as (Value.int .i64 n0) (show _ = _ from congrArg (Value.int .i64) hn0.symm)) ?_
       refine qops_nil ?_
       refine vc_seq ?_
       refine vc_seq ?_
       refine vc_region ?_
       refine oq (qv_as (Value.int .i64 0) rfl) ?_
       refine ops_nil ?_
       refine vc_block ?_
       refine vc_loop (α := Int × Int) (fun (xx : Int × Int) => [(0, (.agg #[(.int .i64 a.l), (.int .i64 a.h), (.int .i64 a.s)])), (1, (.agg #[(.int .i64 b.l), (.int .i64 b.h), (.int .i64 b.s)])), (2, (Value.pointer (some ⟨b1, 0, none⟩))), (3, (Value.pointer (some ⟨b2, 0, none⟩))), (5, (.int .i64 a.l)), (6, (.int .i64 b.h)), (7, (Value.int .i64 g)), (14, (.bool (decide ((sizeV b) < (sizeV a))))), (20, (.bool (decide ((sizeV a) = 1)))), (32, (.bool (decide (a.l < b.l)))), (38, (.bool (decide (b.h < a.h)))), (58, (.bool (decide (((aw a.l b.l) % g) ≠ 0)))), (8, (Value.int .i64 xx.2)), (9, (Value.int .i64 xx.1))]) (fun (xx : Int × Int) V' σ' => V = V' ∧ [(Arr 23 b1 [(.int .i64 a.l), (.int .i64 a.h), (.int .i64 a.s)]), (Arr 23 b2 [(.int .i64 b.l), (.int .i64 b.h), (.int .i64 b.s)])] = σ' ∧ 0 ≤ xx.1 ∧ xx.2 = n0 + xx.1 * a.s ∧ (∀ j : Int, 0 ≤ j → j < xx.1 → ¬ mem b (n0 + j * a.s)) ∧ n0 ≤ xx.2 ∧ xx.2 ≤ 4398046511104 ∧ xx.1 ≤ b.s) (fun (xx : Int × Int) => (b.s / g - xx.1).toNat) (0, n0) ?_ ?_ ?_
       · exact ⟨rfl, rfl, rfl, rfl, rfl, rfl, rfl, rfl, rfl, rfl, rfl, rfl, rfl, rfl, trivial⟩
       · exact ⟨rfl, rfl, by omega, by simp, fun j a b => by omega, by omega, by omega, by omega⟩
       rintro ⟨i, n⟩ e3 V0l σ0l hI0
       obtain ⟨rfl, rfl, i9, hn, hj, i10, i11, i12⟩ : V = V0l ∧ [(Arr 23 b1 [(.int .i64 a.l), (.int .i64 a.h), (.int .i64 a.s)]), (Arr 23 b2 [(.int .i64 b.l), (.int .i64 b.h), (.int .i64 b.s)])] = σ0l ∧ 0 ≤ i ∧ n = n0 + i * a.s ∧ (∀ j : Int, 0 ≤ j → j < i → ¬ mem b (n0 + j * a.s)) ∧ n0 ≤ n ∧ n ≤ 4398046511104 ∧ i ≤ b.s := hI0
       change VC _ _ _ _ _ _ (upds 96 [(0, (.agg #[(.int .i64 a.l), (.int .i64 a.h), (.int .i64 a.s)])), (1, (.agg #[(.int .i64 b.l), (.int .i64 b.h), (.int .i64 b.s)])), (2, (Value.pointer (some ⟨b1, 0, none⟩))), (3, (Value.pointer (some ⟨b2, 0, none⟩))), (5, (.int .i64 a.l)), (6, (.int .i64 b.h)), (7, (Value.int .i64 g)), (14, (.bool (decide ((sizeV b) < (sizeV a))))), (20, (.bool (decide ((sizeV a) = 1)))), (32, (.bool (decide (a.l < b.l)))), (38, (.bool (decide (b.h < a.h)))), (58, (.bool (decide (((aw a.l b.l) % g) ≠ 0)))), (8, (Value.int .i64 n)), (9, (Value.int .i64 i))] e3) _ _
       refine vc_seq ?_
       refine vc_seq ?_
       refine vc_region ?_
       refine oq (qv_mv (Value.int .i64 i) rfl) ?_
       refine oq (qv_fa (off := 0) Try.field23_2 rfl) ?_
       refine oq (qv_ldp (v := (.int .i64 b.s)) Try.plain3 rfl (inOc (k := 1) rfl) rfl) ?_
       refine oq (qv_mv (Value.int .i64 g) rfl) ?_
       refine oq (qv_quo rfl rfl (by omega) (by omega)) ?_
       refine oq (qv_lss rfl rfl) ?_
       refine oq (qv_mv (.bool (decide (i < (b.s / g)))) rfl) ?_
       by_cases g6 : i < (b.s / g)
       ·
        refine og (qv_mv (Value.int .i64 n) rfl) (want_t g6 rfl rfl rfl) ?_
        refine og (qv_mv (.int .i64 b.h) rfl) (want_t g6 rfl rfl rfl) ?_
        refine og (qv_leq rfl rfl) (want_t g6 rfl rfl rfl) ?_
        refine oq (qv_pick_t g6 rfl (rfl : ev _ _ = (.bool (decide (n ≤ b.h))))) ?_
        refine ops_nil ?_
        refine vc_if rfl (fun c13 => ?_) (fun c13 => ?_)
        ·
         refine vc_skip ?_
         refine vc_seq ?_
         refine vc_block ?_
         refine vc_seq ?_
         refine vc_seq ?_
         refine vc_region ?_
         refine oq (qv_ldm (vs := [(.int .i64 b.l), (.int .i64 b.h), (.int .i64 b.s)]) Try.agg23 rfl (inOc (k := 1) rfl) rfl rfl) ?_
         refine oq (qv_mv (Value.int .i64 n) rfl) ?_
         refine oq (qv_call (v := (.bool (decide (vld b ∧ mem b n)))) (rHas_c (a := b)) rfl rfl) ?_
         refine ops_nil ?_
         refine vc_if rfl (fun c14 => ?_) (fun c14 => ?_)
         ·
          refine vc_seq ?_
          have hma : mem a n := mt_mem (lo := a.l) sa (by omega) (by rw [← hn0]; exact hn) (by omega) (by omega)
          refine vc_region ?_
          refine oq (qv_as (Value.bool true) rfl) ?_
          refine ops_nil ?_
          refine vc_ret ?_
          refine blockQ_ret ?_
          refine blockQ_ret ?_
          exact rq1 (.bool (decide (¬ meetF a b = nE))) (congrArg Value.bool (decide_eq_true (show (¬ meetF a b = nE) from by exact mt_yes ha hb hma (And.right (by assumption)))).symm) rfl
         ·
          refine vc_skip ?_
          refine vc_region ?_
          refine oq (qv_mv (Value.int .i64 n) rfl) ?_
          refine oq (qv_fa (off := 0) Try.field23_2 rfl) ?_
          refine oq (qv_ldp (v := (.int .i64 a.s)) Try.plain3 rfl (inOc (k := 0) rfl) rfl) ?_
          refine oq (qv_add rfl rfl (by omega)) ?_
          refine oq (qv_as (.int .i64 (n + a.s)) rfl) ?_
          refine ops_nil ?_
          refine vc_region ?_
          refine oq (qv_mv (Value.int .i64 i) rfl) ?_
          refine oq (qv_add rfl rfl (by omega)) ?_
          refine oq (qv_as (.int .i64 (i + 1)) rfl) ?_
          refine ops_nil ?_
          refine ⟨(i + 1, n + a.s), ⟨rfl, rfl, rfl, rfl, rfl, rfl, rfl, rfl, rfl, rfl, rfl, rfl, (congrArg (Value.int .i64) (show (n + a.s) = ((n + a.s)) from by rfl)), (congrArg (Value.int .i64) (show (i + 1) = ((i + 1)) from by rfl)), trivial⟩, ⟨rfl, rfl, by omega, by rw [Int.add_mul]; omega, all_snoc hj (fun m => absurd (show vld b ∧ mem b n from ⟨hb, by rw [hn]; exact m⟩) (by assumption)), by omega, by omega, by omega⟩, by omega⟩
        ·
         refine vc_exit ?_
         refine blockQ_hit ?_
         refine vc_seq ?_
         refine vc_region ?_
         refine oq (qv_as (Value.bool false) rfl) ?_
         refine ops_nil ?_
         refine vc_ret ?_
         exact rq1 (.bool (decide (¬ meetF a b = nE))) (congrArg Value.bool (decide_eq_false (show ¬ (¬ meetF a b = nE) from by first | exact fun z => z (mt_loop (i := i) (lo := a.l) (hi := b.h) ha sa sb hg rfl (by omega) (by omega) hn0 hj (by omega)) | exact fun z => z (mt_far (lo := a.l) (hi := b.h) ha (by omega) (by omega) (by omega)) | exact fun z => z (mt_gcd ha (fun q => by rw [← hg] at q; exact absurd (Int.emod_eq_zero_of_dvd q) (by assumption))))).symm) rfl
       ·
        refine os (want_tn g6 rfl rfl rfl) ?_
        refine os (want_tn g6 rfl rfl rfl) ?_
        refine os (want_tn g6 rfl rfl rfl) ?_
        refine oq (qv_pick_f g6 rfl (rfl : ev _ _ = (Value.bool false))) ?_
        refine ops_nil ?_
        refine vc_ff rfl ?_
        refine vc_exit ?_
        refine blockQ_hit ?_
        refine vc_seq ?_
        refine vc_region ?_
        refine oq (qv_as (Value.bool false) rfl) ?_
        refine ops_nil ?_
        refine vc_ret ?_
        exact rq1 (.bool (decide (¬ meetF a b = nE))) (congrArg Value.bool (decide_eq_false (show ¬ (¬ meetF a b = nE) from by first | exact fun z => z (mt_loop (i := i) (lo := a.l) (hi := b.h) ha sa sb hg rfl (by omega) (by omega) hn0 hj (by omega)) | exact fun z => z (mt_far (lo := a.l) (hi := b.h) ha (by omega) (by omega) (by omega)) | exact fun z => z (mt_gcd ha (fun q => by rw [← hg] at q; exact absurd (Int.emod_eq_zero_of_dvd q) (by assumption))))).symm) rfl
    ·
     refine vc_skip ?_
     refine vc_seq ?_
     refine vc_region ?_
     refine oq (qv_fa (off := 0) Try.field23_2 rfl) ?_
     refine oq (qv_ldp (v := (.int .i64 a.s)) Try.plain3 rfl (inOc (k := 0) rfl) rfl) ?_
     refine oq (qv_fa (off := 0) Try.field23_2 rfl) ?_
     refine oq (qv_ldp (v := (.int .i64 b.s)) Try.plain3 rfl (inOc (k := 1) rfl) rfl) ?_
     refine oq (qv_call (v := (.int .i64 ((Int.gcd a.s b.s : Int)))) (rGcd_c (by omega) (by omega)) rfl rfl) ?_
     obtain ⟨g, hg⟩ : ∃ z : Int, z = (Int.gcd a.s b.s : Int) := ⟨_, rfl⟩
     refine oq (qv_as (Value.int .i64 g) (show _ = _ from congrArg (Value.int .i64) hg.symm)) ?_
     refine ops_nil ?_
     refine vc_seq ?_
     refine vc_seq ?_
     have g0 : 0 < g := by have := Int.gcd_pos_of_ne_zero_left b.s (show a.s ≠ 0 by omega); omega
     have aw0_ := aw_nn a.l b.l
     refine vc_region ?_
     refine oq (qv_mv (.int .i64 a.l) rfl) ?_
     refine oq (qv_mv (.int .i64 a.h) rfl) ?_
     refine oq (qv_gtr rfl rfl) ?_
     refine oq (qv_mv (.bool (decide (a.h < a.l))) rfl) ?_
     by_cases g7 : a.h < a.l
     ·
      refine os (want_fn g7 rfl rfl rfl) ?_
      refine os (want_fn g7 rfl rfl rfl) ?_
      refine os (want_fn g7 rfl rfl rfl) ?_
      refine os (want_fn g7 rfl rfl rfl) ?_
      refine os (want_fn g7 rfl rfl rfl) ?_
      refine os (want_fn g7 rfl rfl rfl) ?_
      refine os (want_fn g7 rfl rfl rfl) ?_
      refine os (want_fn g7 rfl rfl rfl) ?_
      refine oq (qv_pick_t g7 rfl (rfl : ev _ _ = (Value.bool true))) ?_
      refine ops_nil ?_
      refine vc_tt rfl ?_
      refine vc_seq ?_
      refine vc_region ?_
      refine oq (qv_as (Value.bool false) rfl) ?_
      refine ops_nil ?_
      refine vc_ret ?_
      exact rq1 (.bool (decide (¬ meetF a b = nE))) (congrArg Value.bool (decide_eq_false (show ¬ (¬ meetF a b = nE) from by first | exact fun z => z (mt_loop (i := i) (lo := a.l) (hi := a.h) ha sa sb hg rfl (by omega) (by omega) hn0 hj (by omega)) | exact fun z => z (mt_far (lo := a.l) (hi := a.h) ha (by omega) (by omega) (by omega)) | exact fun z => z (mt_gcd ha (fun q => by rw [← hg] at q; exact absurd (Int.emod_eq_zero_of_dvd q) (by assumption))))).symm) rfl
     ·
      refine og (qv_fa (off := 0) Try.field23_0 rfl) (want_f g7 rfl rfl rfl) ?_
      refine og (qv_ldp (v := (.int .i64 a.l)) Try.plain3 rfl (inOc (k := 0) rfl) rfl) (want_f g7 rfl rfl rfl) ?_
      refine og (qv_fa (off := 0) Try.field23_0 rfl) (want_f g7 rfl rfl rfl) ?_
      refine og (qv_ldp (v := (.int .i64 b.l)) Try.plain3 rfl (inOc (k := 1) rfl) rfl) (want_f g7 rfl rfl rfl) ?_
      refine og (qv_call (v := (.int .i64 (aw a.l b.l))) (rAway_c (by omega) (by omega)) rfl rfl) (want_f g7 rfl rfl rfl) ?_
      refine og (qv_mv (Value.int .i64 g) rfl) (want_f g7 rfl rfl rfl) ?_
      refine og (qv_rem rfl rfl (by omega) (by omega)) (want_f g7 rfl rfl rfl) ?_
      refine og (qv_neq rfl rfl) (want_f g7 rfl rfl rfl) ?_
      refine oq (qv_pick_f g7 rfl (rfl : ev _ _ = (.bool (decide (((aw a.l b.l) % g) ≠ 0))))) ?_
      refine ops_nil ?_
      refine vc_if rfl (fun c15 => ?_) (fun c15 => ?_)
      ·
       refine vc_seq ?_
       refine vc_region ?_
       refine oq (qv_as (Value.bool false) rfl) ?_
       refine ops_nil ?_
       refine vc_ret ?_
       exact rq1 (.bool (decide (¬ meetF a b = nE))) (congrArg Value.bool (decide_eq_false (show ¬ (¬ meetF a b = nE) from by first | exact fun z => z (mt_loop (i := i) (lo := a.l) (hi := a.h) ha sa sb hg rfl (by omega) (by omega) hn0 hj (by omega)) | exact fun z => z (mt_far (lo := a.l) (hi := a.h) ha (by omega) (by omega) (by omega)) | exact fun z => z (mt_gcd ha (fun q => by rw [← hg] at q; exact absurd (Int.emod_eq_zero_of_dvd q) (by assumption))))).symm) rfl
      ·
       refine vc_skip ?_
       refine vc_seq ?_
       have mc := mt_ceil (a := a) (lo := a.l) sa (by omega)
       have gle := Int.ediv_le_self (a := b.s) g (by omega)
       refine vc_region_any Try.mixed (by kernel_rfl) ?_
       refine qq (qv_fa (off := 0) Try.field23_0 rfl) ?_
       refine qq (qv_ldp (v := (.int .i64 a.l)) Try.plain3 rfl (inOc (k := 0) rfl) rfl) ?_
       refine qq (qv_mv (.int .i64 a.l) rfl) ?_
       refine qq (qv_fa (off := 0) Try.field23_0 rfl) ?_
       refine qq (qv_ldp (v := (.int .i64 a.l)) Try.plain3 rfl (inOc (k := 0) rfl) rfl) ?_
       refine qq (qv_sub rfl rfl (by omega)) ?_
       refine qq (qv_fa (off := 0) Try.field23_2 rfl) ?_
       refine qq (qv_ldp (v := (.int .i64 a.s)) Try.plain3 rfl (inOc (k := 0) rfl) rfl) ?_
       refine qq (qv_add rfl rfl (by omega)) ?_
       refine qq (qv_sub rfl rfl (by omega)) ?_
       refine qq (qv_fa (off := 0) Try.field23_2 rfl) ?_
       refine qq (qv_ldp (v := (.int .i64 a.s)) Try.plain3 rfl (inOc (k := 0) rfl) rfl) ?_
       refine qq (qv_quo rfl rfl (by omega) (by omega)) ?_
       refine qq (qv_fa (off := 0) Try.field23_2 rfl) ?_
       refine qq (qv_ldp (v := (.int .i64 a.s)) Try.plain3 rfl (inOc (k := 0) rfl) rfl) ?_
       refine qq (qv_mul rfl rfl (by omega)) ?_
       refine qq (qv_add rfl rfl (by omega)) ?_
       obtain ⟨n0, hn0⟩ : ∃ z : Int, z = a.l + (((((a.l - a.l) + a.s) - 1) / a.s) * a.s) := ⟨_, rfl⟩
       refine qq (qv_as (Value.int .i64 n0) (show _ = _ from congrArg (Value.int .i64) hn0.symm)) ?_
       refine qops_nil ?_
       refine vc_seq ?_
       refine vc_seq ?_
       refine vc_region ?_
       refine oq (qv_as (Value.int .i64 0) rfl) ?_
       refine ops_nil ?_
       refine vc_block ?_
       refine vc_loop (α := Int × Int) (fun (xx : Int × Int) => [(0, (.agg #[(.int .i64 a.l), (.int .i64 a.h), (.int .i64 a.s)])), (1, (.agg #[(.int .i64 b.l), (.int .i64 b.h), (.int .i64 b.s)])), (2, (Value.pointer (some ⟨b1, 0, none⟩))), (3, (Value.pointer (some ⟨b2, 0, none⟩))), (5, (.int .i64 a.l)), (6, (.int .i64 a.h)), (7, (Value.int .i64 g)), (14, (.bool (decide ((sizeV b) < (sizeV a))))), (20, (.bool (decide ((sizeV a) = 1)))), (32, (.bool (decide (a.l < b.l)))), (38, (.bool (decide (b.h < a.h)))), (58, (.bool (decide (((aw a.l b.l) % g) ≠ 0)))), (8, (Value.int .i64 xx.2)), (9, (Value.int .i64 xx.1))]) (fun (xx : Int × Int) V' σ' => V = V' ∧ [(Arr 23 b1 [(.int .i64 a.l), (.int .i64 a.h), (.int .i64 a.s)]), (Arr 23 b2 [(.int .i64 b.l), (.int .i64 b.h), (.int .i64 b.s)])] = σ' ∧ 0 ≤ xx.1 ∧ xx.2 = n0 + xx.1 * a.s ∧ (∀ j : Int, 0 ≤ j → j < xx.1 → ¬ mem b (n0 + j * a.s)) ∧ n0 ≤ xx.2 ∧ xx.2 ≤ 4398046511104 ∧ xx.1 ≤ b.s) (fun (xx : Int × Int) => (b.s / g - xx.1).toNat) (0, n0) ?_ ?_ ?_
       · exact ⟨rfl, rfl, rfl, rfl, rfl, rfl, rfl, rfl, rfl, rfl, rfl, rfl, rfl, rfl, trivial⟩
       · exact ⟨rfl, rfl, by omega, by simp, fun j a b => by omega, by omega, by omega, by omega⟩
       rintro ⟨i, n⟩ e4 V0l σ0l hI0
       obtain ⟨rfl, rfl, i13, hn, hj, i14, i15, i16⟩ : V = V0l ∧ [(Arr 23 b1 [(.int .i64 a.l), (.int .i64 a.h), (.int .i64 a.s)]), (Arr 23 b2 [(.int .i64 b.l), (.int .i64 b.h), (.int .i64 b.s)])] = σ0l ∧ 0 ≤ i ∧ n = n0 + i * a.s ∧ (∀ j : Int, 0 ≤ j → j < i → ¬ mem b (n0 + j * a.s)) ∧ n0 ≤ n ∧ n ≤ 4398046511104 ∧ i ≤ b.s := hI0
       change VC _ _ _ _ _ _ (upds 96 [(0, (.agg #[(.int .i64 a.l), (.int .i64 a.h), (.int .i64 a.s)])), (1, (.agg #[(.int .i64 b.l), (.int .i64 b.h), (.int .i64 b.s)])), (2, (Value.pointer (some ⟨b1, 0, none⟩))), (3, (Value.pointer (some ⟨b2, 0, none⟩))), (5, (.int .i64 a.l)), (6, (.int .i64 a.h)), (7, (Value.int .i64 g)), (14, (.bool (decide ((sizeV b) < (sizeV a))))), (20, (.bool (decide ((sizeV a) = 1)))), (32, (.bool (decide (a.l < b.l)))), (38, (.bool (decide (b.h < a.h)))), (58, (.bool (decide (((aw a.l b.l) % g) ≠ 0)))), (8, (Value.int .i64 n)), (9, (Value.int .i64 i))] e4) _ _
       refine vc_seq ?_
       refine vc_seq ?_
       refine vc_region ?_
       refine oq (qv_mv (Value.int .i64 i) rfl) ?_
       refine oq (qv_fa (off := 0) Try.field23_2 rfl) ?_
       refine oq (qv_ldp (v := (.int .i64 b.s)) Try.plain3 rfl (inOc (k := 1) rfl) rfl) ?_
       refine oq (qv_mv (Value.int .i64 g) rfl) ?_
       refine oq (qv_quo rfl rfl (by omega) (by omega)) ?_
       refine oq (qv_lss rfl rfl) ?_
       refine oq (qv_mv (.bool (decide (i < (b.s / g)))) rfl) ?_
       by_cases g8 : i < (b.s / g)
       ·
        refine og (qv_mv (Value.int .i64 n) rfl) (want_t g8 rfl rfl rfl) ?_
        refine og (qv_mv (.int .i64 a.h) rfl) (want_t g8 rfl rfl rfl) ?_
        refine og (qv_leq rfl rfl) (want_t g8 rfl rfl rfl) ?_
        refine oq (qv_pick_t g8 rfl (rfl : ev _ _ = (.bool (decide (n ≤ a.h))))) ?_
        refine ops_nil ?_
        refine vc_if rfl (fun c16 => ?_) (fun c16 => ?_)
        ·
         refine vc_skip ?_
         refine vc_seq ?_
         refine vc_block ?_
         refine vc_seq ?_
         refine vc_seq ?_
         refine vc_region ?_
         refine oq (qv_ldm (vs := [(.int .i64 b.l), (.int .i64 b.h), (.int .i64 b.s)]) Try.agg23 rfl (inOc (k := 1) rfl) rfl rfl) ?_
         refine oq (qv_mv (Value.int .i64 n) rfl) ?_
         refine oq (qv_call (v := (.bool (decide (vld b ∧ mem b n)))) (rHas_c (a := b)) rfl rfl) ?_
         refine ops_nil ?_
         refine vc_if rfl (fun c17 => ?_) (fun c17 => ?_)
         ·
          refine vc_seq ?_
          have hma : mem a n := mt_mem (lo := a.l) sa (by omega) (by rw [← hn0]; exact hn) (by omega) (by omega)
          refine vc_region ?_
          refine oq (qv_as (Value.bool true) rfl) ?_
          refine ops_nil ?_
          refine vc_ret ?_
          refine blockQ_ret ?_
          refine blockQ_ret ?_
          exact rq1 (.bool (decide (¬ meetF a b = nE))) (congrArg Value.bool (decide_eq_true (show (¬ meetF a b = nE) from by exact mt_yes ha hb hma (And.right (by assumption)))).symm) rfl
         ·
          refine vc_skip ?_
          refine vc_region ?_
          refine oq (qv_mv (Value.int .i64 n) rfl) ?_
          refine oq (qv_fa (off := 0) Try.field23_2 rfl) ?_
          refine oq (qv_ldp (v := (.int .i64 a.s)) Try.plain3 rfl (inOc (k := 0) rfl) rfl) ?_
          refine oq (qv_add rfl rfl (by omega)) ?_
          refine oq (qv_as (.int .i64 (n + a.s)) rfl) ?_
          refine ops_nil ?_
          refine vc_region ?_
          refine oq (qv_mv (Value.int .i64 i) rfl) ?_
          refine oq (qv_add rfl rfl (by omega)) ?_
          refine oq (qv_as (.int .i64 (i + 1)) rfl) ?_
          refine ops_nil ?_
          refine ⟨(i + 1, n + a.s), ⟨rfl, rfl, rfl, rfl, rfl, rfl, rfl, rfl, rfl, rfl, rfl, rfl, (congrArg (Value.int .i64) (show (n + a.s) = ((n + a.s)) from by rfl)), (congrArg (Value.int .i64) (show (i + 1) = ((i + 1)) from by rfl)), trivial⟩, ⟨rfl, rfl, by omega, by rw [Int.add_mul]; omega, all_snoc hj (fun m => absurd (show vld b ∧ mem b n from ⟨hb, by rw [hn]; exact m⟩) (by assumption)), by omega, by omega, by omega⟩, by omega⟩
        ·
         refine vc_exit ?_
         refine blockQ_hit ?_
         refine vc_seq ?_
         refine vc_region ?_
         refine oq (qv_as (Value.bool false) rfl) ?_
         refine ops_nil ?_
         refine vc_ret ?_
         exact rq1 (.bool (decide (¬ meetF a b = nE))) (congrArg Value.bool (decide_eq_false (show ¬ (¬ meetF a b = nE) from by first | exact fun z => z (mt_loop (i := i) (lo := a.l) (hi := a.h) ha sa sb hg rfl (by omega) (by omega) hn0 hj (by omega)) | exact fun z => z (mt_far (lo := a.l) (hi := a.h) ha (by omega) (by omega) (by omega)) | exact fun z => z (mt_gcd ha (fun q => by rw [← hg] at q; exact absurd (Int.emod_eq_zero_of_dvd q) (by assumption))))).symm) rfl
       ·
        refine os (want_tn g8 rfl rfl rfl) ?_
        refine os (want_tn g8 rfl rfl rfl) ?_
        refine os (want_tn g8 rfl rfl rfl) ?_
        refine oq (qv_pick_f g8 rfl (rfl : ev _ _ = (Value.bool false))) ?_
        refine ops_nil ?_
        refine vc_ff rfl ?_
        refine vc_exit ?_
        refine blockQ_hit ?_
        refine vc_seq ?_
        refine vc_region ?_
        refine oq (qv_as (Value.bool false) rfl) ?_
        refine ops_nil ?_
        refine vc_ret ?_
        exact rq1 (.bool (decide (¬ meetF a b = nE))) (congrArg Value.bool (decide_eq_false (show ¬ (¬ meetF a b = nE) from by first | exact fun z => z (mt_loop (i := i) (lo := a.l) (hi := a.h) ha sa sb hg rfl (by omega) (by omega) hn0 hj (by omega)) | exact fun z => z (mt_far (lo := a.l) (hi := a.h) ha (by omega) (by omega) (by omega)) | exact fun z => z (mt_gcd ha (fun q => by rw [← hg] at q; exact absurd (Int.emod_eq_zero_of_dvd q) (by assumption))))).symm) rfl

set_option maxRecDepth 100000 in
set_option maxHeartbeats 4000000 in
theorem rCompared_c {V : HV} {op : Int} {a b : Nm} (ha : vld a) (hb : vld b) (he : a ≠ nE) (hf : b ≠ nE) (ho : 13 ≤ op ∧ op ≤ 20) :
    FnC Try.prog 72 [(Value.int .i64 op), (.agg #[(.int .i64 a.l), (.int .i64 a.h), (.int .i64 a.s)]), (.agg #[(.int .i64 b.l), (.int .i64 b.h), (.int .i64 b.s)])] V [] (fun v _ _ => v = (.agg #[(.int .i64 ((exF op a b).l)), (.int .i64 ((exF op a b).h)), (.int .i64 ((exF op a b).s))])) := by
 refine fn_intro (N := 111) Try.func72 (by kernel_rfl) rfl rfl rfl (Nat.le_of_ble_eq_true rfl) ?_
 intro w0 D
 have hny := (cp_all ha hb he hf ho).2
 have za := sizeV_1 ha
 have zb := sizeV_1 hb
 refine vc_seq ?_
 refine vc_region ?_
 refine ops_box (v := (.agg #[(.int .i64 a.l), (.int .i64 a.h), (.int .i64 a.s)])) (cs := [(.int .i64 a.l), (.int .i64 a.h), (.int .i64 a.s)]) rfl rfl (fun b1 => ?_)
 refine ops_box (v := (.agg #[(.int .i64 b.l), (.int .i64 b.h), (.int .i64 b.s)])) (cs := [(.int .i64 b.l), (.int .i64 b.h), (.int .i64 b.s)]) rfl rfl (fun b2 => ?_)
 refine ops_alloc Try.ti23 rfl (fun b3 => ?_)
 refine ops_nil ?_
 refine vc_seq ?_
 refine vc_res (σ' := [(Arr 23 b1 [(.int .i64 a.l), (.int .i64 a.h), (.int .i64 a.s)]), (Arr 23 b2 [(.int .i64 b.l), (.int .i64 b.h), (.int .i64 b.s)]), (Arr 23 b3 [(Value.int .i64 0), (Value.int .i64 0), (Value.int .i64 0)])]) rfl ?_
 refine vc_region ?_
 refine oq (qv_as (Value.bool false) rfl) ?_
 refine oq (qv_as (Value.bool false) rfl) ?_
 refine ops_nil ?_
 refine vc_seq ?_
 refine vc_seq ?_
 refine vc_region ?_
 refine oq (qv_mv (Value.int .i64 op) rfl) ?_
 refine ops_nil ?_
 refine vc_block ?_
 refine vc_seq ?_
 refine vc_seq ?_
 refine vc_region ?_
 refine oq (qv_eql rfl rfl) ?_
 refine oq (qv_as (.bool (decide (op = 13))) rfl) ?_
 refine ops_nil ?_
 refine vc_if rfl (fun c1 => ?_) (fun c1 => ?_)
 ·
  refine vc_skip ?_
  refine vc_if_t rfl c1 ?_
  refine vc_seq ?_
  refine vc_region_any Try.mixed (by kernel_rfl) ?_
  refine qq (qv_ldm (vs := [(.int .i64 a.l), (.int .i64 a.h), (.int .i64 a.s)]) Try.agg23 rfl (inOc (k := 0) rfl) rfl rfl) ?_
  refine qq (qv_ldm (vs := [(.int .i64 b.l), (.int .i64 b.h), (.int .i64 b.s)]) Try.agg23 rfl (inOc (k := 1) rfl) rfl rfl) ?_
  refine qq (qv_call (v := (.bool (decide (¬ meetF a b = nE)))) (rMeets_c ha hb he hf) rfl rfl) ?_
  refine qq (qv_ldm (vs := [(.int .i64 a.l), (.int .i64 a.h), (.int .i64 a.s)]) Try.agg23 rfl (inOc (k := 0) rfl) rfl rfl) ?_
  refine qq (qv_ldm (vs := [(.int .i64 b.l), (.int .i64 b.h), (.int .i64 b.s)]) Try.agg23 rfl (inOc (k := 1) rfl) rfl rfl) ?_
  refine qq (qv_neqs Try.eq23 [a.l, a.h, a.s] [b.l, b.h, b.s] rfl rfl rfl rfl rfl rfl eq3) ?_
  refine qq (qv_mv (.bool (decide (¬ (a.l = b.l ∧ a.h = b.h ∧ a.s = b.s)))) rfl) ?_
  by_cases g1 : ¬ (a.l = b.l ∧ a.h = b.h ∧ a.s = b.s)
  ·
   refine qs (want_fn g1 rfl rfl rfl) ?_
   refine qs (want_fn g1 rfl rfl rfl) ?_
   refine qs (want_fn g1 rfl rfl rfl) ?_
   refine qq (qv_pick_t g1 rfl (rfl : ev _ _ = (Value.bool true))) ?_
   refine qq (qv_as (.bool (decide (¬ meetF a b = nE))) rfl) ?_
   refine qq (qv_as (.bool (decide (uneq a b))) (congrArg Value.bool (decide_eq_true (show (uneq a b) from by rw [uneq_iff ha hb he hf, nm_iff, ← za]; first | omega | exact Or.inl (by assumption) | (constructor; exact Or.inr; exact fun z => z.resolve_left (by assumption)))).symm)) ?_
   refine qops_nil ?_
   refine vc_seq ?_
   refine vc_region ?_
   refine oq (qv_mv (Value.int .i64 op) rfl) ?_
   refine oq (qv_eql rfl rfl) ?_
   refine ops_nil ?_
   refine vc_if rfl (fun c2 => ?_) (fun c2 => ?_)
   ·
    refine vc_region ?_
    refine oq (qv_mv (.bool (decide (uneq a b))) rfl) ?_
    refine oq (qv_mv (.bool (decide (¬ meetF a b = nE))) rfl) ?_
    refine oq (qv_as (.bool (decide (uneq a b))) rfl) ?_
    refine oq (qv_as (.bool (decide (¬ meetF a b = nE))) rfl) ?_
    refine ops_nil ?_
    refine vc_seq ?_
    refine vc_region ?_
    refine oq (qv_mv (.bool (decide (¬ meetF a b = nE))) rfl) ?_
    refine oq (qv_mv (.bool (decide (uneq a b))) rfl) ?_
    refine oq (qv_call (v := (.agg #[(.int .i64 ((fgF (¬ meetF a b = nE) (uneq a b)).l)), (.int .i64 ((fgF (¬ meetF a b = nE) (uneq a b)).h)), (.int .i64 ((fgF (¬ meetF a b = nE) (uneq a b)).s))])) (rFlags_c (p := ¬ meetF a b = nE) (q := uneq a b) (by first | (exfalso; omega) | (rw [no13 (by omega), yes13 (by omega)] at hny; exact hny))) rfl rfl) ?_
    refine ops_stw (k := 2) (vs := [(.int .i64 ((fgF (¬ meetF a b = nE) (uneq a b)).l)), (.int .i64 ((fgF (¬ meetF a b = nE) (uneq a b)).h)), (.int .i64 ((fgF (¬ meetF a b = nE) (uneq a b)).s))]) Try.size23 rfl rfl rfl rfl rfl rfl ?_
    refine ops_nil ?_
    refine vc_ret ?_
    refine rs1 _ (rv_c (vs := [(.int .i64 ((fgF (¬ meetF a b = nE) (uneq a b)).l)), (.int .i64 ((fgF (¬ meetF a b = nE) (uneq a b)).h)), (.int .i64 ((fgF (¬ meetF a b = nE) (uneq a b)).s))]) Try.agg23 rfl (inOc (k := 2) rfl) rfl rfl) ?_
    exact (agg3 (show fgF (¬ meetF a b = nE) (uneq a b) = exF op a b from by first | (exfalso; omega) | exact (fg_congr (by rw [no13 (by omega)]) (by rw [yes13 (by omega)])).trans (cp_all ha hb he hf ho).1.symm))
   ·
    refine vc_skip ?_
    refine vc_seq ?_
    refine vc_region ?_
    refine oq (qv_mv (.bool (decide (uneq a b))) rfl) ?_
    refine oq (qv_mv (.bool (decide (¬ meetF a b = nE))) rfl) ?_
    refine oq (qv_call (v := (.agg #[(.int .i64 ((fgF (uneq a b) (¬ meetF a b = nE)).l)), (.int .i64 ((fgF (uneq a b) (¬ meetF a b = nE)).h)), (.int .i64 ((fgF (uneq a b) (¬ meetF a b = nE)).s))])) (rFlags_c (p := uneq a b) (q := ¬ meetF a b = nE) (by first | (exfalso; omega) | (rw [no13 (by omega), yes13 (by omega)] at hny; exact hny))) rfl rfl) ?_
    refine ops_stw (k := 2) (vs := [(.int .i64 ((fgF (uneq a b) (¬ meetF a b = nE)).l)), (.int .i64 ((fgF (uneq a b) (¬ meetF a b = nE)).h)), (.int .i64 ((fgF (uneq a b) (¬ meetF a b = nE)).s))]) Try.size23 rfl rfl rfl rfl rfl rfl ?_
    refine ops_nil ?_
    refine vc_ret ?_
    refine rs1 _ (rv_c (vs := [(.int .i64 ((fgF (uneq a b) (¬ meetF a b = nE)).l)), (.int .i64 ((fgF (uneq a b) (¬ meetF a b = nE)).h)), (.int .i64 ((fgF (uneq a b) (¬ meetF a b = nE)).s))]) Try.agg23 rfl (inOc (k := 2) rfl) rfl rfl) ?_
    exact (agg3 (show fgF (uneq a b) (¬ meetF a b = nE) = exF op a b from by first | (exfalso; omega) | exact (fg_congr (by rw [no13 (by omega)]) (by rw [yes13 (by omega)])).trans (cp_all ha hb he hf ho).1.symm))
  ·
   refine qg (qv_ldm (vs := [(.int .i64 a.l), (.int .i64 a.h), (.int .i64 a.s)]) Try.agg23 rfl (inOc (k := 0) rfl) rfl rfl) (want_f g1 rfl rfl rfl) ?_
   refine qg (qv_call (v := (.int .i64 (sizeV a))) (rSize_c (a := a)) rfl rfl) (want_f g1 rfl rfl rfl) ?_
   refine qg (qv_gtr rfl rfl) (want_f g1 rfl rfl rfl) ?_
   refine qq (qv_pick_f g1 rfl (rfl : ev _ _ = (.bool (decide (1 < (sizeV a)))))) ?_
   refine qq (qv_as (.bool (decide (¬ meetF a b = nE))) rfl) ?_
   refine qq (qv_as (.bool (decide (uneq a b))) (congrArg Value.bool (decide_eq_decide.2 (show (1 < (sizeV a)) ↔ (uneq a b) from by rw [uneq_iff ha hb he hf, nm_iff, ← za]; first | omega | exact Or.inl (by assumption) | (constructor; exact Or.inr; exact fun z => z.resolve_left (by assumption)))))) ?_
   refine qops_nil ?_
   refine vc_seq ?_
   refine vc_region ?_
   refine oq (qv_mv (Value.int .i64 op) rfl) ?_
   refine oq (qv_eql rfl rfl) ?_
   refine ops_nil ?_
   refine vc_if rfl (fun c3 => ?_) (fun c3 => ?_)
   ·
    refine vc_region ?_
    refine oq (qv_mv (.bool (decide (uneq a b))) rfl) ?_
    refine oq (qv_mv (.bool (decide (¬ meetF a b = nE))) rfl) ?_
    refine oq (qv_as (.bool (decide (uneq a b))) rfl) ?_
    refine oq (qv_as (.bool (decide (¬ meetF a b = nE))) rfl) ?_
    refine ops_nil ?_
    refine vc_seq ?_
    refine vc_region ?_
    refine oq (qv_mv (.bool (decide (¬ meetF a b = nE))) rfl) ?_
    refine oq (qv_mv (.bool (decide (uneq a b))) rfl) ?_
    refine oq (qv_call (v := (.agg #[(.int .i64 ((fgF (¬ meetF a b = nE) (uneq a b)).l)), (.int .i64 ((fgF (¬ meetF a b = nE) (uneq a b)).h)), (.int .i64 ((fgF (¬ meetF a b = nE) (uneq a b)).s))])) (rFlags_c (p := ¬ meetF a b = nE) (q := uneq a b) (by first | (exfalso; omega) | (rw [no13 (by omega), yes13 (by omega)] at hny; exact hny))) rfl rfl) ?_
    refine ops_stw (k := 2) (vs := [(.int .i64 ((fgF (¬ meetF a b = nE) (uneq a b)).l)), (.int .i64 ((fgF (¬ meetF a b = nE) (uneq a b)).h)), (.int .i64 ((fgF (¬ meetF a b = nE) (uneq a b)).s))]) Try.size23 rfl rfl rfl rfl rfl rfl ?_
    refine ops_nil ?_
    refine vc_ret ?_
    refine rs1 _ (rv_c (vs := [(.int .i64 ((fgF (¬ meetF a b = nE) (uneq a b)).l)), (.int .i64 ((fgF (¬ meetF a b = nE) (uneq a b)).h)), (.int .i64 ((fgF (¬ meetF a b = nE) (uneq a b)).s))]) Try.agg23 rfl (inOc (k := 2) rfl) rfl rfl) ?_
    exact (agg3 (show fgF (¬ meetF a b = nE) (uneq a b) = exF op a b from by first | (exfalso; omega) | exact (fg_congr (by rw [no13 (by omega)]) (by rw [yes13 (by omega)])).trans (cp_all ha hb he hf ho).1.symm))
   ·
    refine vc_skip ?_
    refine vc_seq ?_
    refine vc_region ?_
    refine oq (qv_mv (.bool (decide (uneq a b))) rfl) ?_
    refine oq (qv_mv (.bool (decide (¬ meetF a b = nE))) rfl) ?_
    refine oq (qv_call (v := (.agg #[(.int .i64 ((fgF (uneq a b) (¬ meetF a b = nE)).l)), (.int .i64 ((fgF (uneq a b) (¬ meetF a b = nE)).h)), (.int .i64 ((fgF (uneq a b) (¬ meetF a b = nE)).s))])) (rFlags_c (p := uneq a b) (q := ¬ meetF a b = nE) (by first | (exfalso; omega) | (rw [no13 (by omega), yes13 (by omega)] at hny; exact hny))) rfl rfl) ?_
    refine ops_stw (k := 2) (vs := [(.int .i64 ((fgF (uneq a b) (¬ meetF a b = nE)).l)), (.int .i64 ((fgF (uneq a b) (¬ meetF a b = nE)).h)), (.int .i64 ((fgF (uneq a b) (¬ meetF a b = nE)).s))]) Try.size23 rfl rfl rfl rfl rfl rfl ?_
    refine ops_nil ?_
    refine vc_ret ?_
    refine rs1 _ (rv_c (vs := [(.int .i64 ((fgF (uneq a b) (¬ meetF a b = nE)).l)), (.int .i64 ((fgF (uneq a b) (¬ meetF a b = nE)).h)), (.int .i64 ((fgF (uneq a b) (¬ meetF a b = nE)).s))]) Try.agg23 rfl (inOc (k := 2) rfl) rfl rfl) ?_
    exact (agg3 (show fgF (uneq a b) (¬ meetF a b = nE) = exF op a b from by first | (exfalso; omega) | exact (fg_congr (by rw [no13 (by omega)]) (by rw [yes13 (by omega)])).trans (cp_all ha hb he hf ho).1.symm))
 ·
  refine vc_region ?_
  refine oq (qv_eql rfl rfl) ?_
  refine oq (qv_as (.bool (decide (op = 14))) rfl) ?_
  refine ops_nil ?_
  refine vc_if rfl (fun c4 => ?_) (fun c4 => ?_)
  ·
   refine vc_seq ?_
   refine vc_region_any Try.mixed (by kernel_rfl) ?_
   refine qq (qv_ldm (vs := [(.int .i64 a.l), (.int .i64 a.h), (.int .i64 a.s)]) Try.agg23 rfl (inOc (k := 0) rfl) rfl rfl) ?_
   refine qq (qv_ldm (vs := [(.int .i64 b.l), (.int .i64 b.h), (.int .i64 b.s)]) Try.agg23 rfl (inOc (k := 1) rfl) rfl rfl) ?_
   refine qq (qv_call (v := (.bool (decide (¬ meetF a b = nE)))) (rMeets_c ha hb he hf) rfl rfl) ?_
   refine qq (qv_ldm (vs := [(.int .i64 a.l), (.int .i64 a.h), (.int .i64 a.s)]) Try.agg23 rfl (inOc (k := 0) rfl) rfl rfl) ?_
   refine qq (qv_ldm (vs := [(.int .i64 b.l), (.int .i64 b.h), (.int .i64 b.s)]) Try.agg23 rfl (inOc (k := 1) rfl) rfl rfl) ?_
   refine qq (qv_neqs Try.eq23 [a.l, a.h, a.s] [b.l, b.h, b.s] rfl rfl rfl rfl rfl rfl eq3) ?_
   refine qq (qv_mv (.bool (decide (¬ (a.l = b.l ∧ a.h = b.h ∧ a.s = b.s)))) rfl) ?_
   by_cases g2 : ¬ (a.l = b.l ∧ a.h = b.h ∧ a.s = b.s)
   ·
    refine qs (want_fn g2 rfl rfl rfl) ?_
    refine qs (want_fn g2 rfl rfl rfl) ?_
    refine qs (want_fn g2 rfl rfl rfl) ?_
    refine qq (qv_pick_t g2 rfl (rfl : ev _ _ = (Value.bool true))) ?_
    refine qq (qv_as (.bool (decide (¬ meetF a b = nE))) rfl) ?_
    refine qq (qv_as (.bool (decide (uneq a b))) (congrArg Value.bool (decide_eq_true (show (uneq a b) from by rw [uneq_iff ha hb he hf, nm_iff, ← za]; first | omega | exact Or.inl (by assumption) | (constructor; exact Or.inr; exact fun z => z.resolve_left (by assumption)))).symm)) ?_
    refine qops_nil ?_
    refine vc_seq ?_
    refine vc_region ?_
    refine oq (qv_mv (Value.int .i64 op) rfl) ?_
    refine oq (qv_eql rfl rfl) ?_
    refine ops_nil ?_
    refine vc_if_t rfl c4 ?_
    refine vc_region ?_
    refine oq (qv_mv (.bool (decide (uneq a b))) rfl) ?_
    refine oq (qv_mv (.bool (decide (¬ meetF a b = nE))) rfl) ?_
    refine oq (qv_as (.bool (decide (uneq a b))) rfl) ?_
    refine oq (qv_as (.bool (decide (¬ meetF a b = nE))) rfl) ?_
    refine ops_nil ?_
    refine vc_seq ?_
    refine vc_region ?_
    refine oq (qv_mv (.bool (decide (¬ meetF a b = nE))) rfl) ?_
    refine oq (qv_mv (.bool (decide (uneq a b))) rfl) ?_
    refine oq (qv_call (v := (.agg #[(.int .i64 ((fgF (¬ meetF a b = nE) (uneq a b)).l)), (.int .i64 ((fgF (¬ meetF a b = nE) (uneq a b)).h)), (.int .i64 ((fgF (¬ meetF a b = nE) (uneq a b)).s))])) (rFlags_c (p := ¬ meetF a b = nE) (q := uneq a b) (by first | (exfalso; omega) | (rw [no14 (by omega), yes14 (by omega)] at hny; exact hny))) rfl rfl) ?_
    refine ops_stw (k := 2) (vs := [(.int .i64 ((fgF (¬ meetF a b = nE) (uneq a b)).l)), (.int .i64 ((fgF (¬ meetF a b = nE) (uneq a b)).h)), (.int .i64 ((fgF (¬ meetF a b = nE) (uneq a b)).s))]) Try.size23 rfl rfl rfl rfl rfl rfl ?_
    refine ops_nil ?_
    refine vc_ret ?_
    refine rs1 _ (rv_c (vs := [(.int .i64 ((fgF (¬ meetF a b = nE) (uneq a b)).l)), (.int .i64 ((fgF (¬ meetF a b = nE) (uneq a b)).h)), (.int .i64 ((fgF (¬ meetF a b = nE) (uneq a b)).s))]) Try.agg23 rfl (inOc (k := 2) rfl) rfl rfl) ?_
    exact (agg3 (show fgF (¬ meetF a b = nE) (uneq a b) = exF op a b from by first | (exfalso; omega) | exact (fg_congr (by rw [no14 (by omega)]) (by rw [yes14 (by omega)])).trans (cp_all ha hb he hf ho).1.symm))
   ·
    refine qg (qv_ldm (vs := [(.int .i64 a.l), (.int .i64 a.h), (.int .i64 a.s)]) Try.agg23 rfl (inOc (k := 0) rfl) rfl rfl) (want_f g2 rfl rfl rfl) ?_
    refine qg (qv_call (v := (.int .i64 (sizeV a))) (rSize_c (a := a)) rfl rfl) (want_f g2 rfl rfl rfl) ?_
    refine qg (qv_gtr rfl rfl) (want_f g2 rfl rfl rfl) ?_
    refine qq (qv_pick_f g2 rfl (rfl : ev _ _ = (.bool (decide (1 < (sizeV a)))))) ?_
    refine qq (qv_as (.bool (decide (¬ meetF a b = nE))) rfl) ?_
    refine qq (qv_as (.bool (decide (uneq a b))) (congrArg Value.bool (decide_eq_decide.2 (show (1 < (sizeV a)) ↔ (uneq a b) from by rw [uneq_iff ha hb he hf, nm_iff, ← za]; first | omega | exact Or.inl (by assumption) | (constructor; exact Or.inr; exact fun z => z.resolve_left (by assumption)))))) ?_
    refine qops_nil ?_
    refine vc_seq ?_
    refine vc_region ?_
    refine oq (qv_mv (Value.int .i64 op) rfl) ?_
    refine oq (qv_eql rfl rfl) ?_
    refine ops_nil ?_
    refine vc_if_t rfl c4 ?_
    refine vc_region ?_
    refine oq (qv_mv (.bool (decide (uneq a b))) rfl) ?_
    refine oq (qv_mv (.bool (decide (¬ meetF a b = nE))) rfl) ?_
    refine oq (qv_as (.bool (decide (uneq a b))) rfl) ?_
    refine oq (qv_as (.bool (decide (¬ meetF a b = nE))) rfl) ?_
    refine ops_nil ?_
    refine vc_seq ?_
    refine vc_region ?_
    refine oq (qv_mv (.bool (decide (¬ meetF a b = nE))) rfl) ?_
    refine oq (qv_mv (.bool (decide (uneq a b))) rfl) ?_
    refine oq (qv_call (v := (.agg #[(.int .i64 ((fgF (¬ meetF a b = nE) (uneq a b)).l)), (.int .i64 ((fgF (¬ meetF a b = nE) (uneq a b)).h)), (.int .i64 ((fgF (¬ meetF a b = nE) (uneq a b)).s))])) (rFlags_c (p := ¬ meetF a b = nE) (q := uneq a b) (by first | (exfalso; omega) | (rw [no14 (by omega), yes14 (by omega)] at hny; exact hny))) rfl rfl) ?_
    refine ops_stw (k := 2) (vs := [(.int .i64 ((fgF (¬ meetF a b = nE) (uneq a b)).l)), (.int .i64 ((fgF (¬ meetF a b = nE) (uneq a b)).h)), (.int .i64 ((fgF (¬ meetF a b = nE) (uneq a b)).s))]) Try.size23 rfl rfl rfl rfl rfl rfl ?_
    refine ops_nil ?_
    refine vc_ret ?_
    refine rs1 _ (rv_c (vs := [(.int .i64 ((fgF (¬ meetF a b = nE) (uneq a b)).l)), (.int .i64 ((fgF (¬ meetF a b = nE) (uneq a b)).h)), (.int .i64 ((fgF (¬ meetF a b = nE) (uneq a b)).s))]) Try.agg23 rfl (inOc (k := 2) rfl) rfl rfl) ?_
    exact (agg3 (show fgF (¬ meetF a b = nE) (uneq a b) = exF op a b from by first | (exfalso; omega) | exact (fg_congr (by rw [no14 (by omega)]) (by rw [yes14 (by omega)])).trans (cp_all ha hb he hf ho).1.symm))
  ·
   refine vc_seq ?_
   refine vc_region ?_
   refine oq (qv_eql rfl rfl) ?_
   refine oq (qv_as (.bool (decide (op = 15))) rfl) ?_
   refine ops_nil ?_
   refine vc_if rfl (fun c5 => ?_) (fun c5 => ?_)
   ·
    refine vc_region_any Try.mixed (by kernel_rfl) ?_
    refine qq (qv_fa (off := 0) Try.field23_0 rfl) ?_
    refine qq (qv_ldp (v := (.int .i64 a.l)) Try.plain3 rfl (inOc (k := 0) rfl) rfl) ?_
    refine qq (qv_fa (off := 0) Try.field23_1 rfl) ?_
    refine qq (qv_ldp (v := (.int .i64 b.h)) Try.plain3 rfl (inOc (k := 1) rfl) rfl) ?_
    refine qq (qv_lss rfl rfl) ?_
    refine qq (qv_fa (off := 0) Try.field23_1 rfl) ?_
    refine qq (qv_ldp (v := (.int .i64 a.h)) Try.plain3 rfl (inOc (k := 0) rfl) rfl) ?_
    refine qq (qv_fa (off := 0) Try.field23_0 rfl) ?_
    refine qq (qv_ldp (v := (.int .i64 b.l)) Try.plain3 rfl (inOc (k := 1) rfl) rfl) ?_
    refine qq (qv_geq rfl rfl) ?_
    refine qq (qv_as (.bool (decide (a.l < b.h))) rfl) ?_
    refine qq (qv_as (.bool (decide (b.l ≤ a.h))) rfl) ?_
    refine qops_nil ?_
    refine vc_seq ?_
    refine vc_region ?_
    refine oq (qv_mv (.bool (decide (b.l ≤ a.h))) rfl) ?_
    refine oq (qv_mv (.bool (decide (a.l < b.h))) rfl) ?_
    refine oq (qv_call (v := (.agg #[(.int .i64 ((fgF (b.l ≤ a.h) (a.l < b.h)).l)), (.int .i64 ((fgF (b.l ≤ a.h) (a.l < b.h)).h)), (.int .i64 ((fgF (b.l ≤ a.h) (a.l < b.h)).s))])) (rFlags_c (p := b.l ≤ a.h) (q := a.l < b.h) (by first | (exfalso; omega) | (rw [no15 (by omega), yes15 (by omega)] at hny; exact hny))) rfl rfl) ?_
    refine ops_stw (k := 2) (vs := [(.int .i64 ((fgF (b.l ≤ a.h) (a.l < b.h)).l)), (.int .i64 ((fgF (b.l ≤ a.h) (a.l < b.h)).h)), (.int .i64 ((fgF (b.l ≤ a.h) (a.l < b.h)).s))]) Try.size23 rfl rfl rfl rfl rfl rfl ?_
    refine ops_nil ?_
    refine vc_ret ?_
    refine rs1 _ (rv_c (vs := [(.int .i64 ((fgF (b.l ≤ a.h) (a.l < b.h)).l)), (.int .i64 ((fgF (b.l ≤ a.h) (a.l < b.h)).h)), (.int .i64 ((fgF (b.l ≤ a.h) (a.l < b.h)).s))]) Try.agg23 rfl (inOc (k := 2) rfl) rfl rfl) ?_
    exact (agg3 (show fgF (b.l ≤ a.h) (a.l < b.h) = exF op a b from by first | (exfalso; omega) | exact (fg_congr (by rw [no15 (by omega)]) (by rw [yes15 (by omega)])).trans (cp_all ha hb he hf ho).1.symm))
   ·
    refine vc_seq ?_
    refine vc_region ?_
    refine oq (qv_eql rfl rfl) ?_
    refine oq (qv_as (.bool (decide (op = 16))) rfl) ?_
    refine ops_nil ?_
    refine vc_if rfl (fun c6 => ?_) (fun c6 => ?_)
    ·
     refine vc_region_any Try.mixed (by kernel_rfl) ?_
     refine qq (qv_fa (off := 0) Try.field23_0 rfl) ?_
     refine qq (qv_ldp (v := (.int .i64 a.l)) Try.plain3 rfl (inOc (k := 0) rfl) rfl) ?_
     refine qq (qv_fa (off := 0) Try.field23_1 rfl) ?_
     refine qq (qv_ldp (v := (.int .i64 b.h)) Try.plain3 rfl (inOc (k := 1) rfl) rfl) ?_
     refine qq (qv_leq rfl rfl) ?_
     refine qq (qv_fa (off := 0) Try.field23_1 rfl) ?_
     refine qq (qv_ldp (v := (.int .i64 a.h)) Try.plain3 rfl (inOc (k := 0) rfl) rfl) ?_
     refine qq (qv_fa (off := 0) Try.field23_0 rfl) ?_
     refine qq (qv_ldp (v := (.int .i64 b.l)) Try.plain3 rfl (inOc (k := 1) rfl) rfl) ?_
     refine qq (qv_gtr rfl rfl) ?_
     refine qq (qv_as (.bool (decide (a.l ≤ b.h))) rfl) ?_
     refine qq (qv_as (.bool (decide (b.l < a.h))) rfl) ?_
     refine qops_nil ?_
     refine vc_seq ?_
     refine vc_region ?_
     refine oq (qv_mv (.bool (decide (b.l < a.h))) rfl) ?_
     refine oq (qv_mv (.bool (decide (a.l ≤ b.h))) rfl) ?_
     refine oq (qv_call (v := (.agg #[(.int .i64 ((fgF (b.l < a.h) (a.l ≤ b.h)).l)), (.int .i64 ((fgF (b.l < a.h) (a.l ≤ b.h)).h)), (.int .i64 ((fgF (b.l < a.h) (a.l ≤ b.h)).s))])) (rFlags_c (p := b.l < a.h) (q := a.l ≤ b.h) (by first | (exfalso; omega) | (rw [no16 (by omega), yes16 (by omega)] at hny; exact hny))) rfl rfl) ?_
     refine ops_stw (k := 2) (vs := [(.int .i64 ((fgF (b.l < a.h) (a.l ≤ b.h)).l)), (.int .i64 ((fgF (b.l < a.h) (a.l ≤ b.h)).h)), (.int .i64 ((fgF (b.l < a.h) (a.l ≤ b.h)).s))]) Try.size23 rfl rfl rfl rfl rfl rfl ?_
     refine ops_nil ?_
     refine vc_ret ?_
     refine rs1 _ (rv_c (vs := [(.int .i64 ((fgF (b.l < a.h) (a.l ≤ b.h)).l)), (.int .i64 ((fgF (b.l < a.h) (a.l ≤ b.h)).h)), (.int .i64 ((fgF (b.l < a.h) (a.l ≤ b.h)).s))]) Try.agg23 rfl (inOc (k := 2) rfl) rfl rfl) ?_
     exact (agg3 (show fgF (b.l < a.h) (a.l ≤ b.h) = exF op a b from by first | (exfalso; omega) | exact (fg_congr (by rw [no16 (by omega)]) (by rw [yes16 (by omega)])).trans (cp_all ha hb he hf ho).1.symm))
    ·
     refine vc_seq ?_
     refine vc_region ?_
     refine oq (qv_eql rfl rfl) ?_
     refine oq (qv_as (.bool (decide (op = 17))) rfl) ?_
     refine ops_nil ?_
     refine vc_if rfl (fun c7 => ?_) (fun c7 => ?_)
     ·
      refine vc_region_any Try.mixed (by kernel_rfl) ?_
      refine qq (qv_fa (off := 0) Try.field23_1 rfl) ?_
      refine qq (qv_ldp (v := (.int .i64 a.h)) Try.plain3 rfl (inOc (k := 0) rfl) rfl) ?_
      refine qq (qv_fa (off := 0) Try.field23_0 rfl) ?_
      refine qq (qv_ldp (v := (.int .i64 b.l)) Try.plain3 rfl (inOc (k := 1) rfl) rfl) ?_
      refine qq (qv_gtr rfl rfl) ?_
      refine qq (qv_fa (off := 0) Try.field23_0 rfl) ?_
      refine qq (qv_ldp (v := (.int .i64 a.l)) Try.plain3 rfl (inOc (k := 0) rfl) rfl) ?_
      refine qq (qv_fa (off := 0) Try.field23_1 rfl) ?_
      refine qq (qv_ldp (v := (.int .i64 b.h)) Try.plain3 rfl (inOc (k := 1) rfl) rfl) ?_
      refine qq (qv_leq rfl rfl) ?_
      refine qq (qv_as (.bool (decide (b.l < a.h))) rfl) ?_
      refine qq (qv_as (.bool (decide (a.l ≤ b.h))) rfl) ?_
      refine qops_nil ?_
      refine vc_seq ?_
      refine vc_region ?_
      refine oq (qv_mv (.bool (decide (a.l ≤ b.h))) rfl) ?_
      refine oq (qv_mv (.bool (decide (b.l < a.h))) rfl) ?_
      refine oq (qv_call (v := (.agg #[(.int .i64 ((fgF (a.l ≤ b.h) (b.l < a.h)).l)), (.int .i64 ((fgF (a.l ≤ b.h) (b.l < a.h)).h)), (.int .i64 ((fgF (a.l ≤ b.h) (b.l < a.h)).s))])) (rFlags_c (p := a.l ≤ b.h) (q := b.l < a.h) (by first | (exfalso; omega) | (rw [no17 (by omega), yes17 (by omega)] at hny; exact hny))) rfl rfl) ?_
      refine ops_stw (k := 2) (vs := [(.int .i64 ((fgF (a.l ≤ b.h) (b.l < a.h)).l)), (.int .i64 ((fgF (a.l ≤ b.h) (b.l < a.h)).h)), (.int .i64 ((fgF (a.l ≤ b.h) (b.l < a.h)).s))]) Try.size23 rfl rfl rfl rfl rfl rfl ?_
      refine ops_nil ?_
      refine vc_ret ?_
      refine rs1 _ (rv_c (vs := [(.int .i64 ((fgF (a.l ≤ b.h) (b.l < a.h)).l)), (.int .i64 ((fgF (a.l ≤ b.h) (b.l < a.h)).h)), (.int .i64 ((fgF (a.l ≤ b.h) (b.l < a.h)).s))]) Try.agg23 rfl (inOc (k := 2) rfl) rfl rfl) ?_
      exact (agg3 (show fgF (a.l ≤ b.h) (b.l < a.h) = exF op a b from by first | (exfalso; omega) | exact (fg_congr (by rw [no17 (by omega)]) (by rw [yes17 (by omega)])).trans (cp_all ha hb he hf ho).1.symm))
     ·
      refine vc_seq ?_
      refine vc_region ?_
      refine oq (qv_eql rfl rfl) ?_
      refine oq (qv_as (.bool (decide (op = 18))) rfl) ?_
      refine ops_nil ?_
      refine vc_if rfl (fun c8 => ?_) (fun c8 => ?_)
      ·
       refine vc_region_any Try.mixed (by kernel_rfl) ?_
       refine qq (qv_fa (off := 0) Try.field23_1 rfl) ?_
       refine qq (qv_ldp (v := (.int .i64 a.h)) Try.plain3 rfl (inOc (k := 0) rfl) rfl) ?_
       refine qq (qv_fa (off := 0) Try.field23_0 rfl) ?_
       refine qq (qv_ldp (v := (.int .i64 b.l)) Try.plain3 rfl (inOc (k := 1) rfl) rfl) ?_
       refine qq (qv_geq rfl rfl) ?_
       refine qq (qv_fa (off := 0) Try.field23_0 rfl) ?_
       refine qq (qv_ldp (v := (.int .i64 a.l)) Try.plain3 rfl (inOc (k := 0) rfl) rfl) ?_
       refine qq (qv_fa (off := 0) Try.field23_1 rfl) ?_
       refine qq (qv_ldp (v := (.int .i64 b.h)) Try.plain3 rfl (inOc (k := 1) rfl) rfl) ?_
       refine qq (qv_lss rfl rfl) ?_
       refine qq (qv_as (.bool (decide (b.l ≤ a.h))) rfl) ?_
       refine qq (qv_as (.bool (decide (a.l < b.h))) rfl) ?_
       refine qops_nil ?_
       refine vc_seq ?_
       refine vc_region ?_
       refine oq (qv_mv (.bool (decide (a.l < b.h))) rfl) ?_
       refine oq (qv_mv (.bool (decide (b.l ≤ a.h))) rfl) ?_
       refine oq (qv_call (v := (.agg #[(.int .i64 ((fgF (a.l < b.h) (b.l ≤ a.h)).l)), (.int .i64 ((fgF (a.l < b.h) (b.l ≤ a.h)).h)), (.int .i64 ((fgF (a.l < b.h) (b.l ≤ a.h)).s))])) (rFlags_c (p := a.l < b.h) (q := b.l ≤ a.h) (by first | (exfalso; omega) | (rw [no18 (by omega), yes18 (by omega)] at hny; exact hny))) rfl rfl) ?_
       refine ops_stw (k := 2) (vs := [(.int .i64 ((fgF (a.l < b.h) (b.l ≤ a.h)).l)), (.int .i64 ((fgF (a.l < b.h) (b.l ≤ a.h)).h)), (.int .i64 ((fgF (a.l < b.h) (b.l ≤ a.h)).s))]) Try.size23 rfl rfl rfl rfl rfl rfl ?_
       refine ops_nil ?_
       refine vc_ret ?_
       refine rs1 _ (rv_c (vs := [(.int .i64 ((fgF (a.l < b.h) (b.l ≤ a.h)).l)), (.int .i64 ((fgF (a.l < b.h) (b.l ≤ a.h)).h)), (.int .i64 ((fgF (a.l < b.h) (b.l ≤ a.h)).s))]) Try.agg23 rfl (inOc (k := 2) rfl) rfl rfl) ?_
       exact (agg3 (show fgF (a.l < b.h) (b.l ≤ a.h) = exF op a b from by first | (exfalso; omega) | exact (fg_congr (by rw [no18 (by omega)]) (by rw [yes18 (by omega)])).trans (cp_all ha hb he hf ho).1.symm))
      ·
       refine vc_seq ?_
       refine vc_region ?_
       refine oq (qv_ldm (vs := [(.int .i64 a.l), (.int .i64 a.h), (.int .i64 a.s)]) Try.agg23 rfl (inOc (k := 0) rfl) rfl rfl) ?_
       refine oq (qv_call (v := (.tuple #[(.bool (decide (vld a ∧ mem a 0))), (.bool (decide (vld a ∧ oth a)))])) (rTruth_c (a := a)) rfl rfl) ?_
       refine oq (qv_mv (.tuple #[(.bool (decide (vld a ∧ mem a 0))), (.bool (decide (vld a ∧ oth a)))]) rfl) ?_
       refine oq (qv_ext (.bool (decide (vld a ∧ mem a 0))) rfl rfl) ?_
       refine oq (qv_ext (.bool (decide (vld a ∧ oth a))) rfl rfl) ?_
       refine oq (qv_as (.bool (decide (vld a ∧ mem a 0))) rfl) ?_
       refine oq (qv_as (.bool (decide (vld a ∧ oth a))) rfl) ?_
       refine ops_nil ?_
       refine vc_seq ?_
       refine vc_region ?_
       refine oq (qv_ldm (vs := [(.int .i64 b.l), (.int .i64 b.h), (.int .i64 b.s)]) Try.agg23 rfl (inOc (k := 1) rfl) rfl rfl) ?_
       refine oq (qv_call (v := (.tuple #[(.bool (decide (vld b ∧ mem b 0))), (.bool (decide (vld b ∧ oth b)))])) (rTruth_c (a := b)) rfl rfl) ?_
       refine oq (qv_mv (.tuple #[(.bool (decide (vld b ∧ mem b 0))), (.bool (decide (vld b ∧ oth b)))]) rfl) ?_
       refine oq (qv_ext (.bool (decide (vld b ∧ mem b 0))) rfl rfl) ?_
       refine oq (qv_ext (.bool (decide (vld b ∧ oth b))) rfl rfl) ?_
       refine oq (qv_as (.bool (decide (vld b ∧ mem b 0))) rfl) ?_
       refine oq (qv_as (.bool (decide (vld b ∧ oth b))) rfl) ?_
       refine ops_nil ?_
       refine vc_seq ?_
       refine vc_region ?_
       refine oq (qv_mv (Value.int .i64 op) rfl) ?_
       refine oq (qv_eql rfl rfl) ?_
       refine ops_nil ?_
       refine vc_if rfl (fun c9 => ?_) (fun c9 => ?_)
       ·
        refine vc_region ?_
        refine oq (qv_mv (.bool (decide (vld a ∧ oth a))) rfl) ?_
        refine oq (qv_mv (.bool (decide (vld a ∧ oth a))) rfl) ?_
        by_cases g3 : vld a ∧ oth a
        ·
         refine og (qv_mv (.bool (decide (vld b ∧ oth b))) rfl) (want_t g3 rfl rfl rfl) ?_
         refine oq (qv_pick_t g3 rfl (rfl : ev _ _ = (.bool (decide (vld b ∧ oth b))))) ?_
         refine oq (qv_mv (.bool (decide (vld a ∧ mem a 0))) rfl) ?_
         refine oq (qv_mv (.bool (decide (vld a ∧ mem a 0))) rfl) ?_
         by_cases g4 : vld a ∧ mem a 0
         ·
          refine os (want_fn g4 rfl rfl rfl) ?_
          refine oq (qv_pick_t g4 rfl (rfl : ev _ _ = (Value.bool true))) ?_
          refine oq (qv_as (.bool (decide (vld b ∧ oth b))) rfl) ?_
          refine oq (qv_as (Value.bool true) rfl) ?_
          refine ops_nil ?_
          refine vc_seq ?_
          refine vc_region ?_
          refine oq (qv_mv (Value.bool true) rfl) ?_
          refine oq (qv_mv (.bool (decide (vld b ∧ oth b))) rfl) ?_
          refine oq (qv_call (v := (.agg #[(.int .i64 ((fgF (True) (vld b ∧ oth b)).l)), (.int .i64 ((fgF (True) (vld b ∧ oth b)).h)), (.int .i64 ((fgF (True) (vld b ∧ oth b)).s))])) (rFlags_c (p := True) (q := vld b ∧ oth b) (ip := instDecidableTrue) (by rw [no19 (by omega), yes19 (by omega)] at hny; clear za zb ho; simp_all; done)) rfl rfl) ?_
          refine ops_stw (k := 2) (vs := [(.int .i64 ((fgF (True) (vld b ∧ oth b)).l)), (.int .i64 ((fgF (True) (vld b ∧ oth b)).h)), (.int .i64 ((fgF (True) (vld b ∧ oth b)).s))]) Try.size23 rfl rfl rfl rfl rfl rfl ?_
          refine ops_nil ?_
          refine vc_ret ?_
          refine rs1 _ (rv_c (vs := [(.int .i64 ((fgF (True) (vld b ∧ oth b)).l)), (.int .i64 ((fgF (True) (vld b ∧ oth b)).h)), (.int .i64 ((fgF (True) (vld b ∧ oth b)).s))]) Try.agg23 rfl (inOc (k := 2) rfl) rfl rfl) ?_
          exact (agg3 (show fgF (True) (vld b ∧ oth b) = exF op a b from by first | (exfalso; omega) | exact (fg_congr (by rw [no19 (by omega)]; first | done | (clear hny; simp_all; done)) (by rw [yes19 (by omega)]; first | done | (clear hny; simp_all; done))).trans (cp_all ha hb he hf ho).1.symm))
         ·
          refine og (qv_mv (.bool (decide (vld b ∧ mem b 0))) rfl) (want_f g4 rfl rfl rfl) ?_
          refine oq (qv_pick_f g4 rfl (rfl : ev _ _ = (.bool (decide (vld b ∧ mem b 0))))) ?_
          refine oq (qv_as (.bool (decide (vld b ∧ oth b))) rfl) ?_
          refine oq (qv_as (.bool (decide (vld b ∧ mem b 0))) rfl) ?_
          refine ops_nil ?_
          refine vc_seq ?_
          refine vc_region ?_
          refine oq (qv_mv (.bool (decide (vld b ∧ mem b 0))) rfl) ?_
          refine oq (qv_mv (.bool (decide (vld b ∧ oth b))) rfl) ?_
          refine oq (qv_call (v := (.agg #[(.int .i64 ((fgF (vld b ∧ mem b 0) (vld b ∧ oth b)).l)), (.int .i64 ((fgF (vld b ∧ mem b 0) (vld b ∧ oth b)).h)), (.int .i64 ((fgF (vld b ∧ mem b 0) (vld b ∧ oth b)).s))])) (rFlags_c (p := vld b ∧ mem b 0) (q := vld b ∧ oth b) (by rw [no19 (by omega), yes19 (by omega)] at hny; clear za zb ho; simp_all; done)) rfl rfl) ?_
          refine ops_stw (k := 2) (vs := [(.int .i64 ((fgF (vld b ∧ mem b 0) (vld b ∧ oth b)).l)), (.int .i64 ((fgF (vld b ∧ mem b 0) (vld b ∧ oth b)).h)), (.int .i64 ((fgF (vld b ∧ mem b 0) (vld b ∧ oth b)).s))]) Try.size23 rfl rfl rfl rfl rfl rfl ?_
          refine ops_nil ?_
          refine vc_ret ?_
          refine rs1 _ (rv_c (vs := [(.int .i64 ((fgF (vld b ∧ mem b 0) (vld b ∧ oth b)).l)), (.int .i64 ((fgF (vld b ∧ mem b 0) (vld b ∧ oth b)).h)), (.int .i64 ((fgF (vld b ∧ mem b 0) (vld b ∧ oth b)).s))]) Try.agg23 rfl (inOc (k := 2) rfl) rfl rfl) ?_
          exact (agg3 (show fgF (vld b ∧ mem b 0) (vld b ∧ oth b) = exF op a b from by first | (exfalso; omega) | exact (fg_congr (by rw [no19 (by omega)]; first | done | (clear hny; simp_all; done)) (by rw [yes19 (by omega)]; first | done | (clear hny; simp_all; done))).trans (cp_all ha hb he hf ho).1.symm))
        ·
         refine os (want_tn g3 rfl rfl rfl) ?_
         refine oq (qv_pick_f g3 rfl (rfl : ev _ _ = (Value.bool false))) ?_
         refine oq (qv_mv (.bool (decide (vld a ∧ mem a 0))) rfl) ?_
         refine oq (qv_mv (.bool (decide (vld a ∧ mem a 0))) rfl) ?_
         by_cases g5 : vld a ∧ mem a 0
         ·
          refine os (want_fn g5 rfl rfl rfl) ?_
          refine oq (qv_pick_t g5 rfl (rfl : ev _ _ = (Value.bool true))) ?_
          refine oq (qv_as (Value.bool false) rfl) ?_
          refine oq (qv_as (Value.bool true) rfl) ?_
          refine ops_nil ?_
          refine vc_seq ?_
          refine vc_region ?_
          refine oq (qv_mv (Value.bool true) rfl) ?_
          refine oq (qv_mv (Value.bool false) rfl) ?_
          refine oq (qv_call (v := (.agg #[(.int .i64 ((fgF (True) (False)).l)), (.int .i64 ((fgF (True) (False)).h)), (.int .i64 ((fgF (True) (False)).s))])) (rFlags_c (p := True) (q := False) (ip := instDecidableTrue) (iq := instDecidableFalse) (by rw [no19 (by omega), yes19 (by omega)] at hny; clear za zb ho; simp_all; done)) rfl rfl) ?_
          refine ops_stw (k := 2) (vs := [(.int .i64 ((fgF (True) (False)).l)), (.int .i64 ((fgF (True) (False)).h)), (.int .i64 ((fgF (True) (False)).s))]) Try.size23 rfl rfl rfl rfl rfl rfl ?_
          refine ops_nil ?_
          refine vc_ret ?_
          refine rs1 _ (rv_c (vs := [(.int .i64 ((fgF (True) (False)).l)), (.int .i64 ((fgF (True) (False)).h)), (.int .i64 ((fgF (True) (False)).s))]) Try.agg23 rfl (inOc (k := 2) rfl) rfl rfl) ?_
          exact (agg3 (show fgF (True) (False) = exF op a b from by first | (exfalso; omega) | exact (fg_congr (by rw [no19 (by omega)]; first | done | (clear hny; simp_all; done)) (by rw [yes19 (by omega)]; first | done | (clear hny; simp_all; done))).trans (cp_all ha hb he hf ho).1.symm))
         ·
          refine og (qv_mv (.bool (decide (vld b ∧ mem b 0))) rfl) (want_f g5 rfl rfl rfl) ?_
          refine oq (qv_pick_f g5 rfl (rfl : ev _ _ = (.bool (decide (vld b ∧ mem b 0))))) ?_
          refine oq (qv_as (Value.bool false) rfl) ?_
          refine oq (qv_as (.bool (decide (vld b ∧ mem b 0))) rfl) ?_
          refine ops_nil ?_
          refine vc_seq ?_
          refine vc_region ?_
          refine oq (qv_mv (.bool (decide (vld b ∧ mem b 0))) rfl) ?_
          refine oq (qv_mv (Value.bool false) rfl) ?_
          refine oq (qv_call (v := (.agg #[(.int .i64 ((fgF (vld b ∧ mem b 0) (False)).l)), (.int .i64 ((fgF (vld b ∧ mem b 0) (False)).h)), (.int .i64 ((fgF (vld b ∧ mem b 0) (False)).s))])) (rFlags_c (p := vld b ∧ mem b 0) (q := False) (iq := instDecidableFalse) (by rw [no19 (by omega), yes19 (by omega)] at hny; clear za zb ho; simp_all; done)) rfl rfl) ?_
          refine ops_stw (k := 2) (vs := [(.int .i64 ((fgF (vld b ∧ mem b 0) (False)).l)), (.int .i64 ((fgF (vld b ∧ mem b 0) (False)).h)), (.int .i64 ((fgF (vld b ∧ mem b 0) (False)).s))]) Try.size23 rfl rfl rfl rfl rfl rfl ?_
          refine ops_nil ?_
          refine vc_ret ?_
          refine rs1 _ (rv_c (vs := [(.int .i64 ((fgF (vld b ∧ mem b 0) (False)).l)), (.int .i64 ((fgF (vld b ∧ mem b 0) (False)).h)), (.int .i64 ((fgF (vld b ∧ mem b 0) (False)).s))]) Try.agg23 rfl (inOc (k := 2) rfl) rfl rfl) ?_
          exact (agg3 (show fgF (vld b ∧ mem b 0) (False) = exF op a b from by first | (exfalso; omega) | exact (fg_congr (by rw [no19 (by omega)]; first | done | (clear hny; simp_all; done)) (by rw [yes19 (by omega)]; first | done | (clear hny; simp_all; done))).trans (cp_all ha hb he hf ho).1.symm))
       ·
        refine vc_region ?_
        refine oq (qv_mv (.bool (decide (vld a ∧ oth a))) rfl) ?_
        refine oq (qv_mv (.bool (decide (vld a ∧ oth a))) rfl) ?_
        by_cases g6 : vld a ∧ oth a
        ·
         refine os (want_fn g6 rfl rfl rfl) ?_
         refine oq (qv_pick_t g6 rfl (rfl : ev _ _ = (Value.bool true))) ?_
         refine oq (qv_mv (.bool (decide (vld a ∧ mem a 0))) rfl) ?_
         refine oq (qv_mv (.bool (decide (vld a ∧ mem a 0))) rfl) ?_
         by_cases g7 : vld a ∧ mem a 0
         ·
          refine og (qv_mv (.bool (decide (vld b ∧ mem b 0))) rfl) (want_t g7 rfl rfl rfl) ?_
          refine oq (qv_pick_t g7 rfl (rfl : ev _ _ = (.bool (decide (vld b ∧ mem b 0))))) ?_
          refine oq (qv_as (Value.bool true) rfl) ?_
          refine oq (qv_as (.bool (decide (vld b ∧ mem b 0))) rfl) ?_
          refine ops_nil ?_
          refine vc_seq ?_
          refine vc_region ?_
          refine oq (qv_mv (.bool (decide (vld b ∧ mem b 0))) rfl) ?_
          refine oq (qv_mv (Value.bool true) rfl) ?_
          refine oq (qv_call (v := (.agg #[(.int .i64 ((fgF (vld b ∧ mem b 0) (True)).l)), (.int .i64 ((fgF (vld b ∧ mem b 0) (True)).h)), (.int .i64 ((fgF (vld b ∧ mem b 0) (True)).s))])) (rFlags_c (p := vld b ∧ mem b 0) (q := True) (iq := instDecidableTrue) (by rw [no20 (by omega), yes20 (by omega)] at hny; clear za zb ho; simp_all; done)) rfl rfl) ?_
          refine ops_stw (k := 2) (vs := [(.int .i64 ((fgF (vld b ∧ mem b 0) (True)).l)), (.int .i64 ((fgF (vld b ∧ mem b 0) (True)).h)), (.int .i64 ((fgF (vld b ∧ mem b 0) (True)).s))]) Try.size23 rfl rfl rfl rfl rfl rfl ?_
          refine ops_nil ?_
          refine vc_ret ?_
          refine rs1 _ (rv_c (vs := [(.int .i64 ((fgF (vld b ∧ mem b 0) (True)).l)), (.int .i64 ((fgF (vld b ∧ mem b 0) (True)).h)), (.int .i64 ((fgF (vld b ∧ mem b 0) (True)).s))]) Try.agg23 rfl (inOc (k := 2) rfl) rfl rfl) ?_
          exact (agg3 (show fgF (vld b ∧ mem b 0) (True) = exF op a b from by first | (exfalso; omega) | exact (fg_congr (by rw [no20 (by omega)]; first | done | (clear hny; simp_all; done)) (by rw [yes20 (by omega)]; first | done | (clear hny; simp_all; done))).trans (cp_all ha hb he hf ho).1.symm))
         ·
          refine os (want_tn g7 rfl rfl rfl) ?_
          refine oq (qv_pick_f g7 rfl (rfl : ev _ _ = (Value.bool false))) ?_
          refine oq (qv_as (Value.bool true) rfl) ?_
          refine oq (qv_as (Value.bool false) rfl) ?_
          refine ops_nil ?_
          refine vc_seq ?_
          refine vc_region ?_
          refine oq (qv_mv (Value.bool false) rfl) ?_
          refine oq (qv_mv (Value.bool true) rfl) ?_
          refine oq (qv_call (v := (.agg #[(.int .i64 ((fgF (False) (True)).l)), (.int .i64 ((fgF (False) (True)).h)), (.int .i64 ((fgF (False) (True)).s))])) (rFlags_c (p := False) (q := True) (ip := instDecidableFalse) (iq := instDecidableTrue) (by rw [no20 (by omega), yes20 (by omega)] at hny; clear za zb ho; simp_all; done)) rfl rfl) ?_
          refine ops_stw (k := 2) (vs := [(.int .i64 ((fgF (False) (True)).l)), (.int .i64 ((fgF (False) (True)).h)), (.int .i64 ((fgF (False) (True)).s))]) Try.size23 rfl rfl rfl rfl rfl rfl ?_
          refine ops_nil ?_
          refine vc_ret ?_
          refine rs1 _ (rv_c (vs := [(.int .i64 ((fgF (False) (True)).l)), (.int .i64 ((fgF (False) (True)).h)), (.int .i64 ((fgF (False) (True)).s))]) Try.agg23 rfl (inOc (k := 2) rfl) rfl rfl) ?_
          exact (agg3 (show fgF (False) (True) = exF op a b from by first | (exfalso; omega) | exact (fg_congr (by rw [no20 (by omega)]; first | done | (clear hny; simp_all; done)) (by rw [yes20 (by omega)]; first | done | (clear hny; simp_all; done))).trans (cp_all ha hb he hf ho).1.symm))
        ·
         refine og (qv_mv (.bool (decide (vld b ∧ oth b))) rfl) (want_f g6 rfl rfl rfl) ?_
         refine oq (qv_pick_f g6 rfl (rfl : ev _ _ = (.bool (decide (vld b ∧ oth b))))) ?_
         refine oq (qv_mv (.bool (decide (vld a ∧ mem a 0))) rfl) ?_
         refine oq (qv_mv (.bool (decide (vld a ∧ mem a 0))) rfl) ?_
         by_cases g8 : vld a ∧ mem a 0
         ·
          refine og (qv_mv (.bool (decide (vld b ∧ mem b 0))) rfl) (want_t g8 rfl rfl rfl) ?_
          refine oq (qv_pick_t g8 rfl (rfl : ev _ _ = (.bool (decide (vld b ∧ mem b 0))))) ?_
          refine oq (qv_as (.bool (decide (vld b ∧ oth b))) rfl) ?_
          refine oq (qv_as (.bool (decide (vld b ∧ mem b 0))) rfl) ?_
          refine ops_nil ?_
          refine vc_seq ?_
          refine vc_region ?_
          refine oq (qv_mv (.bool (decide (vld b ∧ mem b 0))) rfl) ?_
          refine oq (qv_mv (.bool (decide (vld b ∧ oth b))) rfl) ?_
          refine oq (qv_call (v := (.agg #[(.int .i64 ((fgF (vld b ∧ mem b 0) (vld b ∧ oth b)).l)), (.int .i64 ((fgF (vld b ∧ mem b 0) (vld b ∧ oth b)).h)), (.int .i64 ((fgF (vld b ∧ mem b 0) (vld b ∧ oth b)).s))])) (rFlags_c (p := vld b ∧ mem b 0) (q := vld b ∧ oth b) (by rw [no20 (by omega), yes20 (by omega)] at hny; clear za zb ho; simp_all; done)) rfl rfl) ?_
          refine ops_stw (k := 2) (vs := [(.int .i64 ((fgF (vld b ∧ mem b 0) (vld b ∧ oth b)).l)), (.int .i64 ((fgF (vld b ∧ mem b 0) (vld b ∧ oth b)).h)), (.int .i64 ((fgF (vld b ∧ mem b 0) (vld b ∧ oth b)).s))]) Try.size23 rfl rfl rfl rfl rfl rfl ?_
          refine ops_nil ?_
          refine vc_ret ?_
          refine rs1 _ (rv_c (vs := [(.int .i64 ((fgF (vld b ∧ mem b 0) (vld b ∧ oth b)).l)), (.int .i64 ((fgF (vld b ∧ mem b 0) (vld b ∧ oth b)).h)), (.int .i64 ((fgF (vld b ∧ mem b 0) (vld b ∧ oth b)).s))]) Try.agg23 rfl (inOc (k := 2) rfl) rfl rfl) ?_
          exact (agg3 (show fgF (vld b ∧ mem b 0) (vld b ∧ oth b) = exF op a b from by first | (exfalso; omega) | exact (fg_congr (by rw [no20 (by omega)]; first | done | (clear hny; simp_all; done)) (by rw [yes20 (by omega)]; first | done | (clear hny; simp_all; done))).trans (cp_all ha hb he hf ho).1.symm))
         ·
          refine os (want_tn g8 rfl rfl rfl) ?_
          refine oq (qv_pick_f g8 rfl (rfl : ev _ _ = (Value.bool false))) ?_
          refine oq (qv_as (.bool (decide (vld b ∧ oth b))) rfl) ?_
          refine oq (qv_as (Value.bool false) rfl) ?_
          refine ops_nil ?_
          refine vc_seq ?_
          refine vc_region ?_
          refine oq (qv_mv (Value.bool false) rfl) ?_
          refine oq (qv_mv (.bool (decide (vld b ∧ oth b))) rfl) ?_
          refine oq (qv_call (v := (.agg #[(.int .i64 ((fgF (False) (vld b ∧ oth b)).l)), (.int .i64 ((fgF (False) (vld b ∧ oth b)).h)), (.int .i64 ((fgF (False) (vld b ∧ oth b)).s))])) (rFlags_c (p := False) (q := vld b ∧ oth b) (ip := instDecidableFalse) (by rw [no20 (by omega), yes20 (by omega)] at hny; clear za zb ho; simp_all; done)) rfl rfl) ?_
          refine ops_stw (k := 2) (vs := [(.int .i64 ((fgF (False) (vld b ∧ oth b)).l)), (.int .i64 ((fgF (False) (vld b ∧ oth b)).h)), (.int .i64 ((fgF (False) (vld b ∧ oth b)).s))]) Try.size23 rfl rfl rfl rfl rfl rfl ?_
          refine ops_nil ?_
          refine vc_ret ?_
          refine rs1 _ (rv_c (vs := [(.int .i64 ((fgF (False) (vld b ∧ oth b)).l)), (.int .i64 ((fgF (False) (vld b ∧ oth b)).h)), (.int .i64 ((fgF (False) (vld b ∧ oth b)).s))]) Try.agg23 rfl (inOc (k := 2) rfl) rfl rfl) ?_
          exact (agg3 (show fgF (False) (vld b ∧ oth b) = exF op a b from by first | (exfalso; omega) | exact (fg_congr (by rw [no20 (by omega)]; first | done | (clear hny; simp_all; done)) (by rw [yes20 (by omega)]; first | done | (clear hny; simp_all; done))).trans (cp_all ha hb he hf ho).1.symm))

end Go.Proofs.Ytapkilaikcihgaa
