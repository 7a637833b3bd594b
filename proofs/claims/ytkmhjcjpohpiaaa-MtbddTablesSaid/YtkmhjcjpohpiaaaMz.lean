import Derived.Test.YtkmhjcjpohpiaaaMu
import Derived.Test.YtkmhjcjpohpiaaaMt
/- Walks of mtbdd: what each function returns. Printed by a program out of notes. -/
namespace Go.Proofs.Ytkmhjcjpohpiaaa
open Go.Vc
open Classical

set_option maxRecDepth 100000 in
set_option maxHeartbeats 4000000 in
theorem Tables_c {V : HV} {vars : Int} {t : List Int} {tv : Value} (ht : Ints .i64 V tv t) {X : List Bool} {xv : Value} (hX : Bls V xv X) :
    FnC Try.prog 9 [(Value.int .i64 vars), tv, xv] V [] (fun v _ _ => v = (Value.bool true)) := by
 refine fn_intro (N := 146) Try.func9 (by kernel_rfl) rfl rfl rfl (Nat.le_of_ble_eq_true rfl) ?_
 intro w0 D
 have hb := ht.bound
 have hb2 := hX.bound
 refine vc_seq ?_
 refine vc_region ?_
 refine oq (qv_as (Value.bool false) rfl) ?_
 refine ops_nil ?_
 refine vc_seq ?_
 refine vc_seq ?_
 refine vc_region ?_
 refine oq (qv_call (v := (Value.bool true)) (known_c) rfl rfl) ?_
 refine oq (qv_notc rfl) ?_
 refine ops_nil ?_
 refine vc_ff rfl ?_
 refine vc_skip ?_
 refine vc_seq ?_
 refine vc_seq ?_
 refine vc_region ?_
 refine oq (qv_mv tv rfl) ?_
 refine oq (qv_lenI Try.underlying22 rfl ht) ?_
 refine oq (qv_gtr rfl rfl) ?_
 refine oq (qv_mv (.bool (decide (256 < ((t.length : Int))))) rfl) ?_
 by_cases g1 : 256 < ((t.length : Int))
 ·
  refine os (want_fn g1 rfl rfl rfl) ?_
  refine os (want_fn g1 rfl rfl rfl) ?_
  refine os (want_fn g1 rfl rfl rfl) ?_
  refine oq (qv_pick_t g1 rfl (rfl : ev _ _ = (Value.bool true))) ?_
  refine ops_nil ?_
  refine vc_tt rfl ?_
  refine vc_seq ?_
  refine vc_region ?_
  refine oq (qv_as (Value.bool true) rfl) ?_
  refine ops_nil ?_
  refine vc_ret ?_
  exact rq1 (Value.bool true) rfl rfl
 ·
  refine og (qv_mv xv rfl) (want_f g1 rfl rfl rfl) ?_
  refine og (qv_lenB Try.underlying30 rfl hX) (want_f g1 rfl rfl rfl) ?_
  refine og (qv_gtr rfl rfl) (want_f g1 rfl rfl rfl) ?_
  refine oq (qv_pick_f g1 rfl (rfl : ev _ _ = (.bool (decide (60 < ((X.length : Int))))))) ?_
  refine ops_nil ?_
  refine vc_if rfl (fun c1 => ?_) (fun c1 => ?_)
  ·
   refine vc_seq ?_
   refine vc_region ?_
   refine oq (qv_as (Value.bool true) rfl) ?_
   refine ops_nil ?_
   refine vc_ret ?_
   exact rq1 (Value.bool true) rfl rfl
  ·
   refine vc_skip ?_
   refine vc_seq ?_
   refine vc_region ?_
   refine oq (qv_mv (Value.int .i64 vars) rfl) ?_
   refine oq (qv_mv tv rfl) ?_
   refine ops_call (σa := []) (σr := []) (FromTable_c (vars := vars) ht) rfl rfl (.refl _) (fun r1 V1 sg1 hV1 hp1 => ?_)
   obtain ⟨rfl, lv1, nv1, rfl, hMt⟩ := hp1
   have ht := ht.mono hV1
   have hX := hX.mono hV1
   refine oq (qv_mv (.tuple #[(.agg #[(.int .i64 ((ftD vars t).v)), lv1, nv1, (.int .i64 ((ftD vars t).r))]), (.int .i64 (ftE vars t))]) rfl) ?_
   refine oq (qv_ext (.agg #[(.int .i64 ((ftD vars t).v)), lv1, nv1, (.int .i64 ((ftD vars t).r))]) rfl rfl) ?_
   refine oq (qv_ext (.int .i64 (ftE vars t)) rfl rfl) ?_
   refine ops_alloc Try.ti25 rfl (fun b1 => ?_)
   refine ops_stw (k := 0) (vs := [(.int .i64 ((ftD vars t).v)), lv1, nv1, (.int .i64 ((ftD vars t).r))]) Try.size25 rfl rfl rfl (allc rfl (allc (Sl.one hMt.l) (allc (SlS.one hMt.n) (allc rfl rfl)))) rfl rfl ?_
   refine oq (qv_as (.int .i64 (ftE vars t)) rfl) ?_
   refine ops_nil ?_
   refine vc_seq ?_
   refine vc_res (σ' := [(Arr 25 b1 [(.int .i64 ((ftD vars t).v)), lv1, nv1, (.int .i64 ((ftD vars t).r))])]) rfl ?_
   refine vc_region ?_
   refine oq (qv_mv tv rfl) ?_
   refine oq (qv_lenI Try.underlying22 rfl ht) ?_
   refine oq (qv_as (.int .i64 ((t.length : Int))) rfl) ?_
   refine ops_nil ?_
   refine vc_seq ?_
   refine vc_seq ?_
   refine vc_region ?_
   refine oq (qv_mv (.int .i64 ((t.length : Int))) rfl) ?_
   refine oq (qv_gtr rfl rfl) ?_
   refine ops_nil ?_
   refine vc_if rfl (fun c2 => ?_) (fun c2 => ?_)
   ·
    refine vc_region ?_
    refine oq (qv_mv tv rfl) ?_
    refine oq (qv_iai (v := tv) (i := 0) Try.underlying22 Try.size3 rfl (inVi ht) rfl (by omega) (by omega)) ?_
    refine oq (qv_ldi (v := tv) (i := 0) Try.plain3 rfl (inVi ht) (by omega) (by omega)) ?_
    refine oq (qv_as (.int .i64 (gi t (0))) rfl) ?_
    refine ops_nil ?_
    refine vc_seq ?_
    refine vc_region ?_
    refine oq (qv_mv (Value.int .i64 vars) rfl) ?_
    refine oq (qv_mv (.int .i64 (gi t (0))) rfl) ?_
    refine ops_call (σa := []) (σr := [(Arr 25 b1 [(.int .i64 ((ftD vars t).v)), lv1, nv1, (.int .i64 ((ftD vars t).r))])]) (Constant_c (vars := vars) (z := gi t (0))) rfl rfl (.refl _) (fun r2 V2 sg2 hV2 hp2 => ?_)
    obtain ⟨rfl, lv1b, nv1b, rfl, hMtb⟩ := hp2
    have ht := ht.mono hV2
    have hX := hX.mono hV2
    have hMt := hMt.mono hV2
    refine oq (qv_mv (.tuple #[(.agg #[(.int .i64 ((cnD vars (gi t (0))).v)), lv1b, nv1b, (.int .i64 ((cnD vars (gi t (0))).r))]), (.int .i64 (cnE vars (gi t (0))))]) rfl) ?_
    refine oq (qv_ext (.agg #[(.int .i64 ((cnD vars (gi t (0))).v)), lv1b, nv1b, (.int .i64 ((cnD vars (gi t (0))).r))]) rfl rfl) ?_
    refine oq (qv_ext (.int .i64 (cnE vars (gi t (0)))) rfl rfl) ?_
    refine ops_alloc Try.ti25 rfl (fun b2 => ?_)
    refine ops_stw (k := 1) (vs := [(.int .i64 ((cnD vars (gi t (0))).v)), lv1b, nv1b, (.int .i64 ((cnD vars (gi t (0))).r))]) Try.size25 rfl rfl rfl (allc rfl (allc (Sl.one hMtb.l) (allc (SlS.one hMtb.n) (allc rfl rfl)))) rfl rfl ?_
    refine oq (qv_as (.int .i64 (cnE vars (gi t (0)))) rfl) ?_
    refine ops_nil ?_
    refine vc_seq ?_
    refine vc_res (σ' := [(Arr 25 b1 [(.int .i64 ((ftD vars t).v)), lv1, nv1, (.int .i64 ((ftD vars t).r))]), (Arr 25 b2 [(.int .i64 ((cnD vars (gi t (0))).v)), lv1b, nv1b, (.int .i64 ((cnD vars (gi t (0))).r))])]) rfl ?_
    refine vc_region ?_
    refine oq (qv_mv (Value.int .i64 vars) rfl) ?_
    refine oq (qv_mv (.int .i64 (gi t (0))) rfl) ?_
    refine ops_lit (n := 1) (s := 1) (cs := [(.int .i64 (gi t (0)))]) Try.underlying22 Try.ti3 (Nat.le_of_ble_eq_true rfl) rfl rfl rfl (Nat.le_of_ble_eq_true rfl) rfl (fun b3 => ?_)
    refine oq (qv_build (out := [(Value.int .i64 vars), (.slice (some ⟨b3, 0, none⟩) 1 1), (Value.slice none 0 0), (Value.int .i64 0)]) Try.build25 [(0, [(Value.int .i64 vars)]), (1, [(.slice (some ⟨b3, 0, none⟩) 1 1)])] rfl rfl) ?_
    refine ops_alloc Try.ti25 rfl (fun b4 => ?_)
    refine ops_stw (k := 3) (vs := [(Value.int .i64 vars), (.slice (some ⟨b3, 0, none⟩) 1 1), (Value.slice none 0 0), (Value.int .i64 0)]) Try.size25 rfl rfl rfl rfl rfl rfl ?_
    refine ops_nil ?_
    refine vc_seq ?_
    refine vc_seq ?_
    refine vc_res (σ' := [(Arr 25 b1 [(.int .i64 ((ftD vars t).v)), lv1, nv1, (.int .i64 ((ftD vars t).r))]), (Arr 25 b2 [(.int .i64 ((cnD vars (gi t (0))).v)), lv1b, nv1b, (.int .i64 ((cnD vars (gi t (0))).r))]), (Arr 3 b3 [(.int .i64 (gi t (0)))]), (Arr 25 b4 [(Value.int .i64 vars), (.slice (some ⟨b3, 0, none⟩) 1 1), (Value.slice none 0 0), (Value.int .i64 0)])]) rfl ?_
    refine vc_region ?_
    refine oq (qv_mv (Value.int .i64 vars) rfl) ?_
    refine oq (qv_lss rfl rfl) ?_
    refine oq (qv_mv (.bool (decide (vars < 0))) rfl) ?_
    by_cases g2 : vars < 0
    ·
     refine os (want_fn g2 rfl rfl rfl) ?_
     refine os (want_fn g2 rfl rfl rfl) ?_
     refine oq (qv_pick_t g2 rfl (rfl : ev _ _ = (Value.bool true))) ?_
     refine oq (qv_mv (Value.bool true) rfl) ?_
     refine os (want_fnc rfl rfl rfl) ?_
     refine os (want_fnc rfl rfl rfl) ?_
     refine os (want_fnc rfl rfl rfl) ?_
     refine oq (qv_pick_tc rfl (rfl : ev _ _ = (Value.bool true))) ?_
     refine ops_nil ?_
     refine vc_tt rfl ?_
     refine vc_seq ?_
     have hcn := cn_3 (vars := vars) (v := gi t (0)) (by first | exact .inl (by omega) | exact .inr (by assumption))
     refine vc_region ?_
     refine oq (qv_ldm (vs := [(.int .i64 ((cnD vars (gi t (0))).v)), lv1b, nv1b, (.int .i64 ((cnD vars (gi t (0))).r))]) Try.agg25 rfl (inOc (k := 1) rfl) rfl rfl) ?_
     refine oq (qv_mv (.int .i64 (cnE vars (gi t (0)))) rfl) ?_
     refine oq (qv_build (out := [(Value.int .i64 0), (Value.slice none 0 0), (Value.slice none 0 0), (Value.int .i64 0)]) Try.build25 [] rfl rfl) ?_
     refine oq (qv_call (v := (.bool (decide ((cnE vars (gi t (0))) = 3 ∧ (cnD vars (gi t (0))) = zM)))) (is_c (A := (cnD vars (gi t (0)))) (B := zM) (ee := (cnE vars (gi t (0)))) (cc := 3) hMtb Mt.nil) rfl rfl) ?_
     refine oq (qv_not rfl) ?_
     refine ops_nil ?_
     refine vc_if rfl (fun c3 => ?_) (fun c3 => ?_)
     ·
      exact absurd hcn c3
     ·
      refine vc_skip ?_
      refine vc_seq ?_
      refine vc_block ?_
      refine vc_seq ?_
      refine vc_region ?_
      refine oq (qv_mv (Value.int .i64 vars) rfl) ?_
      refine oq (qv_lss rfl rfl) ?_
      refine oq (qv_mv (.bool (decide (vars < 0))) rfl) ?_
      refine os (want_fn g2 rfl rfl rfl) ?_
      refine os (want_fn g2 rfl rfl rfl) ?_
      refine oq (qv_pick_t g2 rfl (rfl : ev _ _ = (Value.bool true))) ?_
      refine oq (qv_as (Value.bool true) rfl) ?_
      refine ops_nil ?_
      refine vc_tt rfl ?_
      refine vc_seq ?_
      refine vc_region ?_
      refine oq (qv_ldm (vs := [(.int .i64 ((ftD vars t).v)), lv1, nv1, (.int .i64 ((ftD vars t).r))]) Try.agg25 rfl (inOc (k := 0) rfl) rfl rfl) ?_
      refine oq (qv_mv (.int .i64 (ftE vars t)) rfl) ?_
      refine oq (qv_build (out := [(Value.int .i64 0), (Value.slice none 0 0), (Value.slice none 0 0), (Value.int .i64 0)]) Try.build25 [] rfl rfl) ?_
      refine oq (qv_call (v := (.bool (decide ((ftE vars t) = 3 ∧ (ftD vars t) = zM)))) (is_c (A := (ftD vars t)) (B := zM) (ee := (ftE vars t)) (cc := 3) hMt Mt.nil) rfl rfl) ?_
      refine oq (qv_as (.bool (decide ((ftE vars t) = 3 ∧ (ftD vars t) = zM))) rfl) ?_
      refine ops_nil ?_
      refine vc_ret ?_
      refine blockQ_ret ?_
      exact rq1 (Value.bool true) (congrArg Value.bool (decide_eq_true (show ((ftE vars t) = 3 ∧ (ftD vars t) = zM) from by first | exact ft_3 (by omega) | exact ft_2 (by omega) (by omega) | exact ⟨by rw [hft.1, hm3], by rw [hft.2, mkD_n (by omega)]⟩ | exact hee | exact hev))) rfl
    ·
     refine og (qv_mv (Value.int .i64 vars) rfl) (want_f g2 rfl rfl rfl) ?_
     refine og (qv_gtr rfl rfl) (want_f g2 rfl rfl rfl) ?_
     refine oq (qv_pick_f g2 rfl (rfl : ev _ _ = (.bool (decide (40 < vars))))) ?_
     refine oq (qv_mv (.bool (decide (40 < vars))) rfl) ?_
     by_cases g3 : 40 < vars
     ·
      refine os (want_fn g3 rfl rfl rfl) ?_
      refine os (want_fn g3 rfl rfl rfl) ?_
      refine os (want_fn g3 rfl rfl rfl) ?_
      refine oq (qv_pick_t g3 rfl (rfl : ev _ _ = (Value.bool true))) ?_
      refine ops_nil ?_
      refine vc_tt rfl ?_
      refine vc_seq ?_
      have hcn := cn_3 (vars := vars) (v := gi t (0)) (by first | exact .inl (by omega) | exact .inr (by assumption))
      refine vc_region ?_
      refine oq (qv_ldm (vs := [(.int .i64 ((cnD vars (gi t (0))).v)), lv1b, nv1b, (.int .i64 ((cnD vars (gi t (0))).r))]) Try.agg25 rfl (inOc (k := 1) rfl) rfl rfl) ?_
      refine oq (qv_mv (.int .i64 (cnE vars (gi t (0)))) rfl) ?_
      refine oq (qv_build (out := [(Value.int .i64 0), (Value.slice none 0 0), (Value.slice none 0 0), (Value.int .i64 0)]) Try.build25 [] rfl rfl) ?_
      refine oq (qv_call (v := (.bool (decide ((cnE vars (gi t (0))) = 3 ∧ (cnD vars (gi t (0))) = zM)))) (is_c (A := (cnD vars (gi t (0)))) (B := zM) (ee := (cnE vars (gi t (0)))) (cc := 3) hMtb Mt.nil) rfl rfl) ?_
      refine oq (qv_not rfl) ?_
      refine ops_nil ?_
      refine vc_if rfl (fun c4 => ?_) (fun c4 => ?_)
      ·
       exact absurd hcn c4
      ·
       refine vc_skip ?_
       refine vc_seq ?_
       refine vc_block ?_
       refine vc_seq ?_
       refine vc_region ?_
       refine oq (qv_mv (Value.int .i64 vars) rfl) ?_
       refine oq (qv_lss rfl rfl) ?_
       refine oq (qv_mv (.bool (decide (vars < 0))) rfl) ?_
       refine og (qv_mv (Value.int .i64 vars) rfl) (want_f g2 rfl rfl rfl) ?_
       refine og (qv_gtr rfl rfl) (want_f g2 rfl rfl rfl) ?_
       refine oq (qv_pick_f g2 rfl (rfl : ev _ _ = (.bool (decide (12 < vars))))) ?_
       refine oq (qv_as (.bool (decide (12 < vars))) rfl) ?_
       refine ops_nil ?_
       refine vc_if rfl (fun c5 => ?_) (fun c5 => ?_)
       ·
        refine vc_seq ?_
        refine vc_region ?_
        refine oq (qv_ldm (vs := [(.int .i64 ((ftD vars t).v)), lv1, nv1, (.int .i64 ((ftD vars t).r))]) Try.agg25 rfl (inOc (k := 0) rfl) rfl rfl) ?_
        refine oq (qv_mv (.int .i64 (ftE vars t)) rfl) ?_
        refine oq (qv_build (out := [(Value.int .i64 0), (Value.slice none 0 0), (Value.slice none 0 0), (Value.int .i64 0)]) Try.build25 [] rfl rfl) ?_
        refine oq (qv_call (v := (.bool (decide ((ftE vars t) = 3 ∧ (ftD vars t) = zM)))) (is_c (A := (ftD vars t)) (B := zM) (ee := (ftE vars t)) (cc := 3) hMt Mt.nil) rfl rfl) ?_
        refine oq (qv_as (.bool (decide ((ftE vars t) = 3 ∧ (ftD vars t) = zM))) rfl) ?_
        refine ops_nil ?_
        refine vc_ret ?_
        refine blockQ_ret ?_
        exact rq1 (Value.bool true) (congrArg Value.bool (decide_eq_true (show ((ftE vars t) = 3 ∧ (ftD vars t) = zM) from by first | exact ft_3 (by omega) | exact ft_2 (by omega) (by omega) | exact ⟨by rw [hft.1, hm3], by rw [hft.2, mkD_n (by omega)]⟩ | exact hee | exact hev))) rfl
       ·
        refine vc_seq ?_
        have hpw := pow2_12 (n := vars.toNat) (by omega)
        refine vc_region ?_
        refine oq (qv_mv tv rfl) ?_
        refine oq (qv_lenI Try.underlying22 rfl ht) ?_
        refine oq (qv_mv (Value.int .i64 vars) rfl) ?_
        refine oq (qv_shli rfl rfl (by omega) (by omega) (by omega)) ?_
        refine oq (qv_neq rfl rfl) ?_
        refine oq (qv_as (.bool (decide (((t.length : Int)) ≠ (1 * 2 ^ (vars : Int).toNat)))) rfl) ?_
        refine ops_nil ?_
        refine vc_if rfl (fun c6 => ?_) (fun c6 => ?_)
        ·
         refine vc_seq ?_
         refine vc_region ?_
         refine oq (qv_ldm (vs := [(.int .i64 ((ftD vars t).v)), lv1, nv1, (.int .i64 ((ftD vars t).r))]) Try.agg25 rfl (inOc (k := 0) rfl) rfl rfl) ?_
         refine oq (qv_mv (.int .i64 (ftE vars t)) rfl) ?_
         refine oq (qv_build (out := [(Value.int .i64 0), (Value.slice none 0 0), (Value.slice none 0 0), (Value.int .i64 0)]) Try.build25 [] rfl rfl) ?_
         refine oq (qv_call (v := (.bool (decide ((ftE vars t) = 2 ∧ (ftD vars t) = zM)))) (is_c (A := (ftD vars t)) (B := zM) (ee := (ftE vars t)) (cc := 2) hMt Mt.nil) rfl rfl) ?_
         refine oq (qv_as (.bool (decide ((ftE vars t) = 2 ∧ (ftD vars t) = zM))) rfl) ?_
         refine ops_nil ?_
         refine vc_ret ?_
         refine blockQ_ret ?_
         exact rq1 (Value.bool true) (congrArg Value.bool (decide_eq_true (show ((ftE vars t) = 2 ∧ (ftD vars t) = zM) from by first | exact ft_3 (by omega) | exact ft_2 (by omega) (by omega) | exact ⟨by rw [hft.1, hm3], by rw [hft.2, mkD_n (by omega)]⟩ | exact hee | exact hev))) rfl
        ·
         refine vc_seq ?_
         refine vc_region ?_
         refine oq (qv_mv tv rfl) ?_
         refine oq (qv_call (v := (.bool (decide (∃ z ∈ t, ¬ inR z)))) (ContainsOut_c ht) rfl rfl) ?_
         refine oq (qv_as (.bool (decide (∃ z ∈ t, ¬ inR z))) rfl) ?_
         refine ops_nil ?_
         refine vc_if rfl (fun c7 => ?_) (fun c7 => ?_)
         ·
          refine vc_seq ?_
          have hft := ft_0 (vars := vars) (t := t) (by omega) (by omega)
          have hm3 := mkE_3 (vars := vars) (t := t) (by assumption)
          refine vc_region ?_
          refine oq (qv_ldm (vs := [(.int .i64 ((ftD vars t).v)), lv1, nv1, (.int .i64 ((ftD vars t).r))]) Try.agg25 rfl (inOc (k := 0) rfl) rfl rfl) ?_
          refine oq (qv_mv (.int .i64 (ftE vars t)) rfl) ?_
          refine oq (qv_build (out := [(Value.int .i64 0), (Value.slice none 0 0), (Value.slice none 0 0), (Value.int .i64 0)]) Try.build25 [] rfl rfl) ?_
          refine oq (qv_call (v := (.bool (decide ((ftE vars t) = 3 ∧ (ftD vars t) = zM)))) (is_c (A := (ftD vars t)) (B := zM) (ee := (ftE vars t)) (cc := 3) hMt Mt.nil) rfl rfl) ?_
          refine oq (qv_as (.bool (decide ((ftE vars t) = 3 ∧ (ftD vars t) = zM))) rfl) ?_
          refine ops_nil ?_
          refine vc_ret ?_
          refine blockQ_ret ?_
          exact rq1 (Value.bool true) (congrArg Value.bool (decide_eq_true (show ((ftE vars t) = 3 ∧ (ftD vars t) = zM) from by first | exact ft_3 (by omega) | exact ft_2 (by omega) (by omega) | exact ⟨by rw [hft.1, hm3], by rw [hft.2, mkD_n (by omega)]⟩ | exact hee | exact hev))) rfl
         ·
          refine vc_skip ?_
          refine vc_seq ?_
          have hft := ft_0 (vars := vars) (t := t) (by omega) (by omega)
          have hall : ∀ z ∈ t, inR z := fun z hz => Classical.byContradiction fun q => c7 ⟨z, hz, q⟩
          have hln : t.length = 2 ^ vars.toNat := by
            have e : ((2 ^ vars.toNat : Nat) : Int) = (2 : Int) ^ vars.toNat := by simp
            omega
          have hm := mkE_of (vars := vars) hall (dg_small (by omega) hln)
          have hfe := hft.1.trans hm
          have hfd := hft.2.trans (mkD_0 hm)
          have hok : Ok (ftD vars t) := by rw [hfd]; exact dg_ok (by omega) (by omega) hln hall (dg_small (by omega) hln)
          have hvt : vT (ftD vars t) = t := by rw [hfd]; exact vT_dg (by omega) hln
          have hv : (ftD vars t).v = vars := by rw [hfd]; rfl
          have htb := tb_0 hok (by rw [hv]; omega)
          have htl := htb.2.trans hvt
          have hte := htb.1
          have hfi := And.intro hfe hfd
          refine vc_region ?_
          refine oq (qv_ldm (vs := [(.int .i64 ((ftD vars t).v)), lv1, nv1, (.int .i64 ((ftD vars t).r))]) Try.agg25 rfl (inOc (k := 0) rfl) rfl rfl) ?_
          refine ops_call (σa := []) (σr := [(Arr 25 b1 [(.int .i64 ((ftD vars t).v)), lv1, nv1, (.int .i64 ((ftD vars t).r))]), (Arr 25 b2 [(.int .i64 ((cnD vars (gi t (0))).v)), lv1b, nv1b, (.int .i64 ((cnD vars (gi t (0))).r))]), (Arr 3 b3 [(.int .i64 (gi t (0)))]), (Arr 25 b4 [(Value.int .i64 vars), (.slice (some ⟨b3, 0, none⟩) 1 1), (Value.slice none 0 0), (Value.int .i64 0)])]) (Table_c (A := (ftD vars t)) hMt) rfl rfl (.refl _) (fun r3 V3 sg3 hV3 hp3 => ?_)
          obtain ⟨rfl, u1, rfl, hT⟩ := hp3
          have ht := ht.mono hV3
          have hX := hX.mono hV3
          have hMt := hMt.mono hV3
          have hMtb := hMtb.mono hV3
          refine oq (qv_mv (.tuple #[u1, (.int .i64 (tbE ((ftD vars t))))]) rfl) ?_
          refine oq (qv_ext u1 rfl rfl) ?_
          refine oq (qv_ext (.int .i64 (tbE ((ftD vars t)))) rfl rfl) ?_
          refine oq (qv_as u1 rfl) ?_
          refine oq (qv_as (.int .i64 (tbE ((ftD vars t)))) rfl) ?_
          refine ops_nil ?_
          refine vc_seq ?_
          refine vc_region ?_
          refine oq (qv_ldm (vs := [(.int .i64 ((ftD vars t).v)), lv1, nv1, (.int .i64 ((ftD vars t).r))]) Try.agg25 rfl (inOc (k := 0) rfl) rfl rfl) ?_
          refine oq (qv_mv xv rfl) ?_
          refine ops_call (σa := []) (σr := [(Arr 25 b1 [(.int .i64 ((ftD vars t).v)), lv1, nv1, (.int .i64 ((ftD vars t).r))]), (Arr 25 b2 [(.int .i64 ((cnD vars (gi t (0))).v)), lv1b, nv1b, (.int .i64 ((cnD vars (gi t (0))).r))]), (Arr 3 b3 [(.int .i64 (gi t (0)))]), (Arr 25 b4 [(Value.int .i64 vars), (.slice (some ⟨b3, 0, none⟩) 1 1), (Value.slice none 0 0), (Value.int .i64 0)])]) (Eval_c (A := ftD vars t) (X := X) hMt hX) rfl rfl (.refl _) (fun r4 V4 sg4 hV4 hp4 => ?_)
          obtain ⟨rfl, rfl⟩ := hp4
          have ht := ht.mono hV4
          have hX := hX.mono hV4
          have hMt := hMt.mono hV4
          have hMtb := hMtb.mono hV4
          have hT := hT.mono hV4
          refine oq (qv_mv (.tuple #[(.int .i64 (evV (ftD vars t) X)), (.int .i64 (evE (ftD vars t) X))]) rfl) ?_
          refine oq (qv_ext (.int .i64 (evV (ftD vars t) X)) rfl rfl) ?_
          refine oq (qv_ext (.int .i64 (evE (ftD vars t) X)) rfl rfl) ?_
          refine oq (qv_as (.int .i64 (evV (ftD vars t) X)) rfl) ?_
          refine oq (qv_as (.int .i64 (evE (ftD vars t) X)) rfl) ?_
          refine ops_nil ?_
          refine vc_seq ?_
          refine vc_seq ?_
          refine vc_region_order (τ := []) [(0, false), (1, false), (2, false), (3, false), (4, true), (5, false), (6, false), (7, false), (8, false), (9, false), (10, false), (11, false), (12, false), (13, false), (14, false), (15, false), (16, false)] [(Arr 25 b1 [(.int .i64 ((ftD vars t).v)), lv1, nv1, (.int .i64 ((ftD vars t).r))]), (Arr 25 b2 [(.int .i64 ((cnD vars (gi t (0))).v)), lv1b, nv1b, (.int .i64 ((cnD vars (gi t (0))).r))]), (Arr 3 b3 [(.int .i64 (gi t (0)))]), (Arr 25 b4 [(Value.int .i64 vars), (.slice (some ⟨b3, 0, none⟩) 1 1), (Value.slice none 0 0), (Value.int .i64 0)])] Try.mixed (perm_nil _) (by kernel_rfl) ?_
          refine rq rfl (qv_ldm (vs := [(.int .i64 ((ftD vars t).v)), lv1, nv1, (.int .i64 ((ftD vars t).r))]) Try.agg25 rfl (inOc (k := 0) rfl) rfl rfl) ?_
          refine rq rfl (qv_mv (.int .i64 (ftE vars t)) rfl) ?_
          refine rq rfl (qv_mv (Value.int .i64 vars) rfl) ?_
          refine rq rfl (qv_mv tv rfl) ?_
          refine rl rfl ?_
          refine ops_call (σa := []) (σr := [(Arr 25 b1 [(.int .i64 ((ftD vars t).v)), lv1, nv1, (.int .i64 ((ftD vars t).r))]), (Arr 25 b2 [(.int .i64 ((cnD vars (gi t (0))).v)), lv1b, nv1b, (.int .i64 ((cnD vars (gi t (0))).r))]), (Arr 3 b3 [(.int .i64 (gi t (0)))]), (Arr 25 b4 [(Value.int .i64 vars), (.slice (some ⟨b3, 0, none⟩) 1 1), (Value.slice none 0 0), (Value.int .i64 0)])]) (diagram_c ht (by omega) (by omega) hln) rfl rfl (.refl _) (fun r5 V5 sg5 hV5 hp5 => ?_)
          obtain ⟨rfl, lv2, nv2, rfl, hDg2⟩ := hp5
          have ht := ht.mono hV5
          have hX := hX.mono hV5
          have hMt := hMt.mono hV5
          have hMtb := hMtb.mono hV5
          have hT := hT.mono hV5
          refine ops_nil ⟨[(Arr 25 b1 [(.int .i64 ((ftD vars t).v)), lv1, nv1, (.int .i64 ((ftD vars t).r))]), (Arr 25 b2 [(.int .i64 ((cnD vars (gi t (0))).v)), lv1b, nv1b, (.int .i64 ((cnD vars (gi t (0))).r))]), (Arr 3 b3 [(.int .i64 (gi t (0)))]), (Arr 25 b4 [(Value.int .i64 vars), (.slice (some ⟨b3, 0, none⟩) 1 1), (Value.slice none 0 0), (Value.int .i64 0)])], [], hV5, perm_nil _, ⟨[], (.refl _)⟩, ?_⟩
          refine rq rfl (qv_call (v := (.bool (decide ((ftE vars t) = 0 ∧ (ftD vars t) = (dg vars t))))) (is_c (A := (ftD vars t)) (B := (dg vars t)) (ee := (ftE vars t)) (cc := 0) hMt hDg2) rfl rfl) ?_
          refine rq rfl (qv_not rfl) ?_
          refine rq rfl (qv_mv (.bool (decide (¬ ((ftE vars t) = 0 ∧ (ftD vars t) = (dg vars t))))) rfl) ?_
          by_cases g4 : ¬ ((ftE vars t) = 0 ∧ (ftD vars t) = (dg vars t))
          ·
           exact absurd hfi g4
          ·
           refine re rfl (qv_mv (.int .i64 (tbE ((ftD vars t)))) rfl) (want_f g4 rfl rfl rfl) ?_
           refine re rfl (qv_neq rfl rfl) (want_f g4 rfl rfl rfl) ?_
           refine rq rfl (qv_pick_f g4 rfl (rfl : ev _ _ = (.bool (decide ((tbE ((ftD vars t))) ≠ 0))))) ?_
           refine rq rfl (qv_mv (.bool (decide ((tbE ((ftD vars t))) ≠ 0))) rfl) ?_
           by_cases g5 : (tbE ((ftD vars t))) ≠ 0
           ·
            exact absurd hte g5
           ·
            refine re rfl (qv_mv u1 rfl) (want_f g5 rfl rfl rfl) ?_
            refine re rfl (qv_mv tv rfl) (want_f g5 rfl rfl rfl) ?_
            refine re rfl (qv_call (v := (.bool (decide (tbL (ftD vars t) = t)))) (EqI_c hT ht) rfl rfl) (want_f g5 rfl rfl rfl) ?_
            refine re rfl (qv_not rfl) (want_f g5 rfl rfl rfl) ?_
            refine rq rfl (qv_pick_f g5 rfl (rfl : ev _ _ = (.bool (decide (¬ (tbL (ftD vars t) = t)))))) ?_
            refine rnil ?_
            refine vc_if rfl (fun c8 => ?_) (fun c8 => ?_)
            ·
             exact absurd htl c8
            ·
             refine vc_skip ?_
             refine vc_seq ?_
             refine vc_seq ?_
             refine vc_region ?_
             refine oq (qv_mv xv rfl) ?_
             refine oq (qv_lenB Try.underlying30 rfl hX) ?_
             refine oq (qv_mv (Value.int .i64 vars) rfl) ?_
             refine oq (qv_neq rfl rfl) ?_
             refine ops_nil ?_
             refine vc_if rfl (fun c9 => ?_) (fun c9 => ?_)
             ·
              refine vc_seq ?_
              have hev2 := ev_2 (A := (ftD vars t)) (X := X) hok (by rw [hv]; omega)
              have hev := hev2.2
              have hee := hev2.1
              refine vc_region ?_
              refine oq (qv_mv (.int .i64 (evV (ftD vars t) X)) rfl) ?_
              refine oq (qv_eql rfl rfl) ?_
              refine oq (qv_mv (.bool (decide ((evV (ftD vars t) X) = 0))) rfl) ?_
              by_cases g6 : (evV (ftD vars t) X) = 0
              ·
               refine og (qv_mv (.int .i64 (evE (ftD vars t) X)) rfl) (want_t g6 rfl rfl rfl) ?_
               refine og (qv_eql rfl rfl) (want_t g6 rfl rfl rfl) ?_
               refine oq (qv_pick_t g6 rfl (rfl : ev _ _ = (.bool (decide ((evE (ftD vars t) X) = 2))))) ?_
               refine oq (qv_as (.bool (decide ((evE (ftD vars t) X) = 2))) rfl) ?_
               refine ops_nil ?_
               refine vc_ret ?_
               exact rq1 (Value.bool true) (congrArg Value.bool (decide_eq_true (show ((evE (ftD vars t) X) = 2) from by first | exact ft_3 (by omega) | exact ft_2 (by omega) (by omega) | exact ⟨by rw [hft.1, hm3], by rw [hft.2, mkD_n (by omega)]⟩ | exact hee | exact hev))) rfl
              ·
               exact absurd (hev) g6
             ·
              refine vc_skip ?_
              refine vc_seq ?_
              have hev2 := ev_0 (A := (ftD vars t)) (X := X) hok (by rw [hv]; omega)
              have hev := hev2.2
              have hee := hev2.1
              refine vc_region ?_
              refine oq (qv_mv (.int .i64 (evE (ftD vars t) X)) rfl) ?_
              refine oq (qv_eql rfl rfl) ?_
              refine oq (qv_mv (.bool (decide ((evE (ftD vars t) X) = 0))) rfl) ?_
              by_cases g7 : (evE (ftD vars t) X) = 0
              ·
               refine og (qv_mv (.int .i64 (evV (ftD vars t) X)) rfl) (want_t g7 rfl rfl rfl) ?_
               refine og (qv_ldm (vs := [(.int .i64 ((ftD vars t).v)), lv1, nv1, (.int .i64 ((ftD vars t).r))]) Try.agg25 rfl (inOc (k := 0) rfl) rfl rfl) (want_t g7 rfl rfl rfl) ?_
               refine og (qv_mv xv rfl) (want_t g7 rfl rfl rfl) ?_
               refine og (qv_call (v := (.int .i64 (vl (ftD vars t) (eb X)))) (valueR_c hMt hX hok (by rw [hv]; omega)) rfl rfl) (want_t g7 rfl rfl rfl) ?_
               refine og (qv_eql rfl rfl) (want_t g7 rfl rfl rfl) ?_
               refine oq (qv_pick_t g7 rfl (rfl : ev _ _ = (.bool (decide ((evV (ftD vars t) X) = (vl (ftD vars t) (eb X))))))) ?_
               refine oq (qv_as (.bool (decide ((evV (ftD vars t) X) = (vl (ftD vars t) (eb X))))) rfl) ?_
               refine ops_nil ?_
               refine vc_ret ?_
               exact rq1 (Value.bool true) (congrArg Value.bool (decide_eq_true (show ((evV (ftD vars t) X) = (vl (ftD vars t) (eb X))) from by first | exact ft_3 (by omega) | exact ft_2 (by omega) (by omega) | exact ⟨by rw [hft.1, hm3], by rw [hft.2, mkD_n (by omega)]⟩ | exact hee | exact hev))) rfl
              ·
               exact absurd (hee) g7
     ·
      refine og (qv_mv (.int .i64 (gi t (0))) rfl) (want_f g3 rfl rfl rfl) ?_
      refine og (qv_call (v := (.bool (decide (inR (gi t (0)))))) (inRangeR_c) rfl rfl) (want_f g3 rfl rfl rfl) ?_
      refine og (qv_not rfl) (want_f g3 rfl rfl rfl) ?_
      refine oq (qv_pick_f g3 rfl (rfl : ev _ _ = (.bool (decide (¬ (inR (gi t (0)))))))) ?_
      refine ops_nil ?_
      refine vc_if rfl (fun c10 => ?_) (fun c10 => ?_)
      ·
       refine vc_seq ?_
       have hcn := cn_3 (vars := vars) (v := gi t (0)) (by first | exact .inl (by omega) | exact .inr (by assumption))
       refine vc_region ?_
       refine oq (qv_ldm (vs := [(.int .i64 ((cnD vars (gi t (0))).v)), lv1b, nv1b, (.int .i64 ((cnD vars (gi t (0))).r))]) Try.agg25 rfl (inOc (k := 1) rfl) rfl rfl) ?_
       refine oq (qv_mv (.int .i64 (cnE vars (gi t (0)))) rfl) ?_
       refine oq (qv_build (out := [(Value.int .i64 0), (Value.slice none 0 0), (Value.slice none 0 0), (Value.int .i64 0)]) Try.build25 [] rfl rfl) ?_
       refine oq (qv_call (v := (.bool (decide ((cnE vars (gi t (0))) = 3 ∧ (cnD vars (gi t (0))) = zM)))) (is_c (A := (cnD vars (gi t (0)))) (B := zM) (ee := (cnE vars (gi t (0)))) (cc := 3) hMtb Mt.nil) rfl rfl) ?_
       refine oq (qv_not rfl) ?_
       refine ops_nil ?_
       refine vc_if rfl (fun c11 => ?_) (fun c11 => ?_)
       ·
        exact absurd hcn c11
       ·
        refine vc_skip ?_
        refine vc_seq ?_
        refine vc_block ?_
        refine vc_seq ?_
        refine vc_region ?_
        refine oq (qv_mv (Value.int .i64 vars) rfl) ?_
        refine oq (qv_lss rfl rfl) ?_
        refine oq (qv_mv (.bool (decide (vars < 0))) rfl) ?_
        refine og (qv_mv (Value.int .i64 vars) rfl) (want_f g2 rfl rfl rfl) ?_
        refine og (qv_gtr rfl rfl) (want_f g2 rfl rfl rfl) ?_
        refine oq (qv_pick_f g2 rfl (rfl : ev _ _ = (.bool (decide (12 < vars))))) ?_
        refine oq (qv_as (.bool (decide (12 < vars))) rfl) ?_
        refine ops_nil ?_
        refine vc_if rfl (fun c12 => ?_) (fun c12 => ?_)
        ·
         refine vc_seq ?_
         refine vc_region ?_
         refine oq (qv_ldm (vs := [(.int .i64 ((ftD vars t).v)), lv1, nv1, (.int .i64 ((ftD vars t).r))]) Try.agg25 rfl (inOc (k := 0) rfl) rfl rfl) ?_
         refine oq (qv_mv (.int .i64 (ftE vars t)) rfl) ?_
         refine oq (qv_build (out := [(Value.int .i64 0), (Value.slice none 0 0), (Value.slice none 0 0), (Value.int .i64 0)]) Try.build25 [] rfl rfl) ?_
         refine oq (qv_call (v := (.bool (decide ((ftE vars t) = 3 ∧ (ftD vars t) = zM)))) (is_c (A := (ftD vars t)) (B := zM) (ee := (ftE vars t)) (cc := 3) hMt Mt.nil) rfl rfl) ?_
         refine oq (qv_as (.bool (decide ((ftE vars t) = 3 ∧ (ftD vars t) = zM))) rfl) ?_
         refine ops_nil ?_
         refine vc_ret ?_
         refine blockQ_ret ?_
         exact rq1 (Value.bool true) (congrArg Value.bool (decide_eq_true (show ((ftE vars t) = 3 ∧ (ftD vars t) = zM) from by first | exact ft_3 (by omega) | exact ft_2 (by omega) (by omega) | exact ⟨by rw [hft.1, hm3], by rw [hft.2, mkD_n (by omega)]⟩ | exact hee | exact hev))) rfl
        ·
         refine vc_seq ?_
         have hpw := pow2_12 (n := vars.toNat) (by omega)
         refine vc_region ?_
         refine oq (qv_mv tv rfl) ?_
         refine oq (qv_lenI Try.underlying22 rfl ht) ?_
         refine oq (qv_mv (Value.int .i64 vars) rfl) ?_
         refine oq (qv_shli rfl rfl (by omega) (by omega) (by omega)) ?_
         refine oq (qv_neq rfl rfl) ?_
         refine oq (qv_as (.bool (decide (((t.length : Int)) ≠ (1 * 2 ^ (vars : Int).toNat)))) rfl) ?_
         refine ops_nil ?_
         refine vc_if rfl (fun c13 => ?_) (fun c13 => ?_)
         ·
          refine vc_seq ?_
          refine vc_region ?_
          refine oq (qv_ldm (vs := [(.int .i64 ((ftD vars t).v)), lv1, nv1, (.int .i64 ((ftD vars t).r))]) Try.agg25 rfl (inOc (k := 0) rfl) rfl rfl) ?_
          refine oq (qv_mv (.int .i64 (ftE vars t)) rfl) ?_
          refine oq (qv_build (out := [(Value.int .i64 0), (Value.slice none 0 0), (Value.slice none 0 0), (Value.int .i64 0)]) Try.build25 [] rfl rfl) ?_
          refine oq (qv_call (v := (.bool (decide ((ftE vars t) = 2 ∧ (ftD vars t) = zM)))) (is_c (A := (ftD vars t)) (B := zM) (ee := (ftE vars t)) (cc := 2) hMt Mt.nil) rfl rfl) ?_
          refine oq (qv_as (.bool (decide ((ftE vars t) = 2 ∧ (ftD vars t) = zM))) rfl) ?_
          refine ops_nil ?_
          refine vc_ret ?_
          refine blockQ_ret ?_
          exact rq1 (Value.bool true) (congrArg Value.bool (decide_eq_true (show ((ftE vars t) = 2 ∧ (ftD vars t) = zM) from by first | exact ft_3 (by omega) | exact ft_2 (by omega) (by omega) | exact ⟨by rw [hft.1, hm3], by rw [hft.2, mkD_n (by omega)]⟩ | exact hee | exact hev))) rfl
         ·
          refine vc_seq ?_
          refine vc_region ?_
          refine oq (qv_mv tv rfl) ?_
          refine oq (qv_call (v := (.bool (decide (∃ z ∈ t, ¬ inR z)))) (ContainsOut_c ht) rfl rfl) ?_
          refine oq (qv_as (.bool (decide (∃ z ∈ t, ¬ inR z))) rfl) ?_
          refine ops_nil ?_
          refine vc_if rfl (fun c14 => ?_) (fun c14 => ?_)
          ·
           refine vc_seq ?_
           have hft := ft_0 (vars := vars) (t := t) (by omega) (by omega)
           have hm3 := mkE_3 (vars := vars) (t := t) (by assumption)
           refine vc_region ?_
           refine oq (qv_ldm (vs := [(.int .i64 ((ftD vars t).v)), lv1, nv1, (.int .i64 ((ftD vars t).r))]) Try.agg25 rfl (inOc (k := 0) rfl) rfl rfl) ?_
           refine oq (qv_mv (.int .i64 (ftE vars t)) rfl) ?_
           refine oq (qv_build (out := [(Value.int .i64 0), (Value.slice none 0 0), (Value.slice none 0 0), (Value.int .i64 0)]) Try.build25 [] rfl rfl) ?_
           refine oq (qv_call (v := (.bool (decide ((ftE vars t) = 3 ∧ (ftD vars t) = zM)))) (is_c (A := (ftD vars t)) (B := zM) (ee := (ftE vars t)) (cc := 3) hMt Mt.nil) rfl rfl) ?_
           refine oq (qv_as (.bool (decide ((ftE vars t) = 3 ∧ (ftD vars t) = zM))) rfl) ?_
           refine ops_nil ?_
           refine vc_ret ?_
           refine blockQ_ret ?_
           exact rq1 (Value.bool true) (congrArg Value.bool (decide_eq_true (show ((ftE vars t) = 3 ∧ (ftD vars t) = zM) from by first | exact ft_3 (by omega) | exact ft_2 (by omega) (by omega) | exact ⟨by rw [hft.1, hm3], by rw [hft.2, mkD_n (by omega)]⟩ | exact hee | exact hev))) rfl
          ·
           refine vc_skip ?_
           refine vc_seq ?_
           have hft := ft_0 (vars := vars) (t := t) (by omega) (by omega)
           have hall : ∀ z ∈ t, inR z := fun z hz => Classical.byContradiction fun q => c14 ⟨z, hz, q⟩
           have hln : t.length = 2 ^ vars.toNat := by
             have e : ((2 ^ vars.toNat : Nat) : Int) = (2 : Int) ^ vars.toNat := by simp
             omega
           have hm := mkE_of (vars := vars) hall (dg_small (by omega) hln)
           have hfe := hft.1.trans hm
           have hfd := hft.2.trans (mkD_0 hm)
           have hok : Ok (ftD vars t) := by rw [hfd]; exact dg_ok (by omega) (by omega) hln hall (dg_small (by omega) hln)
           have hvt : vT (ftD vars t) = t := by rw [hfd]; exact vT_dg (by omega) hln
           have hv : (ftD vars t).v = vars := by rw [hfd]; rfl
           have htb := tb_0 hok (by rw [hv]; omega)
           have htl := htb.2.trans hvt
           have hte := htb.1
           have hfi := And.intro hfe hfd
           refine vc_region ?_
           refine oq (qv_ldm (vs := [(.int .i64 ((ftD vars t).v)), lv1, nv1, (.int .i64 ((ftD vars t).r))]) Try.agg25 rfl (inOc (k := 0) rfl) rfl rfl) ?_
           refine ops_call (σa := []) (σr := [(Arr 25 b1 [(.int .i64 ((ftD vars t).v)), lv1, nv1, (.int .i64 ((ftD vars t).r))]), (Arr 25 b2 [(.int .i64 ((cnD vars (gi t (0))).v)), lv1b, nv1b, (.int .i64 ((cnD vars (gi t (0))).r))]), (Arr 3 b3 [(.int .i64 (gi t (0)))]), (Arr 25 b4 [(Value.int .i64 vars), (.slice (some ⟨b3, 0, none⟩) 1 1), (Value.slice none 0 0), (Value.int .i64 0)])]) (Table_c (A := (ftD vars t)) hMt) rfl rfl (.refl _) (fun r6 V6 sg6 hV6 hp6 => ?_)
           obtain ⟨rfl, u1, rfl, hT⟩ := hp6
           have ht := ht.mono hV6
           have hX := hX.mono hV6
           have hMt := hMt.mono hV6
           have hMtb := hMtb.mono hV6
           refine oq (qv_mv (.tuple #[u1, (.int .i64 (tbE ((ftD vars t))))]) rfl) ?_
           refine oq (qv_ext u1 rfl rfl) ?_
           refine oq (qv_ext (.int .i64 (tbE ((ftD vars t)))) rfl rfl) ?_
           refine oq (qv_as u1 rfl) ?_
           refine oq (qv_as (.int .i64 (tbE ((ftD vars t)))) rfl) ?_
           refine ops_nil ?_
           refine vc_seq ?_
           refine vc_region ?_
           refine oq (qv_ldm (vs := [(.int .i64 ((ftD vars t).v)), lv1, nv1, (.int .i64 ((ftD vars t).r))]) Try.agg25 rfl (inOc (k := 0) rfl) rfl rfl) ?_
           refine oq (qv_mv xv rfl) ?_
           refine ops_call (σa := []) (σr := [(Arr 25 b1 [(.int .i64 ((ftD vars t).v)), lv1, nv1, (.int .i64 ((ftD vars t).r))]), (Arr 25 b2 [(.int .i64 ((cnD vars (gi t (0))).v)), lv1b, nv1b, (.int .i64 ((cnD vars (gi t (0))).r))]), (Arr 3 b3 [(.int .i64 (gi t (0)))]), (Arr 25 b4 [(Value.int .i64 vars), (.slice (some ⟨b3, 0, none⟩) 1 1), (Value.slice none 0 0), (Value.int .i64 0)])]) (Eval_c (A := ftD vars t) (X := X) hMt hX) rfl rfl (.refl _) (fun r7 V7 sg7 hV7 hp7 => ?_)
           obtain ⟨rfl, rfl⟩ := hp7
           have ht := ht.mono hV7
           have hX := hX.mono hV7
           have hMt := hMt.mono hV7
           have hMtb := hMtb.mono hV7
           have hT := hT.mono hV7
           refine oq (qv_mv (.tuple #[(.int .i64 (evV (ftD vars t) X)), (.int .i64 (evE (ftD vars t) X))]) rfl) ?_
           refine oq (qv_ext (.int .i64 (evV (ftD vars t) X)) rfl rfl) ?_
           refine oq (qv_ext (.int .i64 (evE (ftD vars t) X)) rfl rfl) ?_
           refine oq (qv_as (.int .i64 (evV (ftD vars t) X)) rfl) ?_
           refine oq (qv_as (.int .i64 (evE (ftD vars t) X)) rfl) ?_
           refine ops_nil ?_
           refine vc_seq ?_
           refine vc_seq ?_
           refine vc_region_order (τ := []) [(0, false), (1, false), (2, false), (3, false), (4, true), (5, false), (6, false), (7, false), (8, false), (9, false), (10, false), (11, false), (12, false), (13, false), (14, false), (15, false), (16, false)] [(Arr 25 b1 [(.int .i64 ((ftD vars t).v)), lv1, nv1, (.int .i64 ((ftD vars t).r))]), (Arr 25 b2 [(.int .i64 ((cnD vars (gi t (0))).v)), lv1b, nv1b, (.int .i64 ((cnD vars (gi t (0))).r))]), (Arr 3 b3 [(.int .i64 (gi t (0)))]), (Arr 25 b4 [(Value.int .i64 vars), (.slice (some ⟨b3, 0, none⟩) 1 1), (Value.slice none 0 0), (Value.int .i64 0)])] Try.mixed (perm_nil _) (by kernel_rfl) ?_
           refine rq rfl (qv_ldm (vs := [(.int .i64 ((ftD vars t).v)), lv1, nv1, (.int .i64 ((ftD vars t).r))]) Try.agg25 rfl (inOc (k := 0) rfl) rfl rfl) ?_
           refine rq rfl (qv_mv (.int .i64 (ftE vars t)) rfl) ?_
           refine rq rfl (qv_mv (Value.int .i64 vars) rfl) ?_
           refine rq rfl (qv_mv tv rfl) ?_
           refine rl rfl ?_
           refine ops_call (σa := []) (σr := [(Arr 25 b1 [(.int .i64 ((ftD vars t).v)), lv1, nv1, (.int .i64 ((ftD vars t).r))]), (Arr 25 b2 [(.int .i64 ((cnD vars (gi t (0))).v)), lv1b, nv1b, (.int .i64 ((cnD vars (gi t (0))).r))]), (Arr 3 b3 [(.int .i64 (gi t (0)))]), (Arr 25 b4 [(Value.int .i64 vars), (.slice (some ⟨b3, 0, none⟩) 1 1), (Value.slice none 0 0), (Value.int .i64 0)])]) (diagram_c ht (by omega) (by omega) hln) rfl rfl (.refl _) (fun r8 V8 sg8 hV8 hp8 => ?_)
           obtain ⟨rfl, lv2, nv2, rfl, hDg2⟩ := hp8
           have ht := ht.mono hV8
           have hX := hX.mono hV8
           have hMt := hMt.mono hV8
           have hMtb := hMtb.mono hV8
           have hT := hT.mono hV8
           refine ops_nil ⟨[(Arr 25 b1 [(.int .i64 ((ftD vars t).v)), lv1, nv1, (.int .i64 ((ftD vars t).r))]), (Arr 25 b2 [(.int .i64 ((cnD vars (gi t (0))).v)), lv1b, nv1b, (.int .i64 ((cnD vars (gi t (0))).r))]), (Arr 3 b3 [(.int .i64 (gi t (0)))]), (Arr 25 b4 [(Value.int .i64 vars), (.slice (some ⟨b3, 0, none⟩) 1 1), (Value.slice none 0 0), (Value.int .i64 0)])], [], hV8, perm_nil _, ⟨[], (.refl _)⟩, ?_⟩
           refine rq rfl (qv_call (v := (.bool (decide ((ftE vars t) = 0 ∧ (ftD vars t) = (dg vars t))))) (is_c (A := (ftD vars t)) (B := (dg vars t)) (ee := (ftE vars t)) (cc := 0) hMt hDg2) rfl rfl) ?_
           refine rq rfl (qv_not rfl) ?_
           refine rq rfl (qv_mv (.bool (decide (¬ ((ftE vars t) = 0 ∧ (ftD vars t) = (dg vars t))))) rfl) ?_
           by_cases g8 : ¬ ((ftE vars t) = 0 ∧ (ftD vars t) = (dg vars t))
           ·
            exact absurd hfi g8
           ·
            refine re rfl (qv_mv (.int .i64 (tbE ((ftD vars t)))) rfl) (want_f g8 rfl rfl rfl) ?_
            refine re rfl (qv_neq rfl rfl) (want_f g8 rfl rfl rfl) ?_
            refine rq rfl (qv_pick_f g8 rfl (rfl : ev _ _ = (.bool (decide ((tbE ((ftD vars t))) ≠ 0))))) ?_
            refine rq rfl (qv_mv (.bool (decide ((tbE ((ftD vars t))) ≠ 0))) rfl) ?_
            by_cases g9 : (tbE ((ftD vars t))) ≠ 0
            ·
             exact absurd hte g9
            ·
             refine re rfl (qv_mv u1 rfl) (want_f g9 rfl rfl rfl) ?_
             refine re rfl (qv_mv tv rfl) (want_f g9 rfl rfl rfl) ?_
             refine re rfl (qv_call (v := (.bool (decide (tbL (ftD vars t) = t)))) (EqI_c hT ht) rfl rfl) (want_f g9 rfl rfl rfl) ?_
             refine re rfl (qv_not rfl) (want_f g9 rfl rfl rfl) ?_
             refine rq rfl (qv_pick_f g9 rfl (rfl : ev _ _ = (.bool (decide (¬ (tbL (ftD vars t) = t)))))) ?_
             refine rnil ?_
             refine vc_if rfl (fun c15 => ?_) (fun c15 => ?_)
             ·
              exact absurd htl c15
             ·
              refine vc_skip ?_
              refine vc_seq ?_
              refine vc_seq ?_
              refine vc_region ?_
              refine oq (qv_mv xv rfl) ?_
              refine oq (qv_lenB Try.underlying30 rfl hX) ?_
              refine oq (qv_mv (Value.int .i64 vars) rfl) ?_
              refine oq (qv_neq rfl rfl) ?_
              refine ops_nil ?_
              refine vc_if rfl (fun c16 => ?_) (fun c16 => ?_)
              ·
               refine vc_seq ?_
               have hev2 := ev_2 (A := (ftD vars t)) (X := X) hok (by rw [hv]; omega)
               have hev := hev2.2
               have hee := hev2.1
               refine vc_region ?_
               refine oq (qv_mv (.int .i64 (evV (ftD vars t) X)) rfl) ?_
               refine oq (qv_eql rfl rfl) ?_
               refine oq (qv_mv (.bool (decide ((evV (ftD vars t) X) = 0))) rfl) ?_
               by_cases g10 : (evV (ftD vars t) X) = 0
               ·
                refine og (qv_mv (.int .i64 (evE (ftD vars t) X)) rfl) (want_t g10 rfl rfl rfl) ?_
                refine og (qv_eql rfl rfl) (want_t g10 rfl rfl rfl) ?_
                refine oq (qv_pick_t g10 rfl (rfl : ev _ _ = (.bool (decide ((evE (ftD vars t) X) = 2))))) ?_
                refine oq (qv_as (.bool (decide ((evE (ftD vars t) X) = 2))) rfl) ?_
                refine ops_nil ?_
                refine vc_ret ?_
                exact rq1 (Value.bool true) (congrArg Value.bool (decide_eq_true (show ((evE (ftD vars t) X) = 2) from by first | exact ft_3 (by omega) | exact ft_2 (by omega) (by omega) | exact ⟨by rw [hft.1, hm3], by rw [hft.2, mkD_n (by omega)]⟩ | exact hee | exact hev))) rfl
               ·
                exact absurd (hev) g10
              ·
               refine vc_skip ?_
               refine vc_seq ?_
               have hev2 := ev_0 (A := (ftD vars t)) (X := X) hok (by rw [hv]; omega)
               have hev := hev2.2
               have hee := hev2.1
               refine vc_region ?_
               refine oq (qv_mv (.int .i64 (evE (ftD vars t) X)) rfl) ?_
               refine oq (qv_eql rfl rfl) ?_
               refine oq (qv_mv (.bool (decide ((evE (ftD vars t) X) = 0))) rfl) ?_
               by_cases g11 : (evE (ftD vars t) X) = 0
               ·
                refine og (qv_mv (.int .i64 (evV (ftD vars t) X)) rfl) (want_t g11 rfl rfl rfl) ?_
                refine og (qv_ldm (vs := [(.int .i64 ((ftD vars t).v)), lv1, nv1, (.int .i64 ((ftD vars t).r))]) Try.agg25 rfl (inOc (k := 0) rfl) rfl rfl) (want_t g11 rfl rfl rfl) ?_
                refine og (qv_mv xv rfl) (want_t g11 rfl rfl rfl) ?_
                refine og (qv_call (v := (.int .i64 (vl (ftD vars t) (eb X)))) (valueR_c hMt hX hok (by rw [hv]; omega)) rfl rfl) (want_t g11 rfl rfl rfl) ?_
                refine og (qv_eql rfl rfl) (want_t g11 rfl rfl rfl) ?_
                refine oq (qv_pick_t g11 rfl (rfl : ev _ _ = (.bool (decide ((evV (ftD vars t) X) = (vl (ftD vars t) (eb X))))))) ?_
                refine oq (qv_as (.bool (decide ((evV (ftD vars t) X) = (vl (ftD vars t) (eb X))))) rfl) ?_
                refine ops_nil ?_
                refine vc_ret ?_
                exact rq1 (Value.bool true) (congrArg Value.bool (decide_eq_true (show ((evV (ftD vars t) X) = (vl (ftD vars t) (eb X))) from by first | exact ft_3 (by omega) | exact ft_2 (by omega) (by omega) | exact ⟨by rw [hft.1, hm3], by rw [hft.2, mkD_n (by omega)]⟩ | exact hee | exact hev))) rfl
               ·
                exact absurd (hee) g11
      ·
       refine vc_seq ?_
       have hcn := cn_0 (vars := vars) (v := gi t (0)) (fun q => q.elim (fun h => by omega) (by first | exact fun h => h (by assumption) | exact fun h => absurd h (by assumption)))
       refine vc_region ?_
       refine oq (qv_ldm (vs := [(.int .i64 ((cnD vars (gi t (0))).v)), lv1b, nv1b, (.int .i64 ((cnD vars (gi t (0))).r))]) Try.agg25 rfl (inOc (k := 1) rfl) rfl rfl) ?_
       refine oq (qv_mv (.int .i64 (cnE vars (gi t (0)))) rfl) ?_
       refine oq (qv_ldm (vs := [(Value.int .i64 vars), (.slice (some ⟨b3, 0, none⟩) 1 1), (Value.slice none 0 0), (Value.int .i64 0)]) Try.agg25 rfl (inOc (k := 3) rfl) rfl rfl) ?_
       refine ops_freeze (b := b3) (o := .cells ([(Value.int .i64 (gi t (0)))] : List Value).toArray 3 (0, 0)) (σr := [(Arr 25 b1 [(Value.int .i64 ((ftD vars t).v)), lv1, nv1, (Value.int .i64 ((ftD vars t).r))]), (Arr 25 b2 [(Value.int .i64 ((cnD vars (gi t (0))).v)), lv1b, nv1b, (Value.int .i64 ((cnD vars (gi t (0))).r))]), (Arr 25 b4 [(Value.int .i64 vars), (Value.slice (some ⟨b3, 0, none⟩) 1 1), (Value.slice none 0 0), (Value.int .i64 0)])]) (List.perm_middle (l₁ := [(Arr 25 b1 [(Value.int .i64 ((ftD vars t).v)), lv1, nv1, (Value.int .i64 ((ftD vars t).r))]), (Arr 25 b2 [(Value.int .i64 ((cnD vars (gi t (0))).v)), lv1b, nv1b, (Value.int .i64 ((cnD vars (gi t (0))).r))])]) (l₂ := [(Arr 25 b4 [(Value.int .i64 vars), (Value.slice (some ⟨b3, 0, none⟩) 1 1), (Value.slice none 0 0), (Value.int .i64 0)])])) (fun Vf1 hVf1 hb1 => ?_)
       have hc1 : Cells Vf1 b3 [(.int .i64 (gi t (0)))] := ⟨_, _, hb1⟩
       have ht := ht.mono hVf1
       have hX := hX.mono hVf1
       have hMt := hMt.mono hVf1
       have hMtb := hMtb.mono hVf1
       refine oq (qv_call (v := (.bool (decide ((cnE vars (gi t (0))) = 0 ∧ (cnD vars (gi t (0))) = (⟨vars, [gi t (0)], [], 0⟩ : Mg))))) (is_c (A := (cnD vars (gi t (0)))) (B := (⟨vars, [gi t (0)], [], 0⟩ : Mg)) (ee := (cnE vars (gi t (0)))) (cc := 0) hMtb ⟨ints_cells (n := 1) (c := 1) hc1 rfl (Nat.le_refl _) (by omega), Fks.nil⟩) rfl rfl) ?_
       refine oq (qv_not rfl) ?_
       refine ops_nil ?_
       refine vc_if rfl (fun c17 => ?_) (fun c17 => ?_)
       ·
        exact absurd hcn c17
       ·
        refine vc_skip ?_
        refine vc_seq ?_
        refine vc_block ?_
        refine vc_seq ?_
        refine vc_res (σ' := [(Arr 25 b1 [(.int .i64 ((ftD vars t).v)), lv1, nv1, (.int .i64 ((ftD vars t).r))]), (Arr 25 b2 [(.int .i64 ((cnD vars (gi t (0))).v)), lv1b, nv1b, (.int .i64 ((cnD vars (gi t (0))).r))]), (Arr 25 b4 [(Value.int .i64 vars), (.slice (some ⟨b3, 0, none⟩) 1 1), (Value.slice none 0 0), (Value.int .i64 0)])]) rfl ?_
        refine vc_region ?_
        refine oq (qv_mv (Value.int .i64 vars) rfl) ?_
        refine oq (qv_lss rfl rfl) ?_
        refine oq (qv_mv (.bool (decide (vars < 0))) rfl) ?_
        refine og (qv_mv (Value.int .i64 vars) rfl) (want_f g2 rfl rfl rfl) ?_
        refine og (qv_gtr rfl rfl) (want_f g2 rfl rfl rfl) ?_
        refine oq (qv_pick_f g2 rfl (rfl : ev _ _ = (.bool (decide (12 < vars))))) ?_
        refine oq (qv_as (.bool (decide (12 < vars))) rfl) ?_
        refine ops_nil ?_
        refine vc_if rfl (fun c18 => ?_) (fun c18 => ?_)
        ·
         refine vc_seq ?_
         refine vc_region ?_
         refine oq (qv_ldm (vs := [(.int .i64 ((ftD vars t).v)), lv1, nv1, (.int .i64 ((ftD vars t).r))]) Try.agg25 rfl (inOc (k := 0) rfl) rfl rfl) ?_
         refine oq (qv_mv (.int .i64 (ftE vars t)) rfl) ?_
         refine oq (qv_build (out := [(Value.int .i64 0), (Value.slice none 0 0), (Value.slice none 0 0), (Value.int .i64 0)]) Try.build25 [] rfl rfl) ?_
         refine oq (qv_call (v := (.bool (decide ((ftE vars t) = 3 ∧ (ftD vars t) = zM)))) (is_c (A := (ftD vars t)) (B := zM) (ee := (ftE vars t)) (cc := 3) hMt Mt.nil) rfl rfl) ?_
         refine oq (qv_as (.bool (decide ((ftE vars t) = 3 ∧ (ftD vars t) = zM))) rfl) ?_
         refine ops_nil ?_
         refine vc_ret ?_
         refine blockQ_ret ?_
         exact rq1 (Value.bool true) (congrArg Value.bool (decide_eq_true (show ((ftE vars t) = 3 ∧ (ftD vars t) = zM) from by first | exact ft_3 (by omega) | exact ft_2 (by omega) (by omega) | exact ⟨by rw [hft.1, hm3], by rw [hft.2, mkD_n (by omega)]⟩ | exact hee | exact hev))) rfl
        ·
         refine vc_seq ?_
         have hpw := pow2_12 (n := vars.toNat) (by omega)
         refine vc_region ?_
         refine oq (qv_mv tv rfl) ?_
         refine oq (qv_lenI Try.underlying22 rfl ht) ?_
         refine oq (qv_mv (Value.int .i64 vars) rfl) ?_
         refine oq (qv_shli rfl rfl (by omega) (by omega) (by omega)) ?_
         refine oq (qv_neq rfl rfl) ?_
         refine oq (qv_as (.bool (decide (((t.length : Int)) ≠ (1 * 2 ^ (vars : Int).toNat)))) rfl) ?_
         refine ops_nil ?_
         refine vc_if rfl (fun c19 => ?_) (fun c19 => ?_)
         ·
          refine vc_seq ?_
          refine vc_region ?_
          refine oq (qv_ldm (vs := [(.int .i64 ((ftD vars t).v)), lv1, nv1, (.int .i64 ((ftD vars t).r))]) Try.agg25 rfl (inOc (k := 0) rfl) rfl rfl) ?_
          refine oq (qv_mv (.int .i64 (ftE vars t)) rfl) ?_
          refine oq (qv_build (out := [(Value.int .i64 0), (Value.slice none 0 0), (Value.slice none 0 0), (Value.int .i64 0)]) Try.build25 [] rfl rfl) ?_
          refine oq (qv_call (v := (.bool (decide ((ftE vars t) = 2 ∧ (ftD vars t) = zM)))) (is_c (A := (ftD vars t)) (B := zM) (ee := (ftE vars t)) (cc := 2) hMt Mt.nil) rfl rfl) ?_
          refine oq (qv_as (.bool (decide ((ftE vars t) = 2 ∧ (ftD vars t) = zM))) rfl) ?_
          refine ops_nil ?_
          refine vc_ret ?_
          refine blockQ_ret ?_
          exact rq1 (Value.bool true) (congrArg Value.bool (decide_eq_true (show ((ftE vars t) = 2 ∧ (ftD vars t) = zM) from by first | exact ft_3 (by omega) | exact ft_2 (by omega) (by omega) | exact ⟨by rw [hft.1, hm3], by rw [hft.2, mkD_n (by omega)]⟩ | exact hee | exact hev))) rfl
         ·
          refine vc_seq ?_
          refine vc_region ?_
          refine oq (qv_mv tv rfl) ?_
          refine oq (qv_call (v := (.bool (decide (∃ z ∈ t, ¬ inR z)))) (ContainsOut_c ht) rfl rfl) ?_
          refine oq (qv_as (.bool (decide (∃ z ∈ t, ¬ inR z))) rfl) ?_
          refine ops_nil ?_
          refine vc_if rfl (fun c20 => ?_) (fun c20 => ?_)
          ·
           refine vc_seq ?_
           have hft := ft_0 (vars := vars) (t := t) (by omega) (by omega)
           have hm3 := mkE_3 (vars := vars) (t := t) (by assumption)
           refine vc_region ?_
           refine oq (qv_ldm (vs := [(.int .i64 ((ftD vars t).v)), lv1, nv1, (.int .i64 ((ftD vars t).r))]) Try.agg25 rfl (inOc (k := 0) rfl) rfl rfl) ?_
           refine oq (qv_mv (.int .i64 (ftE vars t)) rfl) ?_
           refine oq (qv_build (out := [(Value.int .i64 0), (Value.slice none 0 0), (Value.slice none 0 0), (Value.int .i64 0)]) Try.build25 [] rfl rfl) ?_
           refine oq (qv_call (v := (.bool (decide ((ftE vars t) = 3 ∧ (ftD vars t) = zM)))) (is_c (A := (ftD vars t)) (B := zM) (ee := (ftE vars t)) (cc := 3) hMt Mt.nil) rfl rfl) ?_
           refine oq (qv_as (.bool (decide ((ftE vars t) = 3 ∧ (ftD vars t) = zM))) rfl) ?_
           refine ops_nil ?_
           refine vc_ret ?_
           refine blockQ_ret ?_
           exact rq1 (Value.bool true) (congrArg Value.bool (decide_eq_true (show ((ftE vars t) = 3 ∧ (ftD vars t) = zM) from by first | exact ft_3 (by omega) | exact ft_2 (by omega) (by omega) | exact ⟨by rw [hft.1, hm3], by rw [hft.2, mkD_n (by omega)]⟩ | exact hee | exact hev))) rfl
          ·
           refine vc_skip ?_
           refine vc_seq ?_
           have hft := ft_0 (vars := vars) (t := t) (by omega) (by omega)
           have hall : ∀ z ∈ t, inR z := fun z hz => Classical.byContradiction fun q => c20 ⟨z, hz, q⟩
           have hln : t.length = 2 ^ vars.toNat := by
             have e : ((2 ^ vars.toNat : Nat) : Int) = (2 : Int) ^ vars.toNat := by simp
             omega
           have hm := mkE_of (vars := vars) hall (dg_small (by omega) hln)
           have hfe := hft.1.trans hm
           have hfd := hft.2.trans (mkD_0 hm)
           have hok : Ok (ftD vars t) := by rw [hfd]; exact dg_ok (by omega) (by omega) hln hall (dg_small (by omega) hln)
           have hvt : vT (ftD vars t) = t := by rw [hfd]; exact vT_dg (by omega) hln
           have hv : (ftD vars t).v = vars := by rw [hfd]; rfl
           have htb := tb_0 hok (by rw [hv]; omega)
           have htl := htb.2.trans hvt
           have hte := htb.1
           have hfi := And.intro hfe hfd
           refine vc_region ?_
           refine oq (qv_ldm (vs := [(.int .i64 ((ftD vars t).v)), lv1, nv1, (.int .i64 ((ftD vars t).r))]) Try.agg25 rfl (inOc (k := 0) rfl) rfl rfl) ?_
           refine ops_call (σa := []) (σr := [(Arr 25 b1 [(.int .i64 ((ftD vars t).v)), lv1, nv1, (.int .i64 ((ftD vars t).r))]), (Arr 25 b2 [(.int .i64 ((cnD vars (gi t (0))).v)), lv1b, nv1b, (.int .i64 ((cnD vars (gi t (0))).r))]), (Arr 25 b4 [(Value.int .i64 vars), (.slice (some ⟨b3, 0, none⟩) 1 1), (Value.slice none 0 0), (Value.int .i64 0)])]) (Table_c (A := (ftD vars t)) hMt) rfl rfl (.refl _) (fun r9 V9 sg9 hV9 hp9 => ?_)
           obtain ⟨rfl, u1, rfl, hT⟩ := hp9
           have ht := ht.mono hV9
           have hX := hX.mono hV9
           have hMt := hMt.mono hV9
           have hMtb := hMtb.mono hV9
           have hc1 := hc1.mono hV9
           refine oq (qv_mv (.tuple #[u1, (.int .i64 (tbE ((ftD vars t))))]) rfl) ?_
           refine oq (qv_ext u1 rfl rfl) ?_
           refine oq (qv_ext (.int .i64 (tbE ((ftD vars t)))) rfl rfl) ?_
           refine oq (qv_as u1 rfl) ?_
           refine oq (qv_as (.int .i64 (tbE ((ftD vars t)))) rfl) ?_
           refine ops_nil ?_
           refine vc_seq ?_
           refine vc_region ?_
           refine oq (qv_ldm (vs := [(.int .i64 ((ftD vars t).v)), lv1, nv1, (.int .i64 ((ftD vars t).r))]) Try.agg25 rfl (inOc (k := 0) rfl) rfl rfl) ?_
           refine oq (qv_mv xv rfl) ?_
           refine ops_call (σa := []) (σr := [(Arr 25 b1 [(.int .i64 ((ftD vars t).v)), lv1, nv1, (.int .i64 ((ftD vars t).r))]), (Arr 25 b2 [(.int .i64 ((cnD vars (gi t (0))).v)), lv1b, nv1b, (.int .i64 ((cnD vars (gi t (0))).r))]), (Arr 25 b4 [(Value.int .i64 vars), (.slice (some ⟨b3, 0, none⟩) 1 1), (Value.slice none 0 0), (Value.int .i64 0)])]) (Eval_c (A := ftD vars t) (X := X) hMt hX) rfl rfl (.refl _) (fun r10 V10 sg10 hV10 hp10 => ?_)
           obtain ⟨rfl, rfl⟩ := hp10
           have ht := ht.mono hV10
           have hX := hX.mono hV10
           have hMt := hMt.mono hV10
           have hMtb := hMtb.mono hV10
           have hc1 := hc1.mono hV10
           have hT := hT.mono hV10
           refine oq (qv_mv (.tuple #[(.int .i64 (evV (ftD vars t) X)), (.int .i64 (evE (ftD vars t) X))]) rfl) ?_
           refine oq (qv_ext (.int .i64 (evV (ftD vars t) X)) rfl rfl) ?_
           refine oq (qv_ext (.int .i64 (evE (ftD vars t) X)) rfl rfl) ?_
           refine oq (qv_as (.int .i64 (evV (ftD vars t) X)) rfl) ?_
           refine oq (qv_as (.int .i64 (evE (ftD vars t) X)) rfl) ?_
           refine ops_nil ?_
           refine vc_seq ?_
           refine vc_seq ?_
           refine vc_region_order (τ := []) [(0, false), (1, false), (2, false), (3, false), (4, true), (5, false), (6, false), (7, false), (8, false), (9, false), (10, false), (11, false), (12, false), (13, false), (14, false), (15, false), (16, false)] [(Arr 25 b1 [(.int .i64 ((ftD vars t).v)), lv1, nv1, (.int .i64 ((ftD vars t).r))]), (Arr 25 b2 [(.int .i64 ((cnD vars (gi t (0))).v)), lv1b, nv1b, (.int .i64 ((cnD vars (gi t (0))).r))]), (Arr 25 b4 [(Value.int .i64 vars), (.slice (some ⟨b3, 0, none⟩) 1 1), (Value.slice none 0 0), (Value.int .i64 0)])] Try.mixed (perm_nil _) (by kernel_rfl) ?_
           refine rq rfl (qv_ldm (vs := [(.int .i64 ((ftD vars t).v)), lv1, nv1, (.int .i64 ((ftD vars t).r))]) Try.agg25 rfl (inOc (k := 0) rfl) rfl rfl) ?_
           refine rq rfl (qv_mv (.int .i64 (ftE vars t)) rfl) ?_
           refine rq rfl (qv_mv (Value.int .i64 vars) rfl) ?_
           refine rq rfl (qv_mv tv rfl) ?_
           refine rl rfl ?_
           refine ops_call (σa := []) (σr := [(Arr 25 b1 [(.int .i64 ((ftD vars t).v)), lv1, nv1, (.int .i64 ((ftD vars t).r))]), (Arr 25 b2 [(.int .i64 ((cnD vars (gi t (0))).v)), lv1b, nv1b, (.int .i64 ((cnD vars (gi t (0))).r))]), (Arr 25 b4 [(Value.int .i64 vars), (.slice (some ⟨b3, 0, none⟩) 1 1), (Value.slice none 0 0), (Value.int .i64 0)])]) (diagram_c ht (by omega) (by omega) hln) rfl rfl (.refl _) (fun r11 V11 sg11 hV11 hp11 => ?_)
           obtain ⟨rfl, lv2, nv2, rfl, hDg2⟩ := hp11
           have ht := ht.mono hV11
           have hX := hX.mono hV11
           have hMt := hMt.mono hV11
           have hMtb := hMtb.mono hV11
           have hc1 := hc1.mono hV11
           have hT := hT.mono hV11
           refine ops_nil ⟨[(Arr 25 b1 [(.int .i64 ((ftD vars t).v)), lv1, nv1, (.int .i64 ((ftD vars t).r))]), (Arr 25 b2 [(.int .i64 ((cnD vars (gi t (0))).v)), lv1b, nv1b, (.int .i64 ((cnD vars (gi t (0))).r))]), (Arr 25 b4 [(Value.int .i64 vars), (.slice (some ⟨b3, 0, none⟩) 1 1), (Value.slice none 0 0), (Value.int .i64 0)])], [], hV11, perm_nil _, ⟨[], (.refl _)⟩, ?_⟩
           refine rq rfl (qv_call (v := (.bool (decide ((ftE vars t) = 0 ∧ (ftD vars t) = (dg vars t))))) (is_c (A := (ftD vars t)) (B := (dg vars t)) (ee := (ftE vars t)) (cc := 0) hMt hDg2) rfl rfl) ?_
           refine rq rfl (qv_not rfl) ?_
           refine rq rfl (qv_mv (.bool (decide (¬ ((ftE vars t) = 0 ∧ (ftD vars t) = (dg vars t))))) rfl) ?_
           by_cases g12 : ¬ ((ftE vars t) = 0 ∧ (ftD vars t) = (dg vars t))
           ·
            exact absurd hfi g12
           ·
            refine re rfl (qv_mv (.int .i64 (tbE ((ftD vars t)))) rfl) (want_f g12 rfl rfl rfl) ?_
            refine re rfl (qv_neq rfl rfl) (want_f g12 rfl rfl rfl) ?_
            refine rq rfl (qv_pick_f g12 rfl (rfl : ev _ _ = (.bool (decide ((tbE ((ftD vars t))) ≠ 0))))) ?_
            refine rq rfl (qv_mv (.bool (decide ((tbE ((ftD vars t))) ≠ 0))) rfl) ?_
            by_cases g13 : (tbE ((ftD vars t))) ≠ 0
            ·
             exact absurd hte g13
            ·
             refine re rfl (qv_mv u1 rfl) (want_f g13 rfl rfl rfl) ?_
             refine re rfl (qv_mv tv rfl) (want_f g13 rfl rfl rfl) ?_
             refine re rfl (qv_call (v := (.bool (decide (tbL (ftD vars t) = t)))) (EqI_c hT ht) rfl rfl) (want_f g13 rfl rfl rfl) ?_
             refine re rfl (qv_not rfl) (want_f g13 rfl rfl rfl) ?_
             refine rq rfl (qv_pick_f g13 rfl (rfl : ev _ _ = (.bool (decide (¬ (tbL (ftD vars t) = t)))))) ?_
             refine rnil ?_
             refine vc_if rfl (fun c21 => ?_) (fun c21 => ?_)
             ·
              exact absurd htl c21
             ·
              refine vc_skip ?_
              refine vc_seq ?_
              refine vc_seq ?_
              refine vc_region ?_
              refine oq (qv_mv xv rfl) ?_
              refine oq (qv_lenB Try.underlying30 rfl hX) ?_
              refine oq (qv_mv (Value.int .i64 vars) rfl) ?_
              refine oq (qv_neq rfl rfl) ?_
              refine ops_nil ?_
              refine vc_if rfl (fun c22 => ?_) (fun c22 => ?_)
              ·
               refine vc_seq ?_
               have hev2 := ev_2 (A := (ftD vars t)) (X := X) hok (by rw [hv]; omega)
               have hev := hev2.2
               have hee := hev2.1
               refine vc_region ?_
               refine oq (qv_mv (.int .i64 (evV (ftD vars t) X)) rfl) ?_
               refine oq (qv_eql rfl rfl) ?_
               refine oq (qv_mv (.bool (decide ((evV (ftD vars t) X) = 0))) rfl) ?_
               by_cases g14 : (evV (ftD vars t) X) = 0
               ·
                refine og (qv_mv (.int .i64 (evE (ftD vars t) X)) rfl) (want_t g14 rfl rfl rfl) ?_
                refine og (qv_eql rfl rfl) (want_t g14 rfl rfl rfl) ?_
                refine oq (qv_pick_t g14 rfl (rfl : ev _ _ = (.bool (decide ((evE (ftD vars t) X) = 2))))) ?_
                refine oq (qv_as (.bool (decide ((evE (ftD vars t) X) = 2))) rfl) ?_
                refine ops_nil ?_
                refine vc_ret ?_
                exact rq1 (Value.bool true) (congrArg Value.bool (decide_eq_true (show ((evE (ftD vars t) X) = 2) from by first | exact ft_3 (by omega) | exact ft_2 (by omega) (by omega) | exact ⟨by rw [hft.1, hm3], by rw [hft.2, mkD_n (by omega)]⟩ | exact hee | exact hev))) rfl
               ·
                exact absurd (hev) g14
              ·
               refine vc_skip ?_
               refine vc_seq ?_
               have hev2 := ev_0 (A := (ftD vars t)) (X := X) hok (by rw [hv]; omega)
               have hev := hev2.2
               have hee := hev2.1
               refine vc_region ?_
               refine oq (qv_mv (.int .i64 (evE (ftD vars t) X)) rfl) ?_
               refine oq (qv_eql rfl rfl) ?_
               refine oq (qv_mv (.bool (decide ((evE (ftD vars t) X) = 0))) rfl) ?_
               by_cases g15 : (evE (ftD vars t) X) = 0
               ·
                refine og (qv_mv (.int .i64 (evV (ftD vars t) X)) rfl) (want_t g15 rfl rfl rfl) ?_
                refine og (qv_ldm (vs := [(.int .i64 ((ftD vars t).v)), lv1, nv1, (.int .i64 ((ftD vars t).r))]) Try.agg25 rfl (inOc (k := 0) rfl) rfl rfl) (want_t g15 rfl rfl rfl) ?_
                refine og (qv_mv xv rfl) (want_t g15 rfl rfl rfl) ?_
                refine og (qv_call (v := (.int .i64 (vl (ftD vars t) (eb X)))) (valueR_c hMt hX hok (by rw [hv]; omega)) rfl rfl) (want_t g15 rfl rfl rfl) ?_
                refine og (qv_eql rfl rfl) (want_t g15 rfl rfl rfl) ?_
                refine oq (qv_pick_t g15 rfl (rfl : ev _ _ = (.bool (decide ((evV (ftD vars t) X) = (vl (ftD vars t) (eb X))))))) ?_
                refine oq (qv_as (.bool (decide ((evV (ftD vars t) X) = (vl (ftD vars t) (eb X))))) rfl) ?_
                refine ops_nil ?_
                refine vc_ret ?_
                exact rq1 (Value.bool true) (congrArg Value.bool (decide_eq_true (show ((evV (ftD vars t) X) = (vl (ftD vars t) (eb X))) from by first | exact ft_3 (by omega) | exact ft_2 (by omega) (by omega) | exact ⟨by rw [hft.1, hm3], by rw [hft.2, mkD_n (by omega)]⟩ | exact hee | exact hev))) rfl
               ·
                exact absurd (hee) g15
   ·
    refine vc_skip ?_
    refine vc_seq ?_
    refine vc_region ?_
    refine oq (qv_mv (Value.int .i64 vars) rfl) ?_
    refine oq (qv_mv (.int .i64 ((t.length : Int))) rfl) ?_
    refine ops_call (σa := []) (σr := [(Arr 25 b1 [(.int .i64 ((ftD vars t).v)), lv1, nv1, (.int .i64 ((ftD vars t).r))])]) (Constant_c (vars := vars) (z := (t.length : Int))) rfl rfl (.refl _) (fun r12 V12 sg12 hV12 hp12 => ?_)
    obtain ⟨rfl, lv1b, nv1b, rfl, hMtb⟩ := hp12
    have ht := ht.mono hV12
    have hX := hX.mono hV12
    have hMt := hMt.mono hV12
    refine oq (qv_mv (.tuple #[(.agg #[(.int .i64 ((cnD vars ((t.length : Int))).v)), lv1b, nv1b, (.int .i64 ((cnD vars ((t.length : Int))).r))]), (.int .i64 (cnE vars ((t.length : Int))))]) rfl) ?_
    refine oq (qv_ext (.agg #[(.int .i64 ((cnD vars ((t.length : Int))).v)), lv1b, nv1b, (.int .i64 ((cnD vars ((t.length : Int))).r))]) rfl rfl) ?_
    refine oq (qv_ext (.int .i64 (cnE vars ((t.length : Int)))) rfl rfl) ?_
    refine ops_alloc Try.ti25 rfl (fun b5 => ?_)
    refine ops_stw (k := 1) (vs := [(.int .i64 ((cnD vars ((t.length : Int))).v)), lv1b, nv1b, (.int .i64 ((cnD vars ((t.length : Int))).r))]) Try.size25 rfl rfl rfl (allc rfl (allc (Sl.one hMtb.l) (allc (SlS.one hMtb.n) (allc rfl rfl)))) rfl rfl ?_
    refine oq (qv_as (.int .i64 (cnE vars ((t.length : Int)))) rfl) ?_
    refine ops_nil ?_
    refine vc_seq ?_
    refine vc_res (σ' := [(Arr 25 b1 [(.int .i64 ((ftD vars t).v)), lv1, nv1, (.int .i64 ((ftD vars t).r))]), (Arr 25 b5 [(.int .i64 ((cnD vars ((t.length : Int))).v)), lv1b, nv1b, (.int .i64 ((cnD vars ((t.length : Int))).r))])]) rfl ?_
    refine vc_region ?_
    refine oq (qv_mv (Value.int .i64 vars) rfl) ?_
    refine oq (qv_mv (.int .i64 ((t.length : Int))) rfl) ?_
    refine ops_lit (n := 1) (s := 1) (cs := [(.int .i64 ((t.length : Int)))]) Try.underlying22 Try.ti3 (Nat.le_of_ble_eq_true rfl) rfl rfl rfl (Nat.le_of_ble_eq_true rfl) rfl (fun b6 => ?_)
    refine oq (qv_build (out := [(Value.int .i64 vars), (.slice (some ⟨b6, 0, none⟩) 1 1), (Value.slice none 0 0), (Value.int .i64 0)]) Try.build25 [(0, [(Value.int .i64 vars)]), (1, [(.slice (some ⟨b6, 0, none⟩) 1 1)])] rfl rfl) ?_
    refine ops_alloc Try.ti25 rfl (fun b7 => ?_)
    refine ops_stw (k := 3) (vs := [(Value.int .i64 vars), (.slice (some ⟨b6, 0, none⟩) 1 1), (Value.slice none 0 0), (Value.int .i64 0)]) Try.size25 rfl rfl rfl rfl rfl rfl ?_
    refine ops_nil ?_
    refine vc_seq ?_
    refine vc_seq ?_
    refine vc_res (σ' := [(Arr 25 b1 [(.int .i64 ((ftD vars t).v)), lv1, nv1, (.int .i64 ((ftD vars t).r))]), (Arr 25 b5 [(.int .i64 ((cnD vars ((t.length : Int))).v)), lv1b, nv1b, (.int .i64 ((cnD vars ((t.length : Int))).r))]), (Arr 3 b6 [(.int .i64 ((t.length : Int)))]), (Arr 25 b7 [(Value.int .i64 vars), (.slice (some ⟨b6, 0, none⟩) 1 1), (Value.slice none 0 0), (Value.int .i64 0)])]) rfl ?_
    refine vc_region ?_
    refine oq (qv_mv (Value.int .i64 vars) rfl) ?_
    refine oq (qv_lss rfl rfl) ?_
    refine oq (qv_mv (.bool (decide (vars < 0))) rfl) ?_
    by_cases g16 : vars < 0
    ·
     refine os (want_fn g16 rfl rfl rfl) ?_
     refine os (want_fn g16 rfl rfl rfl) ?_
     refine oq (qv_pick_t g16 rfl (rfl : ev _ _ = (Value.bool true))) ?_
     refine oq (qv_mv (Value.bool true) rfl) ?_
     refine os (want_fnc rfl rfl rfl) ?_
     refine os (want_fnc rfl rfl rfl) ?_
     refine os (want_fnc rfl rfl rfl) ?_
     refine oq (qv_pick_tc rfl (rfl : ev _ _ = (Value.bool true))) ?_
     refine ops_nil ?_
     refine vc_tt rfl ?_
     refine vc_seq ?_
     have hcn := cn_3 (vars := vars) (v := (t.length : Int)) (by first | exact .inl (by omega) | exact .inr (by assumption))
     refine vc_region ?_
     refine oq (qv_ldm (vs := [(.int .i64 ((cnD vars ((t.length : Int))).v)), lv1b, nv1b, (.int .i64 ((cnD vars ((t.length : Int))).r))]) Try.agg25 rfl (inOc (k := 1) rfl) rfl rfl) ?_
     refine oq (qv_mv (.int .i64 (cnE vars ((t.length : Int)))) rfl) ?_
     refine oq (qv_build (out := [(Value.int .i64 0), (Value.slice none 0 0), (Value.slice none 0 0), (Value.int .i64 0)]) Try.build25 [] rfl rfl) ?_
     refine oq (qv_call (v := (.bool (decide ((cnE vars ((t.length : Int))) = 3 ∧ (cnD vars ((t.length : Int))) = zM)))) (is_c (A := (cnD vars ((t.length : Int)))) (B := zM) (ee := (cnE vars ((t.length : Int)))) (cc := 3) hMtb Mt.nil) rfl rfl) ?_
     refine oq (qv_not rfl) ?_
     refine ops_nil ?_
     refine vc_if rfl (fun c23 => ?_) (fun c23 => ?_)
     ·
      exact absurd hcn c23
     ·
      refine vc_skip ?_
      refine vc_seq ?_
      refine vc_block ?_
      refine vc_seq ?_
      refine vc_region ?_
      refine oq (qv_mv (Value.int .i64 vars) rfl) ?_
      refine oq (qv_lss rfl rfl) ?_
      refine oq (qv_mv (.bool (decide (vars < 0))) rfl) ?_
      refine os (want_fn g16 rfl rfl rfl) ?_
      refine os (want_fn g16 rfl rfl rfl) ?_
      refine oq (qv_pick_t g16 rfl (rfl : ev _ _ = (Value.bool true))) ?_
      refine oq (qv_as (Value.bool true) rfl) ?_
      refine ops_nil ?_
      refine vc_tt rfl ?_
      refine vc_seq ?_
      refine vc_region ?_
      refine oq (qv_ldm (vs := [(.int .i64 ((ftD vars t).v)), lv1, nv1, (.int .i64 ((ftD vars t).r))]) Try.agg25 rfl (inOc (k := 0) rfl) rfl rfl) ?_
      refine oq (qv_mv (.int .i64 (ftE vars t)) rfl) ?_
      refine oq (qv_build (out := [(Value.int .i64 0), (Value.slice none 0 0), (Value.slice none 0 0), (Value.int .i64 0)]) Try.build25 [] rfl rfl) ?_
      refine oq (qv_call (v := (.bool (decide ((ftE vars t) = 3 ∧ (ftD vars t) = zM)))) (is_c (A := (ftD vars t)) (B := zM) (ee := (ftE vars t)) (cc := 3) hMt Mt.nil) rfl rfl) ?_
      refine oq (qv_as (.bool (decide ((ftE vars t) = 3 ∧ (ftD vars t) = zM))) rfl) ?_
      refine ops_nil ?_
      refine vc_ret ?_
      refine blockQ_ret ?_
      exact rq1 (Value.bool true) (congrArg Value.bool (decide_eq_true (show ((ftE vars t) = 3 ∧ (ftD vars t) = zM) from by first | exact ft_3 (by omega) | exact ft_2 (by omega) (by omega) | exact ⟨by rw [hft.1, hm3], by rw [hft.2, mkD_n (by omega)]⟩ | exact hee | exact hev))) rfl
    ·
     refine og (qv_mv (Value.int .i64 vars) rfl) (want_f g16 rfl rfl rfl) ?_
     refine og (qv_gtr rfl rfl) (want_f g16 rfl rfl rfl) ?_
     refine oq (qv_pick_f g16 rfl (rfl : ev _ _ = (.bool (decide (40 < vars))))) ?_
     refine oq (qv_mv (.bool (decide (40 < vars))) rfl) ?_
     by_cases g17 : 40 < vars
     ·
      refine os (want_fn g17 rfl rfl rfl) ?_
      refine os (want_fn g17 rfl rfl rfl) ?_
      refine os (want_fn g17 rfl rfl rfl) ?_
      refine oq (qv_pick_t g17 rfl (rfl : ev _ _ = (Value.bool true))) ?_
      refine ops_nil ?_
      refine vc_tt rfl ?_
      refine vc_seq ?_
      have hcn := cn_3 (vars := vars) (v := (t.length : Int)) (by first | exact .inl (by omega) | exact .inr (by assumption))
      refine vc_region ?_
      refine oq (qv_ldm (vs := [(.int .i64 ((cnD vars ((t.length : Int))).v)), lv1b, nv1b, (.int .i64 ((cnD vars ((t.length : Int))).r))]) Try.agg25 rfl (inOc (k := 1) rfl) rfl rfl) ?_
      refine oq (qv_mv (.int .i64 (cnE vars ((t.length : Int)))) rfl) ?_
      refine oq (qv_build (out := [(Value.int .i64 0), (Value.slice none 0 0), (Value.slice none 0 0), (Value.int .i64 0)]) Try.build25 [] rfl rfl) ?_
      refine oq (qv_call (v := (.bool (decide ((cnE vars ((t.length : Int))) = 3 ∧ (cnD vars ((t.length : Int))) = zM)))) (is_c (A := (cnD vars ((t.length : Int)))) (B := zM) (ee := (cnE vars ((t.length : Int)))) (cc := 3) hMtb Mt.nil) rfl rfl) ?_
      refine oq (qv_not rfl) ?_
      refine ops_nil ?_
      refine vc_if rfl (fun c24 => ?_) (fun c24 => ?_)
      ·
       exact absurd hcn c24
      ·
       refine vc_skip ?_
       refine vc_seq ?_
       refine vc_block ?_
       refine vc_seq ?_
       refine vc_region ?_
       refine oq (qv_mv (Value.int .i64 vars) rfl) ?_
       refine oq (qv_lss rfl rfl) ?_
       refine oq (qv_mv (.bool (decide (vars < 0))) rfl) ?_
       refine og (qv_mv (Value.int .i64 vars) rfl) (want_f g16 rfl rfl rfl) ?_
       refine og (qv_gtr rfl rfl) (want_f g16 rfl rfl rfl) ?_
       refine oq (qv_pick_f g16 rfl (rfl : ev _ _ = (.bool (decide (12 < vars))))) ?_
       refine oq (qv_as (.bool (decide (12 < vars))) rfl) ?_
       refine ops_nil ?_
       refine vc_if rfl (fun c25 => ?_) (fun c25 => ?_)
       ·
        refine vc_seq ?_
        refine vc_region ?_
        refine oq (qv_ldm (vs := [(.int .i64 ((ftD vars t).v)), lv1, nv1, (.int .i64 ((ftD vars t).r))]) Try.agg25 rfl (inOc (k := 0) rfl) rfl rfl) ?_
        refine oq (qv_mv (.int .i64 (ftE vars t)) rfl) ?_
        refine oq (qv_build (out := [(Value.int .i64 0), (Value.slice none 0 0), (Value.slice none 0 0), (Value.int .i64 0)]) Try.build25 [] rfl rfl) ?_
        refine oq (qv_call (v := (.bool (decide ((ftE vars t) = 3 ∧ (ftD vars t) = zM)))) (is_c (A := (ftD vars t)) (B := zM) (ee := (ftE vars t)) (cc := 3) hMt Mt.nil) rfl rfl) ?_
        refine oq (qv_as (.bool (decide ((ftE vars t) = 3 ∧ (ftD vars t) = zM))) rfl) ?_
        refine ops_nil ?_
        refine vc_ret ?_
        refine blockQ_ret ?_
        exact rq1 (Value.bool true) (congrArg Value.bool (decide_eq_true (show ((ftE vars t) = 3 ∧ (ftD vars t) = zM) from by first | exact ft_3 (by omega) | exact ft_2 (by omega) (by omega) | exact ⟨by rw [hft.1, hm3], by rw [hft.2, mkD_n (by omega)]⟩ | exact hee | exact hev))) rfl
       ·
        refine vc_seq ?_
        have hpw := pow2_12 (n := vars.toNat) (by omega)
        refine vc_region ?_
        refine oq (qv_mv tv rfl) ?_
        refine oq (qv_lenI Try.underlying22 rfl ht) ?_
        refine oq (qv_mv (Value.int .i64 vars) rfl) ?_
        refine oq (qv_shli rfl rfl (by omega) (by omega) (by omega)) ?_
        refine oq (qv_neq rfl rfl) ?_
        refine oq (qv_as (.bool (decide (((t.length : Int)) ≠ (1 * 2 ^ (vars : Int).toNat)))) rfl) ?_
        refine ops_nil ?_
        refine vc_if rfl (fun c26 => ?_) (fun c26 => ?_)
        ·
         refine vc_seq ?_
         refine vc_region ?_
         refine oq (qv_ldm (vs := [(.int .i64 ((ftD vars t).v)), lv1, nv1, (.int .i64 ((ftD vars t).r))]) Try.agg25 rfl (inOc (k := 0) rfl) rfl rfl) ?_
         refine oq (qv_mv (.int .i64 (ftE vars t)) rfl) ?_
         refine oq (qv_build (out := [(Value.int .i64 0), (Value.slice none 0 0), (Value.slice none 0 0), (Value.int .i64 0)]) Try.build25 [] rfl rfl) ?_
         refine oq (qv_call (v := (.bool (decide ((ftE vars t) = 2 ∧ (ftD vars t) = zM)))) (is_c (A := (ftD vars t)) (B := zM) (ee := (ftE vars t)) (cc := 2) hMt Mt.nil) rfl rfl) ?_
         refine oq (qv_as (.bool (decide ((ftE vars t) = 2 ∧ (ftD vars t) = zM))) rfl) ?_
         refine ops_nil ?_
         refine vc_ret ?_
         refine blockQ_ret ?_
         exact rq1 (Value.bool true) (congrArg Value.bool (decide_eq_true (show ((ftE vars t) = 2 ∧ (ftD vars t) = zM) from by first | exact ft_3 (by omega) | exact ft_2 (by omega) (by omega) | exact ⟨by rw [hft.1, hm3], by rw [hft.2, mkD_n (by omega)]⟩ | exact hee | exact hev))) rfl
        ·
         refine vc_seq ?_
         refine vc_region ?_
         refine oq (qv_mv tv rfl) ?_
         refine oq (qv_call (v := (.bool (decide (∃ z ∈ t, ¬ inR z)))) (ContainsOut_c ht) rfl rfl) ?_
         refine oq (qv_as (.bool (decide (∃ z ∈ t, ¬ inR z))) rfl) ?_
         refine ops_nil ?_
         refine vc_if rfl (fun c27 => ?_) (fun c27 => ?_)
         ·
          refine vc_seq ?_
          have hft := ft_0 (vars := vars) (t := t) (by omega) (by omega)
          have hm3 := mkE_3 (vars := vars) (t := t) (by assumption)
          refine vc_region ?_
          refine oq (qv_ldm (vs := [(.int .i64 ((ftD vars t).v)), lv1, nv1, (.int .i64 ((ftD vars t).r))]) Try.agg25 rfl (inOc (k := 0) rfl) rfl rfl) ?_
          refine oq (qv_mv (.int .i64 (ftE vars t)) rfl) ?_
          refine oq (qv_build (out := [(Value.int .i64 0), (Value.slice none 0 0), (Value.slice none 0 0), (Value.int .i64 0)]) Try.build25 [] rfl rfl) ?_
          refine oq (qv_call (v := (.bool (decide ((ftE vars t) = 3 ∧ (ftD vars t) = zM)))) (is_c (A := (ftD vars t)) (B := zM) (ee := (ftE vars t)) (cc := 3) hMt Mt.nil) rfl rfl) ?_
          refine oq (qv_as (.bool (decide ((ftE vars t) = 3 ∧ (ftD vars t) = zM))) rfl) ?_
          refine ops_nil ?_
          refine vc_ret ?_
          refine blockQ_ret ?_
          exact rq1 (Value.bool true) (congrArg Value.bool (decide_eq_true (show ((ftE vars t) = 3 ∧ (ftD vars t) = zM) from by first | exact ft_3 (by omega) | exact ft_2 (by omega) (by omega) | exact ⟨by rw [hft.1, hm3], by rw [hft.2, mkD_n (by omega)]⟩ | exact hee | exact hev))) rfl
         ·
          refine vc_skip ?_
          refine vc_seq ?_
          have hft := ft_0 (vars := vars) (t := t) (by omega) (by omega)
          have hall : ∀ z ∈ t, inR z := fun z hz => Classical.byContradiction fun q => c27 ⟨z, hz, q⟩
          have hln : t.length = 2 ^ vars.toNat := by
            have e : ((2 ^ vars.toNat : Nat) : Int) = (2 : Int) ^ vars.toNat := by simp
            omega
          have hm := mkE_of (vars := vars) hall (dg_small (by omega) hln)
          have hfe := hft.1.trans hm
          have hfd := hft.2.trans (mkD_0 hm)
          have hok : Ok (ftD vars t) := by rw [hfd]; exact dg_ok (by omega) (by omega) hln hall (dg_small (by omega) hln)
          have hvt : vT (ftD vars t) = t := by rw [hfd]; exact vT_dg (by omega) hln
          have hv : (ftD vars t).v = vars := by rw [hfd]; rfl
          have htb := tb_0 hok (by rw [hv]; omega)
          have htl := htb.2.trans hvt
          have hte := htb.1
          have hfi := And.intro hfe hfd
          refine vc_region ?_
          refine oq (qv_ldm (vs := [(.int .i64 ((ftD vars t).v)), lv1, nv1, (.int .i64 ((ftD vars t).r))]) Try.agg25 rfl (inOc (k := 0) rfl) rfl rfl) ?_
          refine ops_call (σa := []) (σr := [(Arr 25 b1 [(.int .i64 ((ftD vars t).v)), lv1, nv1, (.int .i64 ((ftD vars t).r))]), (Arr 25 b5 [(.int .i64 ((cnD vars ((t.length : Int))).v)), lv1b, nv1b, (.int .i64 ((cnD vars ((t.length : Int))).r))]), (Arr 3 b6 [(.int .i64 ((t.length : Int)))]), (Arr 25 b7 [(Value.int .i64 vars), (.slice (some ⟨b6, 0, none⟩) 1 1), (Value.slice none 0 0), (Value.int .i64 0)])]) (Table_c (A := (ftD vars t)) hMt) rfl rfl (.refl _) (fun r13 V13 sg13 hV13 hp13 => ?_)
          obtain ⟨rfl, u1, rfl, hT⟩ := hp13
          have ht := ht.mono hV13
          have hX := hX.mono hV13
          have hMt := hMt.mono hV13
          have hMtb := hMtb.mono hV13
          refine oq (qv_mv (.tuple #[u1, (.int .i64 (tbE ((ftD vars t))))]) rfl) ?_
          refine oq (qv_ext u1 rfl rfl) ?_
          refine oq (qv_ext (.int .i64 (tbE ((ftD vars t)))) rfl rfl) ?_
          refine oq (qv_as u1 rfl) ?_
          refine oq (qv_as (.int .i64 (tbE ((ftD vars t)))) rfl) ?_
          refine ops_nil ?_
          refine vc_seq ?_
          refine vc_region ?_
          refine oq (qv_ldm (vs := [(.int .i64 ((ftD vars t).v)), lv1, nv1, (.int .i64 ((ftD vars t).r))]) Try.agg25 rfl (inOc (k := 0) rfl) rfl rfl) ?_
          refine oq (qv_mv xv rfl) ?_
          refine ops_call (σa := []) (σr := [(Arr 25 b1 [(.int .i64 ((ftD vars t).v)), lv1, nv1, (.int .i64 ((ftD vars t).r))]), (Arr 25 b5 [(.int .i64 ((cnD vars ((t.length : Int))).v)), lv1b, nv1b, (.int .i64 ((cnD vars ((t.length : Int))).r))]), (Arr 3 b6 [(.int .i64 ((t.length : Int)))]), (Arr 25 b7 [(Value.int .i64 vars), (.slice (some ⟨b6, 0, none⟩) 1 1), (Value.slice none 0 0), (Value.int .i64 0)])]) (Eval_c (A := ftD vars t) (X := X) hMt hX) rfl rfl (.refl _) (fun r14 V14 sg14 hV14 hp14 => ?_)
          obtain ⟨rfl, rfl⟩ := hp14
          have ht := ht.mono hV14
          have hX := hX.mono hV14
          have hMt := hMt.mono hV14
          have hMtb := hMtb.mono hV14
          have hT := hT.mono hV14
          refine oq (qv_mv (.tuple #[(.int .i64 (evV (ftD vars t) X)), (.int .i64 (evE (ftD vars t) X))]) rfl) ?_
          refine oq (qv_ext (.int .i64 (evV (ftD vars t) X)) rfl rfl) ?_
          refine oq (qv_ext (.int .i64 (evE (ftD vars t) X)) rfl rfl) ?_
          refine oq (qv_as (.int .i64 (evV (ftD vars t) X)) rfl) ?_
          refine oq (qv_as (.int .i64 (evE (ftD vars t) X)) rfl) ?_
          refine ops_nil ?_
          refine vc_seq ?_
          refine vc_seq ?_
          refine vc_region_order (τ := []) [(0, false), (1, false), (2, false), (3, false), (4, true), (5, false), (6, false), (7, false), (8, false), (9, false), (10, false), (11, false), (12, false), (13, false), (14, false), (15, false), (16, false)] [(Arr 25 b1 [(.int .i64 ((ftD vars t).v)), lv1, nv1, (.int .i64 ((ftD vars t).r))]), (Arr 25 b5 [(.int .i64 ((cnD vars ((t.length : Int))).v)), lv1b, nv1b, (.int .i64 ((cnD vars ((t.length : Int))).r))]), (Arr 3 b6 [(.int .i64 ((t.length : Int)))]), (Arr 25 b7 [(Value.int .i64 vars), (.slice (some ⟨b6, 0, none⟩) 1 1), (Value.slice none 0 0), (Value.int .i64 0)])] Try.mixed (perm_nil _) (by kernel_rfl) ?_
          refine rq rfl (qv_ldm (vs := [(.int .i64 ((ftD vars t).v)), lv1, nv1, (.int .i64 ((ftD vars t).r))]) Try.agg25 rfl (inOc (k := 0) rfl) rfl rfl) ?_
          refine rq rfl (qv_mv (.int .i64 (ftE vars t)) rfl) ?_
          refine rq rfl (qv_mv (Value.int .i64 vars) rfl) ?_
          refine rq rfl (qv_mv tv rfl) ?_
          refine rl rfl ?_
          refine ops_call (σa := []) (σr := [(Arr 25 b1 [(.int .i64 ((ftD vars t).v)), lv1, nv1, (.int .i64 ((ftD vars t).r))]), (Arr 25 b5 [(.int .i64 ((cnD vars ((t.length : Int))).v)), lv1b, nv1b, (.int .i64 ((cnD vars ((t.length : Int))).r))]), (Arr 3 b6 [(.int .i64 ((t.length : Int)))]), (Arr 25 b7 [(Value.int .i64 vars), (.slice (some ⟨b6, 0, none⟩) 1 1), (Value.slice none 0 0), (Value.int .i64 0)])]) (diagram_c ht (by omega) (by omega) hln) rfl rfl (.refl _) (fun r15 V15 sg15 hV15 hp15 => ?_)
          obtain ⟨rfl, lv2, nv2, rfl, hDg2⟩ := hp15
          have ht := ht.mono hV15
          have hX := hX.mono hV15
          have hMt := hMt.mono hV15
          have hMtb := hMtb.mono hV15
          have hT := hT.mono hV15
          refine ops_nil ⟨[(Arr 25 b1 [(.int .i64 ((ftD vars t).v)), lv1, nv1, (.int .i64 ((ftD vars t).r))]), (Arr 25 b5 [(.int .i64 ((cnD vars ((t.length : Int))).v)), lv1b, nv1b, (.int .i64 ((cnD vars ((t.length : Int))).r))]), (Arr 3 b6 [(.int .i64 ((t.length : Int)))]), (Arr 25 b7 [(Value.int .i64 vars), (.slice (some ⟨b6, 0, none⟩) 1 1), (Value.slice none 0 0), (Value.int .i64 0)])], [], hV15, perm_nil _, ⟨[], (.refl _)⟩, ?_⟩
          refine rq rfl (qv_call (v := (.bool (decide ((ftE vars t) = 0 ∧ (ftD vars t) = (dg vars t))))) (is_c (A := (ftD vars t)) (B := (dg vars t)) (ee := (ftE vars t)) (cc := 0) hMt hDg2) rfl rfl) ?_
          refine rq rfl (qv_not rfl) ?_
          refine rq rfl (qv_mv (.bool (decide (¬ ((ftE vars t) = 0 ∧ (ftD vars t) = (dg vars t))))) rfl) ?_
          by_cases g18 : ¬ ((ftE vars t) = 0 ∧ (ftD vars t) = (dg vars t))
          ·
           exact absurd hfi g18
          ·
           refine re rfl (qv_mv (.int .i64 (tbE ((ftD vars t)))) rfl) (want_f g18 rfl rfl rfl) ?_
           refine re rfl (qv_neq rfl rfl) (want_f g18 rfl rfl rfl) ?_
           refine rq rfl (qv_pick_f g18 rfl (rfl : ev _ _ = (.bool (decide ((tbE ((ftD vars t))) ≠ 0))))) ?_
           refine rq rfl (qv_mv (.bool (decide ((tbE ((ftD vars t))) ≠ 0))) rfl) ?_
           by_cases g19 : (tbE ((ftD vars t))) ≠ 0
           ·
            exact absurd hte g19
           ·
            refine re rfl (qv_mv u1 rfl) (want_f g19 rfl rfl rfl) ?_
            refine re rfl (qv_mv tv rfl) (want_f g19 rfl rfl rfl) ?_
            refine re rfl (qv_call (v := (.bool (decide (tbL (ftD vars t) = t)))) (EqI_c hT ht) rfl rfl) (want_f g19 rfl rfl rfl) ?_
            refine re rfl (qv_not rfl) (want_f g19 rfl rfl rfl) ?_
            refine rq rfl (qv_pick_f g19 rfl (rfl : ev _ _ = (.bool (decide (¬ (tbL (ftD vars t) = t)))))) ?_
            refine rnil ?_
            refine vc_if rfl (fun c28 => ?_) (fun c28 => ?_)
            ·
             exact absurd htl c28
            ·
             refine vc_skip ?_
             refine vc_seq ?_
             refine vc_seq ?_
             refine vc_region ?_
             refine oq (qv_mv xv rfl) ?_
             refine oq (qv_lenB Try.underlying30 rfl hX) ?_
             refine oq (qv_mv (Value.int .i64 vars) rfl) ?_
             refine oq (qv_neq rfl rfl) ?_
             refine ops_nil ?_
             refine vc_if rfl (fun c29 => ?_) (fun c29 => ?_)
             ·
              refine vc_seq ?_
              have hev2 := ev_2 (A := (ftD vars t)) (X := X) hok (by rw [hv]; omega)
              have hev := hev2.2
              have hee := hev2.1
              refine vc_region ?_
              refine oq (qv_mv (.int .i64 (evV (ftD vars t) X)) rfl) ?_
              refine oq (qv_eql rfl rfl) ?_
              refine oq (qv_mv (.bool (decide ((evV (ftD vars t) X) = 0))) rfl) ?_
              by_cases g20 : (evV (ftD vars t) X) = 0
              ·
               refine og (qv_mv (.int .i64 (evE (ftD vars t) X)) rfl) (want_t g20 rfl rfl rfl) ?_
               refine og (qv_eql rfl rfl) (want_t g20 rfl rfl rfl) ?_
               refine oq (qv_pick_t g20 rfl (rfl : ev _ _ = (.bool (decide ((evE (ftD vars t) X) = 2))))) ?_
               refine oq (qv_as (.bool (decide ((evE (ftD vars t) X) = 2))) rfl) ?_
               refine ops_nil ?_
               refine vc_ret ?_
               exact rq1 (Value.bool true) (congrArg Value.bool (decide_eq_true (show ((evE (ftD vars t) X) = 2) from by first | exact ft_3 (by omega) | exact ft_2 (by omega) (by omega) | exact ⟨by rw [hft.1, hm3], by rw [hft.2, mkD_n (by omega)]⟩ | exact hee | exact hev))) rfl
              ·
               exact absurd (hev) g20
             ·
              refine vc_skip ?_
              refine vc_seq ?_
              have hev2 := ev_0 (A := (ftD vars t)) (X := X) hok (by rw [hv]; omega)
              have hev := hev2.2
              have hee := hev2.1
              refine vc_region ?_
              refine oq (qv_mv (.int .i64 (evE (ftD vars t) X)) rfl) ?_
              refine oq (qv_eql rfl rfl) ?_
              refine oq (qv_mv (.bool (decide ((evE (ftD vars t) X) = 0))) rfl) ?_
              by_cases g21 : (evE (ftD vars t) X) = 0
              ·
               refine og (qv_mv (.int .i64 (evV (ftD vars t) X)) rfl) (want_t g21 rfl rfl rfl) ?_
               refine og (qv_ldm (vs := [(.int .i64 ((ftD vars t).v)), lv1, nv1, (.int .i64 ((ftD vars t).r))]) Try.agg25 rfl (inOc (k := 0) rfl) rfl rfl) (want_t g21 rfl rfl rfl) ?_
               refine og (qv_mv xv rfl) (want_t g21 rfl rfl rfl) ?_
               refine og (qv_call (v := (.int .i64 (vl (ftD vars t) (eb X)))) (valueR_c hMt hX hok (by rw [hv]; omega)) rfl rfl) (want_t g21 rfl rfl rfl) ?_
               refine og (qv_eql rfl rfl) (want_t g21 rfl rfl rfl) ?_
               refine oq (qv_pick_t g21 rfl (rfl : ev _ _ = (.bool (decide ((evV (ftD vars t) X) = (vl (ftD vars t) (eb X))))))) ?_
               refine oq (qv_as (.bool (decide ((evV (ftD vars t) X) = (vl (ftD vars t) (eb X))))) rfl) ?_
               refine ops_nil ?_
               refine vc_ret ?_
               exact rq1 (Value.bool true) (congrArg Value.bool (decide_eq_true (show ((evV (ftD vars t) X) = (vl (ftD vars t) (eb X))) from by first | exact ft_3 (by omega) | exact ft_2 (by omega) (by omega) | exact ⟨by rw [hft.1, hm3], by rw [hft.2, mkD_n (by omega)]⟩ | exact hee | exact hev))) rfl
              ·
               exact absurd (hee) g21
     ·
      refine og (qv_mv (.int .i64 ((t.length : Int))) rfl) (want_f g17 rfl rfl rfl) ?_
      refine og (qv_call (v := (.bool (decide (inR ((t.length : Int)))))) (inRangeR_c) rfl rfl) (want_f g17 rfl rfl rfl) ?_
      refine og (qv_not rfl) (want_f g17 rfl rfl rfl) ?_
      refine oq (qv_pick_f g17 rfl (rfl : ev _ _ = (.bool (decide (¬ (inR ((t.length : Int)))))))) ?_
      refine ops_nil ?_
      refine vc_if rfl (fun c30 => ?_) (fun c30 => ?_)
      ·
       refine vc_seq ?_
       have hcn := cn_3 (vars := vars) (v := (t.length : Int)) (by first | exact .inl (by omega) | exact .inr (by assumption))
       refine vc_region ?_
       refine oq (qv_ldm (vs := [(.int .i64 ((cnD vars ((t.length : Int))).v)), lv1b, nv1b, (.int .i64 ((cnD vars ((t.length : Int))).r))]) Try.agg25 rfl (inOc (k := 1) rfl) rfl rfl) ?_
       refine oq (qv_mv (.int .i64 (cnE vars ((t.length : Int)))) rfl) ?_
       refine oq (qv_build (out := [(Value.int .i64 0), (Value.slice none 0 0), (Value.slice none 0 0), (Value.int .i64 0)]) Try.build25 [] rfl rfl) ?_
       refine oq (qv_call (v := (.bool (decide ((cnE vars ((t.length : Int))) = 3 ∧ (cnD vars ((t.length : Int))) = zM)))) (is_c (A := (cnD vars ((t.length : Int)))) (B := zM) (ee := (cnE vars ((t.length : Int)))) (cc := 3) hMtb Mt.nil) rfl rfl) ?_
       refine oq (qv_not rfl) ?_
       refine ops_nil ?_
       refine vc_if rfl (fun c31 => ?_) (fun c31 => ?_)
       ·
        exact absurd hcn c31
       ·
        refine vc_skip ?_
        refine vc_seq ?_
        refine vc_block ?_
        refine vc_seq ?_
        refine vc_region ?_
        refine oq (qv_mv (Value.int .i64 vars) rfl) ?_
        refine oq (qv_lss rfl rfl) ?_
        refine oq (qv_mv (.bool (decide (vars < 0))) rfl) ?_
        refine og (qv_mv (Value.int .i64 vars) rfl) (want_f g16 rfl rfl rfl) ?_
        refine og (qv_gtr rfl rfl) (want_f g16 rfl rfl rfl) ?_
        refine oq (qv_pick_f g16 rfl (rfl : ev _ _ = (.bool (decide (12 < vars))))) ?_
        refine oq (qv_as (.bool (decide (12 < vars))) rfl) ?_
        refine ops_nil ?_
        refine vc_if rfl (fun c32 => ?_) (fun c32 => ?_)
        ·
         refine vc_seq ?_
         refine vc_region ?_
         refine oq (qv_ldm (vs := [(.int .i64 ((ftD vars t).v)), lv1, nv1, (.int .i64 ((ftD vars t).r))]) Try.agg25 rfl (inOc (k := 0) rfl) rfl rfl) ?_
         refine oq (qv_mv (.int .i64 (ftE vars t)) rfl) ?_
         refine oq (qv_build (out := [(Value.int .i64 0), (Value.slice none 0 0), (Value.slice none 0 0), (Value.int .i64 0)]) Try.build25 [] rfl rfl) ?_
         refine oq (qv_call (v := (.bool (decide ((ftE vars t) = 3 ∧ (ftD vars t) = zM)))) (is_c (A := (ftD vars t)) (B := zM) (ee := (ftE vars t)) (cc := 3) hMt Mt.nil) rfl rfl) ?_
         refine oq (qv_as (.bool (decide ((ftE vars t) = 3 ∧ (ftD vars t) = zM))) rfl) ?_
         refine ops_nil ?_
         refine vc_ret ?_
         refine blockQ_ret ?_
         exact rq1 (Value.bool true) (congrArg Value.bool (decide_eq_true (show ((ftE vars t) = 3 ∧ (ftD vars t) = zM) from by first | exact ft_3 (by omega) | exact ft_2 (by omega) (by omega) | exact ⟨by rw [hft.1, hm3], by rw [hft.2, mkD_n (by omega)]⟩ | exact hee | exact hev))) rfl
        ·
         refine vc_seq ?_
         have hpw := pow2_12 (n := vars.toNat) (by omega)
         refine vc_region ?_
         refine oq (qv_mv tv rfl) ?_
         refine oq (qv_lenI Try.underlying22 rfl ht) ?_
         refine oq (qv_mv (Value.int .i64 vars) rfl) ?_
         refine oq (qv_shli rfl rfl (by omega) (by omega) (by omega)) ?_
         refine oq (qv_neq rfl rfl) ?_
         refine oq (qv_as (.bool (decide (((t.length : Int)) ≠ (1 * 2 ^ (vars : Int).toNat)))) rfl) ?_
         refine ops_nil ?_
         refine vc_if rfl (fun c33 => ?_) (fun c33 => ?_)
         ·
          refine vc_seq ?_
          refine vc_region ?_
          refine oq (qv_ldm (vs := [(.int .i64 ((ftD vars t).v)), lv1, nv1, (.int .i64 ((ftD vars t).r))]) Try.agg25 rfl (inOc (k := 0) rfl) rfl rfl) ?_
          refine oq (qv_mv (.int .i64 (ftE vars t)) rfl) ?_
          refine oq (qv_build (out := [(Value.int .i64 0), (Value.slice none 0 0), (Value.slice none 0 0), (Value.int .i64 0)]) Try.build25 [] rfl rfl) ?_
          refine oq (qv_call (v := (.bool (decide ((ftE vars t) = 2 ∧ (ftD vars t) = zM)))) (is_c (A := (ftD vars t)) (B := zM) (ee := (ftE vars t)) (cc := 2) hMt Mt.nil) rfl rfl) ?_
          refine oq (qv_as (.bool (decide ((ftE vars t) = 2 ∧ (ftD vars t) = zM))) rfl) ?_
          refine ops_nil ?_
          refine vc_ret ?_
          refine blockQ_ret ?_
          exact rq1 (Value.bool true) (congrArg Value.bool (decide_eq_true (show ((ftE vars t) = 2 ∧ (ftD vars t) = zM) from by first | exact ft_3 (by omega) | exact ft_2 (by omega) (by omega) | exact ⟨by rw [hft.1, hm3], by rw [hft.2, mkD_n (by omega)]⟩ | exact hee | exact hev))) rfl
         ·
          refine vc_seq ?_
          refine vc_region ?_
          refine oq (qv_mv tv rfl) ?_
          refine oq (qv_call (v := (.bool (decide (∃ z ∈ t, ¬ inR z)))) (ContainsOut_c ht) rfl rfl) ?_
          refine oq (qv_as (.bool (decide (∃ z ∈ t, ¬ inR z))) rfl) ?_
          refine ops_nil ?_
          refine vc_if rfl (fun c34 => ?_) (fun c34 => ?_)
          ·
           refine vc_seq ?_
           have hft := ft_0 (vars := vars) (t := t) (by omega) (by omega)
           have hm3 := mkE_3 (vars := vars) (t := t) (by assumption)
           refine vc_region ?_
           refine oq (qv_ldm (vs := [(.int .i64 ((ftD vars t).v)), lv1, nv1, (.int .i64 ((ftD vars t).r))]) Try.agg25 rfl (inOc (k := 0) rfl) rfl rfl) ?_
           refine oq (qv_mv (.int .i64 (ftE vars t)) rfl) ?_
           refine oq (qv_build (out := [(Value.int .i64 0), (Value.slice none 0 0), (Value.slice none 0 0), (Value.int .i64 0)]) Try.build25 [] rfl rfl) ?_
           refine oq (qv_call (v := (.bool (decide ((ftE vars t) = 3 ∧ (ftD vars t) = zM)))) (is_c (A := (ftD vars t)) (B := zM) (ee := (ftE vars t)) (cc := 3) hMt Mt.nil) rfl rfl) ?_
           refine oq (qv_as (.bool (decide ((ftE vars t) = 3 ∧ (ftD vars t) = zM))) rfl) ?_
           refine ops_nil ?_
           refine vc_ret ?_
           refine blockQ_ret ?_
           exact rq1 (Value.bool true) (congrArg Value.bool (decide_eq_true (show ((ftE vars t) = 3 ∧ (ftD vars t) = zM) from by first | exact ft_3 (by omega) | exact ft_2 (by omega) (by omega) | exact ⟨by rw [hft.1, hm3], by rw [hft.2, mkD_n (by omega)]⟩ | exact hee | exact hev))) rfl
          ·
           refine vc_skip ?_
           refine vc_seq ?_
           have hft := ft_0 (vars := vars) (t := t) (by omega) (by omega)
           have hall : ∀ z ∈ t, inR z := fun z hz => Classical.byContradiction fun q => c34 ⟨z, hz, q⟩
           have hln : t.length = 2 ^ vars.toNat := by
             have e : ((2 ^ vars.toNat : Nat) : Int) = (2 : Int) ^ vars.toNat := by simp
             omega
           have hm := mkE_of (vars := vars) hall (dg_small (by omega) hln)
           have hfe := hft.1.trans hm
           have hfd := hft.2.trans (mkD_0 hm)
           have hok : Ok (ftD vars t) := by rw [hfd]; exact dg_ok (by omega) (by omega) hln hall (dg_small (by omega) hln)
           have hvt : vT (ftD vars t) = t := by rw [hfd]; exact vT_dg (by omega) hln
           have hv : (ftD vars t).v = vars := by rw [hfd]; rfl
           have htb := tb_0 hok (by rw [hv]; omega)
           have htl := htb.2.trans hvt
           have hte := htb.1
           have hfi := And.intro hfe hfd
           refine vc_region ?_
           refine oq (qv_ldm (vs := [(.int .i64 ((ftD vars t).v)), lv1, nv1, (.int .i64 ((ftD vars t).r))]) Try.agg25 rfl (inOc (k := 0) rfl) rfl rfl) ?_
           refine ops_call (σa := []) (σr := [(Arr 25 b1 [(.int .i64 ((ftD vars t).v)), lv1, nv1, (.int .i64 ((ftD vars t).r))]), (Arr 25 b5 [(.int .i64 ((cnD vars ((t.length : Int))).v)), lv1b, nv1b, (.int .i64 ((cnD vars ((t.length : Int))).r))]), (Arr 3 b6 [(.int .i64 ((t.length : Int)))]), (Arr 25 b7 [(Value.int .i64 vars), (.slice (some ⟨b6, 0, none⟩) 1 1), (Value.slice none 0 0), (Value.int .i64 0)])]) (Table_c (A := (ftD vars t)) hMt) rfl rfl (.refl _) (fun r16 V16 sg16 hV16 hp16 => ?_)
           obtain ⟨rfl, u1, rfl, hT⟩ := hp16
           have ht := ht.mono hV16
           have hX := hX.mono hV16
           have hMt := hMt.mono hV16
           have hMtb := hMtb.mono hV16
           refine oq (qv_mv (.tuple #[u1, (.int .i64 (tbE ((ftD vars t))))]) rfl) ?_
           refine oq (qv_ext u1 rfl rfl) ?_
           refine oq (qv_ext (.int .i64 (tbE ((ftD vars t)))) rfl rfl) ?_
           refine oq (qv_as u1 rfl) ?_
           refine oq (qv_as (.int .i64 (tbE ((ftD vars t)))) rfl) ?_
           refine ops_nil ?_
           refine vc_seq ?_
           refine vc_region ?_
           refine oq (qv_ldm (vs := [(.int .i64 ((ftD vars t).v)), lv1, nv1, (.int .i64 ((ftD vars t).r))]) Try.agg25 rfl (inOc (k := 0) rfl) rfl rfl) ?_
           refine oq (qv_mv xv rfl) ?_
           refine ops_call (σa := []) (σr := [(Arr 25 b1 [(.int .i64 ((ftD vars t).v)), lv1, nv1, (.int .i64 ((ftD vars t).r))]), (Arr 25 b5 [(.int .i64 ((cnD vars ((t.length : Int))).v)), lv1b, nv1b, (.int .i64 ((cnD vars ((t.length : Int))).r))]), (Arr 3 b6 [(.int .i64 ((t.length : Int)))]), (Arr 25 b7 [(Value.int .i64 vars), (.slice (some ⟨b6, 0, none⟩) 1 1), (Value.slice none 0 0), (Value.int .i64 0)])]) (Eval_c (A := ftD vars t) (X := X) hMt hX) rfl rfl (.refl _) (fun r17 V17 sg17 hV17 hp17 => ?_)
           obtain ⟨rfl, rfl⟩ := hp17
           have ht := ht.mono hV17
           have hX := hX.mono hV17
           have hMt := hMt.mono hV17
           have hMtb := hMtb.mono hV17
           have hT := hT.mono hV17
           refine oq (qv_mv (.tuple #[(.int .i64 (evV (ftD vars t) X)), (.int .i64 (evE (ftD vars t) X))]) rfl) ?_
           refine oq (qv_ext (.int .i64 (evV (ftD vars t) X)) rfl rfl) ?_
           refine oq (qv_ext (.int .i64 (evE (ftD vars t) X)) rfl rfl) ?_
           refine oq (qv_as (.int .i64 (evV (ftD vars t) X)) rfl) ?_
           refine oq (qv_as (.int .i64 (evE (ftD vars t) X)) rfl) ?_
           refine ops_nil ?_
           refine vc_seq ?_
           refine vc_seq ?_
           refine vc_region_order (τ := []) [(0, false), (1, false), (2, false), (3, false), (4, true), (5, false), (6, false), (7, false), (8, false), (9, false), (10, false), (11, false), (12, false), (13, false), (14, false), (15, false), (16, false)] [(Arr 25 b1 [(.int .i64 ((ftD vars t).v)), lv1, nv1, (.int .i64 ((ftD vars t).r))]), (Arr 25 b5 [(.int .i64 ((cnD vars ((t.length : Int))).v)), lv1b, nv1b, (.int .i64 ((cnD vars ((t.length : Int))).r))]), (Arr 3 b6 [(.int .i64 ((t.length : Int)))]), (Arr 25 b7 [(Value.int .i64 vars), (.slice (some ⟨b6, 0, none⟩) 1 1), (Value.slice none 0 0), (Value.int .i64 0)])] Try.mixed (perm_nil _) (by kernel_rfl) ?_
           refine rq rfl (qv_ldm (vs := [(.int .i64 ((ftD vars t).v)), lv1, nv1, (.int .i64 ((ftD vars t).r))]) Try.agg25 rfl (inOc (k := 0) rfl) rfl rfl) ?_
           refine rq rfl (qv_mv (.int .i64 (ftE vars t)) rfl) ?_
           refine rq rfl (qv_mv (Value.int .i64 vars) rfl) ?_
           refine rq rfl (qv_mv tv rfl) ?_
           refine rl rfl ?_
           refine ops_call (σa := []) (σr := [(Arr 25 b1 [(.int .i64 ((ftD vars t).v)), lv1, nv1, (.int .i64 ((ftD vars t).r))]), (Arr 25 b5 [(.int .i64 ((cnD vars ((t.length : Int))).v)), lv1b, nv1b, (.int .i64 ((cnD vars ((t.length : Int))).r))]), (Arr 3 b6 [(.int .i64 ((t.length : Int)))]), (Arr 25 b7 [(Value.int .i64 vars), (.slice (some ⟨b6, 0, none⟩) 1 1), (Value.slice none 0 0), (Value.int .i64 0)])]) (diagram_c ht (by omega) (by omega) hln) rfl rfl (.refl _) (fun r18 V18 sg18 hV18 hp18 => ?_)
           obtain ⟨rfl, lv2, nv2, rfl, hDg2⟩ := hp18
           have ht := ht.mono hV18
           have hX := hX.mono hV18
           have hMt := hMt.mono hV18
           have hMtb := hMtb.mono hV18
           have hT := hT.mono hV18
           refine ops_nil ⟨[(Arr 25 b1 [(.int .i64 ((ftD vars t).v)), lv1, nv1, (.int .i64 ((ftD vars t).r))]), (Arr 25 b5 [(.int .i64 ((cnD vars ((t.length : Int))).v)), lv1b, nv1b, (.int .i64 ((cnD vars ((t.length : Int))).r))]), (Arr 3 b6 [(.int .i64 ((t.length : Int)))]), (Arr 25 b7 [(Value.int .i64 vars), (.slice (some ⟨b6, 0, none⟩) 1 1), (Value.slice none 0 0), (Value.int .i64 0)])], [], hV18, perm_nil _, ⟨[], (.refl _)⟩, ?_⟩
           refine rq rfl (qv_call (v := (.bool (decide ((ftE vars t) = 0 ∧ (ftD vars t) = (dg vars t))))) (is_c (A := (ftD vars t)) (B := (dg vars t)) (ee := (ftE vars t)) (cc := 0) hMt hDg2) rfl rfl) ?_
           refine rq rfl (qv_not rfl) ?_
           refine rq rfl (qv_mv (.bool (decide (¬ ((ftE vars t) = 0 ∧ (ftD vars t) = (dg vars t))))) rfl) ?_
           by_cases g22 : ¬ ((ftE vars t) = 0 ∧ (ftD vars t) = (dg vars t))
           ·
            exact absurd hfi g22
           ·
            refine re rfl (qv_mv (.int .i64 (tbE ((ftD vars t)))) rfl) (want_f g22 rfl rfl rfl) ?_
            refine re rfl (qv_neq rfl rfl) (want_f g22 rfl rfl rfl) ?_
            refine rq rfl (qv_pick_f g22 rfl (rfl : ev _ _ = (.bool (decide ((tbE ((ftD vars t))) ≠ 0))))) ?_
            refine rq rfl (qv_mv (.bool (decide ((tbE ((ftD vars t))) ≠ 0))) rfl) ?_
            by_cases g23 : (tbE ((ftD vars t))) ≠ 0
            ·
             exact absurd hte g23
            ·
             refine re rfl (qv_mv u1 rfl) (want_f g23 rfl rfl rfl) ?_
             refine re rfl (qv_mv tv rfl) (want_f g23 rfl rfl rfl) ?_
             refine re rfl (qv_call (v := (.bool (decide (tbL (ftD vars t) = t)))) (EqI_c hT ht) rfl rfl) (want_f g23 rfl rfl rfl) ?_
             refine re rfl (qv_not rfl) (want_f g23 rfl rfl rfl) ?_
             refine rq rfl (qv_pick_f g23 rfl (rfl : ev _ _ = (.bool (decide (¬ (tbL (ftD vars t) = t)))))) ?_
             refine rnil ?_
             refine vc_if rfl (fun c35 => ?_) (fun c35 => ?_)
             ·
              exact absurd htl c35
             ·
              refine vc_skip ?_
              refine vc_seq ?_
              refine vc_seq ?_
              refine vc_region ?_
              refine oq (qv_mv xv rfl) ?_
              refine oq (qv_lenB Try.underlying30 rfl hX) ?_
              refine oq (qv_mv (Value.int .i64 vars) rfl) ?_
              refine oq (qv_neq rfl rfl) ?_
              refine ops_nil ?_
              refine vc_if rfl (fun c36 => ?_) (fun c36 => ?_)
              ·
               refine vc_seq ?_
               have hev2 := ev_2 (A := (ftD vars t)) (X := X) hok (by rw [hv]; omega)
               have hev := hev2.2
               have hee := hev2.1
               refine vc_region ?_
               refine oq (qv_mv (.int .i64 (evV (ftD vars t) X)) rfl) ?_
               refine oq (qv_eql rfl rfl) ?_
               refine oq (qv_mv (.bool (decide ((evV (ftD vars t) X) = 0))) rfl) ?_
               by_cases g24 : (evV (ftD vars t) X) = 0
               ·
                refine og (qv_mv (.int .i64 (evE (ftD vars t) X)) rfl) (want_t g24 rfl rfl rfl) ?_
                refine og (qv_eql rfl rfl) (want_t g24 rfl rfl rfl) ?_
                refine oq (qv_pick_t g24 rfl (rfl : ev _ _ = (.bool (decide ((evE (ftD vars t) X) = 2))))) ?_
                refine oq (qv_as (.bool (decide ((evE (ftD vars t) X) = 2))) rfl) ?_
                refine ops_nil ?_
                refine vc_ret ?_
                exact rq1 (Value.bool true) (congrArg Value.bool (decide_eq_true (show ((evE (ftD vars t) X) = 2) from by first | exact ft_3 (by omega) | exact ft_2 (by omega) (by omega) | exact ⟨by rw [hft.1, hm3], by rw [hft.2, mkD_n (by omega)]⟩ | exact hee | exact hev))) rfl
               ·
                exact absurd (hev) g24
              ·
               refine vc_skip ?_
               refine vc_seq ?_
               have hev2 := ev_0 (A := (ftD vars t)) (X := X) hok (by rw [hv]; omega)
               have hev := hev2.2
               have hee := hev2.1
               refine vc_region ?_
               refine oq (qv_mv (.int .i64 (evE (ftD vars t) X)) rfl) ?_
               refine oq (qv_eql rfl rfl) ?_
               refine oq (qv_mv (.bool (decide ((evE (ftD vars t) X) = 0))) rfl) ?_
               by_cases g25 : (evE (ftD vars t) X) = 0
               ·
                refine og (qv_mv (.int .i64 (evV (ftD vars t) X)) rfl) (want_t g25 rfl rfl rfl) ?_
                refine og (qv_ldm (vs := [(.int .i64 ((ftD vars t).v)), lv1, nv1, (.int .i64 ((ftD vars t).r))]) Try.agg25 rfl (inOc (k := 0) rfl) rfl rfl) (want_t g25 rfl rfl rfl) ?_
                refine og (qv_mv xv rfl) (want_t g25 rfl rfl rfl) ?_
                refine og (qv_call (v := (.int .i64 (vl (ftD vars t) (eb X)))) (valueR_c hMt hX hok (by rw [hv]; omega)) rfl rfl) (want_t g25 rfl rfl rfl) ?_
                refine og (qv_eql rfl rfl) (want_t g25 rfl rfl rfl) ?_
                refine oq (qv_pick_t g25 rfl (rfl : ev _ _ = (.bool (decide ((evV (ftD vars t) X) = (vl (ftD vars t) (eb X))))))) ?_
                refine oq (qv_as (.bool (decide ((evV (ftD vars t) X) = (vl (ftD vars t) (eb X))))) rfl) ?_
                refine ops_nil ?_
                refine vc_ret ?_
                exact rq1 (Value.bool true) (congrArg Value.bool (decide_eq_true (show ((evV (ftD vars t) X) = (vl (ftD vars t) (eb X))) from by first | exact ft_3 (by omega) | exact ft_2 (by omega) (by omega) | exact ⟨by rw [hft.1, hm3], by rw [hft.2, mkD_n (by omega)]⟩ | exact hee | exact hev))) rfl
               ·
                exact absurd (hee) g25
      ·
       refine vc_seq ?_
       have hcn := cn_0 (vars := vars) (v := (t.length : Int)) (fun q => q.elim (fun h => by omega) (by first | exact fun h => h (by assumption) | exact fun h => absurd h (by assumption)))
       refine vc_region ?_
       refine oq (qv_ldm (vs := [(.int .i64 ((cnD vars ((t.length : Int))).v)), lv1b, nv1b, (.int .i64 ((cnD vars ((t.length : Int))).r))]) Try.agg25 rfl (inOc (k := 1) rfl) rfl rfl) ?_
       refine oq (qv_mv (.int .i64 (cnE vars ((t.length : Int)))) rfl) ?_
       refine oq (qv_ldm (vs := [(Value.int .i64 vars), (.slice (some ⟨b6, 0, none⟩) 1 1), (Value.slice none 0 0), (Value.int .i64 0)]) Try.agg25 rfl (inOc (k := 3) rfl) rfl rfl) ?_
       refine ops_freeze (b := b6) (o := .cells ([(Value.int .i64 ((t.length : Int)))] : List Value).toArray 3 (0, 0)) (σr := [(Arr 25 b1 [(Value.int .i64 ((ftD vars t).v)), lv1, nv1, (Value.int .i64 ((ftD vars t).r))]), (Arr 25 b5 [(Value.int .i64 ((cnD vars ((t.length : Int))).v)), lv1b, nv1b, (Value.int .i64 ((cnD vars ((t.length : Int))).r))]), (Arr 25 b7 [(Value.int .i64 vars), (Value.slice (some ⟨b6, 0, none⟩) 1 1), (Value.slice none 0 0), (Value.int .i64 0)])]) (List.perm_middle (l₁ := [(Arr 25 b1 [(Value.int .i64 ((ftD vars t).v)), lv1, nv1, (Value.int .i64 ((ftD vars t).r))]), (Arr 25 b5 [(Value.int .i64 ((cnD vars ((t.length : Int))).v)), lv1b, nv1b, (Value.int .i64 ((cnD vars ((t.length : Int))).r))])]) (l₂ := [(Arr 25 b7 [(Value.int .i64 vars), (Value.slice (some ⟨b6, 0, none⟩) 1 1), (Value.slice none 0 0), (Value.int .i64 0)])])) (fun Vf2 hVf2 hb2 => ?_)
       have hc2 : Cells Vf2 b6 [(.int .i64 ((t.length : Int)))] := ⟨_, _, hb2⟩
       have ht := ht.mono hVf2
       have hX := hX.mono hVf2
       have hMt := hMt.mono hVf2
       have hMtb := hMtb.mono hVf2
       refine oq (qv_call (v := (.bool (decide ((cnE vars ((t.length : Int))) = 0 ∧ (cnD vars ((t.length : Int))) = (⟨vars, [(t.length : Int)], [], 0⟩ : Mg))))) (is_c (A := (cnD vars ((t.length : Int)))) (B := (⟨vars, [(t.length : Int)], [], 0⟩ : Mg)) (ee := (cnE vars ((t.length : Int)))) (cc := 0) hMtb ⟨ints_cells (n := 1) (c := 1) hc2 rfl (Nat.le_refl _) (by omega), Fks.nil⟩) rfl rfl) ?_
       refine oq (qv_not rfl) ?_
       refine ops_nil ?_
       refine vc_if rfl (fun c37 => ?_) (fun c37 => ?_)
       ·
        exact absurd hcn c37
       ·
        refine vc_skip ?_
        refine vc_seq ?_
        refine vc_block ?_
        refine vc_seq ?_
        refine vc_res (σ' := [(Arr 25 b1 [(.int .i64 ((ftD vars t).v)), lv1, nv1, (.int .i64 ((ftD vars t).r))]), (Arr 25 b5 [(.int .i64 ((cnD vars ((t.length : Int))).v)), lv1b, nv1b, (.int .i64 ((cnD vars ((t.length : Int))).r))]), (Arr 25 b7 [(Value.int .i64 vars), (.slice (some ⟨b6, 0, none⟩) 1 1), (Value.slice none 0 0), (Value.int .i64 0)])]) rfl ?_
        refine vc_region ?_
        refine oq (qv_mv (Value.int .i64 vars) rfl) ?_
        refine oq (qv_lss rfl rfl) ?_
        refine oq (qv_mv (.bool (decide (vars < 0))) rfl) ?_
        refine og (qv_mv (Value.int .i64 vars) rfl) (want_f g16 rfl rfl rfl) ?_
        refine og (qv_gtr rfl rfl) (want_f g16 rfl rfl rfl) ?_
        refine oq (qv_pick_f g16 rfl (rfl : ev _ _ = (.bool (decide (12 < vars))))) ?_
        refine oq (qv_as (.bool (decide (12 < vars))) rfl) ?_
        refine ops_nil ?_
        refine vc_if rfl (fun c38 => ?_) (fun c38 => ?_)
        ·
         refine vc_seq ?_
         refine vc_region ?_
         refine oq (qv_ldm (vs := [(.int .i64 ((ftD vars t).v)), lv1, nv1, (.int .i64 ((ftD vars t).r))]) Try.agg25 rfl (inOc (k := 0) rfl) rfl rfl) ?_
         refine oq (qv_mv (.int .i64 (ftE vars t)) rfl) ?_
         refine oq (qv_build (out := [(Value.int .i64 0), (Value.slice none 0 0), (Value.slice none 0 0), (Value.int .i64 0)]) Try.build25 [] rfl rfl) ?_
         refine oq (qv_call (v := (.bool (decide ((ftE vars t) = 3 ∧ (ftD vars t) = zM)))) (is_c (A := (ftD vars t)) (B := zM) (ee := (ftE vars t)) (cc := 3) hMt Mt.nil) rfl rfl) ?_
         refine oq (qv_as (.bool (decide ((ftE vars t) = 3 ∧ (ftD vars t) = zM))) rfl) ?_
         refine ops_nil ?_
         refine vc_ret ?_
         refine blockQ_ret ?_
         exact rq1 (Value.bool true) (congrArg Value.bool (decide_eq_true (show ((ftE vars t) = 3 ∧ (ftD vars t) = zM) from by first | exact ft_3 (by omega) | exact ft_2 (by omega) (by omega) | exact ⟨by rw [hft.1, hm3], by rw [hft.2, mkD_n (by omega)]⟩ | exact hee | exact hev))) rfl
        ·
         refine vc_seq ?_
         have hpw := pow2_12 (n := vars.toNat) (by omega)
         refine vc_region ?_
         refine oq (qv_mv tv rfl) ?_
         refine oq (qv_lenI Try.underlying22 rfl ht) ?_
         refine oq (qv_mv (Value.int .i64 vars) rfl) ?_
         refine oq (qv_shli rfl rfl (by omega) (by omega) (by omega)) ?_
         refine oq (qv_neq rfl rfl) ?_
         refine oq (qv_as (.bool (decide (((t.length : Int)) ≠ (1 * 2 ^ (vars : Int).toNat)))) rfl) ?_
         refine ops_nil ?_
         refine vc_if rfl (fun c39 => ?_) (fun c39 => ?_)
         ·
          refine vc_seq ?_
          refine vc_region ?_
          refine oq (qv_ldm (vs := [(.int .i64 ((ftD vars t).v)), lv1, nv1, (.int .i64 ((ftD vars t).r))]) Try.agg25 rfl (inOc (k := 0) rfl) rfl rfl) ?_
          refine oq (qv_mv (.int .i64 (ftE vars t)) rfl) ?_
          refine oq (qv_build (out := [(Value.int .i64 0), (Value.slice none 0 0), (Value.slice none 0 0), (Value.int .i64 0)]) Try.build25 [] rfl rfl) ?_
          refine oq (qv_call (v := (.bool (decide ((ftE vars t) = 2 ∧ (ftD vars t) = zM)))) (is_c (A := (ftD vars t)) (B := zM) (ee := (ftE vars t)) (cc := 2) hMt Mt.nil) rfl rfl) ?_
          refine oq (qv_as (.bool (decide ((ftE vars t) = 2 ∧ (ftD vars t) = zM))) rfl) ?_
          refine ops_nil ?_
          refine vc_ret ?_
          refine blockQ_ret ?_
          exact rq1 (Value.bool true) (congrArg Value.bool (decide_eq_true (show ((ftE vars t) = 2 ∧ (ftD vars t) = zM) from by first | exact ft_3 (by omega) | exact ft_2 (by omega) (by omega) | exact ⟨by rw [hft.1, hm3], by rw [hft.2, mkD_n (by omega)]⟩ | exact hee | exact hev))) rfl
         ·
          refine vc_seq ?_
          refine vc_region ?_
          refine oq (qv_mv tv rfl) ?_
          refine oq (qv_call (v := (.bool (decide (∃ z ∈ t, ¬ inR z)))) (ContainsOut_c ht) rfl rfl) ?_
          refine oq (qv_as (.bool (decide (∃ z ∈ t, ¬ inR z))) rfl) ?_
          refine ops_nil ?_
          refine vc_if rfl (fun c40 => ?_) (fun c40 => ?_)
          ·
           refine vc_seq ?_
           have hft := ft_0 (vars := vars) (t := t) (by omega) (by omega)
           have hm3 := mkE_3 (vars := vars) (t := t) (by assumption)
           refine vc_region ?_
           refine oq (qv_ldm (vs := [(.int .i64 ((ftD vars t).v)), lv1, nv1, (.int .i64 ((ftD vars t).r))]) Try.agg25 rfl (inOc (k := 0) rfl) rfl rfl) ?_
           refine oq (qv_mv (.int .i64 (ftE vars t)) rfl) ?_
           refine oq (qv_build (out := [(Value.int .i64 0), (Value.slice none 0 0), (Value.slice none 0 0), (Value.int .i64 0)]) Try.build25 [] rfl rfl) ?_
           refine oq (qv_call (v := (.bool (decide ((ftE vars t) = 3 ∧ (ftD vars t) = zM)))) (is_c (A := (ftD vars t)) (B := zM) (ee := (ftE vars t)) (cc := 3) hMt Mt.nil) rfl rfl) ?_
           refine oq (qv_as (.bool (decide ((ftE vars t) = 3 ∧ (ftD vars t) = zM))) rfl) ?_
           refine ops_nil ?_
           refine vc_ret ?_
           refine blockQ_ret ?_
           exact rq1 (Value.bool true) (congrArg Value.bool (decide_eq_true (show ((ftE vars t) = 3 ∧ (ftD vars t) = zM) from by first | exact ft_3 (by omega) | exact ft_2 (by omega) (by omega) | exact ⟨by rw [hft.1, hm3], by rw [hft.2, mkD_n (by omega)]⟩ | exact hee | exact hev))) rfl
          ·
           refine vc_skip ?_
           refine vc_seq ?_
           have hft := ft_0 (vars := vars) (t := t) (by omega) (by omega)
           have hall : ∀ z ∈ t, inR z := fun z hz => Classical.byContradiction fun q => c40 ⟨z, hz, q⟩
           have hln : t.length = 2 ^ vars.toNat := by
             have e : ((2 ^ vars.toNat : Nat) : Int) = (2 : Int) ^ vars.toNat := by simp
             omega
           have hm := mkE_of (vars := vars) hall (dg_small (by omega) hln)
           have hfe := hft.1.trans hm
           have hfd := hft.2.trans (mkD_0 hm)
           have hok : Ok (ftD vars t) := by rw [hfd]; exact dg_ok (by omega) (by omega) hln hall (dg_small (by omega) hln)
           have hvt : vT (ftD vars t) = t := by rw [hfd]; exact vT_dg (by omega) hln
           have hv : (ftD vars t).v = vars := by rw [hfd]; rfl
           have htb := tb_0 hok (by rw [hv]; omega)
           have htl := htb.2.trans hvt
           have hte := htb.1
           have hfi := And.intro hfe hfd
           refine vc_region ?_
           refine oq (qv_ldm (vs := [(.int .i64 ((ftD vars t).v)), lv1, nv1, (.int .i64 ((ftD vars t).r))]) Try.agg25 rfl (inOc (k := 0) rfl) rfl rfl) ?_
           refine ops_call (σa := []) (σr := [(Arr 25 b1 [(.int .i64 ((ftD vars t).v)), lv1, nv1, (.int .i64 ((ftD vars t).r))]), (Arr 25 b5 [(.int .i64 ((cnD vars ((t.length : Int))).v)), lv1b, nv1b, (.int .i64 ((cnD vars ((t.length : Int))).r))]), (Arr 25 b7 [(Value.int .i64 vars), (.slice (some ⟨b6, 0, none⟩) 1 1), (Value.slice none 0 0), (Value.int .i64 0)])]) (Table_c (A := (ftD vars t)) hMt) rfl rfl (.refl _) (fun r19 V19 sg19 hV19 hp19 => ?_)
           obtain ⟨rfl, u1, rfl, hT⟩ := hp19
           have ht := ht.mono hV19
           have hX := hX.mono hV19
           have hMt := hMt.mono hV19
           have hMtb := hMtb.mono hV19
           have hc2 := hc2.mono hV19
           refine oq (qv_mv (.tuple #[u1, (.int .i64 (tbE ((ftD vars t))))]) rfl) ?_
           refine oq (qv_ext u1 rfl rfl) ?_
           refine oq (qv_ext (.int .i64 (tbE ((ftD vars t)))) rfl rfl) ?_
           refine oq (qv_as u1 rfl) ?_
           refine oq (qv_as (.int .i64 (tbE ((ftD vars t)))) rfl) ?_
           refine ops_nil ?_
           refine vc_seq ?_
           refine vc_region ?_
           refine oq (qv_ldm (vs := [(.int .i64 ((ftD vars t).v)), lv1, nv1, (.int .i64 ((ftD vars t).r))]) Try.agg25 rfl (inOc (k := 0) rfl) rfl rfl) ?_
           refine oq (qv_mv xv rfl) ?_
           refine ops_call (σa := []) (σr := [(Arr 25 b1 [(.int .i64 ((ftD vars t).v)), lv1, nv1, (.int .i64 ((ftD vars t).r))]), (Arr 25 b5 [(.int .i64 ((cnD vars ((t.length : Int))).v)), lv1b, nv1b, (.int .i64 ((cnD vars ((t.length : Int))).r))]), (Arr 25 b7 [(Value.int .i64 vars), (.slice (some ⟨b6, 0, none⟩) 1 1), (Value.slice none 0 0), (Value.int .i64 0)])]) (Eval_c (A := ftD vars t) (X := X) hMt hX) rfl rfl (.refl _) (fun r20 V20 sg20 hV20 hp20 => ?_)
           obtain ⟨rfl, rfl⟩ := hp20
           have ht := ht.mono hV20
           have hX := hX.mono hV20
           have hMt := hMt.mono hV20
           have hMtb := hMtb.mono hV20
           have hc2 := hc2.mono hV20
           have hT := hT.mono hV20
           refine oq (qv_mv (.tuple #[(.int .i64 (evV (ftD vars t) X)), (.int .i64 (evE (ftD vars t) X))]) rfl) ?_
           refine oq (qv_ext (.int .i64 (evV (ftD vars t) X)) rfl rfl) ?_
           refine oq (qv_ext (.int .i64 (evE (ftD vars t) X)) rfl rfl) ?_
           refine oq (qv_as (.int .i64 (evV (ftD vars t) X)) rfl) ?_
           refine oq (qv_as (.int .i64 (evE (ftD vars t) X)) rfl) ?_
           refine ops_nil ?_
           refine vc_seq ?_
           refine vc_seq ?_
           refine vc_region_order (τ := []) [(0, false), (1, false), (2, false), (3, false), (4, true), (5, false), (6, false), (7, false), (8, false), (9, false), (10, false), (11, false), (12, false), (13, false), (14, false), (15, false), (16, false)] [(Arr 25 b1 [(.int .i64 ((ftD vars t).v)), lv1, nv1, (.int .i64 ((ftD vars t).r))]), (Arr 25 b5 [(.int .i64 ((cnD vars ((t.length : Int))).v)), lv1b, nv1b, (.int .i64 ((cnD vars ((t.length : Int))).r))]), (Arr 25 b7 [(Value.int .i64 vars), (.slice (some ⟨b6, 0, none⟩) 1 1), (Value.slice none 0 0), (Value.int .i64 0)])] Try.mixed (perm_nil _) (by kernel_rfl) ?_
           refine rq rfl (qv_ldm (vs := [(.int .i64 ((ftD vars t).v)), lv1, nv1, (.int .i64 ((ftD vars t).r))]) Try.agg25 rfl (inOc (k := 0) rfl) rfl rfl) ?_
           refine rq rfl (qv_mv (.int .i64 (ftE vars t)) rfl) ?_
           refine rq rfl (qv_mv (Value.int .i64 vars) rfl) ?_
           refine rq rfl (qv_mv tv rfl) ?_
           refine rl rfl ?_
           refine ops_call (σa := []) (σr := [(Arr 25 b1 [(.int .i64 ((ftD vars t).v)), lv1, nv1, (.int .i64 ((ftD vars t).r))]), (Arr 25 b5 [(.int .i64 ((cnD vars ((t.length : Int))).v)), lv1b, nv1b, (.int .i64 ((cnD vars ((t.length : Int))).r))]), (Arr 25 b7 [(Value.int .i64 vars), (.slice (some ⟨b6, 0, none⟩) 1 1), (Value.slice none 0 0), (Value.int .i64 0)])]) (diagram_c ht (by omega) (by omega) hln) rfl rfl (.refl _) (fun r21 V21 sg21 hV21 hp21 => ?_)
           obtain ⟨rfl, lv2, nv2, rfl, hDg2⟩ := hp21
           have ht := ht.mono hV21
           have hX := hX.mono hV21
           have hMt := hMt.mono hV21
           have hMtb := hMtb.mono hV21
           have hc2 := hc2.mono hV21
           have hT := hT.mono hV21
           refine ops_nil ⟨[(Arr 25 b1 [(.int .i64 ((ftD vars t).v)), lv1, nv1, (.int .i64 ((ftD vars t).r))]), (Arr 25 b5 [(.int .i64 ((cnD vars ((t.length : Int))).v)), lv1b, nv1b, (.int .i64 ((cnD vars ((t.length : Int))).r))]), (Arr 25 b7 [(Value.int .i64 vars), (.slice (some ⟨b6, 0, none⟩) 1 1), (Value.slice none 0 0), (Value.int .i64 0)])], [], hV21, perm_nil _, ⟨[], (.refl _)⟩, ?_⟩
           refine rq rfl (qv_call (v := (.bool (decide ((ftE vars t) = 0 ∧ (ftD vars t) = (dg vars t))))) (is_c (A := (ftD vars t)) (B := (dg vars t)) (ee := (ftE vars t)) (cc := 0) hMt hDg2) rfl rfl) ?_
           refine rq rfl (qv_not rfl) ?_
           refine rq rfl (qv_mv (.bool (decide (¬ ((ftE vars t) = 0 ∧ (ftD vars t) = (dg vars t))))) rfl) ?_
           by_cases g26 : ¬ ((ftE vars t) = 0 ∧ (ftD vars t) = (dg vars t))
           ·
            exact absurd hfi g26
           ·
            refine re rfl (qv_mv (.int .i64 (tbE ((ftD vars t)))) rfl) (want_f g26 rfl rfl rfl) ?_
            refine re rfl (qv_neq rfl rfl) (want_f g26 rfl rfl rfl) ?_
            refine rq rfl (qv_pick_f g26 rfl (rfl : ev _ _ = (.bool (decide ((tbE ((ftD vars t))) ≠ 0))))) ?_
            refine rq rfl (qv_mv (.bool (decide ((tbE ((ftD vars t))) ≠ 0))) rfl) ?_
            by_cases g27 : (tbE ((ftD vars t))) ≠ 0
            ·
             exact absurd hte g27
            ·
             refine re rfl (qv_mv u1 rfl) (want_f g27 rfl rfl rfl) ?_
             refine re rfl (qv_mv tv rfl) (want_f g27 rfl rfl rfl) ?_
             refine re rfl (qv_call (v := (.bool (decide (tbL (ftD vars t) = t)))) (EqI_c hT ht) rfl rfl) (want_f g27 rfl rfl rfl) ?_
             refine re rfl (qv_not rfl) (want_f g27 rfl rfl rfl) ?_
             refine rq rfl (qv_pick_f g27 rfl (rfl : ev _ _ = (.bool (decide (¬ (tbL (ftD vars t) = t)))))) ?_
             refine rnil ?_
             refine vc_if rfl (fun c41 => ?_) (fun c41 => ?_)
             ·
              exact absurd htl c41
             ·
              refine vc_skip ?_
              refine vc_seq ?_
              refine vc_seq ?_
              refine vc_region ?_
              refine oq (qv_mv xv rfl) ?_
              refine oq (qv_lenB Try.underlying30 rfl hX) ?_
              refine oq (qv_mv (Value.int .i64 vars) rfl) ?_
              refine oq (qv_neq rfl rfl) ?_
              refine ops_nil ?_
              refine vc_if rfl (fun c42 => ?_) (fun c42 => ?_)
              ·
               refine vc_seq ?_
               have hev2 := ev_2 (A := (ftD vars t)) (X := X) hok (by rw [hv]; omega)
               have hev := hev2.2
               have hee := hev2.1
               refine vc_region ?_
               refine oq (qv_mv (.int .i64 (evV (ftD vars t) X)) rfl) ?_
               refine oq (qv_eql rfl rfl) ?_
               refine oq (qv_mv (.bool (decide ((evV (ftD vars t) X) = 0))) rfl) ?_
               by_cases g28 : (evV (ftD vars t) X) = 0
               ·
                refine og (qv_mv (.int .i64 (evE (ftD vars t) X)) rfl) (want_t g28 rfl rfl rfl) ?_
                refine og (qv_eql rfl rfl) (want_t g28 rfl rfl rfl) ?_
                refine oq (qv_pick_t g28 rfl (rfl : ev _ _ = (.bool (decide ((evE (ftD vars t) X) = 2))))) ?_
                refine oq (qv_as (.bool (decide ((evE (ftD vars t) X) = 2))) rfl) ?_
                refine ops_nil ?_
                refine vc_ret ?_
                exact rq1 (Value.bool true) (congrArg Value.bool (decide_eq_true (show ((evE (ftD vars t) X) = 2) from by first | exact ft_3 (by omega) | exact ft_2 (by omega) (by omega) | exact ⟨by rw [hft.1, hm3], by rw [hft.2, mkD_n (by omega)]⟩ | exact hee | exact hev))) rfl
               ·
                exact absurd (hev) g28
              ·
               refine vc_skip ?_
               refine vc_seq ?_
               have hev2 := ev_0 (A := (ftD vars t)) (X := X) hok (by rw [hv]; omega)
               have hev := hev2.2
               have hee := hev2.1
               refine vc_region ?_
               refine oq (qv_mv (.int .i64 (evE (ftD vars t) X)) rfl) ?_
               refine oq (qv_eql rfl rfl) ?_
               refine oq (qv_mv (.bool (decide ((evE (ftD vars t) X) = 0))) rfl) ?_
               by_cases g29 : (evE (ftD vars t) X) = 0
               ·
                refine og (qv_mv (.int .i64 (evV (ftD vars t) X)) rfl) (want_t g29 rfl rfl rfl) ?_
                refine og (qv_ldm (vs := [(.int .i64 ((ftD vars t).v)), lv1, nv1, (.int .i64 ((ftD vars t).r))]) Try.agg25 rfl (inOc (k := 0) rfl) rfl rfl) (want_t g29 rfl rfl rfl) ?_
                refine og (qv_mv xv rfl) (want_t g29 rfl rfl rfl) ?_
                refine og (qv_call (v := (.int .i64 (vl (ftD vars t) (eb X)))) (valueR_c hMt hX hok (by rw [hv]; omega)) rfl rfl) (want_t g29 rfl rfl rfl) ?_
                refine og (qv_eql rfl rfl) (want_t g29 rfl rfl rfl) ?_
                refine oq (qv_pick_t g29 rfl (rfl : ev _ _ = (.bool (decide ((evV (ftD vars t) X) = (vl (ftD vars t) (eb X))))))) ?_
                refine oq (qv_as (.bool (decide ((evV (ftD vars t) X) = (vl (ftD vars t) (eb X))))) rfl) ?_
                refine ops_nil ?_
                refine vc_ret ?_
                exact rq1 (Value.bool true) (congrArg Value.bool (decide_eq_true (show ((evV (ftD vars t) X) = (vl (ftD vars t) (eb X))) from by first | exact ft_3 (by omega) | exact ft_2 (by omega) (by omega) | exact ⟨by rw [hft.1, hm3], by rw [hft.2, mkD_n (by omega)]⟩ | exact hee | exact hev))) rfl
               ·
                exact absurd (hee) g29

end Go.Proofs.Ytkmhjcjpohpiaaa
