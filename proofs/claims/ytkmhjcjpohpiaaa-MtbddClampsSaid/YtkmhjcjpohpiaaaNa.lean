import Derived.Test.YtkmhjcjpohpiaaaMv
/- Walks of mtbdd: what each function returns. Printed by a program out of notes. -/
namespace Go.Proofs.Ytkmhjcjpohpiaaa
open Go.Vc
open Classical

set_option maxRecDepth 100000 in
set_option maxHeartbeats 4000000 in
theorem Clamps_c {V : HV} {la na : Value} {A : Mg} (hA : Mt V la na A) {low high : Int} :
    FnC Try.prog 8 [(.agg #[(.int .i64 A.v), la, na, (.int .i64 A.r)]), (Value.int .i64 low), (Value.int .i64 high)] V [] (fun v _ _ => v = (Value.bool true)) := by
 refine fn_intro (N := 73) Try.func8 (by kernel_rfl) rfl rfl rfl (Nat.le_of_ble_eq_true rfl) ?_
 intro w0 D
 have hbl := Ints.bound hA.l
 have hbn := SlS.bound hA.n
 refine vc_seq ?_
 refine vc_region ?_
 refine ops_box (v := (.agg #[(.int .i64 A.v), la, na, (.int .i64 A.r)])) (cs := [(.int .i64 A.v), la, na, (.int .i64 A.r)]) rfl rfl (fun b1 => ?_)
 refine oq (qv_as (Value.bool false) rfl) ?_
 refine ops_nil ?_
 refine vc_seq ?_
 refine vc_seq ?_
 refine vc_res (σ' := [(Arr 25 b1 [(.int .i64 A.v), la, na, (.int .i64 A.r)])]) rfl ?_
 refine vc_region ?_
 refine oq (qv_call (v := (Value.bool true)) (known_c) rfl rfl) ?_
 refine oq (qv_notc rfl) ?_
 refine ops_nil ?_
 refine vc_ff rfl ?_
 refine vc_skip ?_
 refine vc_seq ?_
 refine vc_seq ?_
 refine vc_region ?_
 refine oq (qv_ldm (vs := [(.int .i64 A.v), la, na, (.int .i64 A.r)]) Try.agg25 rfl (inOc (k := 0) rfl) rfl rfl) ?_
 refine oq (qv_call (v := (.bool (decide (fewP A ∧ (¬ chkC A = 0 ∨ A.v ≤ 8))))) (small_c hA) rfl rfl) ?_
 refine oq (qv_not rfl) ?_
 refine ops_nil ?_
 refine vc_if rfl (fun c1 => ?_) (fun c1 => ?_)
 ·
  refine vc_seq ?_
  refine vc_region ?_
  refine oq (qv_as (Value.bool true) rfl) ?_
  refine ops_nil ?_
  refine vc_ret ?_
  exact rq1 (Value.bool true) rfl rfl
 ·
  refine vc_skip ?_
  refine vc_seq ?_
  have h8A := Classical.not_not.1 c1
  refine vc_region ?_
  refine oq (qv_ldm (vs := [(.int .i64 A.v), la, na, (.int .i64 A.r)]) Try.agg25 rfl (inOc (k := 0) rfl) rfl rfl) ?_
  refine oq (qv_mv (Value.int .i64 low) rfl) ?_
  refine oq (qv_mv (Value.int .i64 high) rfl) ?_
  refine ops_call (σa := []) (σr := [(Arr 25 b1 [(.int .i64 A.v), la, na, (.int .i64 A.r)])]) (Clamp_c (low := low) (high := high) hA) rfl rfl (.refl _) (fun r1 V1 sg1 hV1 hp1 => ?_)
  obtain ⟨rfl, lv1, nv1, rfl, hMt⟩ := hp1
  have hA := hA.mono hV1
  refine oq (qv_mv (.tuple #[(.agg #[(.int .i64 ((cpD A low high).v)), lv1, nv1, (.int .i64 ((cpD A low high).r))]), (.int .i64 (cpE A low high))]) rfl) ?_
  refine oq (qv_ext (.agg #[(.int .i64 ((cpD A low high).v)), lv1, nv1, (.int .i64 ((cpD A low high).r))]) rfl rfl) ?_
  refine oq (qv_ext (.int .i64 (cpE A low high)) rfl rfl) ?_
  refine ops_alloc Try.ti25 rfl (fun b2 => ?_)
  refine ops_stw (k := 1) (vs := [(.int .i64 ((cpD A low high).v)), lv1, nv1, (.int .i64 ((cpD A low high).r))]) Try.size25 rfl rfl rfl (allc rfl (allc (Sl.one hMt.l) (allc (SlS.one hMt.n) (allc rfl rfl)))) rfl rfl ?_
  refine oq (qv_as (.int .i64 (cpE A low high)) rfl) ?_
  refine ops_nil ?_
  refine vc_seq ?_
  refine vc_seq ?_
  refine vc_res (σ' := [(Arr 25 b1 [(.int .i64 A.v), la, na, (.int .i64 A.r)]), (Arr 25 b2 [(.int .i64 ((cpD A low high).v)), lv1, nv1, (.int .i64 ((cpD A low high).r))])]) rfl ?_
  refine vc_region ?_
  refine oq (qv_ldm (vs := [(.int .i64 A.v), la, na, (.int .i64 A.r)]) Try.agg25 rfl (inOc (k := 0) rfl) rfl rfl) ?_
  refine oq (qv_call (v := (.int .i64 (chkC A))) (check_c hA) rfl rfl) ?_
  refine oq (qv_neq rfl rfl) ?_
  refine ops_nil ?_
  refine vc_if rfl (fun c2 => ?_) (fun c2 => ?_)
  ·
   refine vc_seq ?_
   have hcn := cp_1 (low := low) (high := high) (fun q => absurd (chk_0 q) (by assumption) : ¬ Ok A)
   refine vc_region ?_
   refine oq (qv_ldm (vs := [(.int .i64 ((cpD A low high).v)), lv1, nv1, (.int .i64 ((cpD A low high).r))]) Try.agg25 rfl (inOc (k := 1) rfl) rfl rfl) ?_
   refine oq (qv_mv (.int .i64 (cpE A low high)) rfl) ?_
   refine oq (qv_build (out := [(Value.int .i64 0), (Value.slice none 0 0), (Value.slice none 0 0), (Value.int .i64 0)]) Try.build25 [] rfl rfl) ?_
   refine oq (qv_call (v := (.bool (decide ((cpE A low high) = 1 ∧ (cpD A low high) = zM)))) (is_c (A := (cpD A low high)) (B := zM) (ee := (cpE A low high)) (cc := 1) hMt Mt.nil) rfl rfl) ?_
   refine oq (qv_as (.bool (decide ((cpE A low high) = 1 ∧ (cpD A low high) = zM))) rfl) ?_
   refine ops_nil ?_
   refine vc_ret ?_
   exact rq1 (Value.bool true) (congrArg Value.bool (decide_eq_true (show ((cpE A low high) = 1 ∧ (cpD A low high) = zM) from by first | exact hcn | exact ⟨by rw [hcp.1, hms.1], by rw [hcp.2, hms.2, hTm]⟩))) rfl
  ·
   refine vc_skip ?_
   refine vc_seq ?_
   refine vc_seq ?_
   have hok : Ok A := chk_ok.1 (by omega)
   have hv1 := hok.1.1
   refine vc_region ?_
   refine oq (qv_mv (Value.int .i64 low) rfl) ?_
   refine oq (qv_mv (Value.int .i64 high) rfl) ?_
   refine oq (qv_gtr rfl rfl) ?_
   refine oq (qv_mv (.bool (decide (high < low))) rfl) ?_
   by_cases g1 : high < low
   ·
    refine os (want_fn g1 rfl rfl rfl) ?_
    refine os (want_fn g1 rfl rfl rfl) ?_
    refine os (want_fn g1 rfl rfl rfl) ?_
    refine oq (qv_pick_t g1 rfl (rfl : ev _ _ = (Value.bool true))) ?_
    refine oq (qv_mv (Value.bool true) rfl) ?_
    refine os (want_fnc rfl rfl rfl) ?_
    refine os (want_fnc rfl rfl rfl) ?_
    refine os (want_fnc rfl rfl rfl) ?_
    refine oq (qv_pick_tc rfl (rfl : ev _ _ = (Value.bool true))) ?_
    refine ops_nil ?_
    refine vc_tt rfl ?_
    refine vc_seq ?_
    have hcn := cp_3 (A := A) (low := low) (high := high) hok (by first | exact .inl (by assumption) | exact .inr (.inl (by assumption)) | exact .inr (.inr (by assumption)))
    refine vc_region ?_
    refine oq (qv_ldm (vs := [(.int .i64 ((cpD A low high).v)), lv1, nv1, (.int .i64 ((cpD A low high).r))]) Try.agg25 rfl (inOc (k := 1) rfl) rfl rfl) ?_
    refine oq (qv_mv (.int .i64 (cpE A low high)) rfl) ?_
    refine oq (qv_build (out := [(Value.int .i64 0), (Value.slice none 0 0), (Value.slice none 0 0), (Value.int .i64 0)]) Try.build25 [] rfl rfl) ?_
    refine oq (qv_call (v := (.bool (decide ((cpE A low high) = 3 ∧ (cpD A low high) = zM)))) (is_c (A := (cpD A low high)) (B := zM) (ee := (cpE A low high)) (cc := 3) hMt Mt.nil) rfl rfl) ?_
    refine oq (qv_as (.bool (decide ((cpE A low high) = 3 ∧ (cpD A low high) = zM))) rfl) ?_
    refine ops_nil ?_
    refine vc_ret ?_
    exact rq1 (Value.bool true) (congrArg Value.bool (decide_eq_true (show ((cpE A low high) = 3 ∧ (cpD A low high) = zM) from by first | exact hcn | exact ⟨by rw [hcp.1, hms.1], by rw [hcp.2, hms.2, hTm]⟩))) rfl
   ·
    refine og (qv_mv (Value.int .i64 low) rfl) (want_f g1 rfl rfl rfl) ?_
    refine og (qv_call (v := (.bool (decide (inR (low))))) (inRangeR_c) rfl rfl) (want_f g1 rfl rfl rfl) ?_
    refine og (qv_not rfl) (want_f g1 rfl rfl rfl) ?_
    refine oq (qv_pick_f g1 rfl (rfl : ev _ _ = (.bool (decide (¬ (inR (low))))))) ?_
    refine oq (qv_mv (.bool (decide (¬ (inR (low))))) rfl) ?_
    by_cases g2 : ¬ (inR (low))
    ·
     refine os (want_fn g2 rfl rfl rfl) ?_
     refine os (want_fn g2 rfl rfl rfl) ?_
     refine os (want_fn g2 rfl rfl rfl) ?_
     refine oq (qv_pick_t g2 rfl (rfl : ev _ _ = (Value.bool true))) ?_
     refine ops_nil ?_
     refine vc_tt rfl ?_
     refine vc_seq ?_
     have hcn := cp_3 (A := A) (low := low) (high := high) hok (by first | exact .inl (by assumption) | exact .inr (.inl (by assumption)) | exact .inr (.inr (by assumption)))
     refine vc_region ?_
     refine oq (qv_ldm (vs := [(.int .i64 ((cpD A low high).v)), lv1, nv1, (.int .i64 ((cpD A low high).r))]) Try.agg25 rfl (inOc (k := 1) rfl) rfl rfl) ?_
     refine oq (qv_mv (.int .i64 (cpE A low high)) rfl) ?_
     refine oq (qv_build (out := [(Value.int .i64 0), (Value.slice none 0 0), (Value.slice none 0 0), (Value.int .i64 0)]) Try.build25 [] rfl rfl) ?_
     refine oq (qv_call (v := (.bool (decide ((cpE A low high) = 3 ∧ (cpD A low high) = zM)))) (is_c (A := (cpD A low high)) (B := zM) (ee := (cpE A low high)) (cc := 3) hMt Mt.nil) rfl rfl) ?_
     refine oq (qv_as (.bool (decide ((cpE A low high) = 3 ∧ (cpD A low high) = zM))) rfl) ?_
     refine ops_nil ?_
     refine vc_ret ?_
     exact rq1 (Value.bool true) (congrArg Value.bool (decide_eq_true (show ((cpE A low high) = 3 ∧ (cpD A low high) = zM) from by first | exact hcn | exact ⟨by rw [hcp.1, hms.1], by rw [hcp.2, hms.2, hTm]⟩))) rfl
    ·
     refine og (qv_mv (Value.int .i64 high) rfl) (want_f g2 rfl rfl rfl) ?_
     refine og (qv_call (v := (.bool (decide (inR (high))))) (inRangeR_c) rfl rfl) (want_f g2 rfl rfl rfl) ?_
     refine og (qv_not rfl) (want_f g2 rfl rfl rfl) ?_
     refine oq (qv_pick_f g2 rfl (rfl : ev _ _ = (.bool (decide (¬ (inR (high))))))) ?_
     refine ops_nil ?_
     refine vc_if rfl (fun c3 => ?_) (fun c3 => ?_)
     ·
      refine vc_seq ?_
      have hcn := cp_3 (A := A) (low := low) (high := high) hok (by first | exact .inl (by assumption) | exact .inr (.inl (by assumption)) | exact .inr (.inr (by assumption)))
      refine vc_region ?_
      refine oq (qv_ldm (vs := [(.int .i64 ((cpD A low high).v)), lv1, nv1, (.int .i64 ((cpD A low high).r))]) Try.agg25 rfl (inOc (k := 1) rfl) rfl rfl) ?_
      refine oq (qv_mv (.int .i64 (cpE A low high)) rfl) ?_
      refine oq (qv_build (out := [(Value.int .i64 0), (Value.slice none 0 0), (Value.slice none 0 0), (Value.int .i64 0)]) Try.build25 [] rfl rfl) ?_
      refine oq (qv_call (v := (.bool (decide ((cpE A low high) = 3 ∧ (cpD A low high) = zM)))) (is_c (A := (cpD A low high)) (B := zM) (ee := (cpE A low high)) (cc := 3) hMt Mt.nil) rfl rfl) ?_
      refine oq (qv_as (.bool (decide ((cpE A low high) = 3 ∧ (cpD A low high) = zM))) rfl) ?_
      refine ops_nil ?_
      refine vc_ret ?_
      exact rq1 (Value.bool true) (congrArg Value.bool (decide_eq_true (show ((cpE A low high) = 3 ∧ (cpD A low high) = zM) from by first | exact hcn | exact ⟨by rw [hcp.1, hms.1], by rw [hcp.2, hms.2, hTm]⟩))) rfl
     ·
      refine vc_skip ?_
      refine vc_seq ?_
      have hv8 : A.v ≤ 8 := h8A.2.elim (fun h => absurd (chk_0 hok) h) id
      have hvn := Clone_len (n := A.v.toNat) (by omega)
      have hvl := vT_len (A := A)
      have hcq := cp_q (low := low) (high := high) (by assumption) (by assumption) (by assumption)
      refine vc_region ?_
      refine oq (qv_ldm (vs := [(.int .i64 A.v), la, na, (.int .i64 A.r)]) Try.agg25 rfl (inOc (k := 0) rfl) rfl rfl) ?_
      refine ops_call (σa := []) (σr := [(Arr 25 b1 [(.int .i64 A.v), la, na, (.int .i64 A.r)]), (Arr 25 b2 [(.int .i64 ((cpD A low high).v)), lv1, nv1, (.int .i64 ((cpD A low high).r))])]) (tableO_c hA hok (by omega)) rfl rfl (.refl _) (fun r2 V2 sg2 hV2 hp2 => ?_)
      obtain rfl := hp2
      obtain ⟨tq, htq⟩ : ∃ x, x = r2 := ⟨_, rfl⟩
      subst htq
      have hA := hA.mono hV2
      have hMt := hMt.mono hV2
      refine oq (qv_as tq rfl) ?_
      refine ops_nil ?_
      refine vc_seq ?_
      refine vc_seq ?_
      refine vc_res (σ' := [(Gr 3 1 tq ((vT A).length) (((vT A).map (Value.int .i64)))), (Arr 25 b1 [(.int .i64 A.v), la, na, (.int .i64 A.r)]), (Arr 25 b2 [(.int .i64 ((cpD A low high).v)), lv1, nv1, (.int .i64 ((cpD A low high).r))])]) rfl ?_
      refine vc_region ?_
      refine oq (qv_mv tq rfl) ?_
      refine oq (qv_lenGi Try.underlying22 rfl (inGi (k := 0) rfl)) ?_
      refine oq (qv_mv (Value.int .i64 0) rfl) ?_
      refine ops_nil ?_
      refine vc_block ?_
      refine vc_loop (α := Int × List Int) (fun (xx : Int × List Int) => [(0, (.agg #[(.int .i64 A.v), la, na, (.int .i64 A.r)])), (1, (Value.int .i64 low)), (2, (Value.int .i64 high)), (3, (Value.pointer (some ⟨b1, 0, none⟩))), (6, (Value.bool false)), (7, (Value.pointer (some ⟨b2, 0, none⟩))), (8, (.int .i64 (cpE A low high))), (9, tq), (12, (Value.bool false)), (15, (.bool (decide (¬ (fewP A ∧ (¬ chkC A = 0 ∨ A.v ≤ 8)))))), (25, (.bool (decide ((chkC A) ≠ 0)))), (42, (.bool (decide (¬ (inR (high)))))), (50, (.int .i64 ((((vT A)).length : Int)))), (51, (Value.int .i64 xx.1))]) (fun (xx : Int × List Int) V' σ' => V2 = V' ∧ [(Gr 3 1 tq xx.2.length ((xx.2.map (Value.int .i64)))), (Arr 25 b1 [(.int .i64 A.v), la, na, (.int .i64 A.r)]), (Arr 25 b2 [(.int .i64 ((cpD A low high).v)), lv1, nv1, (.int .i64 ((cpD A low high).r))])] = σ' ∧ 0 ≤ xx.1 ∧ xx.1 ≤ (vT A).length ∧ xx.2.length = (vT A).length ∧ (∀ x : Int, 0 ≤ x → x < xx.1 → gi xx.2 x = clF low high (gi (vT A) x)) ∧ ∀ x : Int, xx.1 ≤ x → x < xx.2.length → gi xx.2 x = gi (vT A) x) (fun (xx : Int × List Int) => ((vT A).length - xx.1).toNat) (0, (vT A)) ?_ ?_ ?_
      · exact ⟨rfl, rfl, rfl, rfl, rfl, rfl, rfl, rfl, rfl, rfl, rfl, rfl, rfl, rfl, trivial⟩
      · exact ⟨rfl, rfl, by omega, by omega, rfl, fun x a b => by omega, fun x a b => rfl⟩
      rintro ⟨i, T⟩ e1 V0l σ0l hI0
      obtain ⟨rfl, rfl, i1, i2, hTl, h1, h2⟩ : V2 = V0l ∧ [(Gr 3 1 tq T.length ((T.map (Value.int .i64)))), (Arr 25 b1 [(.int .i64 A.v), la, na, (.int .i64 A.r)]), (Arr 25 b2 [(.int .i64 ((cpD A low high).v)), lv1, nv1, (.int .i64 ((cpD A low high).r))])] = σ0l ∧ 0 ≤ i ∧ i ≤ (vT A).length ∧ T.length = (vT A).length ∧ (∀ x : Int, 0 ≤ x → x < i → gi T x = clF low high (gi (vT A) x)) ∧ ∀ x : Int, i ≤ x → x < T.length → gi T x = gi (vT A) x := hI0
      change VC _ _ _ _ _ _ (upds 73 [(0, (.agg #[(.int .i64 A.v), la, na, (.int .i64 A.r)])), (1, (Value.int .i64 low)), (2, (Value.int .i64 high)), (3, (Value.pointer (some ⟨b1, 0, none⟩))), (6, (Value.bool false)), (7, (Value.pointer (some ⟨b2, 0, none⟩))), (8, (.int .i64 (cpE A low high))), (9, tq), (12, (Value.bool false)), (15, (.bool (decide (¬ (fewP A ∧ (¬ chkC A = 0 ∨ A.v ≤ 8)))))), (25, (.bool (decide ((chkC A) ≠ 0)))), (42, (.bool (decide (¬ (inR (high)))))), (50, (.int .i64 ((((vT A)).length : Int)))), (51, (Value.int .i64 i))] e1) _ _
      refine vc_seq ?_
      refine vc_res (σ' := [(Gr 3 1 tq T.length ((T.map (Value.int .i64)))), (Arr 25 b1 [(.int .i64 A.v), la, na, (.int .i64 A.r)]), (Arr 25 b2 [(.int .i64 ((cpD A low high).v)), lv1, nv1, (.int .i64 ((cpD A low high).r))])]) rfl ?_
      refine vc_region ?_
      refine oq (qv_lss rfl rfl) ?_
      refine ops_nil ?_
      refine vc_seq ?_
      refine vc_if rfl (fun c4 => ?_) (fun c4 => ?_)
      ·
       refine vc_skip ?_
       refine vc_seq ?_
       refine vc_block ?_
       refine vc_seq ?_
       refine vc_region ?_
       refine oq (qv_mv (Value.int .i64 i) rfl) ?_
       refine oq (qv_as (Value.int .i64 i) rfl) ?_
       refine ops_nil ?_
       refine vc_region ?_
       refine oq (qv_mv tq rfl) ?_
       refine oq (qv_mv (Value.int .i64 i) rfl) ?_
       refine oq (qv_mv tq rfl) ?_
       refine oq (qv_mv (Value.int .i64 i) rfl) ?_
       refine oq (qv_iai (v := tq) (i := i) Try.underlying22 Try.size3 rfl (inGi (k := 0) rfl) rfl (by omega) (by omega)) ?_
       refine oq (qv_ldi (v := tq) (i := i) Try.plain3 rfl (inGi (k := 0) rfl) (by omega) (by omega)) ?_
       refine oq (qv_mv (Value.int .i64 low) rfl) ?_
       refine oq (qv_max rfl rfl) ?_
       refine oq (qv_mv (Value.int .i64 high) rfl) ?_
       refine oq (qv_min rfl rfl) ?_
       refine oq (qv_iai (v := tq) (i := i) Try.underlying22 Try.size3 rfl (inGi (k := 0) rfl) rfl (by omega) (by omega)) ?_
       refine ops_stg (k := 0) (v := tq) (i := i) (u := (.int .i64 (if high < (if (gi T (i)) < low then low else gi T (i)) then high else if (gi T (i)) < low then low else gi T (i)))) Try.size3 rfl rfl rfl rfl (by omega) (by simp only [List.length_map, List.length_set]; omega) ?_
       refine ops_nil ?_
       refine vc_res (σ' := [(Gr 3 1 tq T.length (((T.map (Value.int .i64)).set (i).toNat (.int .i64 (if high < (if (gi T (i)) < low then low else gi T (i)) then high else if (gi T (i)) < low then low else gi T (i)))))), (Arr 25 b1 [(.int .i64 A.v), la, na, (.int .i64 A.r)]), (Arr 25 b2 [(.int .i64 ((cpD A low high).v)), lv1, nv1, (.int .i64 ((cpD A low high).r))])]) rfl ?_
       refine vc_region ?_
       refine oq (qv_add rfl rfl (by omega)) ?_
       refine oq (qv_mv (.int .i64 (i + 1)) rfl) ?_
       refine ops_nil ?_
       refine ⟨(i + 1, T.set i.toNat (clF low high (gi T i))), ⟨rfl, rfl, rfl, rfl, rfl, rfl, rfl, rfl, rfl, rfl, rfl, rfl, rfl, (congrArg (Value.int .i64) (show (i + 1) = ((i + 1)) from by omega)), trivial⟩, ⟨rfl, (show [(Gr 3 1 tq (T.set i.toNat (clF low high (gi T i)) : List Int).length (((T.set i.toNat (clF low high (gi T i)) : List Int).map (Value.int .i64)))), (Arr 25 b1 [(.int .i64 A.v), la, na, (.int .i64 A.r)]), (Arr 25 b2 [(.int .i64 ((cpD A low high).v)), lv1, nv1, (.int .i64 ((cpD A low high).r))])] = [(Gr 3 1 tq T.length (((T.map (Value.int .i64)).set (i).toNat (.int .i64 (if high < (if (gi T (i)) < low then low else gi T (i)) then high else if (gi T (i)) < low then low else gi T (i)))))), (Arr 25 b1 [(.int .i64 A.v), la, na, (.int .i64 A.r)]), (Arr 25 b2 [(.int .i64 ((cpD A low high).v)), lv1, nv1, (.int .i64 ((cpD A low high).r))])] from by rw [mset, List.length_set]; rfl), by omega, by omega, by rw [List.length_set]; exact hTl, cl_step (by omega) (by omega) (by rw [h2 i (by omega) (by omega)]) h1, cl_rest (by omega) (by omega) h2⟩, by omega⟩
      ·
       refine vc_exit ?_
       refine blockQ_hit ?_
       refine vc_seq ?_
       refine vc_freezeG (v := tq) (E := 3) (n := T.length) (xs := (T.map (Value.int .i64))) (σr := [(Arr 25 b1 [(Value.int .i64 (A.v)), la, na, (Value.int .i64 (A.r))]), (Arr 25 b2 [(Value.int .i64 ((cpD A low high).v)), lv1, nv1, (Value.int .i64 ((cpD A low high).r))])]) (List.perm_middle (l₁ := []) (l₂ := [(Arr 25 b1 [(Value.int .i64 (A.v)), la, na, (Value.int .i64 (A.r))]), (Arr 25 b2 [(Value.int .i64 ((cpD A low high).v)), lv1, nv1, (Value.int .i64 ((cpD A low high).r))])])) (fun Vf1 hVf1 hc1 => ?_)
       have hA := hA.mono hVf1
       have hMt := hMt.mono hVf1
       refine vc_region_order (τ := []) [(0, false), (1, false), (2, false), (3, false), (4, false), (5, true), (6, false), (7, false)] [(Arr 25 b1 [(.int .i64 A.v), la, na, (.int .i64 A.r)]), (Arr 25 b2 [(.int .i64 ((cpD A low high).v)), lv1, nv1, (.int .i64 ((cpD A low high).r))])] Try.mixed (perm_nil _) (by kernel_rfl) ?_
       refine rq rfl (qv_ldm (vs := [(.int .i64 ((cpD A low high).v)), lv1, nv1, (.int .i64 ((cpD A low high).r))]) Try.agg25 rfl (inOc (k := 1) rfl) rfl rfl) ?_
       refine rq rfl (qv_mv (.int .i64 (cpE A low high)) rfl) ?_
       refine rq rfl (qv_fa (off := 0) Try.field25_0 rfl) ?_
       have hTm : T = cpT A low high := (map_of (f := clF low high) hTl (fun x a b => h1 x a (by omega))).trans vT_map
       have hcp := cp_0 hok hcq
       have hms := mk_small (vars := A.v) (t := cpT A low high) (by omega) (tabv_len _) (cp_in hok hcq)
       refine rq rfl (qv_ldp (v := (.int .i64 A.v)) Try.plain3 rfl (inOc (k := 0) rfl) rfl) ?_
       refine rq rfl (qv_mv tq rfl) ?_
       refine rl rfl ?_
       refine ops_call (σa := []) (σr := [(Arr 25 b1 [(.int .i64 A.v), la, na, (.int .i64 A.r)]), (Arr 25 b2 [(.int .i64 ((cpD A low high).v)), lv1, nv1, (.int .i64 ((cpD A low high).r))])]) (diagram_c hc1 (by omega) (by omega) (by rw [hTl]; exact vT_len)) rfl rfl (.refl _) (fun r3 V3 sg3 hV3 hp3 => ?_)
       obtain ⟨rfl, lv2, nv2, rfl, hDg2⟩ := hp3
       have hA := hA.mono hV3
       have hMt := hMt.mono hV3
       have hc1 := hc1.mono hV3
       refine ops_nil ⟨[(Arr 25 b1 [(.int .i64 A.v), la, na, (.int .i64 A.r)]), (Arr 25 b2 [(.int .i64 ((cpD A low high).v)), lv1, nv1, (.int .i64 ((cpD A low high).r))])], [], hV3, perm_nil _, ⟨[], (.refl _)⟩, ?_⟩
       refine rq rfl (qv_call (v := (.bool (decide ((cpE A low high) = 0 ∧ (cpD A low high) = (dg A.v T))))) (is_c (A := (cpD A low high)) (B := (dg A.v T)) (ee := (cpE A low high)) (cc := 0) hMt hDg2) rfl rfl) ?_
       refine rq rfl (qv_as (.bool (decide ((cpE A low high) = 0 ∧ (cpD A low high) = (dg A.v T)))) rfl) ?_
       refine rnil ?_
       refine vc_ret ?_
       exact rq1 (Value.bool true) (congrArg Value.bool (decide_eq_true (show ((cpE A low high) = 0 ∧ (cpD A low high) = (dg A.v T)) from by first | exact hcn | exact ⟨by rw [hcp.1, hms.1], by rw [hcp.2, hms.2, hTm]⟩))) rfl

end Go.Proofs.Ytkmhjcjpohpiaaa
