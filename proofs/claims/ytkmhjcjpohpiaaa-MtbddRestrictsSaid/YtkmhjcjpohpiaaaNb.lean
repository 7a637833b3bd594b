import Derived.Test.YtkmhjcjpohpiaaaMw
/- Walks of mtbdd: what each function returns. Printed by a program out of notes. -/
namespace Go.Proofs.Ytkmhjcjpohpiaaa
open Go.Vc
open Classical

set_option maxRecDepth 100000 in
set_option maxHeartbeats 4000000 in
theorem Restricts_c {V : HV} {la na : Value} {A : Mg} (hA : Mt V la na A) {i : Int} {b : Bool} :
    FnC Try.prog 7 [(.agg #[(.int .i64 A.v), la, na, (.int .i64 A.r)]), (Value.int .i64 i), (.bool (decide (b = true)))] V [] (fun v _ _ => v = (Value.bool true)) := by
 refine fn_intro (N := 128) Try.func7 (by kernel_rfl) rfl rfl rfl (Nat.le_of_ble_eq_true rfl) ?_
 intro w0 D
 have hbl := Ints.bound hA.l
 have hbn := SlS.bound hA.n
 refine vc_seq ?_
 refine vc_region ?_
 refine ops_box (v := (.agg #[(.int .i64 A.v), la, na, (.int .i64 A.r)])) (cs := [(.int .i64 A.v), la, na, (.int .i64 A.r)]) rfl rfl (fun b1 => ?_)
 refine oq (qv_as (Value.bool false) rfl) ?_
 refine ops_nil ?_
 refine vc_seq ?_
 refine vc_seq ?_
 refine vc_res (σ' := [(Arr 25 b1 [(.int .i64 A.v), la, na, (.int .i64 A.r)])]) rfl ?_
 refine vc_region ?_
 refine oq (qv_call (v := (Value.bool true)) (known_c) rfl rfl) ?_
 refine oq (qv_notc rfl) ?_
 refine ops_nil ?_
 refine vc_ff rfl ?_
 refine vc_skip ?_
 refine vc_seq ?_
 refine vc_seq ?_
 refine vc_region ?_
 refine oq (qv_ldm (vs := [(.int .i64 A.v), la, na, (.int .i64 A.r)]) Try.agg25 rfl (inOc (k := 0) rfl) rfl rfl) ?_
 refine oq (qv_call (v := (.bool (decide (fewP A ∧ (¬ chkC A = 0 ∨ A.v ≤ 8))))) (small_c hA) rfl rfl) ?_
 refine oq (qv_not rfl) ?_
 refine ops_nil ?_
 refine vc_if rfl (fun c1 => ?_) (fun c1 => ?_)
 ·
  refine vc_seq ?_
  refine vc_region ?_
  refine oq (qv_as (Value.bool true) rfl) ?_
  refine ops_nil ?_
  refine vc_ret ?_
  exact rq1 (Value.bool true) rfl rfl
 ·
  refine vc_skip ?_
  refine vc_seq ?_
  have h8A := Classical.not_not.1 c1
  refine vc_region ?_
  refine oq (qv_ldm (vs := [(.int .i64 A.v), la, na, (.int .i64 A.r)]) Try.agg25 rfl (inOc (k := 0) rfl) rfl rfl) ?_
  refine oq (qv_mv (Value.int .i64 i) rfl) ?_
  refine oq (qv_mv (.bool (decide (b = true))) rfl) ?_
  refine ops_call (σa := []) (σr := [(Arr 25 b1 [(.int .i64 A.v), la, na, (.int .i64 A.r)])]) (Restrict_c (i := i) (b := b) hA) rfl rfl (.refl _) (fun r1 V1 sg1 hV1 hp1 => ?_)
  obtain ⟨rfl, lv1, nv1, rfl, hMt⟩ := hp1
  have hA := hA.mono hV1
  refine oq (qv_mv (.tuple #[(.agg #[(.int .i64 ((rsD A i b).v)), lv1, nv1, (.int .i64 ((rsD A i b).r))]), (.int .i64 (rsE A i))]) rfl) ?_
  refine oq (qv_ext (.agg #[(.int .i64 ((rsD A i b).v)), lv1, nv1, (.int .i64 ((rsD A i b).r))]) rfl rfl) ?_
  refine oq (qv_ext (.int .i64 (rsE A i)) rfl rfl) ?_
  refine ops_alloc Try.ti25 rfl (fun b2 => ?_)
  refine ops_stw (k := 1) (vs := [(.int .i64 ((rsD A i b).v)), lv1, nv1, (.int .i64 ((rsD A i b).r))]) Try.size25 rfl rfl rfl (allc rfl (allc (Sl.one hMt.l) (allc (SlS.one hMt.n) (allc rfl rfl)))) rfl rfl ?_
  refine oq (qv_as (.int .i64 (rsE A i)) rfl) ?_
  refine ops_nil ?_
  refine vc_seq ?_
  refine vc_res (σ' := [(Arr 25 b1 [(.int .i64 A.v), la, na, (.int .i64 A.r)]), (Arr 25 b2 [(.int .i64 ((rsD A i b).v)), lv1, nv1, (.int .i64 ((rsD A i b).r))])]) rfl ?_
  refine vc_region ?_
  refine oq (qv_ldm (vs := [(.int .i64 A.v), la, na, (.int .i64 A.r)]) Try.agg25 rfl (inOc (k := 0) rfl) rfl rfl) ?_
  refine oq (qv_mv (Value.int .i64 i) rfl) ?_
  refine ops_call (σa := []) (σr := [(Arr 25 b1 [(.int .i64 A.v), la, na, (.int .i64 A.r)]), (Arr 25 b2 [(.int .i64 ((rsD A i b).v)), lv1, nv1, (.int .i64 ((rsD A i b).r))])]) (SumOut_c (i := i) hA) rfl rfl (.refl _) (fun r2 V2 sg2 hV2 hp2 => ?_)
  obtain ⟨rfl, lv1b, nv1b, rfl, hMtb⟩ := hp2
  have hA := hA.mono hV2
  have hMt := hMt.mono hV2
  refine oq (qv_mv (.tuple #[(.agg #[(.int .i64 ((boD A i sumF).v)), lv1b, nv1b, (.int .i64 ((boD A i sumF).r))]), (.int .i64 (boE A i sumF))]) rfl) ?_
  refine oq (qv_ext (.agg #[(.int .i64 ((boD A i sumF).v)), lv1b, nv1b, (.int .i64 ((boD A i sumF).r))]) rfl rfl) ?_
  refine oq (qv_ext (.int .i64 (boE A i sumF)) rfl rfl) ?_
  refine ops_alloc Try.ti25 rfl (fun b3 => ?_)
  refine ops_stw (k := 2) (vs := [(.int .i64 ((boD A i sumF).v)), lv1b, nv1b, (.int .i64 ((boD A i sumF).r))]) Try.size25 rfl rfl rfl (allc rfl (allc (Sl.one hMtb.l) (allc (SlS.one hMtb.n) (allc rfl rfl)))) rfl rfl ?_
  refine oq (qv_as (.int .i64 (boE A i sumF)) rfl) ?_
  refine ops_nil ?_
  refine vc_seq ?_
  refine vc_res (σ' := [(Arr 25 b1 [(.int .i64 A.v), la, na, (.int .i64 A.r)]), (Arr 25 b2 [(.int .i64 ((rsD A i b).v)), lv1, nv1, (.int .i64 ((rsD A i b).r))]), (Arr 25 b3 [(.int .i64 ((boD A i sumF).v)), lv1b, nv1b, (.int .i64 ((boD A i sumF).r))])]) rfl ?_
  refine vc_region ?_
  refine oq (qv_ldm (vs := [(.int .i64 A.v), la, na, (.int .i64 A.r)]) Try.agg25 rfl (inOc (k := 0) rfl) rfl rfl) ?_
  refine oq (qv_mv (Value.int .i64 i) rfl) ?_
  refine ops_call (σa := []) (σr := [(Arr 25 b1 [(.int .i64 A.v), la, na, (.int .i64 A.r)]), (Arr 25 b2 [(.int .i64 ((rsD A i b).v)), lv1, nv1, (.int .i64 ((rsD A i b).r))]), (Arr 25 b3 [(.int .i64 ((boD A i sumF).v)), lv1b, nv1b, (.int .i64 ((boD A i sumF).r))])]) (MaxOut_c (i := i) hA) rfl rfl (.refl _) (fun r3 V3 sg3 hV3 hp3 => ?_)
  obtain ⟨rfl, lv1c, nv1c, rfl, hMtc⟩ := hp3
  have hA := hA.mono hV3
  have hMt := hMt.mono hV3
  have hMtb := hMtb.mono hV3
  refine oq (qv_mv (.tuple #[(.agg #[(.int .i64 ((boD A i maxF).v)), lv1c, nv1c, (.int .i64 ((boD A i maxF).r))]), (.int .i64 (boE A i maxF))]) rfl) ?_
  refine oq (qv_ext (.agg #[(.int .i64 ((boD A i maxF).v)), lv1c, nv1c, (.int .i64 ((boD A i maxF).r))]) rfl rfl) ?_
  refine oq (qv_ext (.int .i64 (boE A i maxF)) rfl rfl) ?_
  refine ops_alloc Try.ti25 rfl (fun b4 => ?_)
  refine ops_stw (k := 3) (vs := [(.int .i64 ((boD A i maxF).v)), lv1c, nv1c, (.int .i64 ((boD A i maxF).r))]) Try.size25 rfl rfl rfl (allc rfl (allc (Sl.one hMtc.l) (allc (SlS.one hMtc.n) (allc rfl rfl)))) rfl rfl ?_
  refine oq (qv_as (.int .i64 (boE A i maxF)) rfl) ?_
  refine ops_nil ?_
  refine vc_seq ?_
  refine vc_res (σ' := [(Arr 25 b1 [(.int .i64 A.v), la, na, (.int .i64 A.r)]), (Arr 25 b2 [(.int .i64 ((rsD A i b).v)), lv1, nv1, (.int .i64 ((rsD A i b).r))]), (Arr 25 b3 [(.int .i64 ((boD A i sumF).v)), lv1b, nv1b, (.int .i64 ((boD A i sumF).r))]), (Arr 25 b4 [(.int .i64 ((boD A i maxF).v)), lv1c, nv1c, (.int .i64 ((boD A i maxF).r))])]) rfl ?_
  refine vc_region ?_
  refine oq (qv_as (Value.int .i64 0) rfl) ?_
  refine ops_nil ?_
  refine vc_seq ?_
  refine vc_seq ?_
  refine vc_region ?_
  refine oq (qv_ldm (vs := [(.int .i64 A.v), la, na, (.int .i64 A.r)]) Try.agg25 rfl (inOc (k := 0) rfl) rfl rfl) ?_
  refine oq (qv_call (v := (.int .i64 (chkC A))) (check_c hA) rfl rfl) ?_
  refine oq (qv_neq rfl rfl) ?_
  refine ops_nil ?_
  refine vc_if rfl (fun c2 => ?_) (fun c2 => ?_)
  ·
   have hn : ¬ Ok A := fun q => absurd (chk_0 q) (by assumption)
   have hre := rsE_1 (i := i) hn
   refine vc_region ?_
   refine oq (qv_as (Value.int .i64 1) rfl) ?_
   refine ops_nil ?_
   refine vc_seq ?_
   refine vc_seq ?_
   refine vc_region ?_
   refine oq (qv_mv (Value.int .i64 1) rfl) ?_
   refine oq (qv_neq rfl rfl) ?_
   refine ops_nil ?_
   refine vc_if rfl (fun c3 => ?_) (fun c3 => ?_)
   ·
    refine vc_seq ?_
    have hz : rsE A i ≠ 0 := by omega
    have hi1 : (rsE A i) = 1 ∧ (rsD A i b) = zM := ⟨hre, rsD_n hz⟩
    have hi2 : (boE A i sumF) = 1 ∧ (boD A i sumF) = zM := ⟨(boE_n hz).trans hre, boD_n hz⟩
    have hi3 : (boE A i maxF) = 1 ∧ (boD A i maxF) = zM := ⟨(boE_n hz).trans hre, boD_n hz⟩
    refine vc_region ?_
    refine oq (qv_ldm (vs := [(.int .i64 ((rsD A i b).v)), lv1, nv1, (.int .i64 ((rsD A i b).r))]) Try.agg25 rfl (inOc (k := 1) rfl) rfl rfl) ?_
    refine oq (qv_mv (.int .i64 (rsE A i)) rfl) ?_
    refine oq (qv_build (out := [(Value.int .i64 0), (Value.slice none 0 0), (Value.slice none 0 0), (Value.int .i64 0)]) Try.build25 [] rfl rfl) ?_
    refine oq (qv_mv (Value.int .i64 1) rfl) ?_
    refine oq (qv_call (v := (.bool (decide ((rsE A i) = 1 ∧ (rsD A i b) = zM)))) (is_c (A := (rsD A i b)) (B := zM) (ee := (rsE A i)) (cc := 1) hMt Mt.nil) rfl rfl) ?_
    refine oq (qv_mv (.bool (decide ((rsE A i) = 1 ∧ (rsD A i b) = zM))) rfl) ?_
    by_cases g1 : (rsE A i) = 1 ∧ (rsD A i b) = zM
    ·
     refine og (qv_ldm (vs := [(.int .i64 ((boD A i sumF).v)), lv1b, nv1b, (.int .i64 ((boD A i sumF).r))]) Try.agg25 rfl (inOc (k := 2) rfl) rfl rfl) (want_t g1 rfl rfl rfl) ?_
     refine og (qv_mv (.int .i64 (boE A i sumF)) rfl) (want_t g1 rfl rfl rfl) ?_
     refine og (qv_build (out := [(Value.int .i64 0), (Value.slice none 0 0), (Value.slice none 0 0), (Value.int .i64 0)]) Try.build25 [] rfl rfl) (want_t g1 rfl rfl rfl) ?_
     refine og (qv_mv (Value.int .i64 1) rfl) (want_t g1 rfl rfl rfl) ?_
     refine og (qv_call (v := (.bool (decide ((boE A i sumF) = 1 ∧ (boD A i sumF) = zM)))) (is_c (A := (boD A i sumF)) (B := zM) (ee := (boE A i sumF)) (cc := 1) hMtb Mt.nil) rfl rfl) (want_t g1 rfl rfl rfl) ?_
     refine oq (qv_pick_t g1 rfl (rfl : ev _ _ = (.bool (decide ((boE A i sumF) = 1 ∧ (boD A i sumF) = zM))))) ?_
     refine oq (qv_mv (.bool (decide ((boE A i sumF) = 1 ∧ (boD A i sumF) = zM))) rfl) ?_
     by_cases g2 : (boE A i sumF) = 1 ∧ (boD A i sumF) = zM
     ·
      refine og (qv_ldm (vs := [(.int .i64 ((boD A i maxF).v)), lv1c, nv1c, (.int .i64 ((boD A i maxF).r))]) Try.agg25 rfl (inOc (k := 3) rfl) rfl rfl) (want_t g2 rfl rfl rfl) ?_
      refine og (qv_mv (.int .i64 (boE A i maxF)) rfl) (want_t g2 rfl rfl rfl) ?_
      refine og (qv_build (out := [(Value.int .i64 0), (Value.slice none 0 0), (Value.slice none 0 0), (Value.int .i64 0)]) Try.build25 [] rfl rfl) (want_t g2 rfl rfl rfl) ?_
      refine og (qv_mv (Value.int .i64 1) rfl) (want_t g2 rfl rfl rfl) ?_
      refine og (qv_call (v := (.bool (decide ((boE A i maxF) = 1 ∧ (boD A i maxF) = zM)))) (is_c (A := (boD A i maxF)) (B := zM) (ee := (boE A i maxF)) (cc := 1) hMtc Mt.nil) rfl rfl) (want_t g2 rfl rfl rfl) ?_
      refine oq (qv_pick_t g2 rfl (rfl : ev _ _ = (.bool (decide ((boE A i maxF) = 1 ∧ (boD A i maxF) = zM))))) ?_
      refine oq (qv_as (.bool (decide ((boE A i maxF) = 1 ∧ (boD A i maxF) = zM))) rfl) ?_
      refine ops_nil ?_
      refine vc_ret ?_
      exact rq1 (Value.bool true) (congrArg Value.bool (decide_eq_true (show ((boE A i maxF) = 1 ∧ (boD A i maxF) = zM) from by exact hi3))) rfl
     ·
      exact absurd hi2 g2
    ·
     exact absurd hi1 g1
   ·
    exact absurd (by omega : (1 : Int) ≠ 0) c3
  ·
   refine vc_seq ?_
   have hok : Ok A := chk_ok.1 (by omega)
   have hv0 := hok.1.1
   refine vc_region ?_
   refine oq (qv_mv (Value.int .i64 i) rfl) ?_
   refine oq (qv_lss rfl rfl) ?_
   refine oq (qv_mv (.bool (decide (i < 0))) rfl) ?_
   by_cases g3 : i < 0
   ·
    refine os (want_fn g3 rfl rfl rfl) ?_
    refine os (want_fn g3 rfl rfl rfl) ?_
    refine os (want_fn g3 rfl rfl rfl) ?_
    refine os (want_fn g3 rfl rfl rfl) ?_
    refine oq (qv_pick_t g3 rfl (rfl : ev _ _ = (Value.bool true))) ?_
    refine ops_nil ?_
    refine vc_tt rfl ?_
    have hre := rsE_3 (A := A) (i := i) hok (by omega)
    refine vc_region ?_
    refine oq (qv_as (Value.int .i64 3) rfl) ?_
    refine ops_nil ?_
    refine vc_seq ?_
    refine vc_seq ?_
    refine vc_region ?_
    refine oq (qv_mv (Value.int .i64 3) rfl) ?_
    refine oq (qv_neq rfl rfl) ?_
    refine ops_nil ?_
    refine vc_if rfl (fun c4 => ?_) (fun c4 => ?_)
    ·
     refine vc_seq ?_
     have hz : rsE A i ≠ 0 := by omega
     have hi1 : (rsE A i) = 3 ∧ (rsD A i b) = zM := ⟨hre, rsD_n hz⟩
     have hi2 : (boE A i sumF) = 3 ∧ (boD A i sumF) = zM := ⟨(boE_n hz).trans hre, boD_n hz⟩
     have hi3 : (boE A i maxF) = 3 ∧ (boD A i maxF) = zM := ⟨(boE_n hz).trans hre, boD_n hz⟩
     refine vc_region ?_
     refine oq (qv_ldm (vs := [(.int .i64 ((rsD A i b).v)), lv1, nv1, (.int .i64 ((rsD A i b).r))]) Try.agg25 rfl (inOc (k := 1) rfl) rfl rfl) ?_
     refine oq (qv_mv (.int .i64 (rsE A i)) rfl) ?_
     refine oq (qv_build (out := [(Value.int .i64 0), (Value.slice none 0 0), (Value.slice none 0 0), (Value.int .i64 0)]) Try.build25 [] rfl rfl) ?_
     refine oq (qv_mv (Value.int .i64 3) rfl) ?_
     refine oq (qv_call (v := (.bool (decide ((rsE A i) = 3 ∧ (rsD A i b) = zM)))) (is_c (A := (rsD A i b)) (B := zM) (ee := (rsE A i)) (cc := 3) hMt Mt.nil) rfl rfl) ?_
     refine oq (qv_mv (.bool (decide ((rsE A i) = 3 ∧ (rsD A i b) = zM))) rfl) ?_
     by_cases g4 : (rsE A i) = 3 ∧ (rsD A i b) = zM
     ·
      refine og (qv_ldm (vs := [(.int .i64 ((boD A i sumF).v)), lv1b, nv1b, (.int .i64 ((boD A i sumF).r))]) Try.agg25 rfl (inOc (k := 2) rfl) rfl rfl) (want_t g4 rfl rfl rfl) ?_
      refine og (qv_mv (.int .i64 (boE A i sumF)) rfl) (want_t g4 rfl rfl rfl) ?_
      refine og (qv_build (out := [(Value.int .i64 0), (Value.slice none 0 0), (Value.slice none 0 0), (Value.int .i64 0)]) Try.build25 [] rfl rfl) (want_t g4 rfl rfl rfl) ?_
      refine og (qv_mv (Value.int .i64 3) rfl) (want_t g4 rfl rfl rfl) ?_
      refine og (qv_call (v := (.bool (decide ((boE A i sumF) = 3 ∧ (boD A i sumF) = zM)))) (is_c (A := (boD A i sumF)) (B := zM) (ee := (boE A i sumF)) (cc := 3) hMtb Mt.nil) rfl rfl) (want_t g4 rfl rfl rfl) ?_
      refine oq (qv_pick_t g4 rfl (rfl : ev _ _ = (.bool (decide ((boE A i sumF) = 3 ∧ (boD A i sumF) = zM))))) ?_
      refine oq (qv_mv (.bool (decide ((boE A i sumF) = 3 ∧ (boD A i sumF) = zM))) rfl) ?_
      by_cases g5 : (boE A i sumF) = 3 ∧ (boD A i sumF) = zM
      ·
       refine og (qv_ldm (vs := [(.int .i64 ((boD A i maxF).v)), lv1c, nv1c, (.int .i64 ((boD A i maxF).r))]) Try.agg25 rfl (inOc (k := 3) rfl) rfl rfl) (want_t g5 rfl rfl rfl) ?_
       refine og (qv_mv (.int .i64 (boE A i maxF)) rfl) (want_t g5 rfl rfl rfl) ?_
       refine og (qv_build (out := [(Value.int .i64 0), (Value.slice none 0 0), (Value.slice none 0 0), (Value.int .i64 0)]) Try.build25 [] rfl rfl) (want_t g5 rfl rfl rfl) ?_
       refine og (qv_mv (Value.int .i64 3) rfl) (want_t g5 rfl rfl rfl) ?_
       refine og (qv_call (v := (.bool (decide ((boE A i maxF) = 3 ∧ (boD A i maxF) = zM)))) (is_c (A := (boD A i maxF)) (B := zM) (ee := (boE A i maxF)) (cc := 3) hMtc Mt.nil) rfl rfl) (want_t g5 rfl rfl rfl) ?_
       refine oq (qv_pick_t g5 rfl (rfl : ev _ _ = (.bool (decide ((boE A i maxF) = 3 ∧ (boD A i maxF) = zM))))) ?_
       refine oq (qv_as (.bool (decide ((boE A i maxF) = 3 ∧ (boD A i maxF) = zM))) rfl) ?_
       refine ops_nil ?_
       refine vc_ret ?_
       exact rq1 (Value.bool true) (congrArg Value.bool (decide_eq_true (show ((boE A i maxF) = 3 ∧ (boD A i maxF) = zM) from by exact hi3))) rfl
      ·
       exact absurd hi2 g5
     ·
      exact absurd hi1 g4
    ·
     exact absurd (by omega : (3 : Int) ≠ 0) c4
   ·
    refine og (qv_mv (Value.int .i64 i) rfl) (want_f g3 rfl rfl rfl) ?_
    refine og (qv_fa (off := 0) Try.field25_0 rfl) (want_f g3 rfl rfl rfl) ?_
    refine og (qv_ldp (v := (.int .i64 A.v)) Try.plain3 rfl (inOc (k := 0) rfl) rfl) (want_f g3 rfl rfl rfl) ?_
    refine og (qv_geq rfl rfl) (want_f g3 rfl rfl rfl) ?_
    refine oq (qv_pick_f g3 rfl (rfl : ev _ _ = (.bool (decide (A.v ≤ i))))) ?_
    refine ops_nil ?_
    refine vc_if rfl (fun c5 => ?_) (fun c5 => ?_)
    ·
     have hre := rsE_3 (A := A) (i := i) hok (by omega)
     refine vc_region ?_
     refine oq (qv_as (Value.int .i64 3) rfl) ?_
     refine ops_nil ?_
     refine vc_seq ?_
     refine vc_seq ?_
     refine vc_region ?_
     refine oq (qv_mv (Value.int .i64 3) rfl) ?_
     refine oq (qv_neq rfl rfl) ?_
     refine ops_nil ?_
     refine vc_if rfl (fun c6 => ?_) (fun c6 => ?_)
     ·
      refine vc_seq ?_
      have hz : rsE A i ≠ 0 := by omega
      have hi1 : (rsE A i) = 3 ∧ (rsD A i b) = zM := ⟨hre, rsD_n hz⟩
      have hi2 : (boE A i sumF) = 3 ∧ (boD A i sumF) = zM := ⟨(boE_n hz).trans hre, boD_n hz⟩
      have hi3 : (boE A i maxF) = 3 ∧ (boD A i maxF) = zM := ⟨(boE_n hz).trans hre, boD_n hz⟩
      refine vc_region ?_
      refine oq (qv_ldm (vs := [(.int .i64 ((rsD A i b).v)), lv1, nv1, (.int .i64 ((rsD A i b).r))]) Try.agg25 rfl (inOc (k := 1) rfl) rfl rfl) ?_
      refine oq (qv_mv (.int .i64 (rsE A i)) rfl) ?_
      refine oq (qv_build (out := [(Value.int .i64 0), (Value.slice none 0 0), (Value.slice none 0 0), (Value.int .i64 0)]) Try.build25 [] rfl rfl) ?_
      refine oq (qv_mv (Value.int .i64 3) rfl) ?_
      refine oq (qv_call (v := (.bool (decide ((rsE A i) = 3 ∧ (rsD A i b) = zM)))) (is_c (A := (rsD A i b)) (B := zM) (ee := (rsE A i)) (cc := 3) hMt Mt.nil) rfl rfl) ?_
      refine oq (qv_mv (.bool (decide ((rsE A i) = 3 ∧ (rsD A i b) = zM))) rfl) ?_
      by_cases g6 : (rsE A i) = 3 ∧ (rsD A i b) = zM
      ·
       refine og (qv_ldm (vs := [(.int .i64 ((boD A i sumF).v)), lv1b, nv1b, (.int .i64 ((boD A i sumF).r))]) Try.agg25 rfl (inOc (k := 2) rfl) rfl rfl) (want_t g6 rfl rfl rfl) ?_
       refine og (qv_mv (.int .i64 (boE A i sumF)) rfl) (want_t g6 rfl rfl rfl) ?_
       refine og (qv_build (out := [(Value.int .i64 0), (Value.slice none 0 0), (Value.slice none 0 0), (Value.int .i64 0)]) Try.build25 [] rfl rfl) (want_t g6 rfl rfl rfl) ?_
       refine og (qv_mv (Value.int .i64 3) rfl) (want_t g6 rfl rfl rfl) ?_
       refine og (qv_call (v := (.bool (decide ((boE A i sumF) = 3 ∧ (boD A i sumF) = zM)))) (is_c (A := (boD A i sumF)) (B := zM) (ee := (boE A i sumF)) (cc := 3) hMtb Mt.nil) rfl rfl) (want_t g6 rfl rfl rfl) ?_
       refine oq (qv_pick_t g6 rfl (rfl : ev _ _ = (.bool (decide ((boE A i sumF) = 3 ∧ (boD A i sumF) = zM))))) ?_
       refine oq (qv_mv (.bool (decide ((boE A i sumF) = 3 ∧ (boD A i sumF) = zM))) rfl) ?_
       by_cases g7 : (boE A i sumF) = 3 ∧ (boD A i sumF) = zM
       ·
        refine og (qv_ldm (vs := [(.int .i64 ((boD A i maxF).v)), lv1c, nv1c, (.int .i64 ((boD A i maxF).r))]) Try.agg25 rfl (inOc (k := 3) rfl) rfl rfl) (want_t g7 rfl rfl rfl) ?_
        refine og (qv_mv (.int .i64 (boE A i maxF)) rfl) (want_t g7 rfl rfl rfl) ?_
        refine og (qv_build (out := [(Value.int .i64 0), (Value.slice none 0 0), (Value.slice none 0 0), (Value.int .i64 0)]) Try.build25 [] rfl rfl) (want_t g7 rfl rfl rfl) ?_
        refine og (qv_mv (Value.int .i64 3) rfl) (want_t g7 rfl rfl rfl) ?_
        refine og (qv_call (v := (.bool (decide ((boE A i maxF) = 3 ∧ (boD A i maxF) = zM)))) (is_c (A := (boD A i maxF)) (B := zM) (ee := (boE A i maxF)) (cc := 3) hMtc Mt.nil) rfl rfl) (want_t g7 rfl rfl rfl) ?_
        refine oq (qv_pick_t g7 rfl (rfl : ev _ _ = (.bool (decide ((boE A i maxF) = 3 ∧ (boD A i maxF) = zM))))) ?_
        refine oq (qv_as (.bool (decide ((boE A i maxF) = 3 ∧ (boD A i maxF) = zM))) rfl) ?_
        refine ops_nil ?_
        refine vc_ret ?_
        exact rq1 (Value.bool true) (congrArg Value.bool (decide_eq_true (show ((boE A i maxF) = 3 ∧ (boD A i maxF) = zM) from by exact hi3))) rfl
       ·
        exact absurd hi2 g7
      ·
       exact absurd hi1 g6
     ·
      exact absurd (by omega : (3 : Int) ≠ 0) c6
    ·
     refine vc_skip ?_
     refine vc_seq ?_
     refine vc_seq ?_
     refine vc_region ?_
     refine oq (qv_mv (Value.int .i64 0) rfl) ?_
     refine oq (qv_neq rfl rfl) ?_
     refine ops_nil ?_
     refine vc_if rfl (fun c7 => ?_) (fun c7 => ?_)
     ·
      exact absurd rfl c7
     ·
      refine vc_skip ?_
      refine vc_seq ?_
      have hv8 : A.v ≤ 8 := h8A.2.elim (fun h => absurd (chk_0 hok) h) id
      have hz := rsE_0 (A := A) (i := i) hok (by omega)
      have hi1 : (rsE A i) = 0 ∧ (rsD A i b) = (dg A.v (rsT A i b)) := ⟨hz, rsD_0 hz⟩
      have hi2 : (boE A i sumF) = (mkE A.v (tabv A.v fun e => opV 0 (vl A (up e i false)) (vl A (up e i true)))) ∧ (boD A i sumF) = (mkD A.v (tabv A.v fun e => opV 0 (vl A (up e i false)) (vl A (up e i true)))) := ⟨(boE_0 hz).trans rfl, (boD_0 hz).trans rfl⟩
      have hi3 := max_zero (A := A) (i := i) hok (by omega) hz
      refine vc_region_order (τ := []) [(0, false), (1, false), (2, false), (4, false), (6, false), (7, false), (8, false), (10, false), (3, true), (5, true), (9, true), (11, true), (12, false), (13, false)] [(Arr 25 b1 [(.int .i64 A.v), la, na, (.int .i64 A.r)]), (Arr 25 b2 [(.int .i64 ((rsD A i b).v)), lv1, nv1, (.int .i64 ((rsD A i b).r))]), (Arr 25 b3 [(.int .i64 ((boD A i sumF).v)), lv1b, nv1b, (.int .i64 ((boD A i sumF).r))]), (Arr 25 b4 [(.int .i64 ((boD A i maxF).v)), lv1c, nv1c, (.int .i64 ((boD A i maxF).r))])] Try.mixed (perm_nil _) (by kernel_rfl) ?_
      refine rq rfl (qv_fa (off := 0) Try.field25_0 rfl) ?_
      refine rq rfl (qv_ldp (v := (.int .i64 A.v)) Try.plain3 rfl (inOc (k := 0) rfl) rfl) ?_
      refine rq rfl (qv_ldm (vs := [(.int .i64 A.v), la, na, (.int .i64 A.r)]) Try.agg25 rfl (inOc (k := 0) rfl) rfl rfl) ?_
      refine rq rfl (qv_mv (Value.int .i64 i) rfl) ?_
      refine rq rfl (qv_fa (off := 0) Try.field25_0 rfl) ?_
      refine rq rfl (qv_ldp (v := (.int .i64 A.v)) Try.plain3 rfl (inOc (k := 0) rfl) rfl) ?_
      refine rq rfl (qv_ldm (vs := [(.int .i64 A.v), la, na, (.int .i64 A.r)]) Try.agg25 rfl (inOc (k := 0) rfl) rfl rfl) ?_
      refine rq rfl (qv_mv (Value.int .i64 i) rfl) ?_
      refine rl rfl ?_
      refine ops_call (σa := []) (σr := [(Arr 25 b1 [(.int .i64 A.v), la, na, (.int .i64 A.r)]), (Arr 25 b2 [(.int .i64 ((rsD A i b).v)), lv1, nv1, (.int .i64 ((rsD A i b).r))]), (Arr 25 b3 [(.int .i64 ((boD A i sumF).v)), lv1b, nv1b, (.int .i64 ((boD A i sumF).r))]), (Arr 25 b4 [(.int .i64 ((boD A i maxF).v)), lv1c, nv1c, (.int .i64 ((boD A i maxF).r))])]) (table_c (A := A) hA hok (by omega)) rfl rfl (.refl _) (fun r4 V4 sg4 hV4 hp4 => ?_)
      obtain ⟨rfl, hR0⟩ := hp4
      obtain ⟨tr0, htr0⟩ : ∃ x, x = r4 := ⟨_, rfl⟩
      subst htr0
      have hA := hA.mono hV4
      have hMt := hMt.mono hV4
      have hMtb := hMtb.mono hV4
      have hMtc := hMtc.mono hV4
      refine ops_nil ⟨[(Arr 25 b1 [(.int .i64 A.v), la, na, (.int .i64 A.r)]), (Arr 25 b2 [(.int .i64 ((rsD A i b).v)), lv1, nv1, (.int .i64 ((rsD A i b).r))]), (Arr 25 b3 [(.int .i64 ((boD A i sumF).v)), lv1b, nv1b, (.int .i64 ((boD A i sumF).r))]), (Arr 25 b4 [(.int .i64 ((boD A i maxF).v)), lv1c, nv1c, (.int .i64 ((boD A i maxF).r))])], [], hV4, perm_nil _, ⟨[], (.refl _)⟩, ?_⟩
      refine rl rfl ?_
      refine ops_call (σa := []) (σr := [(Arr 25 b1 [(.int .i64 A.v), la, na, (.int .i64 A.r)]), (Arr 25 b2 [(.int .i64 ((rsD A i b).v)), lv1, nv1, (.int .i64 ((rsD A i b).r))]), (Arr 25 b3 [(.int .i64 ((boD A i sumF).v)), lv1b, nv1b, (.int .i64 ((boD A i sumF).r))]), (Arr 25 b4 [(.int .i64 ((boD A i maxF).v)), lv1c, nv1c, (.int .i64 ((boD A i maxF).r))])]) (restrictedR_c (i := i) (b := false) hR0 hok (by omega) (by omega) (by omega)) rfl rfl (.refl _) (fun r5 V5 sg5 hV5 hp5 => ?_)
      obtain ⟨rfl, hQ0⟩ := hp5
      obtain ⟨tq0, htq0⟩ : ∃ x, x = r5 := ⟨_, rfl⟩
      subst htq0
      have hA := hA.mono hV5
      have hMt := hMt.mono hV5
      have hMtb := hMtb.mono hV5
      have hMtc := hMtc.mono hV5
      have hR0 := hR0.mono hV5
      refine ops_nil ⟨[(Arr 25 b1 [(.int .i64 A.v), la, na, (.int .i64 A.r)]), (Arr 25 b2 [(.int .i64 ((rsD A i b).v)), lv1, nv1, (.int .i64 ((rsD A i b).r))]), (Arr 25 b3 [(.int .i64 ((boD A i sumF).v)), lv1b, nv1b, (.int .i64 ((boD A i sumF).r))]), (Arr 25 b4 [(.int .i64 ((boD A i maxF).v)), lv1c, nv1c, (.int .i64 ((boD A i maxF).r))])], [], hV5, perm_nil _, ⟨[], (.refl _)⟩, ?_⟩
      refine rl rfl ?_
      refine ops_call (σa := []) (σr := [(Arr 25 b1 [(.int .i64 A.v), la, na, (.int .i64 A.r)]), (Arr 25 b2 [(.int .i64 ((rsD A i b).v)), lv1, nv1, (.int .i64 ((rsD A i b).r))]), (Arr 25 b3 [(.int .i64 ((boD A i sumF).v)), lv1b, nv1b, (.int .i64 ((boD A i sumF).r))]), (Arr 25 b4 [(.int .i64 ((boD A i maxF).v)), lv1c, nv1c, (.int .i64 ((boD A i maxF).r))])]) (table_c (A := A) hA hok (by omega)) rfl rfl (.refl _) (fun r6 V6 sg6 hV6 hp6 => ?_)
      obtain ⟨rfl, hR1⟩ := hp6
      obtain ⟨tr1, htr1⟩ : ∃ x, x = r6 := ⟨_, rfl⟩
      subst htr1
      have hA := hA.mono hV6
      have hMt := hMt.mono hV6
      have hMtb := hMtb.mono hV6
      have hMtc := hMtc.mono hV6
      have hR0 := hR0.mono hV6
      have hQ0 := hQ0.mono hV6
      refine ops_nil ⟨[(Arr 25 b1 [(.int .i64 A.v), la, na, (.int .i64 A.r)]), (Arr 25 b2 [(.int .i64 ((rsD A i b).v)), lv1, nv1, (.int .i64 ((rsD A i b).r))]), (Arr 25 b3 [(.int .i64 ((boD A i sumF).v)), lv1b, nv1b, (.int .i64 ((boD A i sumF).r))]), (Arr 25 b4 [(.int .i64 ((boD A i maxF).v)), lv1c, nv1c, (.int .i64 ((boD A i maxF).r))])], [], hV6, perm_nil _, ⟨[], (.refl _)⟩, ?_⟩
      refine rl rfl ?_
      refine ops_call (σa := []) (σr := [(Arr 25 b1 [(.int .i64 A.v), la, na, (.int .i64 A.r)]), (Arr 25 b2 [(.int .i64 ((rsD A i b).v)), lv1, nv1, (.int .i64 ((rsD A i b).r))]), (Arr 25 b3 [(.int .i64 ((boD A i sumF).v)), lv1b, nv1b, (.int .i64 ((boD A i sumF).r))]), (Arr 25 b4 [(.int .i64 ((boD A i maxF).v)), lv1c, nv1c, (.int .i64 ((boD A i maxF).r))])]) (restrictedR_c (i := i) (b := true) hR1 hok (by omega) (by omega) (by omega)) rfl rfl (.refl _) (fun r7 V7 sg7 hV7 hp7 => ?_)
      obtain ⟨rfl, hQ1⟩ := hp7
      obtain ⟨tq1, htq1⟩ : ∃ x, x = r7 := ⟨_, rfl⟩
      subst htq1
      have hA := hA.mono hV7
      have hMt := hMt.mono hV7
      have hMtb := hMtb.mono hV7
      have hMtc := hMtc.mono hV7
      have hR0 := hR0.mono hV7
      have hQ0 := hQ0.mono hV7
      have hR1 := hR1.mono hV7
      refine ops_nil ⟨[(Arr 25 b1 [(.int .i64 A.v), la, na, (.int .i64 A.r)]), (Arr 25 b2 [(.int .i64 ((rsD A i b).v)), lv1, nv1, (.int .i64 ((rsD A i b).r))]), (Arr 25 b3 [(.int .i64 ((boD A i sumF).v)), lv1b, nv1b, (.int .i64 ((boD A i sumF).r))]), (Arr 25 b4 [(.int .i64 ((boD A i maxF).v)), lv1c, nv1c, (.int .i64 ((boD A i maxF).r))])], [], hV7, perm_nil _, ⟨[], (.refl _)⟩, ?_⟩
      refine rq rfl (qv_as tq0 rfl) ?_
      refine rq rfl (qv_as tq1 rfl) ?_
      refine rnil ?_
      refine vc_seq ?_
      refine vc_region ?_
      refine oq (qv_mv tq0 rfl) ?_
      refine oq (qv_as tq0 rfl) ?_
      refine ops_nil ?_
      refine vc_seq ?_
      refine vc_seq ?_
      refine vc_region ?_
      refine oq (qv_mv (.bool (decide (b = true))) rfl) ?_
      refine ops_nil ?_
      refine vc_if rfl (fun c8 => ?_) (fun c8 => ?_)
      ·
       have hbt : rsT A i b = rsT A i true := by rw [show b = true by assumption]
       refine vc_region ?_
       refine oq (qv_mv tq1 rfl) ?_
       refine oq (qv_as tq1 rfl) ?_
       refine ops_nil ?_
       refine vc_seq ?_
       skip
       refine vc_region ?_
       skip
       refine oq (qv_fa (off := 0) Try.field25_0 rfl) ?_
       refine oq (qv_ldp (v := (.int .i64 A.v)) Try.plain3 rfl (inOc (k := 0) rfl) rfl) ?_
       refine oq (qv_mv tq0 rfl) ?_
       refine oq (qv_mv tq1 rfl) ?_
       refine ops_call (σa := []) (σr := [(Arr 25 b1 [(.int .i64 A.v), la, na, (.int .i64 A.r)]), (Arr 25 b2 [(.int .i64 ((rsD A i b).v)), lv1, nv1, (.int .i64 ((rsD A i b).r))]), (Arr 25 b3 [(.int .i64 ((boD A i sumF).v)), lv1b, nv1b, (.int .i64 ((boD A i sumF).r))]), (Arr 25 b4 [(.int .i64 ((boD A i maxF).v)), lv1c, nv1c, (.int .i64 ((boD A i maxF).r))])]) (combined_c (vars := A.v) (op := 0) (g1 := fun e => vl A (up e i false)) (g2 := fun e => vl A (up e i true)) hQ0 hQ1 hv0 (by omega) (by omega) (by omega) (fun e => vl_in hok _) (fun e => vl_in hok _)) rfl rfl (.refl _) (fun r8 V8 sg8 hV8 hp8 => ?_)
       obtain ⟨rfl, lv1d, nv1d, rfl, hMtd⟩ := hp8
       have hA := hA.mono hV8
       have hMt := hMt.mono hV8
       have hMtb := hMtb.mono hV8
       have hMtc := hMtc.mono hV8
       have hR0 := hR0.mono hV8
       have hQ0 := hQ0.mono hV8
       have hR1 := hR1.mono hV8
       have hQ1 := hQ1.mono hV8
       refine oq (qv_mv (.tuple #[(.agg #[(.int .i64 ((mkD A.v (tabv A.v fun e => opV 0 (vl A (up e i false)) (vl A (up e i true)))).v)), lv1d, nv1d, (.int .i64 ((mkD A.v (tabv A.v fun e => opV 0 (vl A (up e i false)) (vl A (up e i true)))).r))]), (.int .i64 (mkE A.v (tabv A.v fun e => opV 0 (vl A (up e i false)) (vl A (up e i true)))))]) rfl) ?_
       refine oq (qv_ext (.agg #[(.int .i64 ((mkD A.v (tabv A.v fun e => opV 0 (vl A (up e i false)) (vl A (up e i true)))).v)), lv1d, nv1d, (.int .i64 ((mkD A.v (tabv A.v fun e => opV 0 (vl A (up e i false)) (vl A (up e i true)))).r))]) rfl rfl) ?_
       refine oq (qv_ext (.int .i64 (mkE A.v (tabv A.v fun e => opV 0 (vl A (up e i false)) (vl A (up e i true))))) rfl rfl) ?_
       refine ops_alloc Try.ti25 rfl (fun b5 => ?_)
       refine ops_stw (k := 4) (vs := [(.int .i64 ((mkD A.v (tabv A.v fun e => opV 0 (vl A (up e i false)) (vl A (up e i true)))).v)), lv1d, nv1d, (.int .i64 ((mkD A.v (tabv A.v fun e => opV 0 (vl A (up e i false)) (vl A (up e i true)))).r))]) Try.size25 rfl rfl rfl (allc rfl (allc (Sl.one hMtd.l) (allc (SlS.one hMtd.n) (allc rfl rfl)))) rfl rfl ?_
       refine oq (qv_as (.int .i64 (mkE A.v (tabv A.v fun e => opV 0 (vl A (up e i false)) (vl A (up e i true))))) rfl) ?_
       refine ops_nil ?_
       refine vc_seq ?_
       refine vc_res (σ' := [(Arr 25 b1 [(.int .i64 A.v), la, na, (.int .i64 A.r)]), (Arr 25 b2 [(.int .i64 ((rsD A i b).v)), lv1, nv1, (.int .i64 ((rsD A i b).r))]), (Arr 25 b3 [(.int .i64 ((boD A i sumF).v)), lv1b, nv1b, (.int .i64 ((boD A i sumF).r))]), (Arr 25 b4 [(.int .i64 ((boD A i maxF).v)), lv1c, nv1c, (.int .i64 ((boD A i maxF).r))]), (Arr 25 b5 [(.int .i64 ((mkD A.v (tabv A.v fun e => opV 0 (vl A (up e i false)) (vl A (up e i true)))).v)), lv1d, nv1d, (.int .i64 ((mkD A.v (tabv A.v fun e => opV 0 (vl A (up e i false)) (vl A (up e i true)))).r))])]) rfl ?_
       refine vc_region ?_
       refine oq (qv_fa (off := 0) Try.field25_0 rfl) ?_
       refine oq (qv_ldp (v := (.int .i64 A.v)) Try.plain3 rfl (inOc (k := 0) rfl) rfl) ?_
       refine oq (qv_mv tq0 rfl) ?_
       refine oq (qv_mv tq1 rfl) ?_
       refine ops_call (σa := []) (σr := [(Arr 25 b1 [(.int .i64 A.v), la, na, (.int .i64 A.r)]), (Arr 25 b2 [(.int .i64 ((rsD A i b).v)), lv1, nv1, (.int .i64 ((rsD A i b).r))]), (Arr 25 b3 [(.int .i64 ((boD A i sumF).v)), lv1b, nv1b, (.int .i64 ((boD A i sumF).r))]), (Arr 25 b4 [(.int .i64 ((boD A i maxF).v)), lv1c, nv1c, (.int .i64 ((boD A i maxF).r))]), (Arr 25 b5 [(.int .i64 ((mkD A.v (tabv A.v fun e => opV 0 (vl A (up e i false)) (vl A (up e i true)))).v)), lv1d, nv1d, (.int .i64 ((mkD A.v (tabv A.v fun e => opV 0 (vl A (up e i false)) (vl A (up e i true)))).r))])]) (combined_c (vars := A.v) (op := 6) (g1 := fun e => vl A (up e i false)) (g2 := fun e => vl A (up e i true)) hQ0 hQ1 hv0 (by omega) (by omega) (by omega) (fun e => vl_in hok _) (fun e => vl_in hok _)) rfl rfl (.refl _) (fun r9 V9 sg9 hV9 hp9 => ?_)
       obtain ⟨rfl, lv1e, nv1e, rfl, hMte⟩ := hp9
       have hA := hA.mono hV9
       have hMt := hMt.mono hV9
       have hMtb := hMtb.mono hV9
       have hMtc := hMtc.mono hV9
       have hR0 := hR0.mono hV9
       have hQ0 := hQ0.mono hV9
       have hR1 := hR1.mono hV9
       have hQ1 := hQ1.mono hV9
       have hMtd := hMtd.mono hV9
       refine oq (qv_mv (.tuple #[(.agg #[(.int .i64 ((mkD A.v (tabv A.v fun e => opV 6 (vl A (up e i false)) (vl A (up e i true)))).v)), lv1e, nv1e, (.int .i64 ((mkD A.v (tabv A.v fun e => opV 6 (vl A (up e i false)) (vl A (up e i true)))).r))]), (.int .i64 (mkE A.v (tabv A.v fun e => opV 6 (vl A (up e i false)) (vl A (up e i true)))))]) rfl) ?_
       refine oq (qv_ext (.agg #[(.int .i64 ((mkD A.v (tabv A.v fun e => opV 6 (vl A (up e i false)) (vl A (up e i true)))).v)), lv1e, nv1e, (.int .i64 ((mkD A.v (tabv A.v fun e => opV 6 (vl A (up e i false)) (vl A (up e i true)))).r))]) rfl rfl) ?_
       refine oq (qv_ext (.int .i64 (mkE A.v (tabv A.v fun e => opV 6 (vl A (up e i false)) (vl A (up e i true))))) rfl rfl) ?_
       refine ops_alloc Try.ti25 rfl (fun b6 => ?_)
       refine ops_stw (k := 5) (vs := [(.int .i64 ((mkD A.v (tabv A.v fun e => opV 6 (vl A (up e i false)) (vl A (up e i true)))).v)), lv1e, nv1e, (.int .i64 ((mkD A.v (tabv A.v fun e => opV 6 (vl A (up e i false)) (vl A (up e i true)))).r))]) Try.size25 rfl rfl rfl (allc rfl (allc (Sl.one hMte.l) (allc (SlS.one hMte.n) (allc rfl rfl)))) rfl rfl ?_
       refine oq (qv_as (.int .i64 (mkE A.v (tabv A.v fun e => opV 6 (vl A (up e i false)) (vl A (up e i true))))) rfl) ?_
       refine ops_nil ?_
       refine vc_seq ?_
       refine vc_res (σ' := [(Arr 25 b1 [(.int .i64 A.v), la, na, (.int .i64 A.r)]), (Arr 25 b2 [(.int .i64 ((rsD A i b).v)), lv1, nv1, (.int .i64 ((rsD A i b).r))]), (Arr 25 b3 [(.int .i64 ((boD A i sumF).v)), lv1b, nv1b, (.int .i64 ((boD A i sumF).r))]), (Arr 25 b4 [(.int .i64 ((boD A i maxF).v)), lv1c, nv1c, (.int .i64 ((boD A i maxF).r))]), (Arr 25 b5 [(.int .i64 ((mkD A.v (tabv A.v fun e => opV 0 (vl A (up e i false)) (vl A (up e i true)))).v)), lv1d, nv1d, (.int .i64 ((mkD A.v (tabv A.v fun e => opV 0 (vl A (up e i false)) (vl A (up e i true)))).r))]), (Arr 25 b6 [(.int .i64 ((mkD A.v (tabv A.v fun e => opV 6 (vl A (up e i false)) (vl A (up e i true)))).v)), lv1e, nv1e, (.int .i64 ((mkD A.v (tabv A.v fun e => opV 6 (vl A (up e i false)) (vl A (up e i true)))).r))])]) rfl ?_
       refine vc_region_order (τ := []) [(0, false), (1, false), (2, false), (3, false), (4, false), (5, true), (6, false), (7, false), (8, false), (9, false), (10, false), (11, false), (12, false), (13, false), (14, false), (15, false), (16, false), (17, false), (18, false), (19, false), (20, false)] [(Arr 25 b1 [(.int .i64 A.v), la, na, (.int .i64 A.r)]), (Arr 25 b2 [(.int .i64 ((rsD A i b).v)), lv1, nv1, (.int .i64 ((rsD A i b).r))]), (Arr 25 b3 [(.int .i64 ((boD A i sumF).v)), lv1b, nv1b, (.int .i64 ((boD A i sumF).r))]), (Arr 25 b4 [(.int .i64 ((boD A i maxF).v)), lv1c, nv1c, (.int .i64 ((boD A i maxF).r))]), (Arr 25 b5 [(.int .i64 ((mkD A.v (tabv A.v fun e => opV 0 (vl A (up e i false)) (vl A (up e i true)))).v)), lv1d, nv1d, (.int .i64 ((mkD A.v (tabv A.v fun e => opV 0 (vl A (up e i false)) (vl A (up e i true)))).r))]), (Arr 25 b6 [(.int .i64 ((mkD A.v (tabv A.v fun e => opV 6 (vl A (up e i false)) (vl A (up e i true)))).v)), lv1e, nv1e, (.int .i64 ((mkD A.v (tabv A.v fun e => opV 6 (vl A (up e i false)) (vl A (up e i true)))).r))])] Try.mixed (perm_nil _) (by kernel_rfl) ?_
       refine rq rfl (qv_ldm (vs := [(.int .i64 ((rsD A i b).v)), lv1, nv1, (.int .i64 ((rsD A i b).r))]) Try.agg25 rfl (inOc (k := 1) rfl) rfl rfl) ?_
       refine rq rfl (qv_mv (.int .i64 (rsE A i)) rfl) ?_
       refine rq rfl (qv_fa (off := 0) Try.field25_0 rfl) ?_
       refine rq rfl (qv_ldp (v := (.int .i64 A.v)) Try.plain3 rfl (inOc (k := 0) rfl) rfl) ?_
       refine rq rfl (qv_mv tq1 rfl) ?_
       refine rl rfl ?_
       refine ops_call (σa := []) (σr := [(Arr 25 b1 [(.int .i64 A.v), la, na, (.int .i64 A.r)]), (Arr 25 b2 [(.int .i64 ((rsD A i b).v)), lv1, nv1, (.int .i64 ((rsD A i b).r))]), (Arr 25 b3 [(.int .i64 ((boD A i sumF).v)), lv1b, nv1b, (.int .i64 ((boD A i sumF).r))]), (Arr 25 b4 [(.int .i64 ((boD A i maxF).v)), lv1c, nv1c, (.int .i64 ((boD A i maxF).r))]), (Arr 25 b5 [(.int .i64 ((mkD A.v (tabv A.v fun e => opV 0 (vl A (up e i false)) (vl A (up e i true)))).v)), lv1d, nv1d, (.int .i64 ((mkD A.v (tabv A.v fun e => opV 0 (vl A (up e i false)) (vl A (up e i true)))).r))]), (Arr 25 b6 [(.int .i64 ((mkD A.v (tabv A.v fun e => opV 6 (vl A (up e i false)) (vl A (up e i true)))).v)), lv1e, nv1e, (.int .i64 ((mkD A.v (tabv A.v fun e => opV 6 (vl A (up e i false)) (vl A (up e i true)))).r))])]) (by have h := diagram_c (vars := A.v) (t := rsT A i b) (by have q := hQ1; rw [← hbt] at q; exact q) hv0 (by omega) (tabv_len _); exact h) rfl rfl (.refl _) (fun r10 V10 sg10 hV10 hp10 => ?_)
       obtain ⟨rfl, lv2, nv2, rfl, hDg2⟩ := hp10
       have hA := hA.mono hV10
       have hMt := hMt.mono hV10
       have hMtb := hMtb.mono hV10
       have hMtc := hMtc.mono hV10
       have hR0 := hR0.mono hV10
       have hQ0 := hQ0.mono hV10
       have hR1 := hR1.mono hV10
       have hQ1 := hQ1.mono hV10
       have hMtd := hMtd.mono hV10
       have hMte := hMte.mono hV10
       refine ops_nil ⟨[(Arr 25 b1 [(.int .i64 A.v), la, na, (.int .i64 A.r)]), (Arr 25 b2 [(.int .i64 ((rsD A i b).v)), lv1, nv1, (.int .i64 ((rsD A i b).r))]), (Arr 25 b3 [(.int .i64 ((boD A i sumF).v)), lv1b, nv1b, (.int .i64 ((boD A i sumF).r))]), (Arr 25 b4 [(.int .i64 ((boD A i maxF).v)), lv1c, nv1c, (.int .i64 ((boD A i maxF).r))]), (Arr 25 b5 [(.int .i64 ((mkD A.v (tabv A.v fun e => opV 0 (vl A (up e i false)) (vl A (up e i true)))).v)), lv1d, nv1d, (.int .i64 ((mkD A.v (tabv A.v fun e => opV 0 (vl A (up e i false)) (vl A (up e i true)))).r))]), (Arr 25 b6 [(.int .i64 ((mkD A.v (tabv A.v fun e => opV 6 (vl A (up e i false)) (vl A (up e i true)))).v)), lv1e, nv1e, (.int .i64 ((mkD A.v (tabv A.v fun e => opV 6 (vl A (up e i false)) (vl A (up e i true)))).r))])], [], hV10, perm_nil _, ⟨[], (.refl _)⟩, ?_⟩
       refine rq rfl (qv_call (v := (.bool (decide ((rsE A i) = 0 ∧ (rsD A i b) = (dg A.v (rsT A i b)))))) (is_c (A := (rsD A i b)) (B := (dg A.v (rsT A i b))) (ee := (rsE A i)) (cc := 0) hMt hDg2) rfl rfl) ?_
       refine rq rfl (qv_mv (.bool (decide ((rsE A i) = 0 ∧ (rsD A i b) = (dg A.v (rsT A i b))))) rfl) ?_
       by_cases g8 : (rsE A i) = 0 ∧ (rsD A i b) = (dg A.v (rsT A i b))
       ·
        refine re rfl (qv_ldm (vs := [(.int .i64 ((boD A i sumF).v)), lv1b, nv1b, (.int .i64 ((boD A i sumF).r))]) Try.agg25 rfl (inOc (k := 2) rfl) rfl rfl) (want_t g8 rfl rfl rfl) ?_
        refine re rfl (qv_mv (.int .i64 (boE A i sumF)) rfl) (want_t g8 rfl rfl rfl) ?_
        refine re rfl (qv_ldm (vs := [(.int .i64 ((mkD A.v (tabv A.v fun e => opV 0 (vl A (up e i false)) (vl A (up e i true)))).v)), lv1d, nv1d, (.int .i64 ((mkD A.v (tabv A.v fun e => opV 0 (vl A (up e i false)) (vl A (up e i true)))).r))]) Try.agg25 rfl (inOc (k := 4) rfl) rfl rfl) (want_t g8 rfl rfl rfl) ?_
        refine re rfl (qv_mv (.int .i64 (mkE A.v (tabv A.v fun e => opV 0 (vl A (up e i false)) (vl A (up e i true))))) rfl) (want_t g8 rfl rfl rfl) ?_
        refine re rfl (qv_call (v := (.bool (decide ((boE A i sumF) = (mkE A.v (tabv A.v fun e => opV 0 (vl A (up e i false)) (vl A (up e i true)))) ∧ (boD A i sumF) = (mkD A.v (tabv A.v fun e => opV 0 (vl A (up e i false)) (vl A (up e i true)))))))) (is_c (A := (boD A i sumF)) (B := (mkD A.v (tabv A.v fun e => opV 0 (vl A (up e i false)) (vl A (up e i true))))) (ee := (boE A i sumF)) (cc := (mkE A.v (tabv A.v fun e => opV 0 (vl A (up e i false)) (vl A (up e i true))))) hMtb hMtd) rfl rfl) (want_t g8 rfl rfl rfl) ?_
        refine rq rfl (qv_pick_t g8 rfl (rfl : ev _ _ = (.bool (decide ((boE A i sumF) = (mkE A.v (tabv A.v fun e => opV 0 (vl A (up e i false)) (vl A (up e i true)))) ∧ (boD A i sumF) = (mkD A.v (tabv A.v fun e => opV 0 (vl A (up e i false)) (vl A (up e i true))))))))) ?_
        refine rq rfl (qv_mv (.bool (decide ((boE A i sumF) = (mkE A.v (tabv A.v fun e => opV 0 (vl A (up e i false)) (vl A (up e i true)))) ∧ (boD A i sumF) = (mkD A.v (tabv A.v fun e => opV 0 (vl A (up e i false)) (vl A (up e i true))))))) rfl) ?_
        by_cases g9 : (boE A i sumF) = (mkE A.v (tabv A.v fun e => opV 0 (vl A (up e i false)) (vl A (up e i true)))) ∧ (boD A i sumF) = (mkD A.v (tabv A.v fun e => opV 0 (vl A (up e i false)) (vl A (up e i true))))
        ·
         refine re rfl (qv_ldm (vs := [(.int .i64 ((boD A i maxF).v)), lv1c, nv1c, (.int .i64 ((boD A i maxF).r))]) Try.agg25 rfl (inOc (k := 3) rfl) rfl rfl) (want_t g9 rfl rfl rfl) ?_
         refine re rfl (qv_mv (.int .i64 (boE A i maxF)) rfl) (want_t g9 rfl rfl rfl) ?_
         refine re rfl (qv_ldm (vs := [(.int .i64 ((mkD A.v (tabv A.v fun e => opV 6 (vl A (up e i false)) (vl A (up e i true)))).v)), lv1e, nv1e, (.int .i64 ((mkD A.v (tabv A.v fun e => opV 6 (vl A (up e i false)) (vl A (up e i true)))).r))]) Try.agg25 rfl (inOc (k := 5) rfl) rfl rfl) (want_t g9 rfl rfl rfl) ?_
         refine re rfl (qv_call (v := (.bool (decide ((boE A i maxF) = 0 ∧ (boD A i maxF) = (mkD A.v (tabv A.v fun e => opV 6 (vl A (up e i false)) (vl A (up e i true)))))))) (is_c (A := (boD A i maxF)) (B := (mkD A.v (tabv A.v fun e => opV 6 (vl A (up e i false)) (vl A (up e i true))))) (ee := (boE A i maxF)) (cc := 0) hMtc hMte) rfl rfl) (want_t g9 rfl rfl rfl) ?_
         refine rq rfl (qv_pick_t g9 rfl (rfl : ev _ _ = (.bool (decide ((boE A i maxF) = 0 ∧ (boD A i maxF) = (mkD A.v (tabv A.v fun e => opV 6 (vl A (up e i false)) (vl A (up e i true))))))))) ?_
         refine rq rfl (qv_as (.bool (decide ((boE A i maxF) = 0 ∧ (boD A i maxF) = (mkD A.v (tabv A.v fun e => opV 6 (vl A (up e i false)) (vl A (up e i true))))))) rfl) ?_
         refine rnil ?_
         refine vc_ret ?_
         exact rq1 (Value.bool true) (congrArg Value.bool (decide_eq_true (show ((boE A i maxF) = 0 ∧ (boD A i maxF) = (mkD A.v (tabv A.v fun e => opV 6 (vl A (up e i false)) (vl A (up e i true))))) from by exact hi3))) rfl
        ·
         exact absurd hi2 g9
       ·
        exact absurd hi1 g8
      ·
       refine vc_skip ?_
       refine vc_seq ?_
       skip
       refine vc_region ?_
       have hbf : rsT A i b = rsT A i false := by rw [show b = false by simpa using (by assumption : ¬ b = true)]
       refine oq (qv_fa (off := 0) Try.field25_0 rfl) ?_
       refine oq (qv_ldp (v := (.int .i64 A.v)) Try.plain3 rfl (inOc (k := 0) rfl) rfl) ?_
       refine oq (qv_mv tq0 rfl) ?_
       refine oq (qv_mv tq1 rfl) ?_
       refine ops_call (σa := []) (σr := [(Arr 25 b1 [(.int .i64 A.v), la, na, (.int .i64 A.r)]), (Arr 25 b2 [(.int .i64 ((rsD A i b).v)), lv1, nv1, (.int .i64 ((rsD A i b).r))]), (Arr 25 b3 [(.int .i64 ((boD A i sumF).v)), lv1b, nv1b, (.int .i64 ((boD A i sumF).r))]), (Arr 25 b4 [(.int .i64 ((boD A i maxF).v)), lv1c, nv1c, (.int .i64 ((boD A i maxF).r))])]) (combined_c (vars := A.v) (op := 0) (g1 := fun e => vl A (up e i false)) (g2 := fun e => vl A (up e i true)) hQ0 hQ1 hv0 (by omega) (by omega) (by omega) (fun e => vl_in hok _) (fun e => vl_in hok _)) rfl rfl (.refl _) (fun r11 V11 sg11 hV11 hp11 => ?_)
       obtain ⟨rfl, lv1d, nv1d, rfl, hMtd⟩ := hp11
       have hA := hA.mono hV11
       have hMt := hMt.mono hV11
       have hMtb := hMtb.mono hV11
       have hMtc := hMtc.mono hV11
       have hR0 := hR0.mono hV11
       have hQ0 := hQ0.mono hV11
       have hR1 := hR1.mono hV11
       have hQ1 := hQ1.mono hV11
       refine oq (qv_mv (.tuple #[(.agg #[(.int .i64 ((mkD A.v (tabv A.v fun e => opV 0 (vl A (up e i false)) (vl A (up e i true)))).v)), lv1d, nv1d, (.int .i64 ((mkD A.v (tabv A.v fun e => opV 0 (vl A (up e i false)) (vl A (up e i true)))).r))]), (.int .i64 (mkE A.v (tabv A.v fun e => opV 0 (vl A (up e i false)) (vl A (up e i true)))))]) rfl) ?_
       refine oq (qv_ext (.agg #[(.int .i64 ((mkD A.v (tabv A.v fun e => opV 0 (vl A (up e i false)) (vl A (up e i true)))).v)), lv1d, nv1d, (.int .i64 ((mkD A.v (tabv A.v fun e => opV 0 (vl A (up e i false)) (vl A (up e i true)))).r))]) rfl rfl) ?_
       refine oq (qv_ext (.int .i64 (mkE A.v (tabv A.v fun e => opV 0 (vl A (up e i false)) (vl A (up e i true))))) rfl rfl) ?_
       refine ops_alloc Try.ti25 rfl (fun b7 => ?_)
       refine ops_stw (k := 4) (vs := [(.int .i64 ((mkD A.v (tabv A.v fun e => opV 0 (vl A (up e i false)) (vl A (up e i true)))).v)), lv1d, nv1d, (.int .i64 ((mkD A.v (tabv A.v fun e => opV 0 (vl A (up e i false)) (vl A (up e i true)))).r))]) Try.size25 rfl rfl rfl (allc rfl (allc (Sl.one hMtd.l) (allc (SlS.one hMtd.n) (allc rfl rfl)))) rfl rfl ?_
       refine oq (qv_as (.int .i64 (mkE A.v (tabv A.v fun e => opV 0 (vl A (up e i false)) (vl A (up e i true))))) rfl) ?_
       refine ops_nil ?_
       refine vc_seq ?_
       refine vc_res (σ' := [(Arr 25 b1 [(.int .i64 A.v), la, na, (.int .i64 A.r)]), (Arr 25 b2 [(.int .i64 ((rsD A i b).v)), lv1, nv1, (.int .i64 ((rsD A i b).r))]), (Arr 25 b3 [(.int .i64 ((boD A i sumF).v)), lv1b, nv1b, (.int .i64 ((boD A i sumF).r))]), (Arr 25 b4 [(.int .i64 ((boD A i maxF).v)), lv1c, nv1c, (.int .i64 ((boD A i maxF).r))]), (Arr 25 b7 [(.int .i64 ((mkD A.v (tabv A.v fun e => opV 0 (vl A (up e i false)) (vl A (up e i true)))).v)), lv1d, nv1d, (.int .i64 ((mkD A.v (tabv A.v fun e => opV 0 (vl A (up e i false)) (vl A (up e i true)))).r))])]) rfl ?_
       refine vc_region ?_
       refine oq (qv_fa (off := 0) Try.field25_0 rfl) ?_
       refine oq (qv_ldp (v := (.int .i64 A.v)) Try.plain3 rfl (inOc (k := 0) rfl) rfl) ?_
       refine oq (qv_mv tq0 rfl) ?_
       refine oq (qv_mv tq1 rfl) ?_
       refine ops_call (σa := []) (σr := [(Arr 25 b1 [(.int .i64 A.v), la, na, (.int .i64 A.r)]), (Arr 25 b2 [(.int .i64 ((rsD A i b).v)), lv1, nv1, (.int .i64 ((rsD A i b).r))]), (Arr 25 b3 [(.int .i64 ((boD A i sumF).v)), lv1b, nv1b, (.int .i64 ((boD A i sumF).r))]), (Arr 25 b4 [(.int .i64 ((boD A i maxF).v)), lv1c, nv1c, (.int .i64 ((boD A i maxF).r))]), (Arr 25 b7 [(.int .i64 ((mkD A.v (tabv A.v fun e => opV 0 (vl A (up e i false)) (vl A (up e i true)))).v)), lv1d, nv1d, (.int .i64 ((mkD A.v (tabv A.v fun e => opV 0 (vl A (up e i false)) (vl A (up e i true)))).r))])]) (combined_c (vars := A.v) (op := 6) (g1 := fun e => vl A (up e i false)) (g2 := fun e => vl A (up e i true)) hQ0 hQ1 hv0 (by omega) (by omega) (by omega) (fun e => vl_in hok _) (fun e => vl_in hok _)) rfl rfl (.refl _) (fun r12 V12 sg12 hV12 hp12 => ?_)
       obtain ⟨rfl, lv1e, nv1e, rfl, hMte⟩ := hp12
       have hA := hA.mono hV12
       have hMt := hMt.mono hV12
       have hMtb := hMtb.mono hV12
       have hMtc := hMtc.mono hV12
       have hR0 := hR0.mono hV12
       have hQ0 := hQ0.mono hV12
       have hR1 := hR1.mono hV12
       have hQ1 := hQ1.mono hV12
       have hMtd := hMtd.mono hV12
       refine oq (qv_mv (.tuple #[(.agg #[(.int .i64 ((mkD A.v (tabv A.v fun e => opV 6 (vl A (up e i false)) (vl A (up e i true)))).v)), lv1e, nv1e, (.int .i64 ((mkD A.v (tabv A.v fun e => opV 6 (vl A (up e i false)) (vl A (up e i true)))).r))]), (.int .i64 (mkE A.v (tabv A.v fun e => opV 6 (vl A (up e i false)) (vl A (up e i true)))))]) rfl) ?_
       refine oq (qv_ext (.agg #[(.int .i64 ((mkD A.v (tabv A.v fun e => opV 6 (vl A (up e i false)) (vl A (up e i true)))).v)), lv1e, nv1e, (.int .i64 ((mkD A.v (tabv A.v fun e => opV 6 (vl A (up e i false)) (vl A (up e i true)))).r))]) rfl rfl) ?_
       refine oq (qv_ext (.int .i64 (mkE A.v (tabv A.v fun e => opV 6 (vl A (up e i false)) (vl A (up e i true))))) rfl rfl) ?_
       refine ops_alloc Try.ti25 rfl (fun b8 => ?_)
       refine ops_stw (k := 5) (vs := [(.int .i64 ((mkD A.v (tabv A.v fun e => opV 6 (vl A (up e i false)) (vl A (up e i true)))).v)), lv1e, nv1e, (.int .i64 ((mkD A.v (tabv A.v fun e => opV 6 (vl A (up e i false)) (vl A (up e i true)))).r))]) Try.size25 rfl rfl rfl (allc rfl (allc (Sl.one hMte.l) (allc (SlS.one hMte.n) (allc rfl rfl)))) rfl rfl ?_
       refine oq (qv_as (.int .i64 (mkE A.v (tabv A.v fun e => opV 6 (vl A (up e i false)) (vl A (up e i true))))) rfl) ?_
       refine ops_nil ?_
       refine vc_seq ?_
       refine vc_res (σ' := [(Arr 25 b1 [(.int .i64 A.v), la, na, (.int .i64 A.r)]), (Arr 25 b2 [(.int .i64 ((rsD A i b).v)), lv1, nv1, (.int .i64 ((rsD A i b).r))]), (Arr 25 b3 [(.int .i64 ((boD A i sumF).v)), lv1b, nv1b, (.int .i64 ((boD A i sumF).r))]), (Arr 25 b4 [(.int .i64 ((boD A i maxF).v)), lv1c, nv1c, (.int .i64 ((boD A i maxF).r))]), (Arr 25 b7 [(.int .i64 ((mkD A.v (tabv A.v fun e => opV 0 (vl A (up e i false)) (vl A (up e i true)))).v)), lv1d, nv1d, (.int .i64 ((mkD A.v (tabv A.v fun e => opV 0 (vl A (up e i false)) (vl A (up e i true)))).r))]), (Arr 25 b8 [(.int .i64 ((mkD A.v (tabv A.v fun e => opV 6 (vl A (up e i false)) (vl A (up e i true)))).v)), lv1e, nv1e, (.int .i64 ((mkD A.v (tabv A.v fun e => opV 6 (vl A (up e i false)) (vl A (up e i true)))).r))])]) rfl ?_
       refine vc_region_order (τ := []) [(0, false), (1, false), (2, false), (3, false), (4, false), (5, true), (6, false), (7, false), (8, false), (9, false), (10, false), (11, false), (12, false), (13, false), (14, false), (15, false), (16, false), (17, false), (18, false), (19, false), (20, false)] [(Arr 25 b1 [(.int .i64 A.v), la, na, (.int .i64 A.r)]), (Arr 25 b2 [(.int .i64 ((rsD A i b).v)), lv1, nv1, (.int .i64 ((rsD A i b).r))]), (Arr 25 b3 [(.int .i64 ((boD A i sumF).v)), lv1b, nv1b, (.int .i64 ((boD A i sumF).r))]), (Arr 25 b4 [(.int .i64 ((boD A i maxF).v)), lv1c, nv1c, (.int .i64 ((boD A i maxF).r))]), (Arr 25 b7 [(.int .i64 ((mkD A.v (tabv A.v fun e => opV 0 (vl A (up e i false)) (vl A (up e i true)))).v)), lv1d, nv1d, (.int .i64 ((mkD A.v (tabv A.v fun e => opV 0 (vl A (up e i false)) (vl A (up e i true)))).r))]), (Arr 25 b8 [(.int .i64 ((mkD A.v (tabv A.v fun e => opV 6 (vl A (up e i false)) (vl A (up e i true)))).v)), lv1e, nv1e, (.int .i64 ((mkD A.v (tabv A.v fun e => opV 6 (vl A (up e i false)) (vl A (up e i true)))).r))])] Try.mixed (perm_nil _) (by kernel_rfl) ?_
       refine rq rfl (qv_ldm (vs := [(.int .i64 ((rsD A i b).v)), lv1, nv1, (.int .i64 ((rsD A i b).r))]) Try.agg25 rfl (inOc (k := 1) rfl) rfl rfl) ?_
       refine rq rfl (qv_mv (.int .i64 (rsE A i)) rfl) ?_
       refine rq rfl (qv_fa (off := 0) Try.field25_0 rfl) ?_
       refine rq rfl (qv_ldp (v := (.int .i64 A.v)) Try.plain3 rfl (inOc (k := 0) rfl) rfl) ?_
       refine rq rfl (qv_mv tq0 rfl) ?_
       refine rl rfl ?_
       refine ops_call (σa := []) (σr := [(Arr 25 b1 [(.int .i64 A.v), la, na, (.int .i64 A.r)]), (Arr 25 b2 [(.int .i64 ((rsD A i b).v)), lv1, nv1, (.int .i64 ((rsD A i b).r))]), (Arr 25 b3 [(.int .i64 ((boD A i sumF).v)), lv1b, nv1b, (.int .i64 ((boD A i sumF).r))]), (Arr 25 b4 [(.int .i64 ((boD A i maxF).v)), lv1c, nv1c, (.int .i64 ((boD A i maxF).r))]), (Arr 25 b7 [(.int .i64 ((mkD A.v (tabv A.v fun e => opV 0 (vl A (up e i false)) (vl A (up e i true)))).v)), lv1d, nv1d, (.int .i64 ((mkD A.v (tabv A.v fun e => opV 0 (vl A (up e i false)) (vl A (up e i true)))).r))]), (Arr 25 b8 [(.int .i64 ((mkD A.v (tabv A.v fun e => opV 6 (vl A (up e i false)) (vl A (up e i true)))).v)), lv1e, nv1e, (.int .i64 ((mkD A.v (tabv A.v fun e => opV 6 (vl A (up e i false)) (vl A (up e i true)))).r))])]) (by have h := diagram_c (vars := A.v) (t := rsT A i b) (by have q := hQ0; rw [← hbf] at q; exact q) hv0 (by omega) (tabv_len _); exact h) rfl rfl (.refl _) (fun r13 V13 sg13 hV13 hp13 => ?_)
       obtain ⟨rfl, lv2, nv2, rfl, hDg2⟩ := hp13
       have hA := hA.mono hV13
       have hMt := hMt.mono hV13
       have hMtb := hMtb.mono hV13
       have hMtc := hMtc.mono hV13
       have hR0 := hR0.mono hV13
       have hQ0 := hQ0.mono hV13
       have hR1 := hR1.mono hV13
       have hQ1 := hQ1.mono hV13
       have hMtd := hMtd.mono hV13
       have hMte := hMte.mono hV13
       refine ops_nil ⟨[(Arr 25 b1 [(.int .i64 A.v), la, na, (.int .i64 A.r)]), (Arr 25 b2 [(.int .i64 ((rsD A i b).v)), lv1, nv1, (.int .i64 ((rsD A i b).r))]), (Arr 25 b3 [(.int .i64 ((boD A i sumF).v)), lv1b, nv1b, (.int .i64 ((boD A i sumF).r))]), (Arr 25 b4 [(.int .i64 ((boD A i maxF).v)), lv1c, nv1c, (.int .i64 ((boD A i maxF).r))]), (Arr 25 b7 [(.int .i64 ((mkD A.v (tabv A.v fun e => opV 0 (vl A (up e i false)) (vl A (up e i true)))).v)), lv1d, nv1d, (.int .i64 ((mkD A.v (tabv A.v fun e => opV 0 (vl A (up e i false)) (vl A (up e i true)))).r))]), (Arr 25 b8 [(.int .i64 ((mkD A.v (tabv A.v fun e => opV 6 (vl A (up e i false)) (vl A (up e i true)))).v)), lv1e, nv1e, (.int .i64 ((mkD A.v (tabv A.v fun e => opV 6 (vl A (up e i false)) (vl A (up e i true)))).r))])], [], hV13, perm_nil _, ⟨[], (.refl _)⟩, ?_⟩
       refine rq rfl (qv_call (v := (.bool (decide ((rsE A i) = 0 ∧ (rsD A i b) = (dg A.v (rsT A i b)))))) (is_c (A := (rsD A i b)) (B := (dg A.v (rsT A i b))) (ee := (rsE A i)) (cc := 0) hMt hDg2) rfl rfl) ?_
       refine rq rfl (qv_mv (.bool (decide ((rsE A i) = 0 ∧ (rsD A i b) = (dg A.v (rsT A i b))))) rfl) ?_
       by_cases g10 : (rsE A i) = 0 ∧ (rsD A i b) = (dg A.v (rsT A i b))
       ·
        refine re rfl (qv_ldm (vs := [(.int .i64 ((boD A i sumF).v)), lv1b, nv1b, (.int .i64 ((boD A i sumF).r))]) Try.agg25 rfl (inOc (k := 2) rfl) rfl rfl) (want_t g10 rfl rfl rfl) ?_
        refine re rfl (qv_mv (.int .i64 (boE A i sumF)) rfl) (want_t g10 rfl rfl rfl) ?_
        refine re rfl (qv_ldm (vs := [(.int .i64 ((mkD A.v (tabv A.v fun e => opV 0 (vl A (up e i false)) (vl A (up e i true)))).v)), lv1d, nv1d, (.int .i64 ((mkD A.v (tabv A.v fun e => opV 0 (vl A (up e i false)) (vl A (up e i true)))).r))]) Try.agg25 rfl (inOc (k := 4) rfl) rfl rfl) (want_t g10 rfl rfl rfl) ?_
        refine re rfl (qv_mv (.int .i64 (mkE A.v (tabv A.v fun e => opV 0 (vl A (up e i false)) (vl A (up e i true))))) rfl) (want_t g10 rfl rfl rfl) ?_
        refine re rfl (qv_call (v := (.bool (decide ((boE A i sumF) = (mkE A.v (tabv A.v fun e => opV 0 (vl A (up e i false)) (vl A (up e i true)))) ∧ (boD A i sumF) = (mkD A.v (tabv A.v fun e => opV 0 (vl A (up e i false)) (vl A (up e i true)))))))) (is_c (A := (boD A i sumF)) (B := (mkD A.v (tabv A.v fun e => opV 0 (vl A (up e i false)) (vl A (up e i true))))) (ee := (boE A i sumF)) (cc := (mkE A.v (tabv A.v fun e => opV 0 (vl A (up e i false)) (vl A (up e i true))))) hMtb hMtd) rfl rfl) (want_t g10 rfl rfl rfl) ?_
        refine rq rfl (qv_pick_t g10 rfl (rfl : ev _ _ = (.bool (decide ((boE A i sumF) = (mkE A.v (tabv A.v fun e => opV 0 (vl A (up e i false)) (vl A (up e i true)))) ∧ (boD A i sumF) = (mkD A.v (tabv A.v fun e => opV 0 (vl A (up e i false)) (vl A (up e i true))))))))) ?_
        refine rq rfl (qv_mv (.bool (decide ((boE A i sumF) = (mkE A.v (tabv A.v fun e => opV 0 (vl A (up e i false)) (vl A (up e i true)))) ∧ (boD A i sumF) = (mkD A.v (tabv A.v fun e => opV 0 (vl A (up e i false)) (vl A (up e i true))))))) rfl) ?_
        by_cases g11 : (boE A i sumF) = (mkE A.v (tabv A.v fun e => opV 0 (vl A (up e i false)) (vl A (up e i true)))) ∧ (boD A i sumF) = (mkD A.v (tabv A.v fun e => opV 0 (vl A (up e i false)) (vl A (up e i true))))
        ·
         refine re rfl (qv_ldm (vs := [(.int .i64 ((boD A i maxF).v)), lv1c, nv1c, (.int .i64 ((boD A i maxF).r))]) Try.agg25 rfl (inOc (k := 3) rfl) rfl rfl) (want_t g11 rfl rfl rfl) ?_
         refine re rfl (qv_mv (.int .i64 (boE A i maxF)) rfl) (want_t g11 rfl rfl rfl) ?_
         refine re rfl (qv_ldm (vs := [(.int .i64 ((mkD A.v (tabv A.v fun e => opV 6 (vl A (up e i false)) (vl A (up e i true)))).v)), lv1e, nv1e, (.int .i64 ((mkD A.v (tabv A.v fun e => opV 6 (vl A (up e i false)) (vl A (up e i true)))).r))]) Try.agg25 rfl (inOc (k := 5) rfl) rfl rfl) (want_t g11 rfl rfl rfl) ?_
         refine re rfl (qv_call (v := (.bool (decide ((boE A i maxF) = 0 ∧ (boD A i maxF) = (mkD A.v (tabv A.v fun e => opV 6 (vl A (up e i false)) (vl A (up e i true)))))))) (is_c (A := (boD A i maxF)) (B := (mkD A.v (tabv A.v fun e => opV 6 (vl A (up e i false)) (vl A (up e i true))))) (ee := (boE A i maxF)) (cc := 0) hMtc hMte) rfl rfl) (want_t g11 rfl rfl rfl) ?_
         refine rq rfl (qv_pick_t g11 rfl (rfl : ev _ _ = (.bool (decide ((boE A i maxF) = 0 ∧ (boD A i maxF) = (mkD A.v (tabv A.v fun e => opV 6 (vl A (up e i false)) (vl A (up e i true))))))))) ?_
         refine rq rfl (qv_as (.bool (decide ((boE A i maxF) = 0 ∧ (boD A i maxF) = (mkD A.v (tabv A.v fun e => opV 6 (vl A (up e i false)) (vl A (up e i true))))))) rfl) ?_
         refine rnil ?_
         refine vc_ret ?_
         exact rq1 (Value.bool true) (congrArg Value.bool (decide_eq_true (show ((boE A i maxF) = 0 ∧ (boD A i maxF) = (mkD A.v (tabv A.v fun e => opV 6 (vl A (up e i false)) (vl A (up e i true))))) from by exact hi3))) rfl
        ·
         exact absurd hi2 g11
       ·
        exact absurd hi1 g10

theorem Restricts_b {V : HV} {la na : Value} {A : Mg} (hA : Mt V la na A) {i : Int} {b : Bool} : FnC Try.prog 7 [.agg #[.int .i64 A.v, la, na, .int .i64 A.r], .int .i64 i, .bool b] V [] (fun v _ _ => v = .bool true) := by
  have h := Restricts_c (V := V) (i := i) (b := b) hA
  simp only [Bool.decide_eq_true] at h
  exact h
end Go.Proofs.Ytkmhjcjpohpiaaa
