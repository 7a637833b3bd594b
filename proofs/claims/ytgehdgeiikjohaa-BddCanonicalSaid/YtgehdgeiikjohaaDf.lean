/- Walks of bdd: what each function returns. Printed by a program out of notes. -/
import Derived.Test.YtgehdgeiikjohaaBt
import Derived.Test.YtgehdgeiikjohaaDr
namespace Go.Proofs.Ytgehdgeiikjohaa
open Go.Vc
open Classical

set_option maxRecDepth 100000 in
set_option maxHeartbeats 4000000 in
theorem Canonical_c {V : HV} {na : Value} {A : Dg} (hA : Fks V na A.N) {nb : Value} {B : Dg} (hB : Fks V nb B.N) :
    FnC Try.prog 6 [(.agg #[(.int .i64 A.v), na, (.int .i64 A.r)]), (.agg #[(.int .i64 B.v), nb, (.int .i64 B.r)])] V [] (fun v _ _ => v = (Value.bool true)) := by
 refine fn_intro (N := 87) Try.func6 (by kernel_rfl) rfl rfl rfl (Nat.le_of_ble_eq_true rfl) ?_
 intro w0 D
 have hb := SlS.bound hA
 have hb2 := SlS.bound hB
 refine vc_seq ?_
 refine vc_region ?_
 refine ops_box (v := (.agg #[(.int .i64 A.v), na, (.int .i64 A.r)])) (cs := [(.int .i64 A.v), na, (.int .i64 A.r)]) rfl rfl (fun b1 => ?_)
 refine ops_box (v := (.agg #[(.int .i64 B.v), nb, (.int .i64 B.r)])) (cs := [(.int .i64 B.v), nb, (.int .i64 B.r)]) rfl rfl (fun b2 => ?_)
 refine oq (qv_as (Value.bool false) rfl) ?_
 refine ops_nil ?_
 refine vc_seq ?_
 refine vc_seq ?_
 refine vc_res (σ' := [(Arr 24 b1 [(.int .i64 A.v), na, (.int .i64 A.r)]), (Arr 24 b2 [(.int .i64 B.v), nb, (.int .i64 B.r)])]) rfl ?_
 refine vc_region ?_
 refine oq (qv_call (v := (Value.bool true)) (known_c) rfl rfl) ?_
 refine oq (qv_notc rfl) ?_
 refine ops_nil ?_
 refine vc_ff rfl ?_
 refine vc_skip ?_
 refine vc_seq ?_
 refine vc_seq ?_
 refine vc_region ?_
 refine oq (qv_ldm (vs := [(.int .i64 A.v), na, (.int .i64 A.r)]) Try.agg24 rfl (inOc (k := 0) rfl) rfl rfl) ?_
 refine oq (qv_call (v := (.bool (decide (A.v ≤ 7 ∧ A.N.length ≤ 130)))) (few_c hA) rfl rfl) ?_
 refine oq (qv_not rfl) ?_
 refine oq (qv_mv (.bool (decide (¬ (A.v ≤ 7 ∧ A.N.length ≤ 130)))) rfl) ?_
 by_cases g1 : ¬ (A.v ≤ 7 ∧ A.N.length ≤ 130)
 ·
  refine os (want_fn g1 rfl rfl rfl) ?_
  refine os (want_fn g1 rfl rfl rfl) ?_
  refine os (want_fn g1 rfl rfl rfl) ?_
  refine oq (qv_pick_t g1 rfl (rfl : ev _ _ = (Value.bool true))) ?_
  refine oq (qv_mv (Value.bool true) rfl) ?_
  refine os (want_fnc rfl rfl rfl) ?_
  refine os (want_fnc rfl rfl rfl) ?_
  refine os (want_fnc rfl rfl rfl) ?_
  refine oq (qv_pick_tc rfl (rfl : ev _ _ = (Value.bool true))) ?_
  refine oq (qv_mv (Value.bool true) rfl) ?_
  refine os (want_fnc rfl rfl rfl) ?_
  refine os (want_fnc rfl rfl rfl) ?_
  refine os (want_fnc rfl rfl rfl) ?_
  refine oq (qv_pick_tc rfl (rfl : ev _ _ = (Value.bool true))) ?_
  refine oq (qv_mv (Value.bool true) rfl) ?_
  refine os (want_fnc rfl rfl rfl) ?_
  refine os (want_fnc rfl rfl rfl) ?_
  refine os (want_fnc rfl rfl rfl) ?_
  refine os (want_fnc rfl rfl rfl) ?_
  refine os (want_fnc rfl rfl rfl) ?_
  refine oq (qv_pick_tc rfl (rfl : ev _ _ = (Value.bool true))) ?_
  refine ops_nil ?_
  refine vc_tt rfl ?_
  refine vc_seq ?_
  refine vc_region ?_
  refine oq (qv_as (Value.bool true) rfl) ?_
  refine ops_nil ?_
  refine vc_ret ?_
  exact rq1 (Value.bool true) rfl rfl
 ·
  refine og (qv_ldm (vs := [(.int .i64 B.v), nb, (.int .i64 B.r)]) Try.agg24 rfl (inOc (k := 1) rfl) rfl rfl) (want_f g1 rfl rfl rfl) ?_
  refine og (qv_call (v := (.bool (decide (B.v ≤ 7 ∧ B.N.length ≤ 130)))) (few_c hB) rfl rfl) (want_f g1 rfl rfl rfl) ?_
  refine og (qv_not rfl) (want_f g1 rfl rfl rfl) ?_
  refine oq (qv_pick_f g1 rfl (rfl : ev _ _ = (.bool (decide (¬ (B.v ≤ 7 ∧ B.N.length ≤ 130)))))) ?_
  refine oq (qv_mv (.bool (decide (¬ (B.v ≤ 7 ∧ B.N.length ≤ 130)))) rfl) ?_
  by_cases g2 : ¬ (B.v ≤ 7 ∧ B.N.length ≤ 130)
  ·
   refine os (want_fn g2 rfl rfl rfl) ?_
   refine os (want_fn g2 rfl rfl rfl) ?_
   refine os (want_fn g2 rfl rfl rfl) ?_
   refine oq (qv_pick_t g2 rfl (rfl : ev _ _ = (Value.bool true))) ?_
   refine oq (qv_mv (Value.bool true) rfl) ?_
   refine os (want_fnc rfl rfl rfl) ?_
   refine os (want_fnc rfl rfl rfl) ?_
   refine os (want_fnc rfl rfl rfl) ?_
   refine oq (qv_pick_tc rfl (rfl : ev _ _ = (Value.bool true))) ?_
   refine oq (qv_mv (Value.bool true) rfl) ?_
   refine os (want_fnc rfl rfl rfl) ?_
   refine os (want_fnc rfl rfl rfl) ?_
   refine os (want_fnc rfl rfl rfl) ?_
   refine os (want_fnc rfl rfl rfl) ?_
   refine os (want_fnc rfl rfl rfl) ?_
   refine oq (qv_pick_tc rfl (rfl : ev _ _ = (Value.bool true))) ?_
   refine ops_nil ?_
   refine vc_tt rfl ?_
   refine vc_seq ?_
   refine vc_region ?_
   refine oq (qv_as (Value.bool true) rfl) ?_
   refine ops_nil ?_
   refine vc_ret ?_
   exact rq1 (Value.bool true) rfl rfl
  ·
   refine og (qv_ldm (vs := [(.int .i64 A.v), na, (.int .i64 A.r)]) Try.agg24 rfl (inOc (k := 0) rfl) rfl rfl) (want_f g2 rfl rfl rfl) ?_
   refine og (qv_call (v := (.int .i64 (chkC A.v A.N A.r))) (check_c hA) rfl rfl) (want_f g2 rfl rfl rfl) ?_
   refine og (qv_neq rfl rfl) (want_f g2 rfl rfl rfl) ?_
   refine oq (qv_pick_f g2 rfl (rfl : ev _ _ = (.bool (decide ((chkC A.v A.N A.r) ≠ 0))))) ?_
   refine oq (qv_mv (.bool (decide ((chkC A.v A.N A.r) ≠ 0))) rfl) ?_
   by_cases g3 : (chkC A.v A.N A.r) ≠ 0
   ·
    refine os (want_fn g3 rfl rfl rfl) ?_
    refine os (want_fn g3 rfl rfl rfl) ?_
    refine os (want_fn g3 rfl rfl rfl) ?_
    refine oq (qv_pick_t g3 rfl (rfl : ev _ _ = (Value.bool true))) ?_
    refine oq (qv_mv (Value.bool true) rfl) ?_
    refine os (want_fnc rfl rfl rfl) ?_
    refine os (want_fnc rfl rfl rfl) ?_
    refine os (want_fnc rfl rfl rfl) ?_
    refine os (want_fnc rfl rfl rfl) ?_
    refine os (want_fnc rfl rfl rfl) ?_
    refine oq (qv_pick_tc rfl (rfl : ev _ _ = (Value.bool true))) ?_
    refine ops_nil ?_
    refine vc_tt rfl ?_
    refine vc_seq ?_
    refine vc_region ?_
    refine oq (qv_as (Value.bool true) rfl) ?_
    refine ops_nil ?_
    refine vc_ret ?_
    exact rq1 (Value.bool true) rfl rfl
   ·
    refine og (qv_ldm (vs := [(.int .i64 B.v), nb, (.int .i64 B.r)]) Try.agg24 rfl (inOc (k := 1) rfl) rfl rfl) (want_f g3 rfl rfl rfl) ?_
    refine og (qv_call (v := (.int .i64 (chkC B.v B.N B.r))) (check_c hB) rfl rfl) (want_f g3 rfl rfl rfl) ?_
    refine og (qv_neq rfl rfl) (want_f g3 rfl rfl rfl) ?_
    refine oq (qv_pick_f g3 rfl (rfl : ev _ _ = (.bool (decide ((chkC B.v B.N B.r) ≠ 0))))) ?_
    refine oq (qv_mv (.bool (decide ((chkC B.v B.N B.r) ≠ 0))) rfl) ?_
    by_cases g4 : (chkC B.v B.N B.r) ≠ 0
    ·
     refine os (want_fn g4 rfl rfl rfl) ?_
     refine os (want_fn g4 rfl rfl rfl) ?_
     refine os (want_fn g4 rfl rfl rfl) ?_
     refine os (want_fn g4 rfl rfl rfl) ?_
     refine os (want_fn g4 rfl rfl rfl) ?_
     refine oq (qv_pick_t g4 rfl (rfl : ev _ _ = (Value.bool true))) ?_
     refine ops_nil ?_
     refine vc_tt rfl ?_
     refine vc_seq ?_
     refine vc_region ?_
     refine oq (qv_as (Value.bool true) rfl) ?_
     refine ops_nil ?_
     refine vc_ret ?_
     exact rq1 (Value.bool true) rfl rfl
    ·
     refine og (qv_fa (off := 0) Try.field24_0 rfl) (want_f g4 rfl rfl rfl) ?_
     refine og (qv_ldp (v := (.int .i64 A.v)) Try.plain3 rfl (inOc (k := 0) rfl) rfl) (want_f g4 rfl rfl rfl) ?_
     refine og (qv_fa (off := 0) Try.field24_0 rfl) (want_f g4 rfl rfl rfl) ?_
     refine og (qv_ldp (v := (.int .i64 B.v)) Try.plain3 rfl (inOc (k := 1) rfl) rfl) (want_f g4 rfl rfl rfl) ?_
     refine og (qv_neq rfl rfl) (want_f g4 rfl rfl rfl) ?_
     refine oq (qv_pick_f g4 rfl (rfl : ev _ _ = (.bool (decide (A.v ≠ B.v))))) ?_
     refine ops_nil ?_
     refine vc_if rfl (fun c1 => ?_) (fun c1 => ?_)
     ·
      refine vc_seq ?_
      refine vc_region ?_
      refine oq (qv_as (Value.bool true) rfl) ?_
      refine ops_nil ?_
      refine vc_ret ?_
      exact rq1 (Value.bool true) rfl rfl
     ·
      refine vc_skip ?_
      refine vc_seq ?_
      refine vc_seq ?_
      refine vc_region ?_
      refine oq (qv_ldm (vs := [(.int .i64 A.v), na, (.int .i64 A.r)]) Try.agg24 rfl (inOc (k := 0) rfl) rfl rfl) ?_
      refine oq (qv_call (v := (.int .i64 (chkC A.v A.N A.r))) (Check_c hA) rfl rfl) ?_
      refine oq (qv_neq rfl rfl) ?_
      refine oq (qv_mv (.bool (decide ((chkC A.v A.N A.r) ≠ 0))) rfl) ?_
      refine og (qv_ldm (vs := [(.int .i64 B.v), nb, (.int .i64 B.r)]) Try.agg24 rfl (inOc (k := 1) rfl) rfl rfl) (want_f g3 rfl rfl rfl) ?_
      refine og (qv_call (v := (.int .i64 (chkC B.v B.N B.r))) (Check_c hB) rfl rfl) (want_f g3 rfl rfl rfl) ?_
      refine og (qv_neq rfl rfl) (want_f g3 rfl rfl rfl) ?_
      refine oq (qv_pick_f g3 rfl (rfl : ev _ _ = (.bool (decide ((chkC B.v B.N B.r) ≠ 0))))) ?_
      refine ops_nil ?_
      refine vc_if_f rfl g4 ?_
      refine vc_skip ?_
      refine vc_seq ?_
      have hokA : dOk A := chk_ok.1 (by omega)
      have hokB : dOk B := chk_ok.1 (by omega)
      have hvz := hokA.1.1
      have hve : A.v = B.v := by omega
      have hpw := pow2_12 (n := A.v.toNat) (by omega)
      refine vc_region ?_
      refine oq (qv_as (Value.bool true) rfl) ?_
      refine ops_nil ?_
      refine vc_seq ?_
      refine vc_seq ?_
      refine vc_region ?_
      refine oq (qv_fa (off := 0) Try.field24_0 rfl) ?_
      refine oq (qv_ldp (v := (.int .i64 A.v)) Try.plain3 rfl (inOc (k := 0) rfl) rfl) ?_
      refine oq (qv_call (v := (.int .i64 ((2 : Int) ^ A.v.toNat))) (power_c (by omega)) rfl rfl) ?_
      refine oq (qv_mv (Value.int .i64 0) rfl) ?_
      refine ops_nil ?_
      refine vc_block ?_
      refine vc_loop (α := Int) (fun (xx : Int) => [(0, (.agg #[(.int .i64 A.v), na, (.int .i64 A.r)])), (1, (.agg #[(.int .i64 B.v), nb, (.int .i64 B.r)])), (2, (Value.pointer (some ⟨b1, 0, none⟩))), (3, (Value.pointer (some ⟨b2, 0, none⟩))), (13, (Value.bool false)), (38, (.bool (decide (A.v ≠ B.v)))), (46, (.bool (decide ((chkC B.v B.N B.r) ≠ 0)))), (49, (.int .i64 ((2 : Int) ^ A.v.toNat))), (5, (.bool (decide (∀ j : Int, 0 ≤ j → j < xx → gA A (asg A.v j) = gA B (asg A.v j))))), (50, (Value.int .i64 xx))]) (fun (xx : Int) V' σ' => [(Arr 24 b1 [(.int .i64 A.v), na, (.int .i64 A.r)]), (Arr 24 b2 [(.int .i64 B.v), nb, (.int .i64 B.r)])] = σ' ∧ Fks V' na A.N ∧ Fks V' nb B.N ∧ 0 ≤ xx ∧ xx ≤ (2 : Int) ^ A.v.toNat) (fun (xx : Int) => ((2 : Int) ^ A.v.toNat - xx).toNat) (0) ?_ ?_ ?_
      · exact ⟨rfl, rfl, rfl, rfl, rfl, rfl, rfl, rfl, (congrArg Value.bool (decide_eq_true (show (∀ j : Int, 0 ≤ j → j < 0 → gA A (asg A.v j) = gA B (asg A.v j)) from by exact fun j a b => by omega)).symm), rfl, trivial⟩
      · exact ⟨rfl, hA, hB, by omega, by omega⟩
      rintro k e1 V0l σ0l hI0
      obtain ⟨rfl, hA, hB, i1, i2⟩ : [(Arr 24 b1 [(.int .i64 A.v), na, (.int .i64 A.r)]), (Arr 24 b2 [(.int .i64 B.v), nb, (.int .i64 B.r)])] = σ0l ∧ Fks V0l na A.N ∧ Fks V0l nb B.N ∧ 0 ≤ k ∧ k ≤ (2 : Int) ^ A.v.toNat := hI0
      refine vc_seq ?_
      refine vc_region ?_
      refine oq (qv_lss rfl rfl) ?_
      refine ops_nil ?_
      refine vc_seq ?_
      refine vc_if rfl (fun c2 => ?_) (fun c2 => ?_)
      ·
       refine vc_skip ?_
       refine vc_seq ?_
       refine vc_block ?_
       refine vc_seq ?_
       refine vc_region ?_
       refine oq (qv_mv (Value.int .i64 k) rfl) ?_
       refine oq (qv_as (Value.int .i64 k) rfl) ?_
       refine ops_nil ?_
       refine vc_seq ?_
       refine vc_region ?_
       refine oq (qv_fa (off := 0) Try.field24_0 rfl) ?_
       refine oq (qv_ldp (v := (.int .i64 A.v)) Try.plain3 rfl (inOc (k := 0) rfl) rfl) ?_
       refine oq (qv_mv (Value.int .i64 k) rfl) ?_
       refine ops_call (σa := []) (σr := [(Arr 24 b1 [(.int .i64 A.v), na, (.int .i64 A.r)]), (Arr 24 b2 [(.int .i64 B.v), nb, (.int .i64 B.r)])]) (assignment_c (by omega) (by omega) (by omega) (by omega)) rfl rfl (.refl _) (fun r1 V1 sg1 hV1 hp1 => ?_)
       obtain ⟨ba, rfl, rfl⟩ := hp1
       have hA := hA.mono hV1
       have hB := hB.mono hV1
       refine oq (qv_as (.slice (some ⟨ba, 0, none⟩) (A.v).toNat (A.v).toNat) rfl) ?_
       refine ops_nil ?_
       refine vc_seq ?_
       refine vc_res (σ' := [(Arr 4 ba (bvs (asL A.v k))), (Arr 24 b1 [(.int .i64 A.v), na, (.int .i64 A.r)]), (Arr 24 b2 [(.int .i64 B.v), nb, (.int .i64 B.r)])]) rfl ?_
       refine vc_freeze (b := ba) (o := .cells ((bvs (asL A.v k)) : List Value).toArray 4 (0, 0)) (σr := [(Arr 24 b1 [(Value.int .i64 (A.v)), na, (Value.int .i64 (A.r))]), (Arr 24 b2 [(Value.int .i64 (B.v)), nb, (Value.int .i64 (B.r))])]) (List.perm_middle (l₁ := []) (l₂ := [(Arr 24 b1 [(Value.int .i64 (A.v)), na, (Value.int .i64 (A.r))]), (Arr 24 b2 [(Value.int .i64 (B.v)), nb, (Value.int .i64 (B.r))])])) (fun Vf1 hVf1 hb1 => ?_)
       have hc1 : Cells Vf1 ba (bvs (asL A.v k)) := ⟨_, _, hb1⟩
       have hA := hA.mono hVf1
       have hB := hB.mono hVf1
       refine vc_region ?_
       refine oq (qv_ldm (vs := [(.int .i64 A.v), na, (.int .i64 A.r)]) Try.agg24 rfl (inOc (k := 0) rfl) rfl rfl) ?_
       refine oq (qv_mv (.slice (some ⟨ba, 0, none⟩) (A.v).toNat (A.v).toNat) rfl) ?_
       refine oq (qv_call (v := (.tuple #[(.bool (decide (evB A (asL A.v k) = true))), (.int .i64 (evE A (asL A.v k)))])) (Eval_c hA (bls_cells hc1 (asL_len _ _).symm (Nat.le_refl _) (by omega))) rfl rfl) ?_
       refine oq (qv_mv (.tuple #[(.bool (decide (evB A (asL A.v k) = true))), (.int .i64 (evE A (asL A.v k)))]) rfl) ?_
       refine oq (qv_ext (.bool (decide (evB A (asL A.v k) = true))) rfl rfl) ?_
       refine oq (qv_ext (.int .i64 (evE A (asL A.v k))) rfl rfl) ?_
       refine oq (qv_as (.bool (decide (evB A (asL A.v k) = true))) rfl) ?_
       refine oq (qv_as (.int .i64 (evE A (asL A.v k))) rfl) ?_
       refine ops_nil ?_
       refine vc_seq ?_
       refine vc_res (σ' := [(Arr 24 b1 [(.int .i64 A.v), na, (.int .i64 A.r)]), (Arr 24 b2 [(.int .i64 B.v), nb, (.int .i64 B.r)])]) rfl ?_
       refine vc_region ?_
       refine oq (qv_ldm (vs := [(.int .i64 B.v), nb, (.int .i64 B.r)]) Try.agg24 rfl (inOc (k := 1) rfl) rfl rfl) ?_
       refine oq (qv_mv (.slice (some ⟨ba, 0, none⟩) (A.v).toNat (A.v).toNat) rfl) ?_
       refine oq (qv_call (v := (.tuple #[(.bool (decide (evB B (asL A.v k) = true))), (.int .i64 (evE B (asL A.v k)))])) (Eval_c hB (bls_cells hc1 (asL_len _ _).symm (Nat.le_refl _) (by omega))) rfl rfl) ?_
       refine oq (qv_mv (.tuple #[(.bool (decide (evB B (asL A.v k) = true))), (.int .i64 (evE B (asL A.v k)))]) rfl) ?_
       refine oq (qv_ext (.bool (decide (evB B (asL A.v k) = true))) rfl rfl) ?_
       refine oq (qv_ext (.int .i64 (evE B (asL A.v k))) rfl rfl) ?_
       refine oq (qv_as (.bool (decide (evB B (asL A.v k) = true))) rfl) ?_
       refine oq (qv_as (.int .i64 (evE B (asL A.v k))) rfl) ?_
       refine ops_nil ?_
       refine vc_seq ?_
       refine vc_seq ?_
       have he1 := ev_0 (A := A) (L := asL A.v k) (vE1 hokA) (by rw [asL_len]; omega)
       have he2 := ev_0 (A := B) (L := asL A.v k) (vE1 hokB) (by rw [asL_len]; omega)
       refine vc_region ?_
       refine oq (qv_mv (.int .i64 (evE A (asL A.v k))) rfl) ?_
       refine oq (qv_neq rfl rfl) ?_
       refine oq (qv_mv (.bool (decide ((evE A (asL A.v k)) ≠ 0))) rfl) ?_
       by_cases g5 : (evE A (asL A.v k)) ≠ 0
       ·
        exact absurd he1.1 g5
       ·
        refine og (qv_mv (.int .i64 (evE B (asL A.v k))) rfl) (want_f g5 rfl rfl rfl) ?_
        refine og (qv_neq rfl rfl) (want_f g5 rfl rfl rfl) ?_
        refine oq (qv_pick_f g5 rfl (rfl : ev _ _ = (.bool (decide ((evE B (asL A.v k)) ≠ 0))))) ?_
        refine ops_nil ?_
        refine vc_if rfl (fun c3 => ?_) (fun c3 => ?_)
        ·
         exact absurd he2.1 c3
        ·
         refine vc_skip ?_
         have hpk : ((evB A (asL A.v k) = true) ↔ (evB B (asL A.v k) = true)) ↔ gA A (asg A.v k) = gA B (asg A.v k) := by rw [he1.2, he2.2, gA_asL hokA rfl, gA_asL hokB hve.symm]; exact Bool.eq_iff_iff.symm
         refine vc_region ?_
         refine oq (qv_mv (.bool (decide (∀ j : Int, 0 ≤ j → j < k → gA A (asg A.v j) = gA B (asg A.v j)))) rfl) ?_
         refine oq (qv_mv (.bool (decide (∀ j : Int, 0 ≤ j → j < k → gA A (asg A.v j) = gA B (asg A.v j)))) rfl) ?_
         by_cases g6 : ∀ j : Int, 0 ≤ j → j < k → gA A (asg A.v j) = gA B (asg A.v j)
         ·
          refine og (qv_mv (.bool (decide (evB A (asL A.v k) = true))) rfl) (want_t g6 rfl rfl rfl) ?_
          refine og (qv_mv (.bool (decide (evB B (asL A.v k) = true))) rfl) (want_t g6 rfl rfl rfl) ?_
          refine og (qv_iffb Try.underlying4 rfl rfl) (want_t g6 rfl rfl rfl) ?_
          refine oq (qv_pick_t g6 rfl (rfl : ev _ _ = (.bool (decide ((evB A (asL A.v k) = true) ↔ (evB B (asL A.v k) = true)))))) ?_
          refine oq (qv_as (.bool (decide ((evB A (asL A.v k) = true) ↔ (evB B (asL A.v k) = true)))) rfl) ?_
          refine ops_nil ?_
          refine vc_region ?_
          refine oq (qv_add rfl rfl (by omega)) ?_
          refine oq (qv_mv (.int .i64 (k + 1)) rfl) ?_
          refine ops_nil ?_
          refine ⟨(k + 1), ⟨rfl, rfl, rfl, rfl, rfl, rfl, rfl, rfl, (congrArg Value.bool (decide_eq_decide.2 (show ((evB A (asL A.v k) = true) ↔ (evB B (asL A.v k) = true)) ↔ (∀ j : Int, 0 ≤ j → j < (k + 1) → gA A (asg A.v j) = gA B (asg A.v j)) from by exact hpk.trans (all_step' (P := fun j => gA A (asg A.v j) = gA B (asg A.v j)) g6 (by omega))))), (congrArg (Value.int .i64) (show (k + 1) = ((k + 1)) from by omega)), trivial⟩, ⟨rfl, hA, hB, by omega, by omega⟩, by omega⟩
         ·
          refine os (want_tn g6 rfl rfl rfl) ?_
          refine os (want_tn g6 rfl rfl rfl) ?_
          refine os (want_tn g6 rfl rfl rfl) ?_
          refine oq (qv_pick_f g6 rfl (rfl : ev _ _ = (Value.bool false))) ?_
          refine oq (qv_as (Value.bool false) rfl) ?_
          refine ops_nil ?_
          refine vc_region ?_
          refine oq (qv_add rfl rfl (by omega)) ?_
          refine oq (qv_mv (.int .i64 (k + 1)) rfl) ?_
          refine ops_nil ?_
          refine ⟨(k + 1), ⟨rfl, rfl, rfl, rfl, rfl, rfl, rfl, rfl, (congrArg Value.bool (decide_eq_false (show ¬ (∀ j : Int, 0 ≤ j → j < (k + 1) → gA A (asg A.v j) = gA B (asg A.v j)) from by exact all_no (P := fun j => gA A (asg A.v j) = gA B (asg A.v j)) g6)).symm), (congrArg (Value.int .i64) (show (k + 1) = ((k + 1)) from by omega)), trivial⟩, ⟨rfl, hA, hB, by omega, by omega⟩, by omega⟩
      ·
       refine vc_exit ?_
       refine blockQ_hit ?_
       refine vc_seq ?_
       refine vc_region ?_
       refine oq (qv_mv (.bool (decide (∀ j : Int, 0 ≤ j → j < k → gA A (asg A.v j) = gA B (asg A.v j)))) rfl) ?_
       refine oq (qv_ldm (vs := [(.int .i64 A.v), na, (.int .i64 A.r)]) Try.agg24 rfl (inOc (k := 0) rfl) rfl rfl) ?_
       refine oq (qv_ldm (vs := [(.int .i64 B.v), nb, (.int .i64 B.r)]) Try.agg24 rfl (inOc (k := 1) rfl) rfl rfl) ?_
       refine oq (qv_call (v := (.bool (decide (A = B)))) (same_c (A := (A)) (B := B) hA (hB)) rfl rfl) ?_
       refine oq (qv_iffb Try.underlying4 rfl rfl) ?_
       refine oq (qv_as (.bool (decide ((∀ j : Int, 0 ≤ j → j < k → gA A (asg A.v j) = gA B (asg A.v j)) ↔ (A = B)))) rfl) ?_
       refine ops_nil ?_
       refine vc_ret ?_
       exact rq1 (Value.bool true) (congrArg Value.bool (decide_eq_true (show ((∀ j : Int, 0 ≤ j → j < k → gA A (asg A.v j) = gA B (asg A.v j)) ↔ (A = B)) from by exact canon_law hokA hokB hve (by omega)))) rfl

end Go.Proofs.Ytgehdgeiikjohaa
