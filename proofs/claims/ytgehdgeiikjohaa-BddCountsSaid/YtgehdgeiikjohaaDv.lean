/- Walks of bdd: what each function returns. Printed by a program out of notes. -/
import Derived.Test.YtgehdgeiikjohaaBv
import Derived.Test.YtgehdgeiikjohaaBo
import Derived.Test.YtgehdgeiikjohaaDs
import Derived.Test.YtgehdgeiikjohaaDu
namespace Go.Proofs.Ytgehdgeiikjohaa
open Go.Vc
open Classical

set_option maxRecDepth 100000 in
set_option maxHeartbeats 4000000 in
theorem Counts_c {V : HV} {na : Value} {A : Dg} (hA : Fks V na A.N) {L : List Bool} {lv : Value} (hL : Bls V lv L) :
    FnC Try.prog 12 [(.agg #[(.int .i64 A.v), na, (.int .i64 A.r)]), lv] V [] (fun v _ _ => v = (Value.bool true)) := by
 refine fn_intro (N := 182) Try.func12 (by kernel_rfl) rfl rfl rfl (Nat.le_of_ble_eq_true rfl) ?_
 intro w0 D
 have hb := SlS.bound hA
 have hb2 := hL.bound
 refine vc_seq ?_
 refine vc_region ?_
 refine ops_box (v := (.agg #[(.int .i64 A.v), na, (.int .i64 A.r)])) (cs := [(.int .i64 A.v), na, (.int .i64 A.r)]) rfl rfl (fun b1 => ?_)
 refine oq (qv_as (Value.bool false) rfl) ?_
 refine ops_nil ?_
 refine vc_seq ?_
 refine vc_seq ?_
 refine vc_res (σ' := [(Arr 24 b1 [(.int .i64 A.v), na, (.int .i64 A.r)])]) rfl ?_
 refine vc_region ?_
 refine oq (qv_call (v := (Value.bool true)) (known_c) rfl rfl) ?_
 refine oq (qv_notc rfl) ?_
 refine ops_nil ?_
 refine vc_ff rfl ?_
 refine vc_skip ?_
 refine vc_seq ?_
 refine vc_seq ?_
 refine vc_region ?_
 refine oq (qv_ldm (vs := [(.int .i64 A.v), na, (.int .i64 A.r)]) Try.agg24 rfl (inOc (k := 0) rfl) rfl rfl) ?_
 refine oq (qv_call (v := (.bool (decide (A.v ≤ 7 ∧ A.N.length ≤ 130)))) (few_c hA) rfl rfl) ?_
 refine oq (qv_not rfl) ?_
 refine oq (qv_mv (.bool (decide (¬ (A.v ≤ 7 ∧ A.N.length ≤ 130)))) rfl) ?_
 by_cases g1 : ¬ (A.v ≤ 7 ∧ A.N.length ≤ 130)
 ·
  refine os (want_fn g1 rfl rfl rfl) ?_
  refine os (want_fn g1 rfl rfl rfl) ?_
  refine os (want_fn g1 rfl rfl rfl) ?_
  refine oq (qv_pick_t g1 rfl (rfl : ev _ _ = (Value.bool true))) ?_
  refine ops_nil ?_
  refine vc_tt rfl ?_
  refine vc_seq ?_
  refine vc_region ?_
  refine oq (qv_as (Value.bool true) rfl) ?_
  refine ops_nil ?_
  refine vc_ret ?_
  exact rq1 (Value.bool true) rfl rfl
 ·
  refine og (qv_mv lv rfl) (want_f g1 rfl rfl rfl) ?_
  refine og (qv_lenB Try.underlying34 rfl hL) (want_f g1 rfl rfl rfl) ?_
  refine og (qv_gtr rfl rfl) (want_f g1 rfl rfl rfl) ?_
  refine oq (qv_pick_f g1 rfl (rfl : ev _ _ = (.bool (decide (20 < ((L.length : Int))))))) ?_
  refine ops_nil ?_
  refine vc_if rfl (fun c1 => ?_) (fun c1 => ?_)
  ·
   refine vc_seq ?_
   refine vc_region ?_
   refine oq (qv_as (Value.bool true) rfl) ?_
   refine ops_nil ?_
   refine vc_ret ?_
   exact rq1 (Value.bool true) rfl rfl
  ·
   refine vc_skip ?_
   refine vc_seq ?_
   refine vc_region ?_
   refine oq (qv_ldm (vs := [(.int .i64 A.v), na, (.int .i64 A.r)]) Try.agg24 rfl (inOc (k := 0) rfl) rfl rfl) ?_
   refine oq (qv_mv lv rfl) ?_
   refine oq (qv_call (v := (.tuple #[(.bool (decide (evB A L = true))), (.int .i64 (evE A L))])) (Eval_c hA hL) rfl rfl) ?_
   refine oq (qv_mv (.tuple #[(.bool (decide (evB A L = true))), (.int .i64 (evE A L))]) rfl) ?_
   refine oq (qv_ext (.bool (decide (evB A L = true))) rfl rfl) ?_
   refine oq (qv_ext (.int .i64 (evE A L)) rfl rfl) ?_
   refine oq (qv_as (.bool (decide (evB A L = true))) rfl) ?_
   refine oq (qv_as (.int .i64 (evE A L)) rfl) ?_
   refine ops_nil ?_
   refine vc_seq ?_
   refine vc_region ?_
   refine oq (qv_ldm (vs := [(.int .i64 A.v), na, (.int .i64 A.r)]) Try.agg24 rfl (inOc (k := 0) rfl) rfl rfl) ?_
   refine ops_call (σa := []) (σr := [(Arr 24 b1 [(.int .i64 A.v), na, (.int .i64 A.r)])]) (Count_c hA) rfl rfl (.refl _) (fun r1 V1 sg1 hV1 hp1 => ?_)
   obtain ⟨rfl, rfl⟩ := hp1
   have hA := hA.mono hV1
   have hL := hL.mono hV1
   refine oq (qv_mv (.tuple #[(.int .i64 (cnN A)), (.int .i64 (vE [A]))]) rfl) ?_
   refine oq (qv_ext (.int .i64 (cnN A)) rfl rfl) ?_
   refine oq (qv_ext (.int .i64 (vE [A])) rfl rfl) ?_
   refine oq (qv_as (.int .i64 (cnN A)) rfl) ?_
   refine oq (qv_as (.int .i64 (vE [A])) rfl) ?_
   refine ops_nil ?_
   refine vc_seq ?_
   refine vc_region ?_
   refine oq (qv_ldm (vs := [(.int .i64 A.v), na, (.int .i64 A.r)]) Try.agg24 rfl (inOc (k := 0) rfl) rfl rfl) ?_
   refine ops_call (σa := []) (σr := [(Arr 24 b1 [(.int .i64 A.v), na, (.int .i64 A.r)])]) (First_c hA) rfl rfl (.refl _) (fun r2 V2 sg2 hV2 hp2 => ?_)
   obtain ⟨rfl, uF, rfl, hF⟩ := hp2
   have hA := hA.mono hV2
   have hL := hL.mono hV2
   refine oq (qv_mv (.tuple #[uF, (.int .i64 (fiE A))]) rfl) ?_
   refine oq (qv_ext uF rfl rfl) ?_
   refine oq (qv_ext (.int .i64 (fiE A)) rfl rfl) ?_
   refine oq (qv_as uF rfl) ?_
   refine oq (qv_as (.int .i64 (fiE A)) rfl) ?_
   refine ops_nil ?_
   refine vc_seq ?_
   refine vc_region ?_
   refine oq (qv_ldm (vs := [(.int .i64 A.v), na, (.int .i64 A.r)]) Try.agg24 rfl (inOc (k := 0) rfl) rfl rfl) ?_
   refine ops_call (σa := []) (σr := [(Arr 24 b1 [(.int .i64 A.v), na, (.int .i64 A.r)])]) (Support_c hA) rfl rfl (.refl _) (fun r3 V3 sg3 hV3 hp3 => ?_)
   obtain ⟨rfl, uS, rfl, hS⟩ := hp3
   have hA := hA.mono hV3
   have hL := hL.mono hV3
   have hF := hF.mono hV3
   refine oq (qv_mv (.tuple #[uS, (.int .i64 (vE [A]))]) rfl) ?_
   refine oq (qv_ext uS rfl rfl) ?_
   refine oq (qv_ext (.int .i64 (vE [A])) rfl rfl) ?_
   refine oq (qv_as uS rfl) ?_
   refine oq (qv_as (.int .i64 (vE [A])) rfl) ?_
   refine ops_nil ?_
   refine vc_seq ?_
   refine vc_seq ?_
   refine vc_region ?_
   refine oq (qv_ldm (vs := [(.int .i64 A.v), na, (.int .i64 A.r)]) Try.agg24 rfl (inOc (k := 0) rfl) rfl rfl) ?_
   refine oq (qv_call (v := (.int .i64 (chkC A.v A.N A.r))) (check_c hA) rfl rfl) ?_
   refine oq (qv_neq rfl rfl) ?_
   refine ops_nil ?_
   refine vc_if rfl (fun c2 => ?_) (fun c2 => ?_)
   ·
    refine vc_seq ?_
    have hv1 := vE1_1 (A := A) (by omega)
    have hev := ev_v (A := A) (L := L) (by omega)
    have hcn := cnN_n (A := A) (by omega)
    have hfi := fi_v (A := A) (by omega)
    have hsu := su_n (A := A) (by omega)
    refine vc_region ?_
    refine oq (qv_mv (.int .i64 (evE A L)) rfl) ?_
    refine oq (qv_eql rfl rfl) ?_
    refine oq (qv_mv (.bool (decide ((evE A L) = 1))) rfl) ?_
    by_cases g2 : (evE A L) = 1
    ·
     refine og (qv_mv (.int .i64 (vE [A])) rfl) (want_t g2 rfl rfl rfl) ?_
     refine og (qv_eql rfl rfl) (want_t g2 rfl rfl rfl) ?_
     refine oq (qv_pick_t g2 rfl (rfl : ev _ _ = (.bool (decide ((vE [A]) = 1))))) ?_
     refine oq (qv_mv (.bool (decide ((vE [A]) = 1))) rfl) ?_
     by_cases g3 : (vE [A]) = 1
     ·
      refine og (qv_mv (.int .i64 (fiE A)) rfl) (want_t g3 rfl rfl rfl) ?_
      refine og (qv_eql rfl rfl) (want_t g3 rfl rfl rfl) ?_
      refine oq (qv_pick_t g3 rfl (rfl : ev _ _ = (.bool (decide ((fiE A) = 1))))) ?_
      refine oq (qv_mv (.bool (decide ((fiE A) = 1))) rfl) ?_
      by_cases g4 : (fiE A) = 1
      ·
       refine og (qv_mv (.int .i64 (vE [A])) rfl) (want_t g4 rfl rfl rfl) ?_
       refine og (qv_eql rfl rfl) (want_t g4 rfl rfl rfl) ?_
       refine oq (qv_pick_t g4 rfl (rfl : ev _ _ = (.bool (decide ((vE [A]) = 1))))) ?_
       refine oq (qv_mv (.bool (decide ((vE [A]) = 1))) rfl) ?_
       refine og (qv_mv (.bool (decide (evB A L = true))) rfl) (want_t g3 rfl rfl rfl) ?_
       refine og (qv_not rfl) (want_t g3 rfl rfl rfl) ?_
       refine oq (qv_pick_t g3 rfl (rfl : ev _ _ = (.bool (decide (¬ (evB A L = true)))))) ?_
       refine oq (qv_mv (.bool (decide (¬ (evB A L = true)))) rfl) ?_
       by_cases g5 : ¬ (evB A L = true)
       ·
        refine og (qv_mv (.int .i64 (cnN A)) rfl) (want_t g5 rfl rfl rfl) ?_
        refine og (qv_eql rfl rfl) (want_t g5 rfl rfl rfl) ?_
        refine oq (qv_pick_t g5 rfl (rfl : ev _ _ = (.bool (decide ((cnN A) = 0))))) ?_
        refine oq (qv_mv (.bool (decide ((cnN A) = 0))) rfl) ?_
        by_cases g6 : (cnN A) = 0
        ·
         refine og (qv_mv uF rfl) (want_t g6 rfl rfl rfl) ?_
         refine og (qv_lenB Try.underlying34 rfl hF) (want_t g6 rfl rfl rfl) ?_
         refine og (qv_eql rfl rfl) (want_t g6 rfl rfl rfl) ?_
         refine oq (qv_pick_t g6 rfl (rfl : ev _ _ = (.bool (decide ((((fiT A).length : Int)) = 0))))) ?_
         refine oq (qv_mv (.bool (decide ((((fiT A).length : Int)) = 0))) rfl) ?_
         by_cases g7 : (((fiT A).length : Int)) = 0
         ·
          refine og (qv_mv uS rfl) (want_t g7 rfl rfl rfl) ?_
          refine og (qv_lenI Try.underlying58 rfl hS) (want_t g7 rfl rfl rfl) ?_
          refine og (qv_eql rfl rfl) (want_t g7 rfl rfl rfl) ?_
          refine oq (qv_pick_t g7 rfl (rfl : ev _ _ = (.bool (decide ((((suT A).length : Int)) = 0))))) ?_
          refine oq (qv_as (.bool (decide ((((suT A).length : Int)) = 0))) rfl) ?_
          refine ops_nil ?_
          refine vc_ret ?_
          exact rq1 (Value.bool true) (congrArg Value.bool (decide_eq_true (show ((((suT A).length : Int)) = 0) from by rw [hsu]; rfl))) rfl
         ·
          exact absurd (by rw [hfi.2]; rfl) g7
        ·
         exact absurd hcn g6
       ·
        exact absurd (fun z => by rw [hev.2] at z; cases z) g5
      ·
       exact absurd (hfi.1.trans hv1) g4
     ·
      exact absurd hv1 g3
    ·
     exact absurd (hev.1.trans hv1) g2
   ·
    refine vc_skip ?_
    refine vc_seq ?_
    have hokA : dOk A := chk_ok.1 (by omega)
    have hz1 := vE1 hokA
    have hvz := hokA.1.1
    have hpw := pow2_12 (n := A.v.toNat) (by omega)
    have hl1 := tbl_lenI A.v (gA A)
    have htr : ∀ k, 0 ≤ trN A k ∧ trN A k ≤ (tbl A.v (gA A)).length := fun k => trN_bd
    refine vc_region ?_
    refine oq (qv_ldm (vs := [(.int .i64 A.v), na, (.int .i64 A.r)]) Try.agg24 rfl (inOc (k := 0) rfl) rfl rfl) ?_
    refine ops_call (σa := []) (σr := [(Arr 24 b1 [(.int .i64 A.v), na, (.int .i64 A.r)])]) (by have h := table_c (A := A) hA hokA (by omega); rw [tbD_v rfl] at h; exact h) rfl rfl (.refl _) (fun r4 V4 sg4 hV4 hp4 => ?_)
    obtain ⟨rfl, hT⟩ := hp4
    have hA := hA.mono hV4
    have hL := hL.mono hV4
    have hF := hF.mono hV4
    have hS := hS.mono hV4
    refine oq (qv_as r4 rfl) ?_
    refine ops_nil ?_
    refine vc_seq ?_
    refine vc_region ?_
    refine oq (qv_as (Value.int .i64 0) rfl) ?_
    refine oq (qv_as (.int .i64 ((-1))) rfl) ?_
    refine ops_nil ?_
    refine vc_seq ?_
    refine vc_seq ?_
    refine vc_region ?_
    refine oq (qv_mv r4 rfl) ?_
    refine oq (qv_lenB Try.underlying34 rfl hT) ?_
    refine oq (qv_mv (Value.int .i64 0) rfl) ?_
    refine ops_nil ?_
    refine vc_block ?_
    refine vc_loop (α := Int) (fun (xx : Int) => [(0, (.agg #[(.int .i64 A.v), na, (.int .i64 A.r)])), (1, lv), (2, (Value.pointer (some ⟨b1, 0, none⟩))), (4, (Value.bool false)), (5, (.bool (decide (evB A L = true)))), (6, (.int .i64 (evE A L))), (7, (.int .i64 (cnN A))), (8, (.int .i64 (vE [A]))), (9, uF), (10, (.int .i64 (fiE A))), (11, uS), (12, (.int .i64 (vE [A]))), (13, r4), (20, (Value.bool false)), (28, (.bool (decide (20 < ((L.length : Int)))))), (52, (.bool (decide ((chkC A.v A.N A.r) ≠ 0)))), (88, (.int .i64 (((tbl A.v (gA A)).length : Int)))), (14, (.int .i64 (trN A xx))), (15, (.int .i64 (lsN A xx))), (89, (Value.int .i64 xx))]) (fun (xx : Int) V' σ' => V4 = V' ∧ [(Arr 24 b1 [(.int .i64 A.v), na, (.int .i64 A.r)])] = σ' ∧ 0 ≤ xx ∧ xx ≤ (2 : Int) ^ A.v.toNat) (fun (xx : Int) => ((2 : Int) ^ A.v.toNat - xx).toNat) (0) ?_ ?_ ?_
    · exact ⟨rfl, rfl, rfl, rfl, rfl, rfl, rfl, rfl, rfl, rfl, rfl, rfl, rfl, rfl, rfl, rfl, rfl, (congrArg (Value.int .i64) (show 0 = (trN A 0) from by rfl)), (congrArg (Value.int .i64) (show ((-1)) = (lsN A 0) from by rfl)), rfl, trivial⟩
    · exact ⟨rfl, rfl, by omega, by omega⟩
    rintro k e1 V0l σ0l hI0
    obtain ⟨rfl, rfl, i1, i2⟩ : V4 = V0l ∧ [(Arr 24 b1 [(.int .i64 A.v), na, (.int .i64 A.r)])] = σ0l ∧ 0 ≤ k ∧ k ≤ (2 : Int) ^ A.v.toNat := hI0
    refine vc_seq ?_
    refine vc_region ?_
    refine oq (qv_lss rfl rfl) ?_
    refine ops_nil ?_
    refine vc_seq ?_
    refine vc_if rfl (fun c3 => ?_) (fun c3 => ?_)
    ·
     refine vc_skip ?_
     refine vc_seq ?_
     refine vc_block ?_
     refine vc_seq ?_
     refine vc_region ?_
     refine oq (qv_mv (Value.int .i64 k) rfl) ?_
     refine oq (qv_as (Value.int .i64 k) rfl) ?_
     refine ops_nil ?_
     refine vc_seq ?_
     refine vc_region ?_
     refine oq (qv_mv r4 rfl) ?_
     refine oq (qv_mv (Value.int .i64 k) rfl) ?_
     refine oq (qv_iab (v := r4) (i := k) Try.underlying34 Try.size4 rfl (inVb hT) rfl (by omega) (by omega)) ?_
     refine oq (qv_ldb (v := r4) (i := k) Try.plain4 rfl (inVb hT) (by omega) (by omega)) ?_
     refine ops_nil ?_
     refine vc_if rfl (fun c4 => ?_) (fun c4 => ?_)
     ·
      refine vc_seq ?_
      have htk := htr k
      refine vc_region ?_
      refine oq (qv_mv (.int .i64 (trN A k)) rfl) ?_
      refine oq (qv_add rfl rfl (by omega)) ?_
      refine oq (qv_as (.int .i64 ((trN A k) + 1)) rfl) ?_
      refine ops_nil ?_
      refine vc_seq ?_
      refine vc_region ?_
      refine oq (qv_mv (.int .i64 (lsN A k)) rfl) ?_
      refine oq (qv_lss rfl rfl) ?_
      refine ops_nil ?_
      refine vc_if rfl (fun c5 => ?_) (fun c5 => ?_)
      ·
       refine vc_region ?_
       refine oq (qv_mv (Value.int .i64 k) rfl) ?_
       refine oq (qv_as (Value.int .i64 k) rfl) ?_
       refine ops_nil ?_
       refine vc_region ?_
       refine oq (qv_add rfl rfl (by omega)) ?_
       refine oq (qv_mv (.int .i64 (k + 1)) rfl) ?_
       refine ops_nil ?_
       refine ⟨(k + 1), ⟨rfl, rfl, rfl, rfl, rfl, rfl, rfl, rfl, rfl, rfl, rfl, rfl, rfl, rfl, rfl, rfl, rfl, (congrArg (Value.int .i64) (show ((trN A k) + 1) = (trN A (k + 1)) from by rw [trN_step (by omega) (by omega), if_pos c4])), (congrArg (Value.int .i64) (show k = (lsN A (k + 1)) from by rw [ls_step (by omega)]; rw [if_neg (by omega), if_pos c4])), (congrArg (Value.int .i64) (show (k + 1) = ((k + 1)) from by rfl)), trivial⟩, ⟨rfl, rfl, by omega, by omega⟩, by omega⟩
      ·
       refine vc_skip ?_
       refine vc_region ?_
       refine oq (qv_add rfl rfl (by omega)) ?_
       refine oq (qv_mv (.int .i64 (k + 1)) rfl) ?_
       refine ops_nil ?_
       refine ⟨(k + 1), ⟨rfl, rfl, rfl, rfl, rfl, rfl, rfl, rfl, rfl, rfl, rfl, rfl, rfl, rfl, rfl, rfl, rfl, (congrArg (Value.int .i64) (show ((trN A k) + 1) = (trN A (k + 1)) from by rw [trN_step (by omega) (by omega), if_pos c4])), (congrArg (Value.int .i64) (show (lsN A k) = (lsN A (k + 1)) from by rw [ls_step (by omega)]; rw [if_pos (by omega)])), (congrArg (Value.int .i64) (show (k + 1) = ((k + 1)) from by rfl)), trivial⟩, ⟨rfl, rfl, by omega, by omega⟩, by omega⟩
     ·
      refine vc_skip ?_
      refine vc_region ?_
      refine oq (qv_add rfl rfl (by omega)) ?_
      refine oq (qv_mv (.int .i64 (k + 1)) rfl) ?_
      refine ops_nil ?_
      refine ⟨(k + 1), ⟨rfl, rfl, rfl, rfl, rfl, rfl, rfl, rfl, rfl, rfl, rfl, rfl, rfl, rfl, rfl, rfl, rfl, (congrArg (Value.int .i64) (show (trN A k) = (trN A (k + 1)) from by rw [trN_step (by omega) (by omega), if_neg c4]; omega)), (congrArg (Value.int .i64) (show (lsN A k) = (lsN A (k + 1)) from by rw [ls_step (by omega)]; by_cases c9 : 0 ≤ lsN A k; rw [if_pos c9]; rw [if_neg c9, if_neg c4]; exact (ls_neg c9).1)), (congrArg (Value.int .i64) (show (k + 1) = ((k + 1)) from by rfl)), trivial⟩, ⟨rfl, rfl, by omega, by omega⟩, by omega⟩
    ·
     refine vc_exit ?_
     refine blockQ_hit ?_
     refine vc_seq ?_
     refine vc_region ?_
     refine ops_lit (n := 0) (s := 1) (cs := []) Try.underlying58 Try.ti3 (Nat.le_of_ble_eq_true rfl) rfl rfl rfl (Nat.le_of_ble_eq_true rfl) rfl (fun b2 => ?_)
     refine oq (qv_as (.slice (some ⟨b2, 0, none⟩) 0 0) rfl) ?_
     refine ops_nil ?_
     refine vc_seq ?_
     refine vc_seq ?_
     refine vc_res (σ' := [(Arr 24 b1 [(.int .i64 A.v), na, (.int .i64 A.r)]), (Arr 3 b2 [])]) rfl ?_
     refine vc_region ?_
     refine ops_to_gr (k := 1) (b := b2) (n := 0) (cap := 0) (cs := #[]) 1 [] rfl rfl (Nat.le_refl _) (Nat.zero_le _) rfl rfl ?_
     refine oq (qv_fa (off := 0) Try.field24_0 rfl) ?_
     refine oq (qv_ldp (v := (.int .i64 A.v)) Try.plain3 rfl (inOc (k := 0) rfl) rfl) ?_
     refine oq (qv_mv (Value.int .i64 0) rfl) ?_
     refine ops_nil ?_
     refine vc_block ?_
     refine vc_loop (α := Int × Value) (fun (xx : Int × Value) => [(0, (.agg #[(.int .i64 A.v), na, (.int .i64 A.r)])), (1, lv), (2, (Value.pointer (some ⟨b1, 0, none⟩))), (4, (Value.bool false)), (5, (.bool (decide (evB A L = true)))), (6, (.int .i64 (evE A L))), (7, (.int .i64 (cnN A))), (8, (.int .i64 (vE [A]))), (9, uF), (10, (.int .i64 (fiE A))), (11, uS), (12, (.int .i64 (vE [A]))), (13, r4), (14, (.int .i64 (trN A k))), (15, (.int .i64 (lsN A k))), (20, (Value.bool false)), (28, (.bool (decide (20 < ((L.length : Int)))))), (52, (.bool (decide ((chkC A.v A.N A.r) ≠ 0)))), (88, (.int .i64 (((tbl A.v (gA A)).length : Int)))), (89, (Value.int .i64 k)), (90, (.bool (decide (k < (((tbl A.v (gA A)).length : Int)))))), (104, (.int .i64 A.v)), (17, xx.2), (105, (Value.int .i64 xx.1))]) (fun (xx : Int × Value) V' σ' => [(Arr 24 b1 [(.int .i64 A.v), na, (.int .i64 A.r)]), (Gr 3 1 xx.2 ((supN (SuP A) xx.1.toNat).length) (((supN (SuP A) xx.1.toNat).map (Value.int .i64))))] = σ' ∧ Fks V' na A.N ∧ Bls V' lv L ∧ Bls V' uF (fiT A) ∧ Ints .i64 V' uS (suT A) ∧ Bls V' r4 (tbl A.v (gA A)) ∧ 0 ≤ xx.1 ∧ xx.1 ≤ A.v) (fun (xx : Int × Value) => (A.v - xx.1).toNat) (0, (.slice (some ⟨b2, 0, none⟩) 0 0)) ?_ ?_ ?_
     · exact ⟨rfl, rfl, rfl, rfl, rfl, rfl, rfl, rfl, rfl, rfl, rfl, rfl, rfl, rfl, rfl, rfl, rfl, rfl, rfl, rfl, rfl, rfl, (by first | rfl | (first | omega | simp)), rfl, trivial⟩
     · exact ⟨(show [(Arr 24 b1 [(.int .i64 A.v), na, (.int .i64 A.r)]), (Gr 3 1 ((.slice (some ⟨b2, 0, none⟩) 0 0)) ((supN (SuP A) (0 : Int).toNat).length) (((supN (SuP A) (0 : Int).toNat).map (Value.int .i64))))] = [(Arr 24 b1 [(.int .i64 A.v), na, (.int .i64 A.r)]), (Gr 3 1 ((.slice (some ⟨b2, 0, none⟩) 0 0)) 0 ([]))] from by rfl), hA, hL, hF, hS, hT, by omega, by omega⟩
     rintro ⟨i, u⟩ e2 V1l σ1l hI1
     obtain ⟨rfl, hA, hL, hF, hS, hT, i3, i4⟩ : [(Arr 24 b1 [(.int .i64 A.v), na, (.int .i64 A.r)]), (Gr 3 1 u ((supN (SuP A) i.toNat).length) (((supN (SuP A) i.toNat).map (Value.int .i64))))] = σ1l ∧ Fks V1l na A.N ∧ Bls V1l lv L ∧ Bls V1l uF (fiT A) ∧ Ints .i64 V1l uS (suT A) ∧ Bls V1l r4 (tbl A.v (gA A)) ∧ 0 ≤ i ∧ i ≤ A.v := hI1
     change VC _ _ _ _ _ _ (upds 182 [(0, (.agg #[(.int .i64 A.v), na, (.int .i64 A.r)])), (1, lv), (2, (Value.pointer (some ⟨b1, 0, none⟩))), (4, (Value.bool false)), (5, (.bool (decide (evB A L = true)))), (6, (.int .i64 (evE A L))), (7, (.int .i64 (cnN A))), (8, (.int .i64 (vE [A]))), (9, uF), (10, (.int .i64 (fiE A))), (11, uS), (12, (.int .i64 (vE [A]))), (13, r4), (14, (.int .i64 (trN A k))), (15, (.int .i64 (lsN A k))), (20, (Value.bool false)), (28, (.bool (decide (20 < ((L.length : Int)))))), (52, (.bool (decide ((chkC A.v A.N A.r) ≠ 0)))), (88, (.int .i64 (((tbl A.v (gA A)).length : Int)))), (89, (Value.int .i64 k)), (90, (.bool (decide (k < (((tbl A.v (gA A)).length : Int)))))), (104, (.int .i64 A.v)), (17, u), (105, (Value.int .i64 i))] e2) _ _
     refine vc_seq ?_
     refine vc_res (σ' := [(Arr 24 b1 [(.int .i64 A.v), na, (.int .i64 A.r)]), (Gr 3 1 u ((supN (SuP A) i.toNat).length) (((supN (SuP A) i.toNat).map (Value.int .i64))))]) rfl ?_
     refine vc_region ?_
     refine oq (qv_lss rfl rfl) ?_
     refine ops_nil ?_
     refine vc_seq ?_
     refine vc_if rfl (fun c6 => ?_) (fun c6 => ?_)
     ·
      refine vc_skip ?_
      refine vc_seq ?_
      refine vc_block ?_
      refine vc_seq ?_
      refine vc_region ?_
      refine oq (qv_mv (Value.int .i64 i) rfl) ?_
      refine oq (qv_as (Value.int .i64 i) rfl) ?_
      refine ops_nil ?_
      refine vc_seq ?_
      refine vc_region_order (τ := []) [(0, false), (1, false), (2, false), (3, false), (5, false), (6, false), (7, false), (8, false), (4, true), (9, true), (10, false), (11, false)] [(Arr 24 b1 [(.int .i64 A.v), na, (.int .i64 A.r)]), (Gr 3 1 u ((supN (SuP A) i.toNat).length) (((supN (SuP A) i.toNat).map (Value.int .i64))))] Try.mixed (perm_nil _) (by kernel_rfl) ?_
      refine rq rfl (qv_fa (off := 0) Try.field24_0 rfl) ?_
      refine rq rfl (qv_ldp (v := (.int .i64 A.v)) Try.plain3 rfl (inOc (k := 0) rfl) rfl) ?_
      refine rq rfl (qv_mv r4 rfl) ?_
      refine rq rfl (qv_mv (Value.int .i64 i) rfl) ?_
      refine rq rfl (qv_fa (off := 0) Try.field24_0 rfl) ?_
      refine rq rfl (qv_ldp (v := (.int .i64 A.v)) Try.plain3 rfl (inOc (k := 0) rfl) rfl) ?_
      refine rq rfl (qv_mv r4 rfl) ?_
      refine rq rfl (qv_mv (Value.int .i64 i) rfl) ?_
      refine rl rfl ?_
      refine ops_call (σa := []) (σr := [(Arr 24 b1 [(.int .i64 A.v), na, (.int .i64 A.r)]), (Gr 3 1 u ((supN (SuP A) i.toNat).length) (((supN (SuP A) i.toNat).map (Value.int .i64))))]) (restricted_c (vars := A.v) (i := i) (b := false) (g := gA A) hT (gA_dep hokA) (by omega) (by omega) (by omega) (by omega)) rfl rfl (.refl _) (fun r5 V5 sg5 hV5 hp5 => ?_)
      obtain ⟨rfl, hTr5⟩ := hp5
      have hA := hA.mono hV5
      have hL := hL.mono hV5
      have hF := hF.mono hV5
      have hS := hS.mono hV5
      have hT := hT.mono hV5
      refine ops_nil ⟨[(Arr 24 b1 [(.int .i64 A.v), na, (.int .i64 A.r)]), (Gr 3 1 u ((supN (SuP A) i.toNat).length) (((supN (SuP A) i.toNat).map (Value.int .i64))))], [], hV5, perm_nil _, ⟨[], (.refl _)⟩, ?_⟩
      refine rl rfl ?_
      refine ops_call (σa := []) (σr := [(Arr 24 b1 [(.int .i64 A.v), na, (.int .i64 A.r)]), (Gr 3 1 u ((supN (SuP A) i.toNat).length) (((supN (SuP A) i.toNat).map (Value.int .i64))))]) (restricted_c (vars := A.v) (i := i) (b := true) (g := gA A) hT (gA_dep hokA) (by omega) (by omega) (by omega) (by omega)) rfl rfl (.refl _) (fun r6 V6 sg6 hV6 hp6 => ?_)
      obtain ⟨rfl, hTr6⟩ := hp6
      have hA := hA.mono hV6
      have hL := hL.mono hV6
      have hF := hF.mono hV6
      have hS := hS.mono hV6
      have hT := hT.mono hV6
      have hTr5 := hTr5.mono hV6
      refine ops_nil ⟨[(Arr 24 b1 [(.int .i64 A.v), na, (.int .i64 A.r)]), (Gr 3 1 u ((supN (SuP A) i.toNat).length) (((supN (SuP A) i.toNat).map (Value.int .i64))))], [], hV6, perm_nil _, ⟨[], (.refl _)⟩, ?_⟩
      refine rq rfl (qv_call (v := (.bool (decide (tbl A.v (fun e => gA A (up e i false)) = tbl A.v (fun e => gA A (up e i true)))))) (EqB_c hTr5 hTr6) rfl rfl) ?_
      refine rq rfl (qv_not rfl) ?_
      refine rnil ?_
      refine vc_if rfl (fun c7 => ?_) (fun c7 => ?_)
      ·
       refine vc_region ?_
       refine oq (qv_mv u rfl) ?_
       refine oq (qv_mv (Value.int .i64 i) rfl) ?_
       refine ops_lit (n := 1) (s := 1) (cs := [(Value.int .i64 i)]) Try.underlying58 Try.ti3 (Nat.le_of_ble_eq_true rfl) rfl rfl rfl (Nat.le_of_ble_eq_true rfl) rfl (fun b3 => ?_)
       refine ops_append (k := 1) (n := (supN (SuP A) i.toNat).length) (s := 1) (m := 1) (v := u) (xs := ((supN (SuP A) i.toNat).map (Value.int .i64))) (news := [(Value.int .i64 i)]) Try.underlying58 Try.ti3 rfl (Nat.le_of_ble_eq_true rfl) rfl rfl rfl rfl (news_own (j := 2) rfl) (by simp [Value.oneCell']) (by have := supN_len (P := SuP A) i.toNat; first | omega | (simp only [maxLen]; omega)) (by have := supN_len (P := SuP A) i.toNat; first | omega | (simp only [maxLen]; omega)) (fun v1 hn1 => ?_)
       refine oq (qv_as v1 rfl) ?_
       refine ops_nil ?_
       refine vc_res (σ' := [(Arr 24 b1 [(.int .i64 A.v), na, (.int .i64 A.r)]), (Gr 3 1 v1 (((supN (SuP A) i.toNat).length + 1)) ((((supN (SuP A) i.toNat).map (Value.int .i64)) ++ [(Value.int .i64 i)]))), (Arr 3 b3 [(Value.int .i64 i)])]) rfl ?_
       refine vc_drop [(Arr 24 b1 [(Value.int .i64 (A.v)), na, (Value.int .i64 (A.r))]), (Gr 3 1 v1 (((supN (SuP A) i.toNat).length + 1)) ((((supN (SuP A) i.toNat).map (Value.int .i64)) ++ [(Value.int .i64 i)])))] [(Arr 3 b3 [(Value.int .i64 i)])] ((List.perm_middle (l₁ := [(Arr 24 b1 [(Value.int .i64 (A.v)), na, (Value.int .i64 (A.r))]), (Gr 3 1 v1 (((supN (SuP A) i.toNat).length + 1)) ((((supN (SuP A) i.toNat).map (Value.int .i64)) ++ [(Value.int .i64 i)])))]) (l₂ := [])).trans (List.perm_append_comm (l₁ := [(Arr 3 b3 [(Value.int .i64 i)])]))) ?_
       refine vc_region ?_
       refine oq (qv_add rfl rfl (by omega)) ?_
       refine oq (qv_mv (.int .i64 (i + 1)) rfl) ?_
       refine ops_nil ?_
       refine ⟨(i + 1, v1), ⟨rfl, rfl, rfl, rfl, rfl, rfl, rfl, rfl, rfl, rfl, rfl, rfl, rfl, rfl, rfl, rfl, rfl, rfl, rfl, rfl, rfl, rfl, rfl, (congrArg (Value.int .i64) (show (i + 1) = ((i + 1)) from by omega)), trivial⟩, ⟨(show [(Arr 24 b1 [(.int .i64 A.v), na, (.int .i64 A.r)]), (Gr 3 1 v1 ((supN (SuP A) (i + 1 : Int).toNat).length) (((supN (SuP A) (i + 1 : Int).toNat).map (Value.int .i64))))] = [(Arr 24 b1 [(.int .i64 A.v), na, (.int .i64 A.r)]), (Gr 3 1 v1 (((supN (SuP A) i.toNat).length + 1)) ((((supN (SuP A) i.toNat).map (Value.int .i64)) ++ [(Value.int .i64 i)])))] from by first | (rw [supN_t (by omega) (by assumption), List.length_append, List.map_append]; rfl) | rw [supN_f (by omega) (by assumption)]), hA, hL, hF, hS, hT, by omega, by omega⟩, by omega⟩
      ·
       refine vc_skip ?_
       refine vc_region ?_
       refine oq (qv_add rfl rfl (by omega)) ?_
       refine oq (qv_mv (.int .i64 (i + 1)) rfl) ?_
       refine ops_nil ?_
       refine ⟨(i + 1, u), ⟨rfl, rfl, rfl, rfl, rfl, rfl, rfl, rfl, rfl, rfl, rfl, rfl, rfl, rfl, rfl, rfl, rfl, rfl, rfl, rfl, rfl, rfl, rfl, (congrArg (Value.int .i64) (show (i + 1) = ((i + 1)) from by omega)), trivial⟩, ⟨(show [(Arr 24 b1 [(.int .i64 A.v), na, (.int .i64 A.r)]), (Gr 3 1 u ((supN (SuP A) (i + 1 : Int).toNat).length) (((supN (SuP A) (i + 1 : Int).toNat).map (Value.int .i64))))] = [(Arr 24 b1 [(.int .i64 A.v), na, (.int .i64 A.r)]), (Gr 3 1 u ((supN (SuP A) i.toNat).length) (((supN (SuP A) i.toNat).map (Value.int .i64))))] from by first | (rw [supN_t (by omega) (by assumption), List.length_append, List.map_append]; rfl) | rw [supN_f (by omega) (by assumption)]), hA, hL, hF, hS, hT, by omega, by omega⟩, by omega⟩
     ·
      refine vc_exit ?_
      refine blockQ_hit ?_
      refine vc_seq ?_
      refine vc_seq ?_
      refine vc_region ?_
      refine oq (qv_mv lv rfl) ?_
      refine oq (qv_lenB Try.underlying34 rfl hL) ?_
      refine oq (qv_fa (off := 0) Try.field24_0 rfl) ?_
      refine oq (qv_ldp (v := (.int .i64 A.v)) Try.plain3 rfl (inOc (k := 0) rfl) rfl) ?_
      refine oq (qv_neq rfl rfl) ?_
      refine ops_nil ?_
      refine vc_if rfl (fun c8 => ?_) (fun c8 => ?_)
      ·
       refine vc_seq ?_
       have hev := ev_2 (A := A) (L := L) hz1 (by omega)
       refine vc_region ?_
       refine oq (qv_mv (.int .i64 (evE A L)) rfl) ?_
       refine oq (qv_neq rfl rfl) ?_
       refine oq (qv_mv (.bool (decide ((evE A L) ≠ 2))) rfl) ?_
       by_cases g8 : (evE A L) ≠ 2
       ·
        exact absurd hev.1 g8
       ·
        refine og (qv_mv (.bool (decide (evB A L = true))) rfl) (want_f g8 rfl rfl rfl) ?_
        refine oq (qv_pick_f g8 rfl (rfl : ev _ _ = (.bool (decide (evB A L = true))))) ?_
        refine ops_nil ?_
        refine vc_if rfl (fun c9 => ?_) (fun c9 => ?_)
        ·
         rw [hev.2] at c9; cases c9
        ·
         refine vc_skip ?_
         refine vc_seq ?_
         refine vc_seq ?_
         refine vc_region ?_
         refine oq (qv_mv (.int .i64 (lsN A k)) rfl) ?_
         refine oq (qv_lss rfl rfl) ?_
         refine ops_nil ?_
         refine vc_if rfl (fun c10 => ?_) (fun c10 => ?_)
         ·
          refine vc_seq ?_
          have hr0 := ls_none (A := A) (k := k) hokA (by omega) (by omega)
          have hfi := fi_11 (A := A) hz1 hr0
          refine vc_region ?_
          refine oq (qv_mv (.int .i64 (fiE A)) rfl) ?_
          refine oq (qv_neq rfl rfl) ?_
          refine oq (qv_mv (.bool (decide ((fiE A) ≠ 11))) rfl) ?_
          by_cases g9 : (fiE A) ≠ 11
          ·
           exact absurd hfi.1 g9
          ·
           refine og (qv_mv uF rfl) (want_f g9 rfl rfl rfl) ?_
           refine og (qv_lenB Try.underlying34 rfl hF) (want_f g9 rfl rfl rfl) ?_
           refine og (qv_neq rfl rfl) (want_f g9 rfl rfl rfl) ?_
           refine oq (qv_pick_f g9 rfl (rfl : ev _ _ = (.bool (decide ((((fiT A).length : Int)) ≠ 0))))) ?_
           refine ops_nil ?_
           refine vc_if rfl (fun c11 => ?_) (fun c11 => ?_)
           ·
            exact absurd (by rw [hfi.2]; rfl) c11
           ·
            refine vc_skip ?_
            refine vc_seq ?_
            have hcnt := trN_all (A := A) (k := k) hokA (by omega)
            have hsl := (su_0 hz1).trans (suL_law hokA)
            refine vc_freezeG (v := u) (E := 3) (n := (supN (SuP A) i.toNat).length) (xs := ((supN (SuP A) i.toNat).map (Value.int .i64))) (σr := [(Arr 24 b1 [(Value.int .i64 (A.v)), na, (Value.int .i64 (A.r))])]) (List.perm_middle (l₁ := [(Arr 24 b1 [(Value.int .i64 (A.v)), na, (Value.int .i64 (A.r))])]) (l₂ := [])) (fun Vf1 hVf1 hc1 => ?_)
            have hA := hA.mono hVf1
            have hL := hL.mono hVf1
            have hF := hF.mono hVf1
            have hS := hS.mono hVf1
            have hT := hT.mono hVf1
            refine vc_region ?_
            refine oq (qv_mv (.int .i64 (vE [A])) rfl) ?_
            refine oq (qv_eql rfl rfl) ?_
            refine oq (qv_mv (.bool (decide ((vE [A]) = 0))) rfl) ?_
            by_cases g10 : (vE [A]) = 0
            ·
             refine og (qv_mv (.int .i64 (cnN A)) rfl) (want_t g10 rfl rfl rfl) ?_
             refine og (qv_mv (.int .i64 (trN A k)) rfl) (want_t g10 rfl rfl rfl) ?_
             refine og (qv_eql rfl rfl) (want_t g10 rfl rfl rfl) ?_
             refine oq (qv_pick_t g10 rfl (rfl : ev _ _ = (.bool (decide ((cnN A) = (trN A k)))))) ?_
             refine oq (qv_mv (.bool (decide ((cnN A) = (trN A k)))) rfl) ?_
             by_cases g11 : (cnN A) = (trN A k)
             ·
              refine og (qv_mv (.int .i64 (vE [A])) rfl) (want_t g11 rfl rfl rfl) ?_
              refine og (qv_eql rfl rfl) (want_t g11 rfl rfl rfl) ?_
              refine oq (qv_pick_t g11 rfl (rfl : ev _ _ = (.bool (decide ((vE [A]) = 0))))) ?_
              refine oq (qv_mv (.bool (decide ((vE [A]) = 0))) rfl) ?_
              refine og (qv_mv uS rfl) (want_t g10 rfl rfl rfl) ?_
              refine og (qv_mv u rfl) (want_t g10 rfl rfl rfl) ?_
              refine og (qv_call (v := (.bool (decide (suT A = (supN (SuP A) i.toNat))))) (EqI_c hS hc1) rfl rfl) (want_t g10 rfl rfl rfl) ?_
              refine oq (qv_pick_t g10 rfl (rfl : ev _ _ = (.bool (decide (suT A = (supN (SuP A) i.toNat)))))) ?_
              refine oq (qv_as (.bool (decide (suT A = (supN (SuP A) i.toNat)))) rfl) ?_
              refine ops_nil ?_
              refine vc_ret ?_
              exact rq1 (Value.bool true) (congrArg Value.bool (decide_eq_true (show (suT A = (supN (SuP A) i.toNat)) from by rw [hsl, show A.v.toNat = i.toNat by omega]))) rfl
             ·
              exact absurd hcnt.symm g11
            ·
             exact absurd hz1 g10
         ·
          refine vc_seq ?_
          have hrs := ls_some (A := A) (k := k) hokA (by omega) (by omega) (by omega)
          have hrs1 := hrs.2.1
          have hfi := fi_0 (A := A) hz1 hrs.1
          refine vc_region ?_
          refine oq (qv_mv (.int .i64 (fiE A)) rfl) ?_
          refine oq (qv_neq rfl rfl) ?_
          refine oq (qv_mv (.bool (decide ((fiE A) ≠ 0))) rfl) ?_
          by_cases g12 : (fiE A) ≠ 0
          ·
           exact absurd hfi.1 g12
          ·
           refine og (qv_mv uF rfl) (want_f g12 rfl rfl rfl) ?_
           refine og (qv_fa (off := 0) Try.field24_0 rfl) (want_f g12 rfl rfl rfl) ?_
           refine og (qv_ldp (v := (.int .i64 A.v)) Try.plain3 rfl (inOc (k := 0) rfl) rfl) (want_f g12 rfl rfl rfl) ?_
           refine og (qv_mv (.int .i64 (lsN A k)) rfl) (want_f g12 rfl rfl rfl) ?_
           refine ops_want (want_f g12 rfl rfl rfl) ?_
           refine ops_call (σa := []) (σr := [(Arr 24 b1 [(.int .i64 A.v), na, (.int .i64 A.r)]), (Gr 3 1 u ((supN (SuP A) i.toNat).length) (((supN (SuP A) i.toNat).map (Value.int .i64))))]) (assignment_c (by omega) (by omega) (by omega) (by omega)) rfl rfl (.refl _) (fun r7 V7 sg7 hV7 hp7 => ?_)
           obtain ⟨ba, rfl, rfl⟩ := hp7
           have hA := hA.mono hV7
           have hL := hL.mono hV7
           have hF := hF.mono hV7
           have hS := hS.mono hV7
           have hT := hT.mono hV7
           refine og (qv_call_own (v := (.bool (decide (fiT A = asL A.v (lsN A k))))) (k := 0) (b := ba) rfl (fun Vo hVo hbo => EqB_c (hF.mono hVo) (bls_cells ⟨_, _, hbo⟩ (asL_len _ _).symm (Nat.le_refl _) (by omega))) rfl rfl) (want_f g12 rfl rfl rfl) ?_
           refine og (qv_not rfl) (want_f g12 rfl rfl rfl) ?_
           refine oq (qv_pick_f g12 rfl (rfl : ev _ _ = (.bool (decide (¬ (fiT A = asL A.v (lsN A k))))))) ?_
           refine ops_nil ?_
           refine vc_if rfl (fun c12 => ?_) (fun c12 => ?_)
           ·
            exact absurd (by rw [hfi.2, hrs.2.2]) c12
           ·
            refine vc_skip ?_
            refine vc_seq ?_
            refine vc_res (σ' := [(Arr 4 ba (bvs (asL A.v (lsN A k)))), (Arr 24 b1 [(.int .i64 A.v), na, (.int .i64 A.r)]), (Gr 3 1 u ((supN (SuP A) i.toNat).length) (((supN (SuP A) i.toNat).map (Value.int .i64))))]) rfl ?_
            have hcnt := trN_all (A := A) (k := k) hokA (by omega)
            have hsl := (su_0 hz1).trans (suL_law hokA)
            refine vc_freezeG (v := u) (E := 3) (n := (supN (SuP A) i.toNat).length) (xs := ((supN (SuP A) i.toNat).map (Value.int .i64))) (σr := [(Arr 4 ba (bvs (asL A.v (lsN A k)))), (Arr 24 b1 [(Value.int .i64 (A.v)), na, (Value.int .i64 (A.r))])]) (List.perm_middle (l₁ := [(Arr 4 ba (bvs (asL A.v (lsN A k)))), (Arr 24 b1 [(Value.int .i64 (A.v)), na, (Value.int .i64 (A.r))])]) (l₂ := [])) (fun Vf2 hVf2 hc2 => ?_)
            have hA := hA.mono hVf2
            have hL := hL.mono hVf2
            have hF := hF.mono hVf2
            have hS := hS.mono hVf2
            have hT := hT.mono hVf2
            refine vc_region ?_
            refine oq (qv_mv (.int .i64 (vE [A])) rfl) ?_
            refine oq (qv_eql rfl rfl) ?_
            refine oq (qv_mv (.bool (decide ((vE [A]) = 0))) rfl) ?_
            by_cases g13 : (vE [A]) = 0
            ·
             refine og (qv_mv (.int .i64 (cnN A)) rfl) (want_t g13 rfl rfl rfl) ?_
             refine og (qv_mv (.int .i64 (trN A k)) rfl) (want_t g13 rfl rfl rfl) ?_
             refine og (qv_eql rfl rfl) (want_t g13 rfl rfl rfl) ?_
             refine oq (qv_pick_t g13 rfl (rfl : ev _ _ = (.bool (decide ((cnN A) = (trN A k)))))) ?_
             refine oq (qv_mv (.bool (decide ((cnN A) = (trN A k)))) rfl) ?_
             by_cases g14 : (cnN A) = (trN A k)
             ·
              refine og (qv_mv (.int .i64 (vE [A])) rfl) (want_t g14 rfl rfl rfl) ?_
              refine og (qv_eql rfl rfl) (want_t g14 rfl rfl rfl) ?_
              refine oq (qv_pick_t g14 rfl (rfl : ev _ _ = (.bool (decide ((vE [A]) = 0))))) ?_
              refine oq (qv_mv (.bool (decide ((vE [A]) = 0))) rfl) ?_
              refine og (qv_mv uS rfl) (want_t g13 rfl rfl rfl) ?_
              refine og (qv_mv u rfl) (want_t g13 rfl rfl rfl) ?_
              refine og (qv_call (v := (.bool (decide (suT A = (supN (SuP A) i.toNat))))) (EqI_c hS hc2) rfl rfl) (want_t g13 rfl rfl rfl) ?_
              refine oq (qv_pick_t g13 rfl (rfl : ev _ _ = (.bool (decide (suT A = (supN (SuP A) i.toNat)))))) ?_
              refine oq (qv_as (.bool (decide (suT A = (supN (SuP A) i.toNat)))) rfl) ?_
              refine ops_nil ?_
              refine vc_ret ?_
              exact rq1 (Value.bool true) (congrArg Value.bool (decide_eq_true (show (suT A = (supN (SuP A) i.toNat)) from by rw [hsl, show A.v.toNat = i.toNat by omega]))) rfl
             ·
              exact absurd hcnt.symm g14
            ·
             exact absurd hz1 g13
      ·
       refine vc_seq ?_
       have hev := ev_0 (A := A) (L := L) hz1 (by omega)
       have het := ev_tbl (A := A) (L := L) hokA (by omega)
       have hnm := nm_bd L L.length
       refine vc_region ?_
       refine oq (qv_mv (.int .i64 (evE A L)) rfl) ?_
       refine oq (qv_neq rfl rfl) ?_
       refine oq (qv_mv (.bool (decide ((evE A L) ≠ 0))) rfl) ?_
       by_cases g15 : (evE A L) ≠ 0
       ·
        exact absurd hev.1 g15
       ·
        refine og (qv_mv (.bool (decide (evB A L = true))) rfl) (want_f g15 rfl rfl rfl) ?_
        refine og (qv_mv r4 rfl) (want_f g15 rfl rfl rfl) ?_
        refine og (qv_mv lv rfl) (want_f g15 rfl rfl rfl) ?_
        refine og (qv_call (v := (.int .i64 (nm_ L L.length))) (number_c hL (by omega)) rfl rfl) (want_f g15 rfl rfl rfl) ?_
        refine og (qv_iab (v := r4) (i := nm_ L L.length) Try.underlying34 Try.size4 rfl (inVb hT) rfl (by omega) (by omega)) (want_f g15 rfl rfl rfl) ?_
        refine og (qv_ldb (v := r4) (i := nm_ L L.length) Try.plain4 rfl (inVb hT) (by omega) (by omega)) (want_f g15 rfl rfl rfl) ?_
        refine og (qv_niffb Try.underlying4 rfl rfl) (want_f g15 rfl rfl rfl) ?_
        refine oq (qv_pick_f g15 rfl (rfl : ev _ _ = (.bool (decide (¬ ((evB A L = true) ↔ (gb (tbl A.v (gA A)) (nm_ L L.length) = true))))))) ?_
        refine ops_nil ?_
        refine vc_if rfl (fun c13 => ?_) (fun c13 => ?_)
        ·
         exact absurd (by rw [hev.2, het.1]) c13
        ·
         refine vc_skip ?_
         refine vc_seq ?_
         refine vc_seq ?_
         refine vc_region ?_
         refine oq (qv_mv (.int .i64 (lsN A k)) rfl) ?_
         refine oq (qv_lss rfl rfl) ?_
         refine ops_nil ?_
         refine vc_if rfl (fun c14 => ?_) (fun c14 => ?_)
         ·
          refine vc_seq ?_
          have hr0 := ls_none (A := A) (k := k) hokA (by omega) (by omega)
          have hfi := fi_11 (A := A) hz1 hr0
          refine vc_region ?_
          refine oq (qv_mv (.int .i64 (fiE A)) rfl) ?_
          refine oq (qv_neq rfl rfl) ?_
          refine oq (qv_mv (.bool (decide ((fiE A) ≠ 11))) rfl) ?_
          by_cases g16 : (fiE A) ≠ 11
          ·
           exact absurd hfi.1 g16
          ·
           refine og (qv_mv uF rfl) (want_f g16 rfl rfl rfl) ?_
           refine og (qv_lenB Try.underlying34 rfl hF) (want_f g16 rfl rfl rfl) ?_
           refine og (qv_neq rfl rfl) (want_f g16 rfl rfl rfl) ?_
           refine oq (qv_pick_f g16 rfl (rfl : ev _ _ = (.bool (decide ((((fiT A).length : Int)) ≠ 0))))) ?_
           refine ops_nil ?_
           refine vc_if rfl (fun c15 => ?_) (fun c15 => ?_)
           ·
            exact absurd (by rw [hfi.2]; rfl) c15
           ·
            refine vc_skip ?_
            refine vc_seq ?_
            have hcnt := trN_all (A := A) (k := k) hokA (by omega)
            have hsl := (su_0 hz1).trans (suL_law hokA)
            refine vc_freezeG (v := u) (E := 3) (n := (supN (SuP A) i.toNat).length) (xs := ((supN (SuP A) i.toNat).map (Value.int .i64))) (σr := [(Arr 24 b1 [(Value.int .i64 (A.v)), na, (Value.int .i64 (A.r))])]) (List.perm_middle (l₁ := [(Arr 24 b1 [(Value.int .i64 (A.v)), na, (Value.int .i64 (A.r))])]) (l₂ := [])) (fun Vf3 hVf3 hc3 => ?_)
            have hA := hA.mono hVf3
            have hL := hL.mono hVf3
            have hF := hF.mono hVf3
            have hS := hS.mono hVf3
            have hT := hT.mono hVf3
            refine vc_region ?_
            refine oq (qv_mv (.int .i64 (vE [A])) rfl) ?_
            refine oq (qv_eql rfl rfl) ?_
            refine oq (qv_mv (.bool (decide ((vE [A]) = 0))) rfl) ?_
            by_cases g17 : (vE [A]) = 0
            ·
             refine og (qv_mv (.int .i64 (cnN A)) rfl) (want_t g17 rfl rfl rfl) ?_
             refine og (qv_mv (.int .i64 (trN A k)) rfl) (want_t g17 rfl rfl rfl) ?_
             refine og (qv_eql rfl rfl) (want_t g17 rfl rfl rfl) ?_
             refine oq (qv_pick_t g17 rfl (rfl : ev _ _ = (.bool (decide ((cnN A) = (trN A k)))))) ?_
             refine oq (qv_mv (.bool (decide ((cnN A) = (trN A k)))) rfl) ?_
             by_cases g18 : (cnN A) = (trN A k)
             ·
              refine og (qv_mv (.int .i64 (vE [A])) rfl) (want_t g18 rfl rfl rfl) ?_
              refine og (qv_eql rfl rfl) (want_t g18 rfl rfl rfl) ?_
              refine oq (qv_pick_t g18 rfl (rfl : ev _ _ = (.bool (decide ((vE [A]) = 0))))) ?_
              refine oq (qv_mv (.bool (decide ((vE [A]) = 0))) rfl) ?_
              refine og (qv_mv uS rfl) (want_t g17 rfl rfl rfl) ?_
              refine og (qv_mv u rfl) (want_t g17 rfl rfl rfl) ?_
              refine og (qv_call (v := (.bool (decide (suT A = (supN (SuP A) i.toNat))))) (EqI_c hS hc3) rfl rfl) (want_t g17 rfl rfl rfl) ?_
              refine oq (qv_pick_t g17 rfl (rfl : ev _ _ = (.bool (decide (suT A = (supN (SuP A) i.toNat)))))) ?_
              refine oq (qv_as (.bool (decide (suT A = (supN (SuP A) i.toNat)))) rfl) ?_
              refine ops_nil ?_
              refine vc_ret ?_
              exact rq1 (Value.bool true) (congrArg Value.bool (decide_eq_true (show (suT A = (supN (SuP A) i.toNat)) from by rw [hsl, show A.v.toNat = i.toNat by omega]))) rfl
             ·
              exact absurd hcnt.symm g18
            ·
             exact absurd hz1 g17
         ·
          refine vc_seq ?_
          have hrs := ls_some (A := A) (k := k) hokA (by omega) (by omega) (by omega)
          have hrs1 := hrs.2.1
          have hfi := fi_0 (A := A) hz1 hrs.1
          refine vc_region ?_
          refine oq (qv_mv (.int .i64 (fiE A)) rfl) ?_
          refine oq (qv_neq rfl rfl) ?_
          refine oq (qv_mv (.bool (decide ((fiE A) ≠ 0))) rfl) ?_
          by_cases g19 : (fiE A) ≠ 0
          ·
           exact absurd hfi.1 g19
          ·
           refine og (qv_mv uF rfl) (want_f g19 rfl rfl rfl) ?_
           refine og (qv_fa (off := 0) Try.field24_0 rfl) (want_f g19 rfl rfl rfl) ?_
           refine og (qv_ldp (v := (.int .i64 A.v)) Try.plain3 rfl (inOc (k := 0) rfl) rfl) (want_f g19 rfl rfl rfl) ?_
           refine og (qv_mv (.int .i64 (lsN A k)) rfl) (want_f g19 rfl rfl rfl) ?_
           refine ops_want (want_f g19 rfl rfl rfl) ?_
           refine ops_call (σa := []) (σr := [(Arr 24 b1 [(.int .i64 A.v), na, (.int .i64 A.r)]), (Gr 3 1 u ((supN (SuP A) i.toNat).length) (((supN (SuP A) i.toNat).map (Value.int .i64))))]) (assignment_c (by omega) (by omega) (by omega) (by omega)) rfl rfl (.refl _) (fun r8 V8 sg8 hV8 hp8 => ?_)
           obtain ⟨ba, rfl, rfl⟩ := hp8
           have hA := hA.mono hV8
           have hL := hL.mono hV8
           have hF := hF.mono hV8
           have hS := hS.mono hV8
           have hT := hT.mono hV8
           refine og (qv_call_own (v := (.bool (decide (fiT A = asL A.v (lsN A k))))) (k := 0) (b := ba) rfl (fun Vo hVo hbo => EqB_c (hF.mono hVo) (bls_cells ⟨_, _, hbo⟩ (asL_len _ _).symm (Nat.le_refl _) (by omega))) rfl rfl) (want_f g19 rfl rfl rfl) ?_
           refine og (qv_not rfl) (want_f g19 rfl rfl rfl) ?_
           refine oq (qv_pick_f g19 rfl (rfl : ev _ _ = (.bool (decide (¬ (fiT A = asL A.v (lsN A k))))))) ?_
           refine ops_nil ?_
           refine vc_if rfl (fun c16 => ?_) (fun c16 => ?_)
           ·
            exact absurd (by rw [hfi.2, hrs.2.2]) c16
           ·
            refine vc_skip ?_
            refine vc_seq ?_
            refine vc_res (σ' := [(Arr 4 ba (bvs (asL A.v (lsN A k)))), (Arr 24 b1 [(.int .i64 A.v), na, (.int .i64 A.r)]), (Gr 3 1 u ((supN (SuP A) i.toNat).length) (((supN (SuP A) i.toNat).map (Value.int .i64))))]) rfl ?_
            have hcnt := trN_all (A := A) (k := k) hokA (by omega)
            have hsl := (su_0 hz1).trans (suL_law hokA)
            refine vc_freezeG (v := u) (E := 3) (n := (supN (SuP A) i.toNat).length) (xs := ((supN (SuP A) i.toNat).map (Value.int .i64))) (σr := [(Arr 4 ba (bvs (asL A.v (lsN A k)))), (Arr 24 b1 [(Value.int .i64 (A.v)), na, (Value.int .i64 (A.r))])]) (List.perm_middle (l₁ := [(Arr 4 ba (bvs (asL A.v (lsN A k)))), (Arr 24 b1 [(Value.int .i64 (A.v)), na, (Value.int .i64 (A.r))])]) (l₂ := [])) (fun Vf4 hVf4 hc4 => ?_)
            have hA := hA.mono hVf4
            have hL := hL.mono hVf4
            have hF := hF.mono hVf4
            have hS := hS.mono hVf4
            have hT := hT.mono hVf4
            refine vc_region ?_
            refine oq (qv_mv (.int .i64 (vE [A])) rfl) ?_
            refine oq (qv_eql rfl rfl) ?_
            refine oq (qv_mv (.bool (decide ((vE [A]) = 0))) rfl) ?_
            by_cases g20 : (vE [A]) = 0
            ·
             refine og (qv_mv (.int .i64 (cnN A)) rfl) (want_t g20 rfl rfl rfl) ?_
             refine og (qv_mv (.int .i64 (trN A k)) rfl) (want_t g20 rfl rfl rfl) ?_
             refine og (qv_eql rfl rfl) (want_t g20 rfl rfl rfl) ?_
             refine oq (qv_pick_t g20 rfl (rfl : ev _ _ = (.bool (decide ((cnN A) = (trN A k)))))) ?_
             refine oq (qv_mv (.bool (decide ((cnN A) = (trN A k)))) rfl) ?_
             by_cases g21 : (cnN A) = (trN A k)
             ·
              refine og (qv_mv (.int .i64 (vE [A])) rfl) (want_t g21 rfl rfl rfl) ?_
              refine og (qv_eql rfl rfl) (want_t g21 rfl rfl rfl) ?_
              refine oq (qv_pick_t g21 rfl (rfl : ev _ _ = (.bool (decide ((vE [A]) = 0))))) ?_
              refine oq (qv_mv (.bool (decide ((vE [A]) = 0))) rfl) ?_
              refine og (qv_mv uS rfl) (want_t g20 rfl rfl rfl) ?_
              refine og (qv_mv u rfl) (want_t g20 rfl rfl rfl) ?_
              refine og (qv_call (v := (.bool (decide (suT A = (supN (SuP A) i.toNat))))) (EqI_c hS hc4) rfl rfl) (want_t g20 rfl rfl rfl) ?_
              refine oq (qv_pick_t g20 rfl (rfl : ev _ _ = (.bool (decide (suT A = (supN (SuP A) i.toNat)))))) ?_
              refine oq (qv_as (.bool (decide (suT A = (supN (SuP A) i.toNat)))) rfl) ?_
              refine ops_nil ?_
              refine vc_ret ?_
              exact rq1 (Value.bool true) (congrArg Value.bool (decide_eq_true (show (suT A = (supN (SuP A) i.toNat)) from by rw [hsl, show A.v.toNat = i.toNat by omega]))) rfl
             ·
              exact absurd hcnt.symm g21
            ·
             exact absurd hz1 g20

end Go.Proofs.Ytgehdgeiikjohaa
