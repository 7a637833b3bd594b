/- Walks of bdd: what each function returns. Printed by a program out of notes. -/
import Derived.Test.YtgehdgeiikjohaaBu
namespace Go.Proofs.Ytgehdgeiikjohaa
open Go.Vc
open Classical

set_option maxRecDepth 100000 in
set_option maxHeartbeats 4000000 in
theorem applied_c {V : HV} {vars op : Int} {g1 g2 : (Int → Bool) → Bool} {av bv : Value} (ha : Bls V av (tbl vars g1)) (hb : Bls V bv (tbl vars g2)) (hv : vars ≤ 12) (h0 : 0 ≤ op) (h15 : op ≤ 15) :
    FnC Try.prog 21 [(Value.int .i64 op), av, bv] V [] (fun v V' σ' => σ' = [] ∧ Bls V' v (tbl vars (fun e => opF op (g1 e) (g2 e) false))) := by
 refine fn_intro (N := 41) Try.func21 (by kernel_rfl) rfl rfl rfl (Nat.le_of_ble_eq_true rfl) ?_
 intro w0 D
 have hpw := pow2_12 (n := vars.toNat) (by omega)
 have l1 := tbl_lenI vars g1
 have l2 := tbl_lenI vars g2
 refine vc_seq ?_
 refine vc_region ?_
 refine oq (qv_as (Value.slice none 0 0) rfl) ?_
 refine ops_nil ?_
 refine vc_seq ?_
 refine vc_region ?_
 refine oq (qv_mv av rfl) ?_
 refine oq (qv_lenB Try.underlying34 rfl ha) ?_
 refine ops_make (n := (((tbl vars g1)).length : Int)) Try.underlying34 Try.ti4 rfl rfl rfl rfl (by omega) (by omega) (by omega) (fun b1 => ?_)
 refine oq (qv_as (.slice (some ⟨b1, 0, none⟩) ((((tbl vars g1)).length : Int)).toNat ((((tbl vars g1)).length : Int)).toNat) rfl) ?_
 refine ops_nil ?_
 refine vc_seq ?_
 refine vc_seq ?_
 refine vc_res (σ' := [(Arr 4 b1 (List.replicate ((((tbl vars g1)).length : Int)).toNat (Value.bool false)))]) rfl ?_
 refine vc_region ?_
 refine oq (qv_mv av rfl) ?_
 refine oq (qv_lenB Try.underlying34 rfl ha) ?_
 refine oq (qv_mv (Value.int .i64 0) rfl) ?_
 refine ops_nil ?_
 refine vc_block ?_
 refine vc_loop (α := Int) (fun (xx : Int) => [(0, (Value.int .i64 op)), (1, av), (2, bv), (6, (Value.slice none 0 0)), (7, (.slice (some ⟨b1, 0, none⟩) ((((tbl vars g1)).length : Int)).toNat ((((tbl vars g1)).length : Int)).toNat)), (14, (.int .i64 ((((tbl vars g1)).length : Int)))), (15, (Value.int .i64 xx))]) (fun (xx : Int) V' σ' => V = V' ∧ [(Arr 4 b1 (upF (fun j => (fun e => opF op (g1 e) (g2 e) false) (asg vars j)) xx ((((tbl vars g1)).length : Int)).toNat))] = σ' ∧ 0 ≤ xx ∧ xx ≤ (2 : Int) ^ vars.toNat) (fun (xx : Int) => ((2 : Int) ^ vars.toNat - xx).toNat) (0) ?_ ?_ ?_
 · exact ⟨rfl, rfl, rfl, rfl, rfl, rfl, rfl, trivial⟩
 · exact ⟨rfl, (show [(Arr 4 b1 (upF (fun j => (fun e => opF op (g1 e) (g2 e) false) (asg vars j)) 0 ((((tbl vars g1)).length : Int)).toNat))] = [(Arr 4 b1 (List.replicate ((((tbl vars g1)).length : Int)).toNat (Value.bool false)))] from by rw [← upF_0]), by omega, by omega⟩
 rintro k e1 V0l σ0l hI0
 obtain ⟨rfl, rfl, i1, i2⟩ : V = V0l ∧ [(Arr 4 b1 (upF (fun j => (fun e => opF op (g1 e) (g2 e) false) (asg vars j)) k ((((tbl vars g1)).length : Int)).toNat))] = σ0l ∧ 0 ≤ k ∧ k ≤ (2 : Int) ^ vars.toNat := hI0
 refine vc_seq ?_
 refine vc_res (σ' := [(Arr 4 b1 (upF (fun j => (fun e => opF op (g1 e) (g2 e) false) (asg vars j)) k ((((tbl vars g1)).length : Int)).toNat))]) rfl ?_
 refine vc_region ?_
 refine oq (qv_lss rfl rfl) ?_
 refine ops_nil ?_
 refine vc_seq ?_
 refine vc_if rfl (fun c1 => ?_) (fun c1 => ?_)
 ·
  refine vc_skip ?_
  refine vc_seq ?_
  refine vc_block ?_
  refine vc_seq ?_
  refine vc_region ?_
  refine oq (qv_mv (Value.int .i64 k) rfl) ?_
  refine oq (qv_as (Value.int .i64 k) rfl) ?_
  refine ops_nil ?_
  refine vc_seq ?_
  have e1 := tbl_get (g := g1) (vars := vars) (k := k) (by omega) (by omega)
  have e2 := tbl_get (g := g2) (vars := vars) (k := k) (by omega) (by omega)
  refine vc_region ?_
  refine oq (qv_as (Value.int .i64 0) rfl) ?_
  refine ops_nil ?_
  refine vc_seq ?_
  refine vc_seq ?_
  refine vc_region ?_
  refine oq (qv_mv av rfl) ?_
  refine oq (qv_mv (Value.int .i64 k) rfl) ?_
  refine oq (qv_iab (v := av) (i := k) Try.underlying34 Try.size4 rfl (inVb ha) rfl (by omega) (by omega)) ?_
  refine oq (qv_ldb (v := av) (i := k) Try.plain4 rfl (inVb ha) (by omega) (by omega)) ?_
  refine ops_nil ?_
  refine vc_if rfl (fun c2 => ?_) (fun c2 => ?_)
  ·
   refine vc_region ?_
   refine oq (qv_mv (Value.int .i64 0) rfl) ?_
   refine oq (qv_add rfl rfl (by omega)) ?_
   refine oq (qv_as (.int .i64 (0 + 2)) rfl) ?_
   refine ops_nil ?_
   refine vc_seq ?_
   refine vc_seq ?_
   refine vc_region ?_
   refine oq (qv_mv bv rfl) ?_
   refine oq (qv_mv (Value.int .i64 k) rfl) ?_
   refine oq (qv_iab (v := bv) (i := k) Try.underlying34 Try.size4 rfl (inVb hb) rfl (by omega) (by omega)) ?_
   refine oq (qv_ldb (v := bv) (i := k) Try.plain4 rfl (inVb hb) (by omega) (by omega)) ?_
   refine ops_nil ?_
   refine vc_if rfl (fun c3 => ?_) (fun c3 => ?_)
   ·
    refine vc_region ?_
    refine oq (qv_mv (.int .i64 (0 + 2)) rfl) ?_
    refine oq (qv_add rfl rfl (by omega)) ?_
    refine oq (qv_as (.int .i64 ((0 + 2) + 1)) rfl) ?_
    refine ops_nil ?_
    refine vc_region ?_
    refine oq (qv_mv (.slice (some ⟨b1, 0, none⟩) ((((tbl vars g1)).length : Int)).toNat ((((tbl vars g1)).length : Int)).toNat) rfl) ?_
    refine oq (qv_mv (Value.int .i64 k) rfl) ?_
    refine oq (qv_mv (Value.int .i64 op) rfl) ?_
    refine oq (qv_mv (.int .i64 ((0 + 2) + 1)) rfl) ?_
    refine oq (qv_call (v := (.int .i64 ((2 : Int) ^ ((0 + 2) + 1 : Int).toNat))) (power_c (by omega)) rfl rfl) ?_
    refine oq (qv_quo rfl rfl (by omega) ((pow2_40 (by omega)).1)) ?_
    refine oq (qv_rem rfl rfl (Int.ediv_nonneg h0 (Int.le_of_lt (pow2_pos _))) (by omega)) ?_
    refine oq (qv_eql rfl rfl) ?_
    refine oq (qv_ia (v := (.slice (some ⟨b1, 0, none⟩) ((((tbl vars g1)).length : Int)).toNat ((((tbl vars g1)).length : Int)).toNat)) (i := k) Try.underlying34 Try.size4 rfl (inO (k := 0) rfl (upF_len _ _ _).symm (Nat.le_refl _) (by omega)) rfl (by omega) (by rw [upF_len]; omega)) ?_
    refine ops_ste (k := 0) (b := b1) (n := ((((tbl vars g1)).length : Int)).toNat) (c := ((((tbl vars g1)).length : Int)).toNat) (i := k) (cs := (upF (fun j => (fun e => opF op (g1 e) (g2 e) false) (asg vars j)) k ((((tbl vars g1)).length : Int)).toNat)) Try.size4 rfl (rfl : ev _ _ = (.bool (decide (((op / ((2 : Int) ^ ((0 + 2) + 1 : Int).toNat)) % 2) = 1)))) rfl rfl (by omega) (by rw [upF_len]; omega) ?_
    refine ops_nil ?_
    refine vc_res (σ' := [(Arr 4 b1 (((upF (fun j => (fun e => opF op (g1 e) (g2 e) false) (asg vars j)) k ((((tbl vars g1)).length : Int)).toNat)).set (k).toNat (.bool (decide (((op / ((2 : Int) ^ ((0 + 2) + 1 : Int).toNat)) % 2) = 1)))))]) rfl ?_
    refine vc_region ?_
    refine oq (qv_add rfl rfl (by omega)) ?_
    refine oq (qv_mv (.int .i64 (k + 1)) rfl) ?_
    refine ops_nil ?_
    have hpe := opF_iff (op := op) (g1 (asg vars k)) (g2 (asg vars k)) ((0 + 2) + 1) (by rw [← e1, ← e2, if_pos c2, if_pos c3] <;> rfl)
    refine ⟨(k + 1), ⟨rfl, rfl, rfl, rfl, rfl, rfl, (congrArg (Value.int .i64) (show (k + 1) = ((k + 1)) from by omega)), trivial⟩, ⟨rfl, (show [(Arr 4 b1 (upF (fun j => (fun e => opF op (g1 e) (g2 e) false) (asg vars j)) (k + 1) ((((tbl vars g1)).length : Int)).toNat))] = [(Arr 4 b1 (((upF (fun j => (fun e => opF op (g1 e) (g2 e) false) (asg vars j)) k ((((tbl vars g1)).length : Int)).toNat)).set (k).toNat (.bool (decide (((op / ((2 : Int) ^ ((0 + 2) + 1 : Int).toNat)) % 2) = 1)))))] from by rw [upF_step (by omega) hpe]), by omega, by omega⟩, by omega⟩
   ·
    refine vc_skip ?_
    refine vc_region ?_
    refine oq (qv_mv (.slice (some ⟨b1, 0, none⟩) ((((tbl vars g1)).length : Int)).toNat ((((tbl vars g1)).length : Int)).toNat) rfl) ?_
    refine oq (qv_mv (Value.int .i64 k) rfl) ?_
    refine oq (qv_mv (Value.int .i64 op) rfl) ?_
    refine oq (qv_mv (.int .i64 (0 + 2)) rfl) ?_
    refine oq (qv_call (v := (.int .i64 ((2 : Int) ^ (0 + 2 : Int).toNat))) (power_c (by omega)) rfl rfl) ?_
    refine oq (qv_quo rfl rfl (by omega) ((pow2_40 (by omega)).1)) ?_
    refine oq (qv_rem rfl rfl (Int.ediv_nonneg h0 (Int.le_of_lt (pow2_pos _))) (by omega)) ?_
    refine oq (qv_eql rfl rfl) ?_
    refine oq (qv_ia (v := (.slice (some ⟨b1, 0, none⟩) ((((tbl vars g1)).length : Int)).toNat ((((tbl vars g1)).length : Int)).toNat)) (i := k) Try.underlying34 Try.size4 rfl (inO (k := 0) rfl (upF_len _ _ _).symm (Nat.le_refl _) (by omega)) rfl (by omega) (by rw [upF_len]; omega)) ?_
    refine ops_ste (k := 0) (b := b1) (n := ((((tbl vars g1)).length : Int)).toNat) (c := ((((tbl vars g1)).length : Int)).toNat) (i := k) (cs := (upF (fun j => (fun e => opF op (g1 e) (g2 e) false) (asg vars j)) k ((((tbl vars g1)).length : Int)).toNat)) Try.size4 rfl (rfl : ev _ _ = (.bool (decide (((op / ((2 : Int) ^ (0 + 2 : Int).toNat)) % 2) = 1)))) rfl rfl (by omega) (by rw [upF_len]; omega) ?_
    refine ops_nil ?_
    refine vc_res (σ' := [(Arr 4 b1 (((upF (fun j => (fun e => opF op (g1 e) (g2 e) false) (asg vars j)) k ((((tbl vars g1)).length : Int)).toNat)).set (k).toNat (.bool (decide (((op / ((2 : Int) ^ (0 + 2 : Int).toNat)) % 2) = 1)))))]) rfl ?_
    refine vc_region ?_
    refine oq (qv_add rfl rfl (by omega)) ?_
    refine oq (qv_mv (.int .i64 (k + 1)) rfl) ?_
    refine ops_nil ?_
    have hpe := opF_iff (op := op) (g1 (asg vars k)) (g2 (asg vars k)) (0 + 2) (by rw [← e1, ← e2, if_pos c2, if_neg c3] <;> rfl)
    refine ⟨(k + 1), ⟨rfl, rfl, rfl, rfl, rfl, rfl, (congrArg (Value.int .i64) (show (k + 1) = ((k + 1)) from by omega)), trivial⟩, ⟨rfl, (show [(Arr 4 b1 (upF (fun j => (fun e => opF op (g1 e) (g2 e) false) (asg vars j)) (k + 1) ((((tbl vars g1)).length : Int)).toNat))] = [(Arr 4 b1 (((upF (fun j => (fun e => opF op (g1 e) (g2 e) false) (asg vars j)) k ((((tbl vars g1)).length : Int)).toNat)).set (k).toNat (.bool (decide (((op / ((2 : Int) ^ (0 + 2 : Int).toNat)) % 2) = 1)))))] from by rw [upF_step (by omega) hpe]), by omega, by omega⟩, by omega⟩
  ·
   refine vc_skip ?_
   refine vc_seq ?_
   refine vc_seq ?_
   refine vc_region ?_
   refine oq (qv_mv bv rfl) ?_
   refine oq (qv_mv (Value.int .i64 k) rfl) ?_
   refine oq (qv_iab (v := bv) (i := k) Try.underlying34 Try.size4 rfl (inVb hb) rfl (by omega) (by omega)) ?_
   refine oq (qv_ldb (v := bv) (i := k) Try.plain4 rfl (inVb hb) (by omega) (by omega)) ?_
   refine ops_nil ?_
   refine vc_if rfl (fun c4 => ?_) (fun c4 => ?_)
   ·
    refine vc_region ?_
    refine oq (qv_mv (Value.int .i64 0) rfl) ?_
    refine oq (qv_add rfl rfl (by omega)) ?_
    refine oq (qv_as (.int .i64 (0 + 1)) rfl) ?_
    refine ops_nil ?_
    refine vc_region ?_
    refine oq (qv_mv (.slice (some ⟨b1, 0, none⟩) ((((tbl vars g1)).length : Int)).toNat ((((tbl vars g1)).length : Int)).toNat) rfl) ?_
    refine oq (qv_mv (Value.int .i64 k) rfl) ?_
    refine oq (qv_mv (Value.int .i64 op) rfl) ?_
    refine oq (qv_mv (.int .i64 (0 + 1)) rfl) ?_
    refine oq (qv_call (v := (.int .i64 ((2 : Int) ^ (0 + 1 : Int).toNat))) (power_c (by omega)) rfl rfl) ?_
    refine oq (qv_quo rfl rfl (by omega) ((pow2_40 (by omega)).1)) ?_
    refine oq (qv_rem rfl rfl (Int.ediv_nonneg h0 (Int.le_of_lt (pow2_pos _))) (by omega)) ?_
    refine oq (qv_eql rfl rfl) ?_
    refine oq (qv_ia (v := (.slice (some ⟨b1, 0, none⟩) ((((tbl vars g1)).length : Int)).toNat ((((tbl vars g1)).length : Int)).toNat)) (i := k) Try.underlying34 Try.size4 rfl (inO (k := 0) rfl (upF_len _ _ _).symm (Nat.le_refl _) (by omega)) rfl (by omega) (by rw [upF_len]; omega)) ?_
    refine ops_ste (k := 0) (b := b1) (n := ((((tbl vars g1)).length : Int)).toNat) (c := ((((tbl vars g1)).length : Int)).toNat) (i := k) (cs := (upF (fun j => (fun e => opF op (g1 e) (g2 e) false) (asg vars j)) k ((((tbl vars g1)).length : Int)).toNat)) Try.size4 rfl (rfl : ev _ _ = (.bool (decide (((op / ((2 : Int) ^ (0 + 1 : Int).toNat)) % 2) = 1)))) rfl rfl (by omega) (by rw [upF_len]; omega) ?_
    refine ops_nil ?_
    refine vc_res (σ' := [(Arr 4 b1 (((upF (fun j => (fun e => opF op (g1 e) (g2 e) false) (asg vars j)) k ((((tbl vars g1)).length : Int)).toNat)).set (k).toNat (.bool (decide (((op / ((2 : Int) ^ (0 + 1 : Int).toNat)) % 2) = 1)))))]) rfl ?_
    refine vc_region ?_
    refine oq (qv_add rfl rfl (by omega)) ?_
    refine oq (qv_mv (.int .i64 (k + 1)) rfl) ?_
    refine ops_nil ?_
    have hpe := opF_iff (op := op) (g1 (asg vars k)) (g2 (asg vars k)) (0 + 1) (by rw [← e1, ← e2, if_neg c2, if_pos c4] <;> rfl)
    refine ⟨(k + 1), ⟨rfl, rfl, rfl, rfl, rfl, rfl, (congrArg (Value.int .i64) (show (k + 1) = ((k + 1)) from by omega)), trivial⟩, ⟨rfl, (show [(Arr 4 b1 (upF (fun j => (fun e => opF op (g1 e) (g2 e) false) (asg vars j)) (k + 1) ((((tbl vars g1)).length : Int)).toNat))] = [(Arr 4 b1 (((upF (fun j => (fun e => opF op (g1 e) (g2 e) false) (asg vars j)) k ((((tbl vars g1)).length : Int)).toNat)).set (k).toNat (.bool (decide (((op / ((2 : Int) ^ (0 + 1 : Int).toNat)) % 2) = 1)))))] from by rw [upF_step (by omega) hpe]), by omega, by omega⟩, by omega⟩
   ·
    refine vc_skip ?_
    refine vc_region ?_
    refine oq (qv_mv (.slice (some ⟨b1, 0, none⟩) ((((tbl vars g1)).length : Int)).toNat ((((tbl vars g1)).length : Int)).toNat) rfl) ?_
    refine oq (qv_mv (Value.int .i64 k) rfl) ?_
    refine oq (qv_mv (Value.int .i64 op) rfl) ?_
    refine oq (qv_mv (Value.int .i64 0) rfl) ?_
    refine oq (qv_call (v := (.int .i64 ((2 : Int) ^ (0 : Int).toNat))) (power_c (by omega)) rfl rfl) ?_
    refine oq (qv_quo rfl rfl (by omega) ((pow2_40 (by omega)).1)) ?_
    refine oq (qv_rem rfl rfl (Int.ediv_nonneg h0 (Int.le_of_lt (pow2_pos _))) (by omega)) ?_
    refine oq (qv_eql rfl rfl) ?_
    refine oq (qv_ia (v := (.slice (some ⟨b1, 0, none⟩) ((((tbl vars g1)).length : Int)).toNat ((((tbl vars g1)).length : Int)).toNat)) (i := k) Try.underlying34 Try.size4 rfl (inO (k := 0) rfl (upF_len _ _ _).symm (Nat.le_refl _) (by omega)) rfl (by omega) (by rw [upF_len]; omega)) ?_
    refine ops_ste (k := 0) (b := b1) (n := ((((tbl vars g1)).length : Int)).toNat) (c := ((((tbl vars g1)).length : Int)).toNat) (i := k) (cs := (upF (fun j => (fun e => opF op (g1 e) (g2 e) false) (asg vars j)) k ((((tbl vars g1)).length : Int)).toNat)) Try.size4 rfl (rfl : ev _ _ = (.bool (decide (((op / ((2 : Int) ^ (0 : Int).toNat)) % 2) = 1)))) rfl rfl (by omega) (by rw [upF_len]; omega) ?_
    refine ops_nil ?_
    refine vc_res (σ' := [(Arr 4 b1 (((upF (fun j => (fun e => opF op (g1 e) (g2 e) false) (asg vars j)) k ((((tbl vars g1)).length : Int)).toNat)).set (k).toNat (.bool (decide (((op / ((2 : Int) ^ (0 : Int).toNat)) % 2) = 1)))))]) rfl ?_
    refine vc_region ?_
    refine oq (qv_add rfl rfl (by omega)) ?_
    refine oq (qv_mv (.int .i64 (k + 1)) rfl) ?_
    refine ops_nil ?_
    have hpe := opF_iff (op := op) (g1 (asg vars k)) (g2 (asg vars k)) (0) (by rw [← e1, ← e2, if_neg c2, if_neg c4] <;> rfl)
    refine ⟨(k + 1), ⟨rfl, rfl, rfl, rfl, rfl, rfl, (congrArg (Value.int .i64) (show (k + 1) = ((k + 1)) from by omega)), trivial⟩, ⟨rfl, (show [(Arr 4 b1 (upF (fun j => (fun e => opF op (g1 e) (g2 e) false) (asg vars j)) (k + 1) ((((tbl vars g1)).length : Int)).toNat))] = [(Arr 4 b1 (((upF (fun j => (fun e => opF op (g1 e) (g2 e) false) (asg vars j)) k ((((tbl vars g1)).length : Int)).toNat)).set (k).toNat (.bool (decide (((op / ((2 : Int) ^ (0 : Int).toNat)) % 2) = 1)))))] from by rw [upF_step (by omega) hpe]), by omega, by omega⟩, by omega⟩
 ·
  refine vc_exit ?_
  refine blockQ_hit ?_
  refine vc_seq ?_
  refine vc_region ?_
  refine oq (qv_mv (.slice (some ⟨b1, 0, none⟩) ((((tbl vars g1)).length : Int)).toNat ((((tbl vars g1)).length : Int)).toNat) rfl) ?_
  refine oq (qv_as (.slice (some ⟨b1, 0, none⟩) ((((tbl vars g1)).length : Int)).toNat ((((tbl vars g1)).length : Int)).toNat) rfl) ?_
  refine ops_nil ?_
  refine vc_freeze (b := b1) (o := .cells ((upF (fun j => (fun e => opF op (g1 e) (g2 e) false) (asg vars j)) k ((((tbl vars g1)).length : Int)).toNat) : List Value).toArray 4 (0, 0)) (σr := []) (List.perm_middle (l₁ := []) (l₂ := [])) (fun Vf1 hVf1 hb1 => ?_)
  have hc1 : Cells Vf1 b1 (upF (fun j => (fun e => opF op (g1 e) (g2 e) false) (asg vars j)) k ((((tbl vars g1)).length : Int)).toNat) := ⟨_, _, hb1⟩
  refine vc_ret ?_
  refine rq1 (.slice (some ⟨b1, 0, none⟩) ((((tbl vars g1)).length : Int)).toNat ((((tbl vars g1)).length : Int)).toNat) rfl ?_
  have hcq := hc1
  rw [tbl_fill (vars := vars) (g := (fun e => opF op (g1 e) (g2 e) false)) (by rw [Int.toNat_natCast, tbl_len]) (by omega)] at hcq
  exact ⟨rfl, bls_cells hcq (by rw [Int.toNat_natCast, tbl_len, tbl_len]) (Nat.le_refl _) (by omega)⟩

set_option maxRecDepth 100000 in
set_option maxHeartbeats 4000000 in
theorem chosen_c {V : HV} {vars : Int} {g1 g2 g3 : (Int → Bool) → Bool} {cv av bv : Value} (hc : Bls V cv (tbl vars g1)) (ha : Bls V av (tbl vars g2)) (hb : Bls V bv (tbl vars g3)) (hv : vars ≤ 12) :
    FnC Try.prog 32 [cv, av, bv] V [] (fun v V' σ' => σ' = [] ∧ Bls V' v (tbl vars (fun e => iteF (g1 e) (g2 e) (g3 e)))) := by
 refine fn_intro (N := 37) Try.func32 (by kernel_rfl) rfl rfl rfl (Nat.le_of_ble_eq_true rfl) ?_
 intro w0 D
 have hpw := pow2_12 (n := vars.toNat) (by omega)
 have l1 := tbl_lenI vars g1
 have l2 := tbl_lenI vars g2
 have l3 := tbl_lenI vars g3
 refine vc_seq ?_
 refine vc_region ?_
 refine oq (qv_as (Value.slice none 0 0) rfl) ?_
 refine ops_nil ?_
 refine vc_seq ?_
 refine vc_region ?_
 refine oq (qv_mv cv rfl) ?_
 refine oq (qv_lenB Try.underlying34 rfl hc) ?_
 refine ops_make (n := (((tbl vars g1)).length : Int)) Try.underlying34 Try.ti4 rfl rfl rfl rfl (by omega) (by omega) (by omega) (fun b1 => ?_)
 refine oq (qv_as (.slice (some ⟨b1, 0, none⟩) ((((tbl vars g1)).length : Int)).toNat ((((tbl vars g1)).length : Int)).toNat) rfl) ?_
 refine ops_nil ?_
 refine vc_seq ?_
 refine vc_seq ?_
 refine vc_res (σ' := [(Arr 4 b1 (List.replicate ((((tbl vars g1)).length : Int)).toNat (Value.bool false)))]) rfl ?_
 refine vc_region ?_
 refine oq (qv_mv cv rfl) ?_
 refine oq (qv_lenB Try.underlying34 rfl hc) ?_
 refine oq (qv_mv (Value.int .i64 0) rfl) ?_
 refine ops_nil ?_
 refine vc_block ?_
 refine vc_loop (α := Int) (fun (xx : Int) => [(0, cv), (1, av), (2, bv), (6, (Value.slice none 0 0)), (7, (.slice (some ⟨b1, 0, none⟩) ((((tbl vars g1)).length : Int)).toNat ((((tbl vars g1)).length : Int)).toNat)), (13, (.int .i64 ((((tbl vars g1)).length : Int)))), (14, (Value.int .i64 xx))]) (fun (xx : Int) V' σ' => V = V' ∧ [(Arr 4 b1 (upF (fun j => (fun e => iteF (g1 e) (g2 e) (g3 e)) (asg vars j)) xx ((((tbl vars g1)).length : Int)).toNat))] = σ' ∧ 0 ≤ xx ∧ xx ≤ (2 : Int) ^ vars.toNat) (fun (xx : Int) => ((2 : Int) ^ vars.toNat - xx).toNat) (0) ?_ ?_ ?_
 · exact ⟨rfl, rfl, rfl, rfl, rfl, rfl, rfl, trivial⟩
 · exact ⟨rfl, (show [(Arr 4 b1 (upF (fun j => (fun e => iteF (g1 e) (g2 e) (g3 e)) (asg vars j)) 0 ((((tbl vars g1)).length : Int)).toNat))] = [(Arr 4 b1 (List.replicate ((((tbl vars g1)).length : Int)).toNat (Value.bool false)))] from by rw [← upF_0]), by omega, by omega⟩
 rintro k e1 V0l σ0l hI0
 obtain ⟨rfl, rfl, i1, i2⟩ : V = V0l ∧ [(Arr 4 b1 (upF (fun j => (fun e => iteF (g1 e) (g2 e) (g3 e)) (asg vars j)) k ((((tbl vars g1)).length : Int)).toNat))] = σ0l ∧ 0 ≤ k ∧ k ≤ (2 : Int) ^ vars.toNat := hI0
 refine vc_seq ?_
 refine vc_res (σ' := [(Arr 4 b1 (upF (fun j => (fun e => iteF (g1 e) (g2 e) (g3 e)) (asg vars j)) k ((((tbl vars g1)).length : Int)).toNat))]) rfl ?_
 refine vc_region ?_
 refine oq (qv_lss rfl rfl) ?_
 refine ops_nil ?_
 refine vc_seq ?_
 refine vc_if rfl (fun c1 => ?_) (fun c1 => ?_)
 ·
  refine vc_skip ?_
  refine vc_seq ?_
  refine vc_block ?_
  refine vc_seq ?_
  refine vc_region ?_
  refine oq (qv_mv (Value.int .i64 k) rfl) ?_
  refine oq (qv_as (Value.int .i64 k) rfl) ?_
  refine ops_nil ?_
  refine vc_seq ?_
  have e1 := tbl_get (g := g1) (vars := vars) (k := k) (by omega) (by omega)
  have e2 := tbl_get (g := g2) (vars := vars) (k := k) (by omega) (by omega)
  have e3 := tbl_get (g := g3) (vars := vars) (k := k) (by omega) (by omega)
  refine vc_region ?_
  refine oq (qv_mv cv rfl) ?_
  refine oq (qv_mv (Value.int .i64 k) rfl) ?_
  refine oq (qv_iab (v := cv) (i := k) Try.underlying34 Try.size4 rfl (inVb hc) rfl (by omega) (by omega)) ?_
  refine oq (qv_ldb (v := cv) (i := k) Try.plain4 rfl (inVb hc) (by omega) (by omega)) ?_
  refine ops_nil ?_
  refine vc_if rfl (fun c2 => ?_) (fun c2 => ?_)
  ·
   refine vc_region ?_
   refine oq (qv_mv (.slice (some ⟨b1, 0, none⟩) ((((tbl vars g1)).length : Int)).toNat ((((tbl vars g1)).length : Int)).toNat) rfl) ?_
   refine oq (qv_mv (Value.int .i64 k) rfl) ?_
   refine oq (qv_mv av rfl) ?_
   refine oq (qv_mv (Value.int .i64 k) rfl) ?_
   refine oq (qv_iab (v := av) (i := k) Try.underlying34 Try.size4 rfl (inVb ha) rfl (by omega) (by first | omega | (rw [upF_len]; omega))) ?_
   refine oq (qv_ldb (v := av) (i := k) Try.plain4 rfl (inVb ha) (by omega) (by first | omega | (rw [upF_len]; omega))) ?_
   refine oq (qv_ia (v := (.slice (some ⟨b1, 0, none⟩) ((((tbl vars g1)).length : Int)).toNat ((((tbl vars g1)).length : Int)).toNat)) (i := k) Try.underlying34 Try.size4 rfl (inO (k := 0) rfl (upF_len _ _ _).symm (Nat.le_refl _) (by omega)) rfl (by omega) (by first | omega | (rw [upF_len]; omega))) ?_
   refine ops_ste (k := 0) (b := b1) (n := ((((tbl vars g1)).length : Int)).toNat) (c := ((((tbl vars g1)).length : Int)).toNat) (i := k) (cs := (upF (fun j => (fun e => iteF (g1 e) (g2 e) (g3 e)) (asg vars j)) k ((((tbl vars g1)).length : Int)).toNat)) Try.size4 rfl (rfl : ev _ _ = (.bool (decide (gb ((tbl vars g2)) (k) = true)))) rfl rfl (by omega) (by first | omega | (rw [upF_len]; omega)) ?_
   refine ops_nil ?_
   refine vc_res (σ' := [(Arr 4 b1 (((upF (fun j => (fun e => iteF (g1 e) (g2 e) (g3 e)) (asg vars j)) k ((((tbl vars g1)).length : Int)).toNat)).set (k).toNat (.bool (decide (gb ((tbl vars g2)) (k) = true)))))]) rfl ?_
   refine vc_region ?_
   refine oq (qv_add rfl rfl (by omega)) ?_
   refine oq (qv_mv (.int .i64 (k + 1)) rfl) ?_
   refine ops_nil ?_
   have hpe : gb (tbl vars g2) k = true ↔ iteF (g1 (asg vars k)) (g2 (asg vars k)) (g3 (asg vars k)) = true := by rw [← e1, ← e2, ← e3]; unfold iteF; rw [if_pos c2]
   refine ⟨(k + 1), ⟨rfl, rfl, rfl, rfl, rfl, rfl, (congrArg (Value.int .i64) (show (k + 1) = ((k + 1)) from by omega)), trivial⟩, ⟨rfl, (show [(Arr 4 b1 (upF (fun j => (fun e => iteF (g1 e) (g2 e) (g3 e)) (asg vars j)) (k + 1) ((((tbl vars g1)).length : Int)).toNat))] = [(Arr 4 b1 (((upF (fun j => (fun e => iteF (g1 e) (g2 e) (g3 e)) (asg vars j)) k ((((tbl vars g1)).length : Int)).toNat)).set (k).toNat (.bool (decide (gb ((tbl vars g2)) (k) = true)))))] from by rw [upF_step (by omega) hpe]), by omega, by omega⟩, by omega⟩
  ·
   refine vc_region ?_
   refine oq (qv_mv (.slice (some ⟨b1, 0, none⟩) ((((tbl vars g1)).length : Int)).toNat ((((tbl vars g1)).length : Int)).toNat) rfl) ?_
   refine oq (qv_mv (Value.int .i64 k) rfl) ?_
   refine oq (qv_mv bv rfl) ?_
   refine oq (qv_mv (Value.int .i64 k) rfl) ?_
   refine oq (qv_iab (v := bv) (i := k) Try.underlying34 Try.size4 rfl (inVb hb) rfl (by omega) (by first | omega | (rw [upF_len]; omega))) ?_
   refine oq (qv_ldb (v := bv) (i := k) Try.plain4 rfl (inVb hb) (by omega) (by first | omega | (rw [upF_len]; omega))) ?_
   refine oq (qv_ia (v := (.slice (some ⟨b1, 0, none⟩) ((((tbl vars g1)).length : Int)).toNat ((((tbl vars g1)).length : Int)).toNat)) (i := k) Try.underlying34 Try.size4 rfl (inO (k := 0) rfl (upF_len _ _ _).symm (Nat.le_refl _) (by omega)) rfl (by omega) (by first | omega | (rw [upF_len]; omega))) ?_
   refine ops_ste (k := 0) (b := b1) (n := ((((tbl vars g1)).length : Int)).toNat) (c := ((((tbl vars g1)).length : Int)).toNat) (i := k) (cs := (upF (fun j => (fun e => iteF (g1 e) (g2 e) (g3 e)) (asg vars j)) k ((((tbl vars g1)).length : Int)).toNat)) Try.size4 rfl (rfl : ev _ _ = (.bool (decide (gb ((tbl vars g3)) (k) = true)))) rfl rfl (by omega) (by first | omega | (rw [upF_len]; omega)) ?_
   refine ops_nil ?_
   refine vc_res (σ' := [(Arr 4 b1 (((upF (fun j => (fun e => iteF (g1 e) (g2 e) (g3 e)) (asg vars j)) k ((((tbl vars g1)).length : Int)).toNat)).set (k).toNat (.bool (decide (gb ((tbl vars g3)) (k) = true)))))]) rfl ?_
   refine vc_region ?_
   refine oq (qv_add rfl rfl (by omega)) ?_
   refine oq (qv_mv (.int .i64 (k + 1)) rfl) ?_
   refine ops_nil ?_
   have hpe : gb (tbl vars g3) k = true ↔ iteF (g1 (asg vars k)) (g2 (asg vars k)) (g3 (asg vars k)) = true := by rw [← e1, ← e2, ← e3]; unfold iteF; rw [if_neg c2]
   refine ⟨(k + 1), ⟨rfl, rfl, rfl, rfl, rfl, rfl, (congrArg (Value.int .i64) (show (k + 1) = ((k + 1)) from by omega)), trivial⟩, ⟨rfl, (show [(Arr 4 b1 (upF (fun j => (fun e => iteF (g1 e) (g2 e) (g3 e)) (asg vars j)) (k + 1) ((((tbl vars g1)).length : Int)).toNat))] = [(Arr 4 b1 (((upF (fun j => (fun e => iteF (g1 e) (g2 e) (g3 e)) (asg vars j)) k ((((tbl vars g1)).length : Int)).toNat)).set (k).toNat (.bool (decide (gb ((tbl vars g3)) (k) = true)))))] from by rw [upF_step (by omega) hpe]), by omega, by omega⟩, by omega⟩
 ·
  refine vc_exit ?_
  refine blockQ_hit ?_
  refine vc_seq ?_
  refine vc_region ?_
  refine oq (qv_mv (.slice (some ⟨b1, 0, none⟩) ((((tbl vars g1)).length : Int)).toNat ((((tbl vars g1)).length : Int)).toNat) rfl) ?_
  refine oq (qv_as (.slice (some ⟨b1, 0, none⟩) ((((tbl vars g1)).length : Int)).toNat ((((tbl vars g1)).length : Int)).toNat) rfl) ?_
  refine ops_nil ?_
  refine vc_freeze (b := b1) (o := .cells ((upF (fun j => (fun e => iteF (g1 e) (g2 e) (g3 e)) (asg vars j)) k ((((tbl vars g1)).length : Int)).toNat) : List Value).toArray 4 (0, 0)) (σr := []) (List.perm_middle (l₁ := []) (l₂ := [])) (fun Vf1 hVf1 hb1 => ?_)
  have hc1 : Cells Vf1 b1 (upF (fun j => (fun e => iteF (g1 e) (g2 e) (g3 e)) (asg vars j)) k ((((tbl vars g1)).length : Int)).toNat) := ⟨_, _, hb1⟩
  refine vc_ret ?_
  refine rq1 (.slice (some ⟨b1, 0, none⟩) ((((tbl vars g1)).length : Int)).toNat ((((tbl vars g1)).length : Int)).toNat) rfl ?_
  have hcq := hc1
  rw [tbl_fill (vars := vars) (g := (fun e => iteF (g1 e) (g2 e) (g3 e))) (by rw [Int.toNat_natCast, tbl_len]) (by omega)] at hcq
  exact ⟨rfl, bls_cells hcq (by rw [Int.toNat_natCast, tbl_len, tbl_len]) (Nat.le_refl _) (by omega)⟩

set_option maxRecDepth 100000 in
set_option maxHeartbeats 4000000 in
theorem restricted_c {V : HV} {vars i : Int} {b : Bool} {g : (Int → Bool) → Bool} {tv : Value} (ht : Bls V tv (tbl vars g)) (hg : Dep vars g) (h0 : 0 ≤ vars) (hv : vars ≤ 12) (hi0 : 0 ≤ i) (hi1 : i < vars) :
    FnC Try.prog 42 [(Value.int .i64 vars), tv, (Value.int .i64 i), (.bool (decide (b = true)))] V [] (fun v V' σ' => σ' = [] ∧ Bls V' v (tbl vars (fun e => g (up e i b)))) := by
 refine fn_intro (N := 37) Try.func42 (by kernel_rfl) rfl rfl rfl (Nat.le_of_ble_eq_true rfl) ?_
 intro w0 D
 have hpw := pow2_12 (n := vars.toNat) (by omega)
 have l1 := tbl_lenI vars g
 refine vc_seq ?_
 refine vc_region ?_
 refine oq (qv_as (Value.slice none 0 0) rfl) ?_
 refine ops_nil ?_
 refine vc_seq ?_
 refine vc_region ?_
 refine oq (qv_mv tv rfl) ?_
 refine oq (qv_lenB Try.underlying34 rfl ht) ?_
 refine ops_make (n := (((tbl vars g)).length : Int)) Try.underlying34 Try.ti4 rfl rfl rfl rfl (by omega) (by omega) (by omega) (fun b1 => ?_)
 refine oq (qv_as (.slice (some ⟨b1, 0, none⟩) ((((tbl vars g)).length : Int)).toNat ((((tbl vars g)).length : Int)).toNat) rfl) ?_
 refine ops_nil ?_
 refine vc_seq ?_
 refine vc_seq ?_
 refine vc_res (σ' := [(Arr 4 b1 (List.replicate ((((tbl vars g)).length : Int)).toNat (Value.bool false)))]) rfl ?_
 refine vc_region ?_
 refine oq (qv_mv tv rfl) ?_
 refine oq (qv_lenB Try.underlying34 rfl ht) ?_
 refine oq (qv_mv (Value.int .i64 0) rfl) ?_
 refine ops_nil ?_
 refine vc_block ?_
 refine vc_loop (α := Int) (fun (xx : Int) => [(0, (Value.int .i64 vars)), (1, tv), (2, (Value.int .i64 i)), (3, (.bool (decide (b = true)))), (8, (Value.slice none 0 0)), (9, (.slice (some ⟨b1, 0, none⟩) ((((tbl vars g)).length : Int)).toNat ((((tbl vars g)).length : Int)).toNat)), (16, (.int .i64 ((((tbl vars g)).length : Int)))), (17, (Value.int .i64 xx))]) (fun (xx : Int) V' σ' => [(Arr 4 b1 (upF (fun j => (fun e => g (up e i b)) (asg vars j)) xx ((((tbl vars g)).length : Int)).toNat))] = σ' ∧ Bls V' tv (tbl vars g) ∧ 0 ≤ xx ∧ xx ≤ (2 : Int) ^ vars.toNat) (fun (xx : Int) => ((2 : Int) ^ vars.toNat - xx).toNat) (0) ?_ ?_ ?_
 · exact ⟨rfl, rfl, rfl, rfl, rfl, rfl, rfl, rfl, trivial⟩
 · exact ⟨(show [(Arr 4 b1 (upF (fun j => (fun e => g (up e i b)) (asg vars j)) 0 ((((tbl vars g)).length : Int)).toNat))] = [(Arr 4 b1 (List.replicate ((((tbl vars g)).length : Int)).toNat (Value.bool false)))] from by rw [← upF_0]), ht, by omega, by omega⟩
 rintro k e1 V0l σ0l hI0
 obtain ⟨rfl, ht, i1, i2⟩ : [(Arr 4 b1 (upF (fun j => (fun e => g (up e i b)) (asg vars j)) k ((((tbl vars g)).length : Int)).toNat))] = σ0l ∧ Bls V0l tv (tbl vars g) ∧ 0 ≤ k ∧ k ≤ (2 : Int) ^ vars.toNat := hI0
 refine vc_seq ?_
 refine vc_res (σ' := [(Arr 4 b1 (upF (fun j => (fun e => g (up e i b)) (asg vars j)) k ((((tbl vars g)).length : Int)).toNat))]) rfl ?_
 refine vc_region ?_
 refine oq (qv_lss rfl rfl) ?_
 refine ops_nil ?_
 refine vc_seq ?_
 refine vc_if rfl (fun c1 => ?_) (fun c1 => ?_)
 ·
  refine vc_skip ?_
  refine vc_seq ?_
  refine vc_block ?_
  refine vc_seq ?_
  refine vc_region ?_
  refine oq (qv_mv (Value.int .i64 k) rfl) ?_
  refine oq (qv_as (Value.int .i64 k) rfl) ?_
  refine ops_nil ?_
  refine vc_seq ?_
  refine vc_region ?_
  refine oq (qv_mv (Value.int .i64 vars) rfl) ?_
  refine oq (qv_mv (Value.int .i64 k) rfl) ?_
  refine ops_call (σa := []) (σr := [(Arr 4 b1 (upF (fun j => (fun e => g (up e i b)) (asg vars j)) k ((((tbl vars g)).length : Int)).toNat))]) (assignment_c (by omega) (by omega) (by omega) (by omega)) rfl rfl (.refl _) (fun r1 V1 sg1 hV1 hp1 => ?_)
  obtain ⟨ba, rfl, rfl⟩ := hp1
  have ht := ht.mono hV1
  refine oq (qv_as (.slice (some ⟨ba, 0, none⟩) (vars).toNat (vars).toNat) rfl) ?_
  refine ops_nil ?_
  refine vc_seq ?_
  refine vc_res (σ' := [(Arr 4 ba (bvs (asL vars k))), (Arr 4 b1 (upF (fun j => (fun e => g (up e i b)) (asg vars j)) k ((((tbl vars g)).length : Int)).toNat))]) rfl ?_
  refine vc_region ?_
  refine oq (qv_mv (.slice (some ⟨ba, 0, none⟩) (vars).toNat (vars).toNat) rfl) ?_
  refine oq (qv_mv (Value.int .i64 i) rfl) ?_
  refine oq (qv_mv (.bool (decide (b = true))) rfl) ?_
  refine oq (qv_ia (v := (.slice (some ⟨ba, 0, none⟩) (vars).toNat (vars).toNat)) (i := i) Try.underlying34 Try.size4 rfl (inO (k := 0) rfl (by rw [List.length_map]; exact (asL_len _ _).symm) (Nat.le_refl _) (by omega)) rfl (by omega) (by rw [List.length_map, asL_len]; omega)) ?_
  refine ops_ste (k := 0) (b := ba) (n := (vars).toNat) (c := (vars).toNat) (i := i) (cs := (bvs (asL vars k))) Try.size4 rfl (rfl : ev _ _ = (.bool (decide (b = true)))) rfl rfl (by omega) (by rw [List.length_map, asL_len]; omega) ?_
  refine ops_nil ?_
  refine vc_res (σ' := [(Arr 4 ba (((bvs (asL vars k))).set (i).toNat (.bool (decide (b = true))))), (Arr 4 b1 (upF (fun j => (fun e => g (up e i b)) (asg vars j)) k ((((tbl vars g)).length : Int)).toNat))]) rfl ?_
  have hrs := rs_bd (vars := vars) (k := k) (i := i) (b := b) h0
  have hrx := rs_idx (k := k) (b := b) hg h0 hi0 hi1
  refine vc_region ?_
  refine oq (qv_mv (.slice (some ⟨b1, 0, none⟩) ((((tbl vars g)).length : Int)).toNat ((((tbl vars g)).length : Int)).toNat) rfl) ?_
  refine oq (qv_mv (Value.int .i64 k) rfl) ?_
  refine oq (qv_mv tv rfl) ?_
  refine oq (qv_mv (.slice (some ⟨ba, 0, none⟩) (vars).toNat (vars).toNat) rfl) ?_
  refine oq (qv_call_own (v := (.int .i64 (nm_ ((asL vars k).set i.toNat b) ((asL vars k).set i.toNat b).length))) (k := 0) (b := ba) rfl (fun Vo hVo hbo => by have q := hbo; rw [set_bvs] at q; exact number_c (bls_cells ⟨_, _, q⟩ (by rw [List.length_set, asL_len]) (Nat.le_refl _) (by omega)) (by rw [List.length_set, asL_len]; omega)) rfl rfl) ?_
  refine oq (qv_iab (v := tv) (i := nm_ ((asL vars k).set i.toNat b) ((asL vars k).set i.toNat b).length) Try.underlying34 Try.size4 rfl (inVb ht) rfl (by omega) (by first | omega | (rw [upF_len]; omega))) ?_
  refine oq (qv_ldb (v := tv) (i := nm_ ((asL vars k).set i.toNat b) ((asL vars k).set i.toNat b).length) Try.plain4 rfl (inVb ht) (by omega) (by first | omega | (rw [upF_len]; omega))) ?_
  refine oq (qv_ia (v := (.slice (some ⟨b1, 0, none⟩) ((((tbl vars g)).length : Int)).toNat ((((tbl vars g)).length : Int)).toNat)) (i := k) Try.underlying34 Try.size4 rfl (inO (k := 1) rfl (upF_len _ _ _).symm (Nat.le_refl _) (by omega)) rfl (by omega) (by first | omega | (rw [upF_len]; omega))) ?_
  refine ops_ste (k := 1) (b := b1) (n := ((((tbl vars g)).length : Int)).toNat) (c := ((((tbl vars g)).length : Int)).toNat) (i := k) (cs := (upF (fun j => (fun e => g (up e i b)) (asg vars j)) k ((((tbl vars g)).length : Int)).toNat)) Try.size4 rfl (rfl : ev _ _ = (.bool (decide (gb ((tbl vars g)) (nm_ ((asL vars k).set i.toNat b) ((asL vars k).set i.toNat b).length) = true)))) rfl rfl (by omega) (by first | omega | (rw [upF_len]; omega)) ?_
  refine ops_nil ?_
  refine vc_res (σ' := [(Arr 4 ba (((bvs (asL vars k))).set (i).toNat (.bool (decide (b = true))))), (Arr 4 b1 (((upF (fun j => (fun e => g (up e i b)) (asg vars j)) k ((((tbl vars g)).length : Int)).toNat)).set (k).toNat (.bool (decide (gb ((tbl vars g)) (nm_ ((asL vars k).set i.toNat b) ((asL vars k).set i.toNat b).length) = true)))))]) rfl ?_
  refine vc_drop [(Arr 4 b1 (((upF (fun j => (fun e => g (up e i b)) (asg vars j)) k ((((tbl vars g)).length : Int)).toNat)).set (k).toNat (Value.bool (decide (gb ((tbl vars g)) (nm_ ((asL vars k).set i.toNat b) ((asL vars k).set i.toNat b).length) = true)))))] [(Arr 4 ba (((bvs (asL vars k))).set (i).toNat (Value.bool (decide (b = true)))))] ((List.perm_middle (l₁ := []) (l₂ := [(Arr 4 b1 (((upF (fun j => (fun e => g (up e i b)) (asg vars j)) k ((((tbl vars g)).length : Int)).toNat)).set (k).toNat (Value.bool (decide (gb ((tbl vars g)) (nm_ ((asL vars k).set i.toNat b) ((asL vars k).set i.toNat b).length) = true)))))])).trans (List.perm_append_comm (l₁ := [(Arr 4 ba (((bvs (asL vars k))).set (i).toNat (Value.bool (decide (b = true)))))]))) ?_
  refine vc_region ?_
  refine oq (qv_add rfl rfl (by omega)) ?_
  refine oq (qv_mv (.int .i64 (k + 1)) rfl) ?_
  refine ops_nil ?_
  refine ⟨(k + 1), ⟨rfl, rfl, rfl, rfl, rfl, rfl, rfl, (congrArg (Value.int .i64) (show (k + 1) = ((k + 1)) from by omega)), trivial⟩, ⟨(show [(Arr 4 b1 (upF (fun j => (fun e => g (up e i b)) (asg vars j)) (k + 1) ((((tbl vars g)).length : Int)).toNat))] = [(Arr 4 b1 (((upF (fun j => (fun e => g (up e i b)) (asg vars j)) k ((((tbl vars g)).length : Int)).toNat)).set (k).toNat (.bool (decide (gb ((tbl vars g)) (nm_ ((asL vars k).set i.toNat b) ((asL vars k).set i.toNat b).length) = true)))))] from by rw [upF_step (by omega) (by rw [hrx])]), ht, by omega, by omega⟩, by omega⟩
 ·
  refine vc_exit ?_
  refine blockQ_hit ?_
  refine vc_seq ?_
  refine vc_region ?_
  refine oq (qv_mv (.slice (some ⟨b1, 0, none⟩) ((((tbl vars g)).length : Int)).toNat ((((tbl vars g)).length : Int)).toNat) rfl) ?_
  refine oq (qv_as (.slice (some ⟨b1, 0, none⟩) ((((tbl vars g)).length : Int)).toNat ((((tbl vars g)).length : Int)).toNat) rfl) ?_
  refine ops_nil ?_
  refine vc_freeze (b := b1) (o := .cells ((upF (fun j => (fun e => g (up e i b)) (asg vars j)) k ((((tbl vars g)).length : Int)).toNat) : List Value).toArray 4 (0, 0)) (σr := []) (List.perm_middle (l₁ := []) (l₂ := [])) (fun Vf1 hVf1 hb1 => ?_)
  have hc1 : Cells Vf1 b1 (upF (fun j => (fun e => g (up e i b)) (asg vars j)) k ((((tbl vars g)).length : Int)).toNat) := ⟨_, _, hb1⟩
  have ht := ht.mono hVf1
  refine vc_ret ?_
  refine rq1 (.slice (some ⟨b1, 0, none⟩) ((((tbl vars g)).length : Int)).toNat ((((tbl vars g)).length : Int)).toNat) rfl ?_
  have hcq := hc1
  rw [tbl_fill (vars := vars) (g := (fun e => g (up e i b))) (by rw [Int.toNat_natCast, tbl_len]) (by omega)] at hcq
  exact ⟨rfl, bls_cells hcq (by rw [Int.toNat_natCast, tbl_len, tbl_len]) (Nat.le_refl _) (by omega)⟩

set_option maxRecDepth 100000 in
set_option maxHeartbeats 4000000 in
theorem within_c {V : HV} {vars : Int} {l : List Int} {lv : Value} (hl : Ints .i64 V lv l) :
    FnC Try.prog 38 [(Value.int .i64 vars), lv] V [] (fun v _ _ => v = (.bool (decide (∀ j : Int, 0 ≤ j → j < l.length → 0 ≤ gi l j ∧ gi l j < vars)))) := by
 refine fn_intro (N := 21) Try.func38 (by kernel_rfl) rfl rfl rfl (Nat.le_of_ble_eq_true rfl) ?_
 intro w0 D
 have hb := hl.bound
 refine vc_seq ?_
 refine vc_region ?_
 refine oq (qv_as (Value.bool false) rfl) ?_
 refine ops_nil ?_
 refine vc_seq ?_
 refine vc_seq ?_
 refine vc_region ?_
 refine oq (qv_mv lv rfl) ?_
 refine oq (qv_lenI Try.underlying58 rfl hl) ?_
 refine oq (qv_mv (Value.int .i64 0) rfl) ?_
 refine ops_nil ?_
 refine vc_block ?_
 refine vc_loop (α := Int) (fun (xx : Int) => [(0, (Value.int .i64 vars)), (1, lv), (7, lv), (8, (.int .i64 ((l.length : Int)))), (9, (Value.int .i64 xx))]) (fun (xx : Int) V' σ' => V = V' ∧ [] = σ' ∧ 0 ≤ xx ∧ xx ≤ l.length ∧ ∀ j : Int, 0 ≤ j → j < xx → 0 ≤ gi l j ∧ gi l j < vars) (fun (xx : Int) => (l.length - xx).toNat) (0) ?_ ?_ ?_
 · exact ⟨rfl, rfl, rfl, rfl, rfl, trivial⟩
 · exact ⟨rfl, rfl, by omega, by omega, fun j a b => by omega⟩
 rintro n e1 V0l σ0l hI0
 obtain ⟨rfl, rfl, i1, i2, hw⟩ : V = V0l ∧ [] = σ0l ∧ 0 ≤ n ∧ n ≤ l.length ∧ ∀ j : Int, 0 ≤ j → j < n → 0 ≤ gi l j ∧ gi l j < vars := hI0
 refine vc_seq ?_
 refine vc_region ?_
 refine oq (qv_lss rfl rfl) ?_
 refine ops_nil ?_
 refine vc_seq ?_
 refine vc_if rfl (fun c1 => ?_) (fun c1 => ?_)
 ·
  refine vc_skip ?_
  refine vc_seq ?_
  refine vc_block ?_
  refine vc_seq ?_
  refine vc_region ?_
  refine oq (qv_iai (v := lv) (i := n) Try.underlying58 Try.size3 rfl (inVi hl) rfl (by omega) (by omega)) ?_
  refine oq (qv_ldi (v := lv) (i := n) Try.plain3 rfl (inVi hl) (by omega) (by omega)) ?_
  refine oq (qv_as (.int .i64 (gi l (n))) rfl) ?_
  refine ops_nil ?_
  refine vc_seq ?_
  refine vc_region ?_
  refine oq (qv_mv (.int .i64 (gi l (n))) rfl) ?_
  refine oq (qv_lss rfl rfl) ?_
  refine oq (qv_mv (.bool (decide ((gi l (n)) < 0))) rfl) ?_
  by_cases g1 : (gi l (n)) < 0
  ·
   refine os (want_fn g1 rfl rfl rfl) ?_
   refine os (want_fn g1 rfl rfl rfl) ?_
   refine os (want_fn g1 rfl rfl rfl) ?_
   refine oq (qv_pick_t g1 rfl (rfl : ev _ _ = (Value.bool true))) ?_
   refine ops_nil ?_
   refine vc_tt rfl ?_
   refine vc_seq ?_
   refine vc_region ?_
   refine oq (qv_as (Value.bool false) rfl) ?_
   refine ops_nil ?_
   refine vc_ret ?_
   refine blockQ_ret ?_
   refine blockQ_ret ?_
   exact rq1 (.bool (decide (∀ j : Int, 0 ≤ j → j < l.length → 0 ≤ gi l j ∧ gi l j < vars))) (congrArg Value.bool (decide_eq_false (show ¬ (∀ j : Int, 0 ≤ j → j < l.length → 0 ≤ gi l j ∧ gi l j < vars) from by exact fun z => by have := z n (by omega) (by omega); omega)).symm) rfl
  ·
   refine og (qv_mv (.int .i64 (gi l (n))) rfl) (want_f g1 rfl rfl rfl) ?_
   refine og (qv_mv (Value.int .i64 vars) rfl) (want_f g1 rfl rfl rfl) ?_
   refine og (qv_geq rfl rfl) (want_f g1 rfl rfl rfl) ?_
   refine oq (qv_pick_f g1 rfl (rfl : ev _ _ = (.bool (decide (vars ≤ (gi l (n))))))) ?_
   refine ops_nil ?_
   refine vc_if rfl (fun c2 => ?_) (fun c2 => ?_)
   ·
    refine vc_seq ?_
    refine vc_region ?_
    refine oq (qv_as (Value.bool false) rfl) ?_
    refine ops_nil ?_
    refine vc_ret ?_
    refine blockQ_ret ?_
    refine blockQ_ret ?_
    exact rq1 (.bool (decide (∀ j : Int, 0 ≤ j → j < l.length → 0 ≤ gi l j ∧ gi l j < vars))) (congrArg Value.bool (decide_eq_false (show ¬ (∀ j : Int, 0 ≤ j → j < l.length → 0 ≤ gi l j ∧ gi l j < vars) from by exact fun z => by have := z n (by omega) (by omega); omega)).symm) rfl
   ·
    refine vc_skip ?_
    refine vc_region ?_
    refine oq (qv_add rfl rfl (by omega)) ?_
    refine oq (qv_mv (.int .i64 (n + 1)) rfl) ?_
    refine ops_nil ?_
    refine ⟨(n + 1), ⟨rfl, rfl, rfl, rfl, (congrArg (Value.int .i64) (show (n + 1) = ((n + 1)) from by omega)), trivial⟩, ⟨rfl, rfl, by omega, by omega, all_snoc hw ⟨by omega, by omega⟩⟩, by omega⟩
 ·
  refine vc_exit ?_
  refine blockQ_hit ?_
  refine vc_seq ?_
  refine vc_region ?_
  refine oq (qv_as (Value.bool true) rfl) ?_
  refine ops_nil ?_
  refine vc_ret ?_
  exact rq1 (.bool (decide (∀ j : Int, 0 ≤ j → j < l.length → 0 ≤ gi l j ∧ gi l j < vars))) (congrArg Value.bool (decide_eq_true (show (∀ j : Int, 0 ≤ j → j < l.length → 0 ≤ gi l j ∧ gi l j < vars) from by exact fun j a b => hw j a (by omega))).symm) rfl

set_option maxRecDepth 100000 in
set_option maxHeartbeats 4000000 in
theorem quantified_c {V : HV} {vars : Int} {al : Bool} {g : (Int → Bool) → Bool} {l : List Int} {tv lv : Value} (ht : Bls V tv (tbl vars g)) (hl : Ints .i64 V lv l) (hg : Dep vars g) (h0 : 0 ≤ vars) (hv : vars ≤ 12) (hw : ∀ j : Int, 0 ≤ j → j < l.length → 0 ≤ gi l j ∧ gi l j < vars) :
    FnC Try.prog 39 [(Value.int .i64 vars), tv, lv, (.bool (decide (al = true)))] V [] (fun v V' σ' => σ' = [] ∧ Bls V' v (tbl vars (qgs g l al l.length))) := by
 refine fn_intro (N := 68) Try.func39 (by kernel_rfl) rfl rfl rfl (Nat.le_of_ble_eq_true rfl) ?_
 intro w0 D
 have hb := hl.bound
 have hpw := pow2_12 (n := vars.toNat) (by omega)
 refine vc_seq ?_
 refine vc_region ?_
 refine oq (qv_as (Value.slice none 0 0) rfl) ?_
 refine ops_nil ?_
 refine vc_seq ?_
 refine vc_seq ?_
 refine vc_region ?_
 refine oq (qv_mv lv rfl) ?_
 refine oq (qv_lenI Try.underlying58 rfl hl) ?_
 refine oq (qv_mv (Value.int .i64 0) rfl) ?_
 refine ops_nil ?_
 refine vc_block ?_
 refine vc_loop (α := Int × Value) (fun (xx : Int × Value) => [(0, (Value.int .i64 vars)), (2, lv), (3, (.bool (decide (al = true)))), (8, (Value.slice none 0 0)), (15, lv), (16, (.int .i64 ((l.length : Int)))), (1, xx.2), (17, (Value.int .i64 xx.1))]) (fun (xx : Int × Value) V' σ' => [] = σ' ∧ Bls V' xx.2 (tbl vars (qgs g l al xx.1.toNat)) ∧ Ints .i64 V' lv l ∧ 0 ≤ xx.1 ∧ xx.1 ≤ l.length) (fun (xx : Int × Value) => (l.length - xx.1).toNat) (0, tv) ?_ ?_ ?_
 · exact ⟨rfl, rfl, rfl, rfl, rfl, rfl, rfl, rfl, trivial⟩
 · exact ⟨rfl, ht, hl, by omega, by omega⟩
 rintro ⟨n, tw⟩ e1 V0l σ0l hI0
 obtain ⟨rfl, ht, hl, i1, i2⟩ : [] = σ0l ∧ Bls V0l tw (tbl vars (qgs g l al n.toNat)) ∧ Ints .i64 V0l lv l ∧ 0 ≤ n ∧ n ≤ l.length := hI0
 change VC _ _ _ _ _ _ (upds 68 [(0, (Value.int .i64 vars)), (2, lv), (3, (.bool (decide (al = true)))), (8, (Value.slice none 0 0)), (15, lv), (16, (.int .i64 ((l.length : Int)))), (1, tw), (17, (Value.int .i64 n))] e1) _ _
 refine vc_seq ?_
 refine vc_region ?_
 refine oq (qv_lss rfl rfl) ?_
 refine ops_nil ?_
 refine vc_seq ?_
 refine vc_if rfl (fun c1 => ?_) (fun c1 => ?_)
 ·
  refine vc_skip ?_
  refine vc_seq ?_
  refine vc_block ?_
  refine vc_seq ?_
  refine vc_region ?_
  refine oq (qv_iai (v := lv) (i := n) Try.underlying58 Try.size3 rfl (inVi hl) rfl (by omega) (by omega)) ?_
  refine oq (qv_ldi (v := lv) (i := n) Try.plain3 rfl (inVi hl) (by omega) (by omega)) ?_
  refine oq (qv_as (.int .i64 (gi l (n))) rfl) ?_
  refine ops_nil ?_
  refine vc_seq ?_
  refine vc_region ?_
  refine oq (qv_mv (Value.int .i64 vars) rfl) ?_
  refine oq (qv_mv tw rfl) ?_
  refine oq (qv_mv (.int .i64 (gi l (n))) rfl) ?_
  refine ops_call (σa := []) (σr := []) (restricted_c (i := gi l n) (b := false) (g := (qgs g l al n.toNat)) ht (hg.qgs _) h0 hv (hw n (by omega) (by omega)).1 (hw n (by omega) (by omega)).2) rfl rfl (.refl _) (fun r1 V1 sg1 hV1 hp1 => ?_)
  obtain ⟨rfl, hTr1⟩ := hp1
  have ht := ht.mono hV1
  have hl := hl.mono hV1
  refine oq (qv_mv (Value.int .i64 vars) rfl) ?_
  refine oq (qv_mv tw rfl) ?_
  refine oq (qv_mv (.int .i64 (gi l (n))) rfl) ?_
  refine ops_call (σa := []) (σr := []) (restricted_c (i := gi l n) (b := true) (g := (qgs g l al n.toNat)) ht (hg.qgs _) h0 hv (hw n (by omega) (by omega)).1 (hw n (by omega) (by omega)).2) rfl rfl (.refl _) (fun r2 V2 sg2 hV2 hp2 => ?_)
  obtain ⟨rfl, hTr2⟩ := hp2
  have ht := ht.mono hV2
  have hl := hl.mono hV2
  have hTr1 := hTr1.mono hV2
  refine oq (qv_as r1 rfl) ?_
  refine oq (qv_as r2 rfl) ?_
  refine ops_nil ?_
  refine vc_seq ?_
  have l1 := tbl_lenI vars (qgs g l al n.toNat)
  have l2 := tbl_lenI vars (fun e => (qgs g l al n.toNat) (up e (gi l n) false))
  have l3 := tbl_lenI vars (fun e => (qgs g l al n.toNat) (up e (gi l n) true))
  refine vc_region ?_
  refine oq (qv_mv tw rfl) ?_
  refine oq (qv_lenB Try.underlying34 rfl ht) ?_
  refine ops_make (n := (((tbl vars (qgs g l al n.toNat))).length : Int)) Try.underlying34 Try.ti4 rfl rfl rfl rfl (by omega) (by omega) (by omega) (fun b1 => ?_)
  refine oq (qv_as (.slice (some ⟨b1, 0, none⟩) ((((tbl vars (qgs g l al n.toNat))).length : Int)).toNat ((((tbl vars (qgs g l al n.toNat))).length : Int)).toNat) rfl) ?_
  refine ops_nil ?_
  refine vc_seq ?_
  refine vc_seq ?_
  refine vc_res (σ' := [(Arr 4 b1 (List.replicate ((((tbl vars (qgs g l al n.toNat))).length : Int)).toNat (Value.bool false)))]) rfl ?_
  refine vc_region ?_
  refine oq (qv_mv tw rfl) ?_
  refine oq (qv_lenB Try.underlying34 rfl ht) ?_
  refine oq (qv_mv (Value.int .i64 0) rfl) ?_
  refine ops_nil ?_
  refine vc_block ?_
  refine vc_loop (α := Int) (fun (xx : Int) => [(0, (Value.int .i64 vars)), (1, tw), (2, lv), (3, (.bool (decide (al = true)))), (8, (Value.slice none 0 0)), (10, (.int .i64 (gi l (n)))), (11, r1), (12, r2), (13, (.slice (some ⟨b1, 0, none⟩) ((((tbl vars (qgs g l al n.toNat))).length : Int)).toNat ((((tbl vars (qgs g l al n.toNat))).length : Int)).toNat)), (15, lv), (16, (.int .i64 ((l.length : Int)))), (17, (Value.int .i64 n)), (18, (.bool (decide (n < ((l.length : Int)))))), (33, (.int .i64 ((((tbl vars (qgs g l al n.toNat))).length : Int)))), (34, (Value.int .i64 xx))]) (fun (xx : Int) V' σ' => V2 = V' ∧ [(Arr 4 b1 (upF (fun j => (fun e => if al then (qgs g l al n.toNat) (up e (gi l n) false) && (qgs g l al n.toNat) (up e (gi l n) true) else (qgs g l al n.toNat) (up e (gi l n) false) || (qgs g l al n.toNat) (up e (gi l n) true)) (asg vars j)) xx ((((tbl vars (qgs g l al n.toNat))).length : Int)).toNat))] = σ' ∧ 0 ≤ xx ∧ xx ≤ (2 : Int) ^ vars.toNat) (fun (xx : Int) => ((2 : Int) ^ vars.toNat - xx).toNat) (0) ?_ ?_ ?_
  · exact ⟨rfl, rfl, rfl, rfl, rfl, rfl, rfl, rfl, rfl, rfl, rfl, rfl, rfl, rfl, rfl, trivial⟩
  · exact ⟨rfl, (show [(Arr 4 b1 (upF (fun j => (fun e => if al then (qgs g l al n.toNat) (up e (gi l n) false) && (qgs g l al n.toNat) (up e (gi l n) true) else (qgs g l al n.toNat) (up e (gi l n) false) || (qgs g l al n.toNat) (up e (gi l n) true)) (asg vars j)) 0 ((((tbl vars (qgs g l al n.toNat))).length : Int)).toNat))] = [(Arr 4 b1 (List.replicate ((((tbl vars (qgs g l al n.toNat))).length : Int)).toNat (Value.bool false)))] from by rw [← upF_0]), by omega, by omega⟩
  rintro k e2 V1l σ1l hI1
  obtain ⟨rfl, rfl, i3, i4⟩ : V2 = V1l ∧ [(Arr 4 b1 (upF (fun j => (fun e => if al then (qgs g l al n.toNat) (up e (gi l n) false) && (qgs g l al n.toNat) (up e (gi l n) true) else (qgs g l al n.toNat) (up e (gi l n) false) || (qgs g l al n.toNat) (up e (gi l n) true)) (asg vars j)) k ((((tbl vars (qgs g l al n.toNat))).length : Int)).toNat))] = σ1l ∧ 0 ≤ k ∧ k ≤ (2 : Int) ^ vars.toNat := hI1
  refine vc_seq ?_
  refine vc_res (σ' := [(Arr 4 b1 (upF (fun j => (fun e => if al then (qgs g l al n.toNat) (up e (gi l n) false) && (qgs g l al n.toNat) (up e (gi l n) true) else (qgs g l al n.toNat) (up e (gi l n) false) || (qgs g l al n.toNat) (up e (gi l n) true)) (asg vars j)) k ((((tbl vars (qgs g l al n.toNat))).length : Int)).toNat))]) rfl ?_
  refine vc_region ?_
  refine oq (qv_lss rfl rfl) ?_
  refine ops_nil ?_
  refine vc_seq ?_
  refine vc_if rfl (fun c2 => ?_) (fun c2 => ?_)
  ·
   refine vc_skip ?_
   refine vc_seq ?_
   refine vc_block ?_
   refine vc_seq ?_
   have e1 := tbl_get (g := (fun e => (qgs g l al n.toNat) (up e (gi l n) false))) (vars := vars) (k := k) (by omega) (by omega)
   have e2 := tbl_get (g := (fun e => (qgs g l al n.toNat) (up e (gi l n) true))) (vars := vars) (k := k) (by omega) (by omega)
   refine vc_region ?_
   refine oq (qv_mv (Value.int .i64 k) rfl) ?_
   refine oq (qv_as (Value.int .i64 k) rfl) ?_
   refine ops_nil ?_
   refine vc_seq ?_
   refine vc_region ?_
   refine oq (qv_mv (.bool (decide (al = true))) rfl) ?_
   refine ops_nil ?_
   refine vc_if rfl (fun c3 => ?_) (fun c3 => ?_)
   ·
    refine vc_region ?_
    refine oq (qv_mv (.slice (some ⟨b1, 0, none⟩) ((((tbl vars (qgs g l al n.toNat))).length : Int)).toNat ((((tbl vars (qgs g l al n.toNat))).length : Int)).toNat) rfl) ?_
    refine oq (qv_mv (Value.int .i64 k) rfl) ?_
    refine oq (qv_mv r1 rfl) ?_
    refine oq (qv_mv (Value.int .i64 k) rfl) ?_
    refine oq (qv_iab (v := r1) (i := k) Try.underlying34 Try.size4 rfl (inVb hTr1) rfl (by omega) (by omega)) ?_
    refine oq (qv_ldb (v := r1) (i := k) Try.plain4 rfl (inVb hTr1) (by omega) (by omega)) ?_
    refine oq (qv_mv (.bool (decide (gb ((tbl vars (fun e => (qgs g l al n.toNat) (up e (gi l n) false)))) (k) = true))) rfl) ?_
    by_cases g1 : gb ((tbl vars (fun e => (qgs g l al n.toNat) (up e (gi l n) false)))) (k) = true
    ·
     refine og (qv_mv r2 rfl) (want_t g1 rfl rfl rfl) ?_
     refine og (qv_mv (Value.int .i64 k) rfl) (want_t g1 rfl rfl rfl) ?_
     refine og (qv_iab (v := r2) (i := k) Try.underlying34 Try.size4 rfl (inVb hTr2) rfl (by omega) (by omega)) (want_t g1 rfl rfl rfl) ?_
     refine og (qv_ldb (v := r2) (i := k) Try.plain4 rfl (inVb hTr2) (by omega) (by omega)) (want_t g1 rfl rfl rfl) ?_
     refine oq (qv_pick_t g1 rfl (rfl : ev _ _ = (.bool (decide (gb ((tbl vars (fun e => (qgs g l al n.toNat) (up e (gi l n) true)))) (k) = true))))) ?_
     refine oq (qv_ia (v := (.slice (some ⟨b1, 0, none⟩) ((((tbl vars (qgs g l al n.toNat))).length : Int)).toNat ((((tbl vars (qgs g l al n.toNat))).length : Int)).toNat)) (i := k) Try.underlying34 Try.size4 rfl (inO (k := 0) rfl (upF_len _ _ _).symm (Nat.le_refl _) (by omega)) rfl (by omega) (by first | omega | (rw [upF_len]; omega))) ?_
     refine ops_ste (k := 0) (b := b1) (n := ((((tbl vars (qgs g l al n.toNat))).length : Int)).toNat) (c := ((((tbl vars (qgs g l al n.toNat))).length : Int)).toNat) (i := k) (cs := (upF (fun j => (fun e => if al then (qgs g l al n.toNat) (up e (gi l n) false) && (qgs g l al n.toNat) (up e (gi l n) true) else (qgs g l al n.toNat) (up e (gi l n) false) || (qgs g l al n.toNat) (up e (gi l n) true)) (asg vars j)) k ((((tbl vars (qgs g l al n.toNat))).length : Int)).toNat)) Try.size4 rfl (rfl : ev _ _ = (.bool (decide (gb ((tbl vars (fun e => (qgs g l al n.toNat) (up e (gi l n) true)))) (k) = true)))) rfl rfl (by omega) (by first | omega | (rw [upF_len]; omega)) ?_
     refine ops_nil ?_
     refine vc_res (σ' := [(Arr 4 b1 (((upF (fun j => (fun e => if al then (qgs g l al n.toNat) (up e (gi l n) false) && (qgs g l al n.toNat) (up e (gi l n) true) else (qgs g l al n.toNat) (up e (gi l n) false) || (qgs g l al n.toNat) (up e (gi l n) true)) (asg vars j)) k ((((tbl vars (qgs g l al n.toNat))).length : Int)).toNat)).set (k).toNat (.bool (decide (gb ((tbl vars (fun e => (qgs g l al n.toNat) (up e (gi l n) true)))) (k) = true)))))]) rfl ?_
     refine vc_region ?_
     refine oq (qv_add rfl rfl (by omega)) ?_
     refine oq (qv_mv (.int .i64 (k + 1)) rfl) ?_
     refine ops_nil ?_
     have hg1 : gb (tbl vars (fun e => (qgs g l al n.toNat) (up e (gi l n) false))) k = true := g1
     have hpe : gb (tbl vars (fun e => (qgs g l al n.toNat) (up e (gi l n) true))) k = true ↔ (fun e => if al then (qgs g l al n.toNat) (up e (gi l n) false) && (qgs g l al n.toNat) (up e (gi l n) true) else (qgs g l al n.toNat) (up e (gi l n) false) || (qgs g l al n.toNat) (up e (gi l n) true)) (asg vars k) = true := by
       show _ ↔ (if al = true then _ else _) = true
       rw [if_pos c3]
       rw [← e1, ← e2, hg1]
       simp
     refine ⟨(k + 1), ⟨rfl, rfl, rfl, rfl, rfl, rfl, rfl, rfl, rfl, rfl, rfl, rfl, rfl, rfl, (congrArg (Value.int .i64) (show (k + 1) = ((k + 1)) from by omega)), trivial⟩, ⟨rfl, (show [(Arr 4 b1 (upF (fun j => (fun e => if al then (qgs g l al n.toNat) (up e (gi l n) false) && (qgs g l al n.toNat) (up e (gi l n) true) else (qgs g l al n.toNat) (up e (gi l n) false) || (qgs g l al n.toNat) (up e (gi l n) true)) (asg vars j)) (k + 1) ((((tbl vars (qgs g l al n.toNat))).length : Int)).toNat))] = [(Arr 4 b1 (((upF (fun j => (fun e => if al then (qgs g l al n.toNat) (up e (gi l n) false) && (qgs g l al n.toNat) (up e (gi l n) true) else (qgs g l al n.toNat) (up e (gi l n) false) || (qgs g l al n.toNat) (up e (gi l n) true)) (asg vars j)) k ((((tbl vars (qgs g l al n.toNat))).length : Int)).toNat)).set (k).toNat (.bool (decide (gb ((tbl vars (fun e => (qgs g l al n.toNat) (up e (gi l n) true)))) (k) = true)))))] from by first | rw [upF_step (by omega) hpe] | rw [upF_stepb (by omega) hpe]), by omega, by omega⟩, by omega⟩
    ·
     refine os (want_tn g1 rfl rfl rfl) ?_
     refine os (want_tn g1 rfl rfl rfl) ?_
     refine os (want_tn g1 rfl rfl rfl) ?_
     refine os (want_tn g1 rfl rfl rfl) ?_
     refine oq (qv_pick_f g1 rfl (rfl : ev _ _ = (Value.bool false))) ?_
     refine oq (qv_ia (v := (.slice (some ⟨b1, 0, none⟩) ((((tbl vars (qgs g l al n.toNat))).length : Int)).toNat ((((tbl vars (qgs g l al n.toNat))).length : Int)).toNat)) (i := k) Try.underlying34 Try.size4 rfl (inO (k := 0) rfl (upF_len _ _ _).symm (Nat.le_refl _) (by omega)) rfl (by omega) (by first | omega | (rw [upF_len]; omega))) ?_
     refine ops_ste (k := 0) (b := b1) (n := ((((tbl vars (qgs g l al n.toNat))).length : Int)).toNat) (c := ((((tbl vars (qgs g l al n.toNat))).length : Int)).toNat) (i := k) (cs := (upF (fun j => (fun e => if al then (qgs g l al n.toNat) (up e (gi l n) false) && (qgs g l al n.toNat) (up e (gi l n) true) else (qgs g l al n.toNat) (up e (gi l n) false) || (qgs g l al n.toNat) (up e (gi l n) true)) (asg vars j)) k ((((tbl vars (qgs g l al n.toNat))).length : Int)).toNat)) Try.size4 rfl (rfl : ev _ _ = (Value.bool false)) rfl rfl (by omega) (by first | omega | (rw [upF_len]; omega)) ?_
     refine ops_nil ?_
     refine vc_res (σ' := [(Arr 4 b1 (((upF (fun j => (fun e => if al then (qgs g l al n.toNat) (up e (gi l n) false) && (qgs g l al n.toNat) (up e (gi l n) true) else (qgs g l al n.toNat) (up e (gi l n) false) || (qgs g l al n.toNat) (up e (gi l n) true)) (asg vars j)) k ((((tbl vars (qgs g l al n.toNat))).length : Int)).toNat)).set (k).toNat (Value.bool false)))]) rfl ?_
     refine vc_region ?_
     refine oq (qv_add rfl rfl (by omega)) ?_
     refine oq (qv_mv (.int .i64 (k + 1)) rfl) ?_
     refine ops_nil ?_
     have hg1 : gb (tbl vars (fun e => (qgs g l al n.toNat) (up e (gi l n) false))) k = false := Bool.eq_false_iff.2 g1
     have hpe : (fun e => if al then (qgs g l al n.toNat) (up e (gi l n) false) && (qgs g l al n.toNat) (up e (gi l n) true) else (qgs g l al n.toNat) (up e (gi l n) false) || (qgs g l al n.toNat) (up e (gi l n) true)) (asg vars k) = false := by
       show (if al = true then _ else _) = false
       rw [if_pos c3]
       rw [← e1, ← e2, hg1]
       simp
     refine ⟨(k + 1), ⟨rfl, rfl, rfl, rfl, rfl, rfl, rfl, rfl, rfl, rfl, rfl, rfl, rfl, rfl, (congrArg (Value.int .i64) (show (k + 1) = ((k + 1)) from by omega)), trivial⟩, ⟨rfl, (show [(Arr 4 b1 (upF (fun j => (fun e => if al then (qgs g l al n.toNat) (up e (gi l n) false) && (qgs g l al n.toNat) (up e (gi l n) true) else (qgs g l al n.toNat) (up e (gi l n) false) || (qgs g l al n.toNat) (up e (gi l n) true)) (asg vars j)) (k + 1) ((((tbl vars (qgs g l al n.toNat))).length : Int)).toNat))] = [(Arr 4 b1 (((upF (fun j => (fun e => if al then (qgs g l al n.toNat) (up e (gi l n) false) && (qgs g l al n.toNat) (up e (gi l n) true) else (qgs g l al n.toNat) (up e (gi l n) false) || (qgs g l al n.toNat) (up e (gi l n) true)) (asg vars j)) k ((((tbl vars (qgs g l al n.toNat))).length : Int)).toNat)).set (k).toNat (Value.bool false)))] from by first | rw [upF_step (by omega) hpe] | rw [upF_stepb (by omega) hpe]), by omega, by omega⟩, by omega⟩
   ·
    refine vc_region ?_
    refine oq (qv_mv (.slice (some ⟨b1, 0, none⟩) ((((tbl vars (qgs g l al n.toNat))).length : Int)).toNat ((((tbl vars (qgs g l al n.toNat))).length : Int)).toNat) rfl) ?_
    refine oq (qv_mv (Value.int .i64 k) rfl) ?_
    refine oq (qv_mv r1 rfl) ?_
    refine oq (qv_mv (Value.int .i64 k) rfl) ?_
    refine oq (qv_iab (v := r1) (i := k) Try.underlying34 Try.size4 rfl (inVb hTr1) rfl (by omega) (by omega)) ?_
    refine oq (qv_ldb (v := r1) (i := k) Try.plain4 rfl (inVb hTr1) (by omega) (by omega)) ?_
    refine oq (qv_mv (.bool (decide (gb ((tbl vars (fun e => (qgs g l al n.toNat) (up e (gi l n) false)))) (k) = true))) rfl) ?_
    by_cases g2 : gb ((tbl vars (fun e => (qgs g l al n.toNat) (up e (gi l n) false)))) (k) = true
    ·
     refine os (want_fn g2 rfl rfl rfl) ?_
     refine os (want_fn g2 rfl rfl rfl) ?_
     refine os (want_fn g2 rfl rfl rfl) ?_
     refine os (want_fn g2 rfl rfl rfl) ?_
     refine oq (qv_pick_t g2 rfl (rfl : ev _ _ = (Value.bool true))) ?_
     refine oq (qv_ia (v := (.slice (some ⟨b1, 0, none⟩) ((((tbl vars (qgs g l al n.toNat))).length : Int)).toNat ((((tbl vars (qgs g l al n.toNat))).length : Int)).toNat)) (i := k) Try.underlying34 Try.size4 rfl (inO (k := 0) rfl (upF_len _ _ _).symm (Nat.le_refl _) (by omega)) rfl (by omega) (by first | omega | (rw [upF_len]; omega))) ?_
     refine ops_ste (k := 0) (b := b1) (n := ((((tbl vars (qgs g l al n.toNat))).length : Int)).toNat) (c := ((((tbl vars (qgs g l al n.toNat))).length : Int)).toNat) (i := k) (cs := (upF (fun j => (fun e => if al then (qgs g l al n.toNat) (up e (gi l n) false) && (qgs g l al n.toNat) (up e (gi l n) true) else (qgs g l al n.toNat) (up e (gi l n) false) || (qgs g l al n.toNat) (up e (gi l n) true)) (asg vars j)) k ((((tbl vars (qgs g l al n.toNat))).length : Int)).toNat)) Try.size4 rfl (rfl : ev _ _ = (Value.bool true)) rfl rfl (by omega) (by first | omega | (rw [upF_len]; omega)) ?_
     refine ops_nil ?_
     refine vc_res (σ' := [(Arr 4 b1 (((upF (fun j => (fun e => if al then (qgs g l al n.toNat) (up e (gi l n) false) && (qgs g l al n.toNat) (up e (gi l n) true) else (qgs g l al n.toNat) (up e (gi l n) false) || (qgs g l al n.toNat) (up e (gi l n) true)) (asg vars j)) k ((((tbl vars (qgs g l al n.toNat))).length : Int)).toNat)).set (k).toNat (Value.bool true)))]) rfl ?_
     refine vc_region ?_
     refine oq (qv_add rfl rfl (by omega)) ?_
     refine oq (qv_mv (.int .i64 (k + 1)) rfl) ?_
     refine ops_nil ?_
     have hg1 : gb (tbl vars (fun e => (qgs g l al n.toNat) (up e (gi l n) false))) k = true := g2
     have hpe : (fun e => if al then (qgs g l al n.toNat) (up e (gi l n) false) && (qgs g l al n.toNat) (up e (gi l n) true) else (qgs g l al n.toNat) (up e (gi l n) false) || (qgs g l al n.toNat) (up e (gi l n) true)) (asg vars k) = true := by
       show (if al = true then _ else _) = true
       rw [if_neg c3]
       rw [← e1, ← e2, hg1]
       simp
     refine ⟨(k + 1), ⟨rfl, rfl, rfl, rfl, rfl, rfl, rfl, rfl, rfl, rfl, rfl, rfl, rfl, rfl, (congrArg (Value.int .i64) (show (k + 1) = ((k + 1)) from by omega)), trivial⟩, ⟨rfl, (show [(Arr 4 b1 (upF (fun j => (fun e => if al then (qgs g l al n.toNat) (up e (gi l n) false) && (qgs g l al n.toNat) (up e (gi l n) true) else (qgs g l al n.toNat) (up e (gi l n) false) || (qgs g l al n.toNat) (up e (gi l n) true)) (asg vars j)) (k + 1) ((((tbl vars (qgs g l al n.toNat))).length : Int)).toNat))] = [(Arr 4 b1 (((upF (fun j => (fun e => if al then (qgs g l al n.toNat) (up e (gi l n) false) && (qgs g l al n.toNat) (up e (gi l n) true) else (qgs g l al n.toNat) (up e (gi l n) false) || (qgs g l al n.toNat) (up e (gi l n) true)) (asg vars j)) k ((((tbl vars (qgs g l al n.toNat))).length : Int)).toNat)).set (k).toNat (Value.bool true)))] from by first | rw [upF_step (by omega) hpe] | rw [upF_stepb (by omega) hpe]), by omega, by omega⟩, by omega⟩
    ·
     refine og (qv_mv r2 rfl) (want_f g2 rfl rfl rfl) ?_
     refine og (qv_mv (Value.int .i64 k) rfl) (want_f g2 rfl rfl rfl) ?_
     refine og (qv_iab (v := r2) (i := k) Try.underlying34 Try.size4 rfl (inVb hTr2) rfl (by omega) (by omega)) (want_f g2 rfl rfl rfl) ?_
     refine og (qv_ldb (v := r2) (i := k) Try.plain4 rfl (inVb hTr2) (by omega) (by omega)) (want_f g2 rfl rfl rfl) ?_
     refine oq (qv_pick_f g2 rfl (rfl : ev _ _ = (.bool (decide (gb ((tbl vars (fun e => (qgs g l al n.toNat) (up e (gi l n) true)))) (k) = true))))) ?_
     refine oq (qv_ia (v := (.slice (some ⟨b1, 0, none⟩) ((((tbl vars (qgs g l al n.toNat))).length : Int)).toNat ((((tbl vars (qgs g l al n.toNat))).length : Int)).toNat)) (i := k) Try.underlying34 Try.size4 rfl (inO (k := 0) rfl (upF_len _ _ _).symm (Nat.le_refl _) (by omega)) rfl (by omega) (by first | omega | (rw [upF_len]; omega))) ?_
     refine ops_ste (k := 0) (b := b1) (n := ((((tbl vars (qgs g l al n.toNat))).length : Int)).toNat) (c := ((((tbl vars (qgs g l al n.toNat))).length : Int)).toNat) (i := k) (cs := (upF (fun j => (fun e => if al then (qgs g l al n.toNat) (up e (gi l n) false) && (qgs g l al n.toNat) (up e (gi l n) true) else (qgs g l al n.toNat) (up e (gi l n) false) || (qgs g l al n.toNat) (up e (gi l n) true)) (asg vars j)) k ((((tbl vars (qgs g l al n.toNat))).length : Int)).toNat)) Try.size4 rfl (rfl : ev _ _ = (.bool (decide (gb ((tbl vars (fun e => (qgs g l al n.toNat) (up e (gi l n) true)))) (k) = true)))) rfl rfl (by omega) (by first | omega | (rw [upF_len]; omega)) ?_
     refine ops_nil ?_
     refine vc_res (σ' := [(Arr 4 b1 (((upF (fun j => (fun e => if al then (qgs g l al n.toNat) (up e (gi l n) false) && (qgs g l al n.toNat) (up e (gi l n) true) else (qgs g l al n.toNat) (up e (gi l n) false) || (qgs g l al n.toNat) (up e (gi l n) true)) (asg vars j)) k ((((tbl vars (qgs g l al n.toNat))).length : Int)).toNat)).set (k).toNat (.bool (decide (gb ((tbl vars (fun e => (qgs g l al n.toNat) (up e (gi l n) true)))) (k) = true)))))]) rfl ?_
     refine vc_region ?_
     refine oq (qv_add rfl rfl (by omega)) ?_
     refine oq (qv_mv (.int .i64 (k + 1)) rfl) ?_
     refine ops_nil ?_
     have hg1 : gb (tbl vars (fun e => (qgs g l al n.toNat) (up e (gi l n) false))) k = false := Bool.eq_false_iff.2 g2
     have hpe : gb (tbl vars (fun e => (qgs g l al n.toNat) (up e (gi l n) true))) k = true ↔ (fun e => if al then (qgs g l al n.toNat) (up e (gi l n) false) && (qgs g l al n.toNat) (up e (gi l n) true) else (qgs g l al n.toNat) (up e (gi l n) false) || (qgs g l al n.toNat) (up e (gi l n) true)) (asg vars k) = true := by
       show _ ↔ (if al = true then _ else _) = true
       rw [if_neg c3]
       rw [← e1, ← e2, hg1]
       simp
     refine ⟨(k + 1), ⟨rfl, rfl, rfl, rfl, rfl, rfl, rfl, rfl, rfl, rfl, rfl, rfl, rfl, rfl, (congrArg (Value.int .i64) (show (k + 1) = ((k + 1)) from by omega)), trivial⟩, ⟨rfl, (show [(Arr 4 b1 (upF (fun j => (fun e => if al then (qgs g l al n.toNat) (up e (gi l n) false) && (qgs g l al n.toNat) (up e (gi l n) true) else (qgs g l al n.toNat) (up e (gi l n) false) || (qgs g l al n.toNat) (up e (gi l n) true)) (asg vars j)) (k + 1) ((((tbl vars (qgs g l al n.toNat))).length : Int)).toNat))] = [(Arr 4 b1 (((upF (fun j => (fun e => if al then (qgs g l al n.toNat) (up e (gi l n) false) && (qgs g l al n.toNat) (up e (gi l n) true) else (qgs g l al n.toNat) (up e (gi l n) false) || (qgs g l al n.toNat) (up e (gi l n) true)) (asg vars j)) k ((((tbl vars (qgs g l al n.toNat))).length : Int)).toNat)).set (k).toNat (.bool (decide (gb ((tbl vars (fun e => (qgs g l al n.toNat) (up e (gi l n) true)))) (k) = true)))))] from by first | rw [upF_step (by omega) hpe] | rw [upF_stepb (by omega) hpe]), by omega, by omega⟩, by omega⟩
  ·
   refine vc_exit ?_
   refine blockQ_hit ?_
   refine vc_freeze (b := b1) (o := .cells ((upF (fun j => (fun e => if al then (qgs g l al n.toNat) (up e (gi l n) false) && (qgs g l al n.toNat) (up e (gi l n) true) else (qgs g l al n.toNat) (up e (gi l n) false) || (qgs g l al n.toNat) (up e (gi l n) true)) (asg vars j)) k ((((tbl vars (qgs g l al n.toNat))).length : Int)).toNat) : List Value).toArray 4 (0, 0)) (σr := []) (List.perm_middle (l₁ := []) (l₂ := [])) (fun Vf1 hVf1 hb1 => ?_)
   have hc1 : Cells Vf1 b1 (upF (fun j => (fun e => if al then (qgs g l al n.toNat) (up e (gi l n) false) && (qgs g l al n.toNat) (up e (gi l n) true) else (qgs g l al n.toNat) (up e (gi l n) false) || (qgs g l al n.toNat) (up e (gi l n) true)) (asg vars j)) k ((((tbl vars (qgs g l al n.toNat))).length : Int)).toNat) := ⟨_, _, hb1⟩
   have ht := ht.mono hVf1
   have hl := hl.mono hVf1
   have hTr1 := hTr1.mono hVf1
   have hTr2 := hTr2.mono hVf1
   refine vc_region ?_
   refine oq (qv_mv (.slice (some ⟨b1, 0, none⟩) ((((tbl vars (qgs g l al n.toNat))).length : Int)).toNat ((((tbl vars (qgs g l al n.toNat))).length : Int)).toNat) rfl) ?_
   refine oq (qv_as (.slice (some ⟨b1, 0, none⟩) ((((tbl vars (qgs g l al n.toNat))).length : Int)).toNat ((((tbl vars (qgs g l al n.toNat))).length : Int)).toNat) rfl) ?_
   refine ops_nil ?_
   refine vc_region ?_
   refine oq (qv_add rfl rfl (by omega)) ?_
   refine oq (qv_mv (.int .i64 (n + 1)) rfl) ?_
   refine ops_nil ?_
   refine ⟨(n + 1, (.slice (some ⟨b1, 0, none⟩) ((((tbl vars (qgs g l al n.toNat))).length : Int)).toNat ((((tbl vars (qgs g l al n.toNat))).length : Int)).toNat)), ⟨rfl, rfl, rfl, rfl, rfl, rfl, (by first | rfl | (rfl)), (congrArg (Value.int .i64) (show (n + 1) = ((n + 1)) from by omega)), trivial⟩, ⟨rfl, (by have hcq := hc1; rw [tbl_fill (vars := vars) (g := (fun e => if al then (qgs g l al n.toNat) (up e (gi l n) false) && (qgs g l al n.toNat) (up e (gi l n) true) else (qgs g l al n.toNat) (up e (gi l n) false) || (qgs g l al n.toNat) (up e (gi l n) true))) (by rw [Int.toNat_natCast, tbl_len]) (by omega), ← qgs_step (by omega)] at hcq; exact bls_cells hcq (by rw [Int.toNat_natCast, tbl_len, tbl_len]) (Nat.le_refl _) (by omega)), hl, by omega, by omega⟩, by omega⟩
 ·
  refine vc_exit ?_
  refine blockQ_hit ?_
  refine vc_seq ?_
  refine vc_region ?_
  refine oq (qv_mv tw rfl) ?_
  refine oq (qv_as tw rfl) ?_
  refine ops_nil ?_
  refine vc_ret ?_
  refine rq1 tw rfl ?_
  have en : n.toNat = l.length := by omega
  rw [en] at ht
  exact ⟨rfl, ht⟩

end Go.Proofs.Ytgehdgeiikjohaa
