/- Walks of numeric: what each function returns. Printed by a program out of notes. -/
import Derived.Test.YtapkilaikcihgaaNh
namespace Go.Proofs.Ytapkilaikcihgaa
open Go.Vc
open Classical

set_option maxRecDepth 100000 in
set_option maxHeartbeats 4000000 in
theorem Div64_c {V : HV} {hi lo y : Int} (h0 : 0 ≤ hi) (h1 : hi < y) (l0 : 0 ≤ lo) (l1 : lo < 18446744073709551616) (y1 : y < 18446744073709551616) :
    FnC Try.prog 115 [(Value.int .u64 hi), (Value.int .u64 lo), (Value.int .u64 y)] V [] (fun v _ _ => v = .tuple #[(.int .u64 ((hi * 18446744073709551616 + lo) / y)), (.int .u64 ((hi * 18446744073709551616 + lo) % y))]) := by
 refine fn_intro (N := 135) Try.func115 (by kernel_rfl) rfl rfl rfl (Nat.le_of_ble_eq_true rfl) ?_
 intro w0 D
 refine vc_seq ?_
 refine vc_region ?_
 refine oq (qv_as (Value.int .u64 0) rfl) ?_
 refine oq (qv_as (Value.int .u64 0) rfl) ?_
 refine ops_nil ?_
 refine vc_seq ?_
 refine vc_seq ?_
 refine vc_region ?_
 refine oq (qv_mv (Value.int .u64 y) rfl) ?_
 refine oq (qv_eql rfl rfl) ?_
 refine ops_nil ?_
 refine vc_if rfl (fun c1 => ?_) (fun c1 => ?_)
 ·
  omega
 ·
  refine vc_skip ?_
  refine vc_seq ?_
  refine vc_seq ?_
  refine vc_region ?_
  refine oq (qv_mv (Value.int .u64 y) rfl) ?_
  refine oq (qv_mv (Value.int .u64 hi) rfl) ?_
  refine oq (qv_leq rfl rfl) ?_
  refine ops_nil ?_
  refine vc_if rfl (fun c2 => ?_) (fun c2 => ?_)
  ·
   omega
  ·
   refine vc_skip ?_
   refine vc_seq ?_
   refine vc_seq ?_
   refine vc_region ?_
   refine oq (qv_mv (Value.int .u64 hi) rfl) ?_
   refine oq (qv_eql rfl rfl) ?_
   refine ops_nil ?_
   refine vc_if rfl (fun c3 => ?_) (fun c3 => ?_)
   ·
    refine vc_seq ?_
    refine vc_region_any Try.mixed (by kernel_rfl) ?_
    refine qq (qv_mv (Value.int .u64 lo) rfl) ?_
    refine qq (qv_mv (Value.int .u64 y) rfl) ?_
    refine qq (qv_quou rfl rfl (by omega) (by omega)) ?_
    refine qq (qv_mv (Value.int .u64 lo) rfl) ?_
    refine qq (qv_mv (Value.int .u64 y) rfl) ?_
    refine qq (qv_remu rfl rfl (by omega) (by omega)) ?_
    refine qq (qv_as (.int .u64 (lo / y)) rfl) ?_
    refine qq (qv_as (.int .u64 (lo % y)) rfl) ?_
    refine qops_nil ?_
    refine vc_ret ?_
    exact rq2 (.int .u64 ((hi * 18446744073709551616 + lo) / y)) (.int .u64 ((hi * 18446744073709551616 + lo) % y)) (congrArg (Value.int .u64) (show (lo / y) = ((hi * 18446744073709551616 + lo) / y) from by rw [show hi = 0 by omega]; simp)) (congrArg (Value.int .u64) (show (lo % y) = ((hi * 18446744073709551616 + lo) % y) from by rw [show hi = 0 by omega]; simp)) rfl
   ·
    refine vc_skip ?_
    refine vc_seq ?_
    obtain ⟨k1, k2, k3, k4, k5, k6⟩ := norm_shift (show 0 < y by omega) y1
    have k7 : (0 : Int) < 2 ^ (64 - (64 - bl y)).toNat := Int.pow_pos (by omega)
    refine vc_region ?_
    refine oq (qv_mv (Value.int .u64 y) rfl) ?_
    refine oq (qv_call (v := (.int .i64 (64 - bl y))) (LZ64_c (by omega) y1) rfl rfl) ?_
    refine oq (qv_convk Try.underlying3 Try.underlying88 rfl (u64_in (by omega) (by omega))) ?_
    refine oq (qv_as (.int .u64 (64 - bl y)) rfl) ?_
    refine ops_nil ?_
    refine vc_seq ?_
    refine vc_region ?_
    refine oq (qv_mv (Value.int .u64 y) rfl) ?_
    refine oq (qv_mv (.int .u64 (64 - bl y)) rfl) ?_
    refine oq (qv_shle rfl rfl (by omega) (by omega) (by omega)) ?_
    obtain ⟨Y, hY⟩ : ∃ z : Int, z = y * 2 ^ (64 - bl y).toNat := ⟨_, rfl⟩
    refine oq (qv_as (Value.int .u64 Y) (show _ = _ from congrArg (Value.int .u64) hY.symm)) ?_
    refine ops_nil ?_
    refine vc_seq ?_
    refine vc_region ?_
    refine oq (qv_mv (Value.int .u64 Y) rfl) ?_
    refine oq (qv_shrc rfl rfl 4294967296 (by omega) (by omega) (by decide)) ?_
    obtain ⟨p, hp⟩ : ∃ z : Int, z = Y / 4294967296 := ⟨_, rfl⟩
    refine oq (qv_as (Value.int .u64 p) (show _ = _ from congrArg (Value.int .u64) hp.symm)) ?_
    refine ops_nil ?_
    refine vc_seq ?_
    refine vc_region ?_
    refine oq (qv_mv (Value.int .u64 Y) rfl) ?_
    refine oq (qv_and32 rfl rfl (by omega)) ?_
    obtain ⟨c, hc⟩ : ∃ z : Int, z = Y % 4294967296 := ⟨_, rfl⟩
    refine oq (qv_as (Value.int .u64 c) (show _ = _ from congrArg (Value.int .u64) hc.symm)) ?_
    refine ops_nil ?_
    refine vc_seq ?_
    refine vc_region ?_
    refine oq (qv_mv (Value.int .u64 hi) rfl) ?_
    refine oq (qv_mv (.int .u64 (64 - bl y)) rfl) ?_
    have g1 := Int.mul_le_mul_of_nonneg_right (show hi + 1 ≤ y by omega) (Int.le_of_lt k5)
    rw [Int.add_mul, Int.one_mul] at g1
    have g2 := Int.mul_nonneg h0 (Int.le_of_lt k5)
    have g3 : lo / 2 ^ (64 - (64 - bl y)).toNat < 2 ^ (64 - bl y).toNat := Int.ediv_lt_of_lt_mul k7 (by rw [k6]; exact l1)
    have g4 : 0 ≤ lo / 2 ^ (64 - (64 - bl y)).toNat := Int.ediv_nonneg l0 (Int.le_of_lt k7)
    refine oq (qv_shle rfl rfl (by omega) (by omega) (by omega)) ?_
    refine oq (qv_mv (Value.int .u64 lo) rfl) ?_
    refine oq (qv_mv (.int .u64 (64 - bl y)) rfl) ?_
    refine oq (qv_subu rfl rfl (by omega)) ?_
    refine oq (qv_shru rfl rfl (by omega) (by omega)) ?_
    refine oq (qv_oru rfl rfl (or_parts2 h0 g4 g3 (by omega)) (by omega)) ?_
    obtain ⟨u, hu⟩ : ∃ z : Int, z = hi * 2 ^ (64 - bl y).toNat + lo / 2 ^ (64 - (64 - bl y)).toNat := ⟨_, rfl⟩
    refine oq (qv_as (Value.int .u64 u) (show _ = _ from congrArg (Value.int .u64) hu.symm)) ?_
    refine ops_nil ?_
    refine vc_seq ?_
    have hu0 : 0 ≤ u := by omega
    have huY : u < Y := by omega
    refine vc_region ?_
    refine oq (qv_mv (Value.int .u64 lo) rfl) ?_
    refine oq (qv_mv (.int .u64 (64 - bl y)) rfl) ?_
    refine oq (qv_shlu rfl rfl (by omega) (by omega)) ?_
    obtain ⟨l, hl⟩ : ∃ z : Int, z = (lo * 2 ^ (64 - bl y).toNat) % 18446744073709551616 := ⟨_, rfl⟩
    refine oq (qv_as (Value.int .u64 l) (show _ = _ from congrArg (Value.int .u64) hl.symm)) ?_
    refine ops_nil ?_
    refine vc_seq ?_
    refine vc_region ?_
    refine oq (qv_mv (Value.int .u64 l) rfl) ?_
    refine oq (qv_shrc rfl rfl 4294967296 (by omega) (by omega) (by decide)) ?_
    obtain ⟨e, he⟩ : ∃ z : Int, z = l / 4294967296 := ⟨_, rfl⟩
    refine oq (qv_as (Value.int .u64 e) (show _ = _ from congrArg (Value.int .u64) he.symm)) ?_
    refine ops_nil ?_
    refine vc_seq ?_
    refine vc_region ?_
    refine oq (qv_mv (Value.int .u64 l) rfl) ?_
    refine oq (qv_and32 rfl rfl (by omega)) ?_
    obtain ⟨f, hf⟩ : ∃ z : Int, z = l % 4294967296 := ⟨_, rfl⟩
    refine oq (qv_as (Value.int .u64 f) (show _ = _ from congrArg (Value.int .u64) hf.symm)) ?_
    refine ops_nil ?_
    refine vc_seq ?_
    have hd : Dig Y p c u e := ⟨by omega, by omega, by omega, by omega, by omega, hu0, huY, by omega, by omega⟩
    obtain ⟨s1, s2, s3, s4, s5, s6⟩ := hd.start
    refine vc_region ?_
    refine oq (qv_mv (Value.int .u64 u) rfl) ?_
    refine oq (qv_mv (Value.int .u64 p) rfl) ?_
    refine oq (qv_quou rfl rfl (by omega) (by omega)) ?_
    refine oq (qv_as (.int .u64 (u / p)) rfl) ?_
    refine ops_nil ?_
    refine vc_seq ?_
    refine vc_region ?_
    refine oq (qv_mv (Value.int .u64 u) rfl) ?_
    refine oq (qv_mv (.int .u64 (u / p)) rfl) ?_
    refine oq (qv_mv (Value.int .u64 p) rfl) ?_
    refine oq (qv_mulu rfl rfl (by omega)) ?_
    refine oq (qv_subu rfl rfl (by omega)) ?_
    refine oq (qv_as (.int .u64 (u - ((u / p) * p))) rfl) ?_
    refine ops_nil ?_
    refine vc_seq ?_
    refine vc_block ?_
    refine vc_loop (α := Int × Int) (fun (xx : Int × Int) => [(0, (Value.int .u64 hi)), (1, (Value.int .u64 lo)), (2, (Value.int .u64 Y)), (6, (Value.int .u64 0)), (7, (Value.int .u64 0)), (8, (.int .u64 (64 - bl y))), (9, (Value.int .u64 p)), (10, (Value.int .u64 c)), (11, (Value.int .u64 u)), (12, (Value.int .u64 l)), (13, (Value.int .u64 e)), (14, (Value.int .u64 f)), (20, (.bool (decide (y = 0)))), (24, (.bool (decide (y ≤ hi)))), (27, (.bool (decide (hi = 0)))), (15, (Value.int .u64 xx.1)), (16, (Value.int .u64 xx.2))]) (fun (xx : Int × Int) V' σ' => V = V' ∧ [] = σ' ∧ 0 ≤ xx.1 ∧ xx.1 ≤ 4294967297 ∧ xx.1 * p + xx.2 = u ∧ 0 ≤ xx.2 ∧ xx.2 < 4294967296 ∧ u * 4294967296 + e < (xx.1 + 1) * Y) (fun (xx : Int × Int) => xx.1.toNat) (u / p, u - u / p * p) ?_ ?_ ?_
    · exact ⟨rfl, rfl, rfl, rfl, rfl, rfl, rfl, rfl, rfl, rfl, rfl, rfl, rfl, rfl, rfl, (congrArg (Value.int .u64) (show (u / p) = ((u / p)) from by rfl)), (congrArg (Value.int .u64) (show (u - ((u / p) * p)) = ((u - u / p * p)) from by rfl)), trivial⟩
    · exact ⟨rfl, rfl, s1, s2, by show u / p * p + (u - u / p * p) = u; omega, s4, by show u - u / p * p < 4294967296; omega, s6⟩
    rintro ⟨a, r⟩ e1 V0l σ0l hI0
    obtain ⟨rfl, rfl, i1, i2, hr, i3, i4, hG⟩ : V = V0l ∧ [] = σ0l ∧ 0 ≤ a ∧ a ≤ 4294967297 ∧ a * p + r = u ∧ 0 ≤ r ∧ r < 4294967296 ∧ u * 4294967296 + e < (a + 1) * Y := hI0
    change VC _ _ _ _ _ _ (upds 135 [(0, (Value.int .u64 hi)), (1, (Value.int .u64 lo)), (2, (Value.int .u64 Y)), (6, (Value.int .u64 0)), (7, (Value.int .u64 0)), (8, (.int .u64 (64 - bl y))), (9, (Value.int .u64 p)), (10, (Value.int .u64 c)), (11, (Value.int .u64 u)), (12, (Value.int .u64 l)), (13, (Value.int .u64 e)), (14, (Value.int .u64 f)), (20, (.bool (decide (y = 0)))), (24, (.bool (decide (y ≤ hi)))), (27, (.bool (decide (hi = 0)))), (15, (Value.int .u64 a)), (16, (Value.int .u64 r))] e1) _ _
    refine vc_seq ?_
    refine vc_seq ?_
    refine vc_region ?_
    refine oq (qv_mv (Value.int .u64 a) rfl) ?_
    refine oq (qv_geq rfl rfl) ?_
    refine oq (qv_mv (.bool (decide (4294967296 ≤ a))) rfl) ?_
    by_cases g1 : 4294967296 ≤ a
    ·
     refine os (want_fn g1 rfl rfl rfl) ?_
     refine os (want_fn g1 rfl rfl rfl) ?_
     
     refine os (want_fn g1 rfl rfl rfl) ?_
     refine os (want_fn g1 rfl rfl rfl) ?_
     refine os (want_fn g1 rfl rfl rfl) ?_
     refine os (want_fn g1 rfl rfl rfl) ?_
     refine os (want_fn g1 rfl rfl rfl) ?_
     refine os (want_fn g1 rfl rfl rfl) ?_
     refine oq (qv_pick_t g1 rfl (rfl : ev _ _ = (Value.bool true))) ?_
     refine ops_nil ?_
     refine vc_tt rfl ?_
     refine vc_skip ?_
     refine vc_block ?_
     refine vc_seq ?_
     obtain ⟨n1, n2, n3⟩ := hd.down hr (by omega)
     refine vc_region ?_
     refine oq (qv_mv (Value.int .u64 a) rfl) ?_
     refine oq (qv_subu rfl rfl (by omega)) ?_
     refine oq (qv_as (.int .u64 (a - 1)) rfl) ?_
     refine ops_nil ?_
     refine vc_seq ?_
     refine vc_region ?_
     refine oq (qv_mv (Value.int .u64 r) rfl) ?_
     refine oq (qv_mv (Value.int .u64 p) rfl) ?_
     refine oq (qv_addu rfl rfl (by omega)) ?_
     refine oq (qv_as (.int .u64 (r + p)) rfl) ?_
     refine ops_nil ?_
     refine vc_seq ?_
     refine vc_region ?_
     refine oq (qv_mv (.int .u64 (r + p)) rfl) ?_
     refine oq (qv_geq rfl rfl) ?_
     refine ops_nil ?_
     refine vc_if rfl (fun c4 => ?_) (fun c4 => ?_)
     ·
      refine vc_exit ?_
      refine blockQ_miss rfl ?_
      refine blockQ_hit ?_
      refine vc_seq ?_
      obtain ⟨z1, z2⟩ := hd.stop n2 (by omega) (by omega) (by omega) n1
      refine vc_region ?_
      refine oq (qv_mv (Value.int .u64 u) rfl) ?_
      refine oq (qv_mulw rfl rfl) ?_
      refine oq (qv_mv (Value.int .u64 e) rfl) ?_
      refine oq (qv_addw rfl rfl) ?_
      refine oq (qv_mv (.int .u64 (a - 1)) rfl) ?_
      refine oq (qv_mv (Value.int .u64 Y) rfl) ?_
      refine oq (qv_mulw rfl rfl) ?_
      refine oq (qv_subw rfl rfl) ?_
      obtain ⟨v, hv⟩ : ∃ z : Int, z = u * 4294967296 + e - (a - 1) * Y := ⟨_, rfl⟩
      refine oq (qv_as (Value.int .u64 v) (show _ = _ from congrArg (Value.int .u64) ((show ((((((u * 4294967296) % 18446744073709551616) + e) % 18446744073709551616) - (((a - 1) * Y) % 18446744073709551616)) % 18446744073709551616) = u * 4294967296 + e - (a - 1) * Y from by omega).trans hv.symm))) ?_
      refine ops_nil ?_
      refine vc_seq ?_
      have hd2 : Dig Y p c v f := ⟨by omega, by omega, by omega, by omega, by omega, by omega, by omega, by omega, by omega⟩
      obtain ⟨t1, t2, t3, t4, t5, t6⟩ := hd2.start
      refine vc_region ?_
      refine oq (qv_mv (Value.int .u64 v) rfl) ?_
      refine oq (qv_mv (Value.int .u64 p) rfl) ?_
      refine oq (qv_quou rfl rfl (by omega) (by omega)) ?_
      refine oq (qv_as (.int .u64 (v / p)) rfl) ?_
      refine ops_nil ?_
      refine vc_seq ?_
      refine vc_region ?_
      refine oq (qv_mv (Value.int .u64 v) rfl) ?_
      refine oq (qv_mv (.int .u64 (v / p)) rfl) ?_
      refine oq (qv_mv (Value.int .u64 p) rfl) ?_
      refine oq (qv_mulu rfl rfl (by omega)) ?_
      refine oq (qv_subu rfl rfl (by omega)) ?_
      refine oq (qv_as (.int .u64 (v - ((v / p) * p))) rfl) ?_
      refine ops_nil ?_
      refine vc_seq ?_
      refine vc_block ?_
      refine vc_loop (α := Int × Int) (fun (xx : Int × Int) => [(0, (Value.int .u64 hi)), (1, (Value.int .u64 lo)), (2, (Value.int .u64 Y)), (6, (Value.int .u64 0)), (7, (Value.int .u64 0)), (8, (.int .u64 (64 - bl y))), (9, (Value.int .u64 p)), (10, (Value.int .u64 c)), (11, (Value.int .u64 u)), (12, (Value.int .u64 l)), (13, (Value.int .u64 e)), (14, (Value.int .u64 f)), (15, (.int .u64 (a - 1))), (17, (Value.int .u64 v)), (20, (.bool (decide (y = 0)))), (24, (.bool (decide (y ≤ hi)))), (27, (.bool (decide (hi = 0)))), (78, (Value.bool true)), (85, (.bool (decide (4294967296 ≤ (r + p))))), (16, (Value.int .u64 xx.2)), (18, (Value.int .u64 xx.1))]) (fun (xx : Int × Int) V' σ' => V = V' ∧ [] = σ' ∧ 0 ≤ xx.1 ∧ xx.1 ≤ 4294967297 ∧ xx.1 * p + xx.2 = v ∧ 0 ≤ xx.2 ∧ xx.2 < 4294967296 ∧ v * 4294967296 + f < (xx.1 + 1) * Y) (fun (xx : Int × Int) => xx.1.toNat) (v / p, v - v / p * p) ?_ ?_ ?_
      · exact ⟨rfl, rfl, rfl, rfl, rfl, rfl, rfl, rfl, rfl, rfl, rfl, rfl, rfl, rfl, rfl, rfl, rfl, rfl, rfl, (congrArg (Value.int .u64) (show (v - ((v / p) * p)) = ((v - v / p * p)) from by rfl)), (congrArg (Value.int .u64) (show (v / p) = ((v / p)) from by rfl)), trivial⟩
      · exact ⟨rfl, rfl, t1, t2, by show v / p * p + (v - v / p * p) = v; omega, t4, by show v - v / p * p < 4294967296; omega, t6⟩
      rintro ⟨b, r2⟩ e2 V1l σ1l hI1
      obtain ⟨rfl, rfl, i5, i6, hr2, i7, i8, hG2⟩ : V = V1l ∧ [] = σ1l ∧ 0 ≤ b ∧ b ≤ 4294967297 ∧ b * p + r2 = v ∧ 0 ≤ r2 ∧ r2 < 4294967296 ∧ v * 4294967296 + f < (b + 1) * Y := hI1
      change VC _ _ _ _ _ _ (upds 135 [(0, (Value.int .u64 hi)), (1, (Value.int .u64 lo)), (2, (Value.int .u64 Y)), (6, (Value.int .u64 0)), (7, (Value.int .u64 0)), (8, (.int .u64 (64 - bl y))), (9, (Value.int .u64 p)), (10, (Value.int .u64 c)), (11, (Value.int .u64 u)), (12, (Value.int .u64 l)), (13, (Value.int .u64 e)), (14, (Value.int .u64 f)), (15, (.int .u64 (a - 1))), (17, (Value.int .u64 v)), (20, (.bool (decide (y = 0)))), (24, (.bool (decide (y ≤ hi)))), (27, (.bool (decide (hi = 0)))), (78, (Value.bool true)), (85, (.bool (decide (4294967296 ≤ (r + p))))), (16, (Value.int .u64 r2)), (18, (Value.int .u64 b))] e2) _ _
      refine vc_seq ?_
      refine vc_seq ?_
      refine vc_region ?_
      refine oq (qv_mv (Value.int .u64 b) rfl) ?_
      refine oq (qv_geq rfl rfl) ?_
      refine oq (qv_mv (.bool (decide (4294967296 ≤ b))) rfl) ?_
      by_cases g2 : 4294967296 ≤ b
      ·
       refine os (want_fn g2 rfl rfl rfl) ?_
       refine os (want_fn g2 rfl rfl rfl) ?_
       
       refine os (want_fn g2 rfl rfl rfl) ?_
       refine os (want_fn g2 rfl rfl rfl) ?_
       refine os (want_fn g2 rfl rfl rfl) ?_
       refine os (want_fn g2 rfl rfl rfl) ?_
       refine os (want_fn g2 rfl rfl rfl) ?_
       refine os (want_fn g2 rfl rfl rfl) ?_
       refine oq (qv_pick_t g2 rfl (rfl : ev _ _ = (Value.bool true))) ?_
       refine ops_nil ?_
       refine vc_tt rfl ?_
       refine vc_skip ?_
       refine vc_block ?_
       refine vc_seq ?_
       obtain ⟨o1, o2, o3⟩ := hd2.down hr2 (by omega)
       refine vc_region ?_
       refine oq (qv_mv (Value.int .u64 b) rfl) ?_
       refine oq (qv_subu rfl rfl (by omega)) ?_
       refine oq (qv_as (.int .u64 (b - 1)) rfl) ?_
       refine ops_nil ?_
       refine vc_seq ?_
       refine vc_region ?_
       refine oq (qv_mv (Value.int .u64 r2) rfl) ?_
       refine oq (qv_mv (Value.int .u64 p) rfl) ?_
       refine oq (qv_addu rfl rfl (by omega)) ?_
       refine oq (qv_as (.int .u64 (r2 + p)) rfl) ?_
       refine ops_nil ?_
       refine vc_seq ?_
       refine vc_region ?_
       refine oq (qv_mv (.int .u64 (r2 + p)) rfl) ?_
       refine oq (qv_geq rfl rfl) ?_
       refine ops_nil ?_
       refine vc_if rfl (fun c5 => ?_) (fun c5 => ?_)
       ·
        refine vc_exit ?_
        refine blockQ_miss rfl ?_
        refine blockQ_hit ?_
        refine vc_seq ?_
        obtain ⟨y2, y3⟩ := hd2.stop o2 (by omega) (by omega) (by omega) o1
        have hwv : ((v * 4294967296 % 18446744073709551616 + f) % 18446744073709551616 - (b - 1) * Y % 18446744073709551616) % 18446744073709551616 = v * 4294967296 + f - (b - 1) * Y := by omega
        have fin := div_all (hi := hi) (lo := lo) (a := a - 1) (b := b - 1) (show 0 < y by omega) k5 k6 k7 hY rfl hu hl he hf hv rfl (by omega) (by omega)
        have fb := div_small (hi := hi) (lo := lo) h1 l1 (by omega)
        rw [← fin.1] at fb
        refine vc_region ?_
        refine oq (qv_mv (.int .u64 (a - 1)) rfl) ?_
        refine oq (qv_mulu rfl rfl (by omega)) ?_
        refine oq (qv_mv (.int .u64 (b - 1)) rfl) ?_
        refine oq (qv_addu rfl rfl (by omega)) ?_
        refine oq (qv_mv (Value.int .u64 v) rfl) ?_
        refine oq (qv_mulw rfl rfl) ?_
        refine oq (qv_mv (Value.int .u64 f) rfl) ?_
        refine oq (qv_addw rfl rfl) ?_
        refine oq (qv_mv (.int .u64 (b - 1)) rfl) ?_
        refine oq (qv_mv (Value.int .u64 Y) rfl) ?_
        refine oq (qv_mulw rfl rfl) ?_
        refine oq (qv_subw rfl rfl) ?_
        refine oq (qv_mv (.int .u64 (64 - bl y)) rfl) ?_
        refine oq (qv_shru rfl rfl (by omega) (by omega)) ?_
        refine oq (qv_as (.int .u64 (((a - 1) * 4294967296) + (b - 1))) rfl) ?_
        refine oq (qv_as (.int .u64 (((((((v * 4294967296) % 18446744073709551616) + f) % 18446744073709551616) - (((b - 1) * Y) % 18446744073709551616)) % 18446744073709551616) / 2 ^ (64 - bl y).toNat)) rfl) ?_
        refine ops_nil ?_
        refine vc_ret ?_
        exact rq2 (.int .u64 ((hi * 18446744073709551616 + lo) / y)) (.int .u64 ((hi * 18446744073709551616 + lo) % y)) (congrArg (Value.int .u64) (show (((a - 1) * 4294967296) + (b - 1)) = ((hi * 18446744073709551616 + lo) / y) from by exact fin.1)) (congrArg (Value.int .u64) (show (((((((v * 4294967296) % 18446744073709551616) + f) % 18446744073709551616) - (((b - 1) * Y) % 18446744073709551616)) % 18446744073709551616) / 2 ^ (64 - bl y).toNat) = ((hi * 18446744073709551616 + lo) % y) from by rw [hwv]; exact fin.2)) rfl
       ·
        refine vc_skip ?_
        refine ⟨(b - 1, r2 + p), ⟨rfl, rfl, rfl, rfl, rfl, rfl, rfl, rfl, rfl, rfl, rfl, rfl, rfl, rfl, rfl, rfl, rfl, rfl, rfl, (congrArg (Value.int .u64) (show (r2 + p) = ((r2 + p)) from by rfl)), (congrArg (Value.int .u64) (show (b - 1) = ((b - 1)) from by rfl)), trivial⟩, ⟨rfl, rfl, by omega, by omega, o2, by omega, by omega, o1⟩, by omega⟩
      ·
       refine og (qv_mv (Value.int .u64 b) rfl) (want_f g2 rfl rfl rfl) ?_
       refine og (qv_mv (Value.int .u64 c) rfl) (want_f g2 rfl rfl rfl) ?_
       have m2 := mul32 (a := b) (b := c) (by omega) (by omega) (by omega) (by omega)
       refine og (qv_mulu rfl rfl (by omega)) (want_f g2 rfl rfl rfl) ?_
       refine og (qv_mv (Value.int .u64 r2) rfl) (want_f g2 rfl rfl rfl) ?_
       refine og (qv_mulu rfl rfl (by omega)) (want_f g2 rfl rfl rfl) ?_
       refine og (qv_mv (Value.int .u64 f) rfl) (want_f g2 rfl rfl rfl) ?_
       refine og (qv_addu rfl rfl (by omega)) (want_f g2 rfl rfl rfl) ?_
       refine og (qv_gtr rfl rfl) (want_f g2 rfl rfl rfl) ?_
       refine oq (qv_pick_f g2 rfl (rfl : ev _ _ = (.bool (decide (((4294967296 * r2) + f) < (b * c)))))) ?_
       refine ops_nil ?_
       refine vc_if rfl (fun c6 => ?_) (fun c6 => ?_)
       ·
        refine vc_skip ?_
        refine vc_block ?_
        refine vc_seq ?_
        obtain ⟨o1, o2, o3⟩ := hd2.down hr2 (by omega)
        refine vc_region ?_
        refine oq (qv_mv (Value.int .u64 b) rfl) ?_
        refine oq (qv_subu rfl rfl (by omega)) ?_
        refine oq (qv_as (.int .u64 (b - 1)) rfl) ?_
        refine ops_nil ?_
        refine vc_seq ?_
        refine vc_region ?_
        refine oq (qv_mv (Value.int .u64 r2) rfl) ?_
        refine oq (qv_mv (Value.int .u64 p) rfl) ?_
        refine oq (qv_addu rfl rfl (by omega)) ?_
        refine oq (qv_as (.int .u64 (r2 + p)) rfl) ?_
        refine ops_nil ?_
        refine vc_seq ?_
        refine vc_region ?_
        refine oq (qv_mv (.int .u64 (r2 + p)) rfl) ?_
        refine oq (qv_geq rfl rfl) ?_
        refine ops_nil ?_
        refine vc_if rfl (fun c7 => ?_) (fun c7 => ?_)
        ·
         refine vc_exit ?_
         refine blockQ_miss rfl ?_
         refine blockQ_hit ?_
         refine vc_seq ?_
         obtain ⟨y2, y3⟩ := hd2.stop o2 (by omega) (by omega) (by omega) o1
         have hwv : ((v * 4294967296 % 18446744073709551616 + f) % 18446744073709551616 - (b - 1) * Y % 18446744073709551616) % 18446744073709551616 = v * 4294967296 + f - (b - 1) * Y := by omega
         have fin := div_all (hi := hi) (lo := lo) (a := a - 1) (b := b - 1) (show 0 < y by omega) k5 k6 k7 hY rfl hu hl he hf hv rfl (by omega) (by omega)
         have fb := div_small (hi := hi) (lo := lo) h1 l1 (by omega)
         rw [← fin.1] at fb
         refine vc_region ?_
         refine oq (qv_mv (.int .u64 (a - 1)) rfl) ?_
         refine oq (qv_mulu rfl rfl (by omega)) ?_
         refine oq (qv_mv (.int .u64 (b - 1)) rfl) ?_
         refine oq (qv_addu rfl rfl (by omega)) ?_
         refine oq (qv_mv (Value.int .u64 v) rfl) ?_
         refine oq (qv_mulw rfl rfl) ?_
         refine oq (qv_mv (Value.int .u64 f) rfl) ?_
         refine oq (qv_addw rfl rfl) ?_
         refine oq (qv_mv (.int .u64 (b - 1)) rfl) ?_
         refine oq (qv_mv (Value.int .u64 Y) rfl) ?_
         refine oq (qv_mulw rfl rfl) ?_
         refine oq (qv_subw rfl rfl) ?_
         refine oq (qv_mv (.int .u64 (64 - bl y)) rfl) ?_
         refine oq (qv_shru rfl rfl (by omega) (by omega)) ?_
         refine oq (qv_as (.int .u64 (((a - 1) * 4294967296) + (b - 1))) rfl) ?_
         refine oq (qv_as (.int .u64 (((((((v * 4294967296) % 18446744073709551616) + f) % 18446744073709551616) - (((b - 1) * Y) % 18446744073709551616)) % 18446744073709551616) / 2 ^ (64 - bl y).toNat)) rfl) ?_
         refine ops_nil ?_
         refine vc_ret ?_
         exact rq2 (.int .u64 ((hi * 18446744073709551616 + lo) / y)) (.int .u64 ((hi * 18446744073709551616 + lo) % y)) (congrArg (Value.int .u64) (show (((a - 1) * 4294967296) + (b - 1)) = ((hi * 18446744073709551616 + lo) / y) from by exact fin.1)) (congrArg (Value.int .u64) (show (((((((v * 4294967296) % 18446744073709551616) + f) % 18446744073709551616) - (((b - 1) * Y) % 18446744073709551616)) % 18446744073709551616) / 2 ^ (64 - bl y).toNat) = ((hi * 18446744073709551616 + lo) % y) from by rw [hwv]; exact fin.2)) rfl
        ·
         refine vc_skip ?_
         refine ⟨(b - 1, r2 + p), ⟨rfl, rfl, rfl, rfl, rfl, rfl, rfl, rfl, rfl, rfl, rfl, rfl, rfl, rfl, rfl, rfl, rfl, rfl, rfl, (congrArg (Value.int .u64) (show (r2 + p) = ((r2 + p)) from by rfl)), (congrArg (Value.int .u64) (show (b - 1) = ((b - 1)) from by rfl)), trivial⟩, ⟨rfl, rfl, by omega, by omega, o2, by omega, by omega, o1⟩, by omega⟩
       ·
        refine vc_exit ?_
        refine blockQ_hit ?_
        refine vc_seq ?_
        obtain ⟨y2, y3⟩ := hd2.done hr2 (by omega) hG2
        have hwv : ((v * 4294967296 % 18446744073709551616 + f) % 18446744073709551616 - b * Y % 18446744073709551616) % 18446744073709551616 = v * 4294967296 + f - b * Y := by omega
        have fin := div_all (hi := hi) (lo := lo) (a := a - 1) (b := b) (show 0 < y by omega) k5 k6 k7 hY rfl hu hl he hf hv rfl (by omega) (by omega)
        have fb := div_small (hi := hi) (lo := lo) h1 l1 (by omega)
        rw [← fin.1] at fb
        refine vc_region ?_
        refine oq (qv_mv (.int .u64 (a - 1)) rfl) ?_
        refine oq (qv_mulu rfl rfl (by omega)) ?_
        refine oq (qv_mv (Value.int .u64 b) rfl) ?_
        refine oq (qv_addu rfl rfl (by omega)) ?_
        refine oq (qv_mv (Value.int .u64 v) rfl) ?_
        refine oq (qv_mulw rfl rfl) ?_
        refine oq (qv_mv (Value.int .u64 f) rfl) ?_
        refine oq (qv_addw rfl rfl) ?_
        refine oq (qv_mv (Value.int .u64 b) rfl) ?_
        refine oq (qv_mv (Value.int .u64 Y) rfl) ?_
        refine oq (qv_mulw rfl rfl) ?_
        refine oq (qv_subw rfl rfl) ?_
        refine oq (qv_mv (.int .u64 (64 - bl y)) rfl) ?_
        refine oq (qv_shru rfl rfl (by omega) (by omega)) ?_
        refine oq (qv_as (.int .u64 (((a - 1) * 4294967296) + b)) rfl) ?_
        refine oq (qv_as (.int .u64 (((((((v * 4294967296) % 18446744073709551616) + f) % 18446744073709551616) - ((b * Y) % 18446744073709551616)) % 18446744073709551616) / 2 ^ (64 - bl y).toNat)) rfl) ?_
        refine ops_nil ?_
        refine vc_ret ?_
        exact rq2 (.int .u64 ((hi * 18446744073709551616 + lo) / y)) (.int .u64 ((hi * 18446744073709551616 + lo) % y)) (congrArg (Value.int .u64) (show (((a - 1) * 4294967296) + b) = ((hi * 18446744073709551616 + lo) / y) from by exact fin.1)) (congrArg (Value.int .u64) (show (((((((v * 4294967296) % 18446744073709551616) + f) % 18446744073709551616) - ((b * Y) % 18446744073709551616)) % 18446744073709551616) / 2 ^ (64 - bl y).toNat) = ((hi * 18446744073709551616 + lo) % y) from by rw [hwv]; exact fin.2)) rfl
     ·
      refine vc_skip ?_
      refine ⟨(a - 1, r + p), ⟨rfl, rfl, rfl, rfl, rfl, rfl, rfl, rfl, rfl, rfl, rfl, rfl, rfl, rfl, rfl, (congrArg (Value.int .u64) (show (a - 1) = ((a - 1)) from by rfl)), (congrArg (Value.int .u64) (show (r + p) = ((r + p)) from by rfl)), trivial⟩, ⟨rfl, rfl, by omega, by omega, n2, by omega, by omega, n1⟩, by omega⟩
    ·
     refine og (qv_mv (Value.int .u64 a) rfl) (want_f g1 rfl rfl rfl) ?_
     refine og (qv_mv (Value.int .u64 c) rfl) (want_f g1 rfl rfl rfl) ?_
     have m1 := mul32 (a := a) (b := c) (by omega) (by omega) (by omega) (by omega)
     refine og (qv_mulu rfl rfl (by omega)) (want_f g1 rfl rfl rfl) ?_
     refine og (qv_mv (Value.int .u64 r) rfl) (want_f g1 rfl rfl rfl) ?_
     refine og (qv_mulu rfl rfl (by omega)) (want_f g1 rfl rfl rfl) ?_
     refine og (qv_mv (Value.int .u64 e) rfl) (want_f g1 rfl rfl rfl) ?_
     refine og (qv_addu rfl rfl (by omega)) (want_f g1 rfl rfl rfl) ?_
     refine og (qv_gtr rfl rfl) (want_f g1 rfl rfl rfl) ?_
     refine oq (qv_pick_f g1 rfl (rfl : ev _ _ = (.bool (decide (((4294967296 * r) + e) < (a * c)))))) ?_
     refine ops_nil ?_
     refine vc_if rfl (fun c8 => ?_) (fun c8 => ?_)
     ·
      refine vc_skip ?_
      refine vc_block ?_
      refine vc_seq ?_
      obtain ⟨n1, n2, n3⟩ := hd.down hr (by omega)
      refine vc_region ?_
      refine oq (qv_mv (Value.int .u64 a) rfl) ?_
      refine oq (qv_subu rfl rfl (by omega)) ?_
      refine oq (qv_as (.int .u64 (a - 1)) rfl) ?_
      refine ops_nil ?_
      refine vc_seq ?_
      refine vc_region ?_
      refine oq (qv_mv (Value.int .u64 r) rfl) ?_
      refine oq (qv_mv (Value.int .u64 p) rfl) ?_
      refine oq (qv_addu rfl rfl (by omega)) ?_
      refine oq (qv_as (.int .u64 (r + p)) rfl) ?_
      refine ops_nil ?_
      refine vc_seq ?_
      refine vc_region ?_
      refine oq (qv_mv (.int .u64 (r + p)) rfl) ?_
      refine oq (qv_geq rfl rfl) ?_
      refine ops_nil ?_
      refine vc_if rfl (fun c9 => ?_) (fun c9 => ?_)
      ·
       refine vc_exit ?_
       refine blockQ_miss rfl ?_
       refine blockQ_hit ?_
       refine vc_seq ?_
       obtain ⟨z1, z2⟩ := hd.stop n2 (by omega) (by omega) (by omega) n1
       refine vc_region ?_
       refine oq (qv_mv (Value.int .u64 u) rfl) ?_
       refine oq (qv_mulw rfl rfl) ?_
       refine oq (qv_mv (Value.int .u64 e) rfl) ?_
       refine oq (qv_addw rfl rfl) ?_
       refine oq (qv_mv (.int .u64 (a - 1)) rfl) ?_
       refine oq (qv_mv (Value.int .u64 Y) rfl) ?_
       refine oq (qv_mulw rfl rfl) ?_
       refine oq (qv_subw rfl rfl) ?_
       obtain ⟨v, hv⟩ : ∃ z : Int, z = u * 4294967296 + e - (a - 1) * Y := ⟨_, rfl⟩
       refine oq (qv_as (Value.int .u64 v) (show _ = _ from congrArg (Value.int .u64) ((show ((((((u * 4294967296) % 18446744073709551616) + e) % 18446744073709551616) - (((a - 1) * Y) % 18446744073709551616)) % 18446744073709551616) = u * 4294967296 + e - (a - 1) * Y from by omega).trans hv.symm))) ?_
       refine ops_nil ?_
       refine vc_seq ?_
       have hd2 : Dig Y p c v f := ⟨by omega, by omega, by omega, by omega, by omega, by omega, by omega, by omega, by omega⟩
       obtain ⟨t1, t2, t3, t4, t5, t6⟩ := hd2.start
       refine vc_region ?_
       refine oq (qv_mv (Value.int .u64 v) rfl) ?_
       refine oq (qv_mv (Value.int .u64 p) rfl) ?_
       refine oq (qv_quou rfl rfl (by omega) (by omega)) ?_
       refine oq (qv_as (.int .u64 (v / p)) rfl) ?_
       refine ops_nil ?_
       refine vc_seq ?_
       refine vc_region ?_
       refine oq (qv_mv (Value.int .u64 v) rfl) ?_
       refine oq (qv_mv (.int .u64 (v / p)) rfl) ?_
       refine oq (qv_mv (Value.int .u64 p) rfl) ?_
       refine oq (qv_mulu rfl rfl (by omega)) ?_
       refine oq (qv_subu rfl rfl (by omega)) ?_
       refine oq (qv_as (.int .u64 (v - ((v / p) * p))) rfl) ?_
       refine ops_nil ?_
       refine vc_seq ?_
       refine vc_block ?_
       refine vc_loop (α := Int × Int) (fun (xx : Int × Int) => [(0, (Value.int .u64 hi)), (1, (Value.int .u64 lo)), (2, (Value.int .u64 Y)), (6, (Value.int .u64 0)), (7, (Value.int .u64 0)), (8, (.int .u64 (64 - bl y))), (9, (Value.int .u64 p)), (10, (Value.int .u64 c)), (11, (Value.int .u64 u)), (12, (Value.int .u64 l)), (13, (Value.int .u64 e)), (14, (Value.int .u64 f)), (15, (.int .u64 (a - 1))), (17, (Value.int .u64 v)), (20, (.bool (decide (y = 0)))), (24, (.bool (decide (y ≤ hi)))), (27, (.bool (decide (hi = 0)))), (78, (.bool (decide (((4294967296 * r) + e) < (a * c))))), (85, (.bool (decide (4294967296 ≤ (r + p))))), (16, (Value.int .u64 xx.2)), (18, (Value.int .u64 xx.1))]) (fun (xx : Int × Int) V' σ' => V = V' ∧ [] = σ' ∧ 0 ≤ xx.1 ∧ xx.1 ≤ 4294967297 ∧ xx.1 * p + xx.2 = v ∧ 0 ≤ xx.2 ∧ xx.2 < 4294967296 ∧ v * 4294967296 + f < (xx.1 + 1) * Y) (fun (xx : Int × Int) => xx.1.toNat) (v / p, v - v / p * p) ?_ ?_ ?_
       · exact ⟨rfl, rfl, rfl, rfl, rfl, rfl, rfl, rfl, rfl, rfl, rfl, rfl, rfl, rfl, rfl, rfl, rfl, rfl, rfl, (congrArg (Value.int .u64) (show (v - ((v / p) * p)) = ((v - v / p * p)) from by rfl)), (congrArg (Value.int .u64) (show (v / p) = ((v / p)) from by rfl)), trivial⟩
       · exact ⟨rfl, rfl, t1, t2, by show v / p * p + (v - v / p * p) = v; omega, t4, by show v - v / p * p < 4294967296; omega, t6⟩
       rintro ⟨b, r2⟩ e3 V1l σ1l hI1
       obtain ⟨rfl, rfl, i9, i10, hr2, i11, i12, hG2⟩ : V = V1l ∧ [] = σ1l ∧ 0 ≤ b ∧ b ≤ 4294967297 ∧ b * p + r2 = v ∧ 0 ≤ r2 ∧ r2 < 4294967296 ∧ v * 4294967296 + f < (b + 1) * Y := hI1
       change VC _ _ _ _ _ _ (upds 135 [(0, (Value.int .u64 hi)), (1, (Value.int .u64 lo)), (2, (Value.int .u64 Y)), (6, (Value.int .u64 0)), (7, (Value.int .u64 0)), (8, (.int .u64 (64 - bl y))), (9, (Value.int .u64 p)), (10, (Value.int .u64 c)), (11, (Value.int .u64 u)), (12, (Value.int .u64 l)), (13, (Value.int .u64 e)), (14, (Value.int .u64 f)), (15, (.int .u64 (a - 1))), (17, (Value.int .u64 v)), (20, (.bool (decide (y = 0)))), (24, (.bool (decide (y ≤ hi)))), (27, (.bool (decide (hi = 0)))), (78, (.bool (decide (((4294967296 * r) + e) < (a * c))))), (85, (.bool (decide (4294967296 ≤ (r + p))))), (16, (Value.int .u64 r2)), (18, (Value.int .u64 b))] e3) _ _
       refine vc_seq ?_
       refine vc_seq ?_
       refine vc_region ?_
       refine oq (qv_mv (Value.int .u64 b) rfl) ?_
       refine oq (qv_geq rfl rfl) ?_
       refine oq (qv_mv (.bool (decide (4294967296 ≤ b))) rfl) ?_
       by_cases g3 : 4294967296 ≤ b
       ·
        refine os (want_fn g3 rfl rfl rfl) ?_
        refine os (want_fn g3 rfl rfl rfl) ?_
        
        refine os (want_fn g3 rfl rfl rfl) ?_
        refine os (want_fn g3 rfl rfl rfl) ?_
        refine os (want_fn g3 rfl rfl rfl) ?_
        refine os (want_fn g3 rfl rfl rfl) ?_
        refine os (want_fn g3 rfl rfl rfl) ?_
        refine os (want_fn g3 rfl rfl rfl) ?_
        refine oq (qv_pick_t g3 rfl (rfl : ev _ _ = (Value.bool true))) ?_
        refine ops_nil ?_
        refine vc_tt rfl ?_
        refine vc_skip ?_
        refine vc_block ?_
        refine vc_seq ?_
        obtain ⟨o1, o2, o3⟩ := hd2.down hr2 (by omega)
        refine vc_region ?_
        refine oq (qv_mv (Value.int .u64 b) rfl) ?_
        refine oq (qv_subu rfl rfl (by omega)) ?_
        refine oq (qv_as (.int .u64 (b - 1)) rfl) ?_
        refine ops_nil ?_
        refine vc_seq ?_
        refine vc_region ?_
        refine oq (qv_mv (Value.int .u64 r2) rfl) ?_
        refine oq (qv_mv (Value.int .u64 p) rfl) ?_
        refine oq (qv_addu rfl rfl (by omega)) ?_
        refine oq (qv_as (.int .u64 (r2 + p)) rfl) ?_
        refine ops_nil ?_
        refine vc_seq ?_
        refine vc_region ?_
        refine oq (qv_mv (.int .u64 (r2 + p)) rfl) ?_
        refine oq (qv_geq rfl rfl) ?_
        refine ops_nil ?_
        refine vc_if rfl (fun c10 => ?_) (fun c10 => ?_)
        ·
         refine vc_exit ?_
         refine blockQ_miss rfl ?_
         refine blockQ_hit ?_
         refine vc_seq ?_
         obtain ⟨y2, y3⟩ := hd2.stop o2 (by omega) (by omega) (by omega) o1
         have hwv : ((v * 4294967296 % 18446744073709551616 + f) % 18446744073709551616 - (b - 1) * Y % 18446744073709551616) % 18446744073709551616 = v * 4294967296 + f - (b - 1) * Y := by omega
         have fin := div_all (hi := hi) (lo := lo) (a := a - 1) (b := b - 1) (show 0 < y by omega) k5 k6 k7 hY rfl hu hl he hf hv rfl (by omega) (by omega)
         have fb := div_small (hi := hi) (lo := lo) h1 l1 (by omega)
         rw [← fin.1] at fb
         refine vc_region ?_
         refine oq (qv_mv (.int .u64 (a - 1)) rfl) ?_
         refine oq (qv_mulu rfl rfl (by omega)) ?_
         refine oq (qv_mv (.int .u64 (b - 1)) rfl) ?_
         refine oq (qv_addu rfl rfl (by omega)) ?_
         refine oq (qv_mv (Value.int .u64 v) rfl) ?_
         refine oq (qv_mulw rfl rfl) ?_
         refine oq (qv_mv (Value.int .u64 f) rfl) ?_
         refine oq (qv_addw rfl rfl) ?_
         refine oq (qv_mv (.int .u64 (b - 1)) rfl) ?_
         refine oq (qv_mv (Value.int .u64 Y) rfl) ?_
         refine oq (qv_mulw rfl rfl) ?_
         refine oq (qv_subw rfl rfl) ?_
         refine oq (qv_mv (.int .u64 (64 - bl y)) rfl) ?_
         refine oq (qv_shru rfl rfl (by omega) (by omega)) ?_
         refine oq (qv_as (.int .u64 (((a - 1) * 4294967296) + (b - 1))) rfl) ?_
         refine oq (qv_as (.int .u64 (((((((v * 4294967296) % 18446744073709551616) + f) % 18446744073709551616) - (((b - 1) * Y) % 18446744073709551616)) % 18446744073709551616) / 2 ^ (64 - bl y).toNat)) rfl) ?_
         refine ops_nil ?_
         refine vc_ret ?_
         exact rq2 (.int .u64 ((hi * 18446744073709551616 + lo) / y)) (.int .u64 ((hi * 18446744073709551616 + lo) % y)) (congrArg (Value.int .u64) (show (((a - 1) * 4294967296) + (b - 1)) = ((hi * 18446744073709551616 + lo) / y) from by exact fin.1)) (congrArg (Value.int .u64) (show (((((((v * 4294967296) % 18446744073709551616) + f) % 18446744073709551616) - (((b - 1) * Y) % 18446744073709551616)) % 18446744073709551616) / 2 ^ (64 - bl y).toNat) = ((hi * 18446744073709551616 + lo) % y) from by rw [hwv]; exact fin.2)) rfl
        ·
         refine vc_skip ?_
         refine ⟨(b - 1, r2 + p), ⟨rfl, rfl, rfl, rfl, rfl, rfl, rfl, rfl, rfl, rfl, rfl, rfl, rfl, rfl, rfl, rfl, rfl, rfl, rfl, (congrArg (Value.int .u64) (show (r2 + p) = ((r2 + p)) from by rfl)), (congrArg (Value.int .u64) (show (b - 1) = ((b - 1)) from by rfl)), trivial⟩, ⟨rfl, rfl, by omega, by omega, o2, by omega, by omega, o1⟩, by omega⟩
       ·
        refine og (qv_mv (Value.int .u64 b) rfl) (want_f g3 rfl rfl rfl) ?_
        refine og (qv_mv (Value.int .u64 c) rfl) (want_f g3 rfl rfl rfl) ?_
        have m2 := mul32 (a := b) (b := c) (by omega) (by omega) (by omega) (by omega)
        refine og (qv_mulu rfl rfl (by omega)) (want_f g3 rfl rfl rfl) ?_
        refine og (qv_mv (Value.int .u64 r2) rfl) (want_f g3 rfl rfl rfl) ?_
        refine og (qv_mulu rfl rfl (by omega)) (want_f g3 rfl rfl rfl) ?_
        refine og (qv_mv (Value.int .u64 f) rfl) (want_f g3 rfl rfl rfl) ?_
        refine og (qv_addu rfl rfl (by omega)) (want_f g3 rfl rfl rfl) ?_
        refine og (qv_gtr rfl rfl) (want_f g3 rfl rfl rfl) ?_
        refine oq (qv_pick_f g3 rfl (rfl : ev _ _ = (.bool (decide (((4294967296 * r2) + f) < (b * c)))))) ?_
        refine ops_nil ?_
        refine vc_if rfl (fun c11 => ?_) (fun c11 => ?_)
        ·
         refine vc_skip ?_
         refine vc_block ?_
         refine vc_seq ?_
         obtain ⟨o1, o2, o3⟩ := hd2.down hr2 (by omega)
         refine vc_region ?_
         refine oq (qv_mv (Value.int .u64 b) rfl) ?_
         refine oq (qv_subu rfl rfl (by omega)) ?_
         refine oq (qv_as (.int .u64 (b - 1)) rfl) ?_
         refine ops_nil ?_
         refine vc_seq ?_
         refine vc_region ?_
         refine oq (qv_mv (Value.int .u64 r2) rfl) ?_
         refine oq (qv_mv (Value.int .u64 p) rfl) ?_
         refine oq (qv_addu rfl rfl (by omega)) ?_
         refine oq (qv_as (.int .u64 (r2 + p)) rfl) ?_
         refine ops_nil ?_
         refine vc_seq ?_
         refine vc_region ?_
         refine oq (qv_mv (.int .u64 (r2 + p)) rfl) ?_
         refine oq (qv_geq rfl rfl) ?_
         refine ops_nil ?_
         refine vc_if rfl (fun c12 => ?_) (fun c12 => ?_)
         ·
          refine vc_exit ?_
          refine blockQ_miss rfl ?_
          refine blockQ_hit ?_
          refine vc_seq ?_
          obtain ⟨y2, y3⟩ := hd2.stop o2 (by omega) (by omega) (by omega) o1
          have hwv : ((v * 4294967296 % 18446744073709551616 + f) % 18446744073709551616 - (b - 1) * Y % 18446744073709551616) % 18446744073709551616 = v * 4294967296 + f - (b - 1) * Y := by omega
          have fin := div_all (hi := hi) (lo := lo) (a := a - 1) (b := b - 1) (show 0 < y by omega) k5 k6 k7 hY rfl hu hl he hf hv rfl (by omega) (by omega)
          have fb := div_small (hi := hi) (lo := lo) h1 l1 (by omega)
          rw [← fin.1] at fb
          refine vc_region ?_
          refine oq (qv_mv (.int .u64 (a - 1)) rfl) ?_
          refine oq (qv_mulu rfl rfl (by omega)) ?_
          refine oq (qv_mv (.int .u64 (b - 1)) rfl) ?_
          refine oq (qv_addu rfl rfl (by omega)) ?_
          refine oq (qv_mv (Value.int .u64 v) rfl) ?_
          refine oq (qv_mulw rfl rfl) ?_
          refine oq (qv_mv (Value.int .u64 f) rfl) ?_
          refine oq (qv_addw rfl rfl) ?_
          refine oq (qv_mv (.int .u64 (b - 1)) rfl) ?_
          refine oq (qv_mv (Value.int .u64 Y) rfl) ?_
          refine oq (qv_mulw rfl rfl) ?_
          refine oq (qv_subw rfl rfl) ?_
          refine oq (qv_mv (.int .u64 (64 - bl y)) rfl) ?_
          refine oq (qv_shru rfl rfl (by omega) (by omega)) ?_
          refine oq (qv_as (.int .u64 (((a - 1) * 4294967296) + (b - 1))) rfl) ?_
          refine oq (qv_as (.int .u64 (((((((v * 4294967296) % 18446744073709551616) + f) % 18446744073709551616) - (((b - 1) * Y) % 18446744073709551616)) % 18446744073709551616) / 2 ^ (64 - bl y).toNat)) rfl) ?_
          refine ops_nil ?_
          refine vc_ret ?_
          exact rq2 (.int .u64 ((hi * 18446744073709551616 + lo) / y)) (.int .u64 ((hi * 18446744073709551616 + lo) % y)) (congrArg (Value.int .u64) (show (((a - 1) * 4294967296) + (b - 1)) = ((hi * 18446744073709551616 + lo) / y) from by exact fin.1)) (congrArg (Value.int .u64) (show (((((((v * 4294967296) % 18446744073709551616) + f) % 18446744073709551616) - (((b - 1) * Y) % 18446744073709551616)) % 18446744073709551616) / 2 ^ (64 - bl y).toNat) = ((hi * 18446744073709551616 + lo) % y) from by rw [hwv]; exact fin.2)) rfl
         ·
          refine vc_skip ?_
          refine ⟨(b - 1, r2 + p), ⟨rfl, rfl, rfl, rfl, rfl, rfl, rfl, rfl, rfl, rfl, rfl, rfl, rfl, rfl, rfl, rfl, rfl, rfl, rfl, (congrArg (Value.int .u64) (show (r2 + p) = ((r2 + p)) from by rfl)), (congrArg (Value.int .u64) (show (b - 1) = ((b - 1)) from by rfl)), trivial⟩, ⟨rfl, rfl, by omega, by omega, o2, by omega, by omega, o1⟩, by omega⟩
        ·
         refine vc_exit ?_
         refine blockQ_hit ?_
         refine vc_seq ?_
         obtain ⟨y2, y3⟩ := hd2.done hr2 (by omega) hG2
         have hwv : ((v * 4294967296 % 18446744073709551616 + f) % 18446744073709551616 - b * Y % 18446744073709551616) % 18446744073709551616 = v * 4294967296 + f - b * Y := by omega
         have fin := div_all (hi := hi) (lo := lo) (a := a - 1) (b := b) (show 0 < y by omega) k5 k6 k7 hY rfl hu hl he hf hv rfl (by omega) (by omega)
         have fb := div_small (hi := hi) (lo := lo) h1 l1 (by omega)
         rw [← fin.1] at fb
         refine vc_region ?_
         refine oq (qv_mv (.int .u64 (a - 1)) rfl) ?_
         refine oq (qv_mulu rfl rfl (by omega)) ?_
         refine oq (qv_mv (Value.int .u64 b) rfl) ?_
         refine oq (qv_addu rfl rfl (by omega)) ?_
         refine oq (qv_mv (Value.int .u64 v) rfl) ?_
         refine oq (qv_mulw rfl rfl) ?_
         refine oq (qv_mv (Value.int .u64 f) rfl) ?_
         refine oq (qv_addw rfl rfl) ?_
         refine oq (qv_mv (Value.int .u64 b) rfl) ?_
         refine oq (qv_mv (Value.int .u64 Y) rfl) ?_
         refine oq (qv_mulw rfl rfl) ?_
         refine oq (qv_subw rfl rfl) ?_
         refine oq (qv_mv (.int .u64 (64 - bl y)) rfl) ?_
         refine oq (qv_shru rfl rfl (by omega) (by omega)) ?_
         refine oq (qv_as (.int .u64 (((a - 1) * 4294967296) + b)) rfl) ?_
         refine oq (qv_as (.int .u64 (((((((v * 4294967296) % 18446744073709551616) + f) % 18446744073709551616) - ((b * Y) % 18446744073709551616)) % 18446744073709551616) / 2 ^ (64 - bl y).toNat)) rfl) ?_
         refine ops_nil ?_
         refine vc_ret ?_
         exact rq2 (.int .u64 ((hi * 18446744073709551616 + lo) / y)) (.int .u64 ((hi * 18446744073709551616 + lo) % y)) (congrArg (Value.int .u64) (show (((a - 1) * 4294967296) + b) = ((hi * 18446744073709551616 + lo) / y) from by exact fin.1)) (congrArg (Value.int .u64) (show (((((((v * 4294967296) % 18446744073709551616) + f) % 18446744073709551616) - ((b * Y) % 18446744073709551616)) % 18446744073709551616) / 2 ^ (64 - bl y).toNat) = ((hi * 18446744073709551616 + lo) % y) from by rw [hwv]; exact fin.2)) rfl
      ·
       refine vc_skip ?_
       refine ⟨(a - 1, r + p), ⟨rfl, rfl, rfl, rfl, rfl, rfl, rfl, rfl, rfl, rfl, rfl, rfl, rfl, rfl, rfl, (congrArg (Value.int .u64) (show (a - 1) = ((a - 1)) from by rfl)), (congrArg (Value.int .u64) (show (r + p) = ((r + p)) from by rfl)), trivial⟩, ⟨rfl, rfl, by omega, by omega, n2, by omega, by omega, n1⟩, by omega⟩
     ·
      refine vc_exit ?_
      refine blockQ_hit ?_
      refine vc_seq ?_
      obtain ⟨z1, z2⟩ := hd.done hr (by omega) hG
      refine vc_region ?_
      refine oq (qv_mv (Value.int .u64 u) rfl) ?_
      refine oq (qv_mulw rfl rfl) ?_
      refine oq (qv_mv (Value.int .u64 e) rfl) ?_
      refine oq (qv_addw rfl rfl) ?_
      refine oq (qv_mv (Value.int .u64 a) rfl) ?_
      refine oq (qv_mv (Value.int .u64 Y) rfl) ?_
      refine oq (qv_mulw rfl rfl) ?_
      refine oq (qv_subw rfl rfl) ?_
      obtain ⟨v, hv⟩ : ∃ z : Int, z = u * 4294967296 + e - a * Y := ⟨_, rfl⟩
      refine oq (qv_as (Value.int .u64 v) (show _ = _ from congrArg (Value.int .u64) ((show ((((((u * 4294967296) % 18446744073709551616) + e) % 18446744073709551616) - ((a * Y) % 18446744073709551616)) % 18446744073709551616) = u * 4294967296 + e - a * Y from by omega).trans hv.symm))) ?_
      refine ops_nil ?_
      refine vc_seq ?_
      have hd2 : Dig Y p c v f := ⟨by omega, by omega, by omega, by omega, by omega, by omega, by omega, by omega, by omega⟩
      obtain ⟨t1, t2, t3, t4, t5, t6⟩ := hd2.start
      refine vc_region ?_
      refine oq (qv_mv (Value.int .u64 v) rfl) ?_
      refine oq (qv_mv (Value.int .u64 p) rfl) ?_
      refine oq (qv_quou rfl rfl (by omega) (by omega)) ?_
      refine oq (qv_as (.int .u64 (v / p)) rfl) ?_
      refine ops_nil ?_
      refine vc_seq ?_
      refine vc_region ?_
      refine oq (qv_mv (Value.int .u64 v) rfl) ?_
      refine oq (qv_mv (.int .u64 (v / p)) rfl) ?_
      refine oq (qv_mv (Value.int .u64 p) rfl) ?_
      refine oq (qv_mulu rfl rfl (by omega)) ?_
      refine oq (qv_subu rfl rfl (by omega)) ?_
      refine oq (qv_as (.int .u64 (v - ((v / p) * p))) rfl) ?_
      refine ops_nil ?_
      refine vc_seq ?_
      refine vc_block ?_
      refine vc_loop (α := Int × Int) (fun (xx : Int × Int) => [(0, (Value.int .u64 hi)), (1, (Value.int .u64 lo)), (2, (Value.int .u64 Y)), (6, (Value.int .u64 0)), (7, (Value.int .u64 0)), (8, (.int .u64 (64 - bl y))), (9, (Value.int .u64 p)), (10, (Value.int .u64 c)), (11, (Value.int .u64 u)), (12, (Value.int .u64 l)), (13, (Value.int .u64 e)), (14, (Value.int .u64 f)), (15, (Value.int .u64 a)), (17, (Value.int .u64 v)), (20, (.bool (decide (y = 0)))), (24, (.bool (decide (y ≤ hi)))), (27, (.bool (decide (hi = 0)))), (78, (.bool (decide (((4294967296 * r) + e) < (a * c))))), (16, (Value.int .u64 xx.2)), (18, (Value.int .u64 xx.1))]) (fun (xx : Int × Int) V' σ' => V = V' ∧ [] = σ' ∧ 0 ≤ xx.1 ∧ xx.1 ≤ 4294967297 ∧ xx.1 * p + xx.2 = v ∧ 0 ≤ xx.2 ∧ xx.2 < 4294967296 ∧ v * 4294967296 + f < (xx.1 + 1) * Y) (fun (xx : Int × Int) => xx.1.toNat) (v / p, v - v / p * p) ?_ ?_ ?_
      · exact ⟨rfl, rfl, rfl, rfl, rfl, rfl, rfl, rfl, rfl, rfl, rfl, rfl, rfl, rfl, rfl, rfl, rfl, rfl, (congrArg (Value.int .u64) (show (v - ((v / p) * p)) = ((v - v / p * p)) from by rfl)), (congrArg (Value.int .u64) (show (v / p) = ((v / p)) from by rfl)), trivial⟩
      · exact ⟨rfl, rfl, t1, t2, by show v / p * p + (v - v / p * p) = v; omega, t4, by show v - v / p * p < 4294967296; omega, t6⟩
      rintro ⟨b, r2⟩ e4 V1l σ1l hI1
      obtain ⟨rfl, rfl, i13, i14, hr2, i15, i16, hG2⟩ : V = V1l ∧ [] = σ1l ∧ 0 ≤ b ∧ b ≤ 4294967297 ∧ b * p + r2 = v ∧ 0 ≤ r2 ∧ r2 < 4294967296 ∧ v * 4294967296 + f < (b + 1) * Y := hI1
      change VC _ _ _ _ _ _ (upds 135 [(0, (Value.int .u64 hi)), (1, (Value.int .u64 lo)), (2, (Value.int .u64 Y)), (6, (Value.int .u64 0)), (7, (Value.int .u64 0)), (8, (.int .u64 (64 - bl y))), (9, (Value.int .u64 p)), (10, (Value.int .u64 c)), (11, (Value.int .u64 u)), (12, (Value.int .u64 l)), (13, (Value.int .u64 e)), (14, (Value.int .u64 f)), (15, (Value.int .u64 a)), (17, (Value.int .u64 v)), (20, (.bool (decide (y = 0)))), (24, (.bool (decide (y ≤ hi)))), (27, (.bool (decide (hi = 0)))), (78, (.bool (decide (((4294967296 * r) + e) < (a * c))))), (16, (Value.int .u64 r2)), (18, (Value.int .u64 b))] e4) _ _
      refine vc_seq ?_
      refine vc_seq ?_
      refine vc_region ?_
      refine oq (qv_mv (Value.int .u64 b) rfl) ?_
      refine oq (qv_geq rfl rfl) ?_
      refine oq (qv_mv (.bool (decide (4294967296 ≤ b))) rfl) ?_
      by_cases g4 : 4294967296 ≤ b
      ·
       refine os (want_fn g4 rfl rfl rfl) ?_
       refine os (want_fn g4 rfl rfl rfl) ?_
       
       refine os (want_fn g4 rfl rfl rfl) ?_
       refine os (want_fn g4 rfl rfl rfl) ?_
       refine os (want_fn g4 rfl rfl rfl) ?_
       refine os (want_fn g4 rfl rfl rfl) ?_
       refine os (want_fn g4 rfl rfl rfl) ?_
       refine os (want_fn g4 rfl rfl rfl) ?_
       refine oq (qv_pick_t g4 rfl (rfl : ev _ _ = (Value.bool true))) ?_
       refine ops_nil ?_
       refine vc_tt rfl ?_
       refine vc_skip ?_
       refine vc_block ?_
       refine vc_seq ?_
       obtain ⟨o1, o2, o3⟩ := hd2.down hr2 (by omega)
       refine vc_region ?_
       refine oq (qv_mv (Value.int .u64 b) rfl) ?_
       refine oq (qv_subu rfl rfl (by omega)) ?_
       refine oq (qv_as (.int .u64 (b - 1)) rfl) ?_
       refine ops_nil ?_
       refine vc_seq ?_
       refine vc_region ?_
       refine oq (qv_mv (Value.int .u64 r2) rfl) ?_
       refine oq (qv_mv (Value.int .u64 p) rfl) ?_
       refine oq (qv_addu rfl rfl (by omega)) ?_
       refine oq (qv_as (.int .u64 (r2 + p)) rfl) ?_
       refine ops_nil ?_
       refine vc_seq ?_
       refine vc_region ?_
       refine oq (qv_mv (.int .u64 (r2 + p)) rfl) ?_
       refine oq (qv_geq rfl rfl) ?_
       refine ops_nil ?_
       refine vc_if rfl (fun c13 => ?_) (fun c13 => ?_)
       ·
        refine vc_exit ?_
        refine blockQ_miss rfl ?_
        refine blockQ_hit ?_
        refine vc_seq ?_
        obtain ⟨y2, y3⟩ := hd2.stop o2 (by omega) (by omega) (by omega) o1
        have hwv : ((v * 4294967296 % 18446744073709551616 + f) % 18446744073709551616 - (b - 1) * Y % 18446744073709551616) % 18446744073709551616 = v * 4294967296 + f - (b - 1) * Y := by omega
        have fin := div_all (hi := hi) (lo := lo) (a := a) (b := b - 1) (show 0 < y by omega) k5 k6 k7 hY rfl hu hl he hf hv rfl (by omega) (by omega)
        have fb := div_small (hi := hi) (lo := lo) h1 l1 (by omega)
        rw [← fin.1] at fb
        refine vc_region ?_
        refine oq (qv_mv (Value.int .u64 a) rfl) ?_
        refine oq (qv_mulu rfl rfl (by omega)) ?_
        refine oq (qv_mv (.int .u64 (b - 1)) rfl) ?_
        refine oq (qv_addu rfl rfl (by omega)) ?_
        refine oq (qv_mv (Value.int .u64 v) rfl) ?_
        refine oq (qv_mulw rfl rfl) ?_
        refine oq (qv_mv (Value.int .u64 f) rfl) ?_
        refine oq (qv_addw rfl rfl) ?_
        refine oq (qv_mv (.int .u64 (b - 1)) rfl) ?_
        refine oq (qv_mv (Value.int .u64 Y) rfl) ?_
        refine oq (qv_mulw rfl rfl) ?_
        refine oq (qv_subw rfl rfl) ?_
        refine oq (qv_mv (.int .u64 (64 - bl y)) rfl) ?_
        refine oq (qv_shru rfl rfl (by omega) (by omega)) ?_
        refine oq (qv_as (.int .u64 ((a * 4294967296) + (b - 1))) rfl) ?_
        refine oq (qv_as (.int .u64 (((((((v * 4294967296) % 18446744073709551616) + f) % 18446744073709551616) - (((b - 1) * Y) % 18446744073709551616)) % 18446744073709551616) / 2 ^ (64 - bl y).toNat)) rfl) ?_
        refine ops_nil ?_
        refine vc_ret ?_
        exact rq2 (.int .u64 ((hi * 18446744073709551616 + lo) / y)) (.int .u64 ((hi * 18446744073709551616 + lo) % y)) (congrArg (Value.int .u64) (show ((a * 4294967296) + (b - 1)) = ((hi * 18446744073709551616 + lo) / y) from by exact fin.1)) (congrArg (Value.int .u64) (show (((((((v * 4294967296) % 18446744073709551616) + f) % 18446744073709551616) - (((b - 1) * Y) % 18446744073709551616)) % 18446744073709551616) / 2 ^ (64 - bl y).toNat) = ((hi * 18446744073709551616 + lo) % y) from by rw [hwv]; exact fin.2)) rfl
       ·
        refine vc_skip ?_
        refine ⟨(b - 1, r2 + p), ⟨rfl, rfl, rfl, rfl, rfl, rfl, rfl, rfl, rfl, rfl, rfl, rfl, rfl, rfl, rfl, rfl, rfl, rfl, (congrArg (Value.int .u64) (show (r2 + p) = ((r2 + p)) from by rfl)), (congrArg (Value.int .u64) (show (b - 1) = ((b - 1)) from by rfl)), trivial⟩, ⟨rfl, rfl, by omega, by omega, o2, by omega, by omega, o1⟩, by omega⟩
      ·
       refine og (qv_mv (Value.int .u64 b) rfl) (want_f g4 rfl rfl rfl) ?_
       refine og (qv_mv (Value.int .u64 c) rfl) (want_f g4 rfl rfl rfl) ?_
       have m2 := mul32 (a := b) (b := c) (by omega) (by omega) (by omega) (by omega)
       refine og (qv_mulu rfl rfl (by omega)) (want_f g4 rfl rfl rfl) ?_
       refine og (qv_mv (Value.int .u64 r2) rfl) (want_f g4 rfl rfl rfl) ?_
       refine og (qv_mulu rfl rfl (by omega)) (want_f g4 rfl rfl rfl) ?_
       refine og (qv_mv (Value.int .u64 f) rfl) (want_f g4 rfl rfl rfl) ?_
       refine og (qv_addu rfl rfl (by omega)) (want_f g4 rfl rfl rfl) ?_
       refine og (qv_gtr rfl rfl) (want_f g4 rfl rfl rfl) ?_
       refine oq (qv_pick_f g4 rfl (rfl : ev _ _ = (.bool (decide (((4294967296 * r2) + f) < (b * c)))))) ?_
       refine ops_nil ?_
       refine vc_if rfl (fun c14 => ?_) (fun c14 => ?_)
       ·
        refine vc_skip ?_
        refine vc_block ?_
        refine vc_seq ?_
        obtain ⟨o1, o2, o3⟩ := hd2.down hr2 (by omega)
        refine vc_region ?_
        refine oq (qv_mv (Value.int .u64 b) rfl) ?_
        refine oq (qv_subu rfl rfl (by omega)) ?_
        refine oq (qv_as (.int .u64 (b - 1)) rfl) ?_
        refine ops_nil ?_
        refine vc_seq ?_
        refine vc_region ?_
        refine oq (qv_mv (Value.int .u64 r2) rfl) ?_
        refine oq (qv_mv (Value.int .u64 p) rfl) ?_
        refine oq (qv_addu rfl rfl (by omega)) ?_
        refine oq (qv_as (.int .u64 (r2 + p)) rfl) ?_
        refine ops_nil ?_
        refine vc_seq ?_
        refine vc_region ?_
        refine oq (qv_mv (.int .u64 (r2 + p)) rfl) ?_
        refine oq (qv_geq rfl rfl) ?_
        refine ops_nil ?_
        refine vc_if rfl (fun c15 => ?_) (fun c15 => ?_)
        ·
         refine vc_exit ?_
         refine blockQ_miss rfl ?_
         refine blockQ_hit ?_
         refine vc_seq ?_
         obtain ⟨y2, y3⟩ := hd2.stop o2 (by omega) (by omega) (by omega) o1
         have hwv : ((v * 4294967296 % 18446744073709551616 + f) % 18446744073709551616 - (b - 1) * Y % 18446744073709551616) % 18446744073709551616 = v * 4294967296 + f - (b - 1) * Y := by omega
         have fin := div_all (hi := hi) (lo := lo) (a := a) (b := b - 1) (show 0 < y by omega) k5 k6 k7 hY rfl hu hl he hf hv rfl (by omega) (by omega)
         have fb := div_small (hi := hi) (lo := lo) h1 l1 (by omega)
         rw [← fin.1] at fb
         refine vc_region ?_
         refine oq (qv_mv (Value.int .u64 a) rfl) ?_
         refine oq (qv_mulu rfl rfl (by omega)) ?_
         refine oq (qv_mv (.int .u64 (b - 1)) rfl) ?_
         refine oq (qv_addu rfl rfl (by omega)) ?_
         refine oq (qv_mv (Value.int .u64 v) rfl) ?_
         refine oq (qv_mulw rfl rfl) ?_
         refine oq (qv_mv (Value.int .u64 f) rfl) ?_
         refine oq (qv_addw rfl rfl) ?_
         refine oq (qv_mv (.int .u64 (b - 1)) rfl) ?_
         refine oq (qv_mv (Value.int .u64 Y) rfl) ?_
         refine oq (qv_mulw rfl rfl) ?_
         refine oq (qv_subw rfl rfl) ?_
         refine oq (qv_mv (.int .u64 (64 - bl y)) rfl) ?_
         refine oq (qv_shru rfl rfl (by omega) (by omega)) ?_
         refine oq (qv_as (.int .u64 ((a * 4294967296) + (b - 1))) rfl) ?_
         refine oq (qv_as (.int .u64 (((((((v * 4294967296) % 18446744073709551616) + f) % 18446744073709551616) - (((b - 1) * Y) % 18446744073709551616)) % 18446744073709551616) / 2 ^ (64 - bl y).toNat)) rfl) ?_
         refine ops_nil ?_
         refine vc_ret ?_
         exact rq2 (.int .u64 ((hi * 18446744073709551616 + lo) / y)) (.int .u64 ((hi * 18446744073709551616 + lo) % y)) (congrArg (Value.int .u64) (show ((a * 4294967296) + (b - 1)) = ((hi * 18446744073709551616 + lo) / y) from by exact fin.1)) (congrArg (Value.int .u64) (show (((((((v * 4294967296) % 18446744073709551616) + f) % 18446744073709551616) - (((b - 1) * Y) % 18446744073709551616)) % 18446744073709551616) / 2 ^ (64 - bl y).toNat) = ((hi * 18446744073709551616 + lo) % y) from by rw [hwv]; exact fin.2)) rfl
        ·
         refine vc_skip ?_
         refine ⟨(b - 1, r2 + p), ⟨rfl, rfl, rfl, rfl, rfl, rfl, rfl, rfl, rfl, rfl, rfl, rfl, rfl, rfl, rfl, rfl, rfl, rfl, (congrArg (Value.int .u64) (show (r2 + p) = ((r2 + p)) from by rfl)), (congrArg (Value.int .u64) (show (b - 1) = ((b - 1)) from by rfl)), trivial⟩, ⟨rfl, rfl, by omega, by omega, o2, by omega, by omega, o1⟩, by omega⟩
       ·
        refine vc_exit ?_
        refine blockQ_hit ?_
        refine vc_seq ?_
        obtain ⟨y2, y3⟩ := hd2.done hr2 (by omega) hG2
        have hwv : ((v * 4294967296 % 18446744073709551616 + f) % 18446744073709551616 - b * Y % 18446744073709551616) % 18446744073709551616 = v * 4294967296 + f - b * Y := by omega
        have fin := div_all (hi := hi) (lo := lo) (a := a) (b := b) (show 0 < y by omega) k5 k6 k7 hY rfl hu hl he hf hv rfl (by omega) (by omega)
        have fb := div_small (hi := hi) (lo := lo) h1 l1 (by omega)
        rw [← fin.1] at fb
        refine vc_region ?_
        refine oq (qv_mv (Value.int .u64 a) rfl) ?_
        refine oq (qv_mulu rfl rfl (by omega)) ?_
        refine oq (qv_mv (Value.int .u64 b) rfl) ?_
        refine oq (qv_addu rfl rfl (by omega)) ?_
        refine oq (qv_mv (Value.int .u64 v) rfl) ?_
        refine oq (qv_mulw rfl rfl) ?_
        refine oq (qv_mv (Value.int .u64 f) rfl) ?_
        refine oq (qv_addw rfl rfl) ?_
        refine oq (qv_mv (Value.int .u64 b) rfl) ?_
        refine oq (qv_mv (Value.int .u64 Y) rfl) ?_
        refine oq (qv_mulw rfl rfl) ?_
        refine oq (qv_subw rfl rfl) ?_
        refine oq (qv_mv (.int .u64 (64 - bl y)) rfl) ?_
        refine oq (qv_shru rfl rfl (by omega) (by omega)) ?_
        refine oq (qv_as (.int .u64 ((a * 4294967296) + b)) rfl) ?_
        refine oq (qv_as (.int .u64 (((((((v * 4294967296) % 18446744073709551616) + f) % 18446744073709551616) - ((b * Y) % 18446744073709551616)) % 18446744073709551616) / 2 ^ (64 - bl y).toNat)) rfl) ?_
        refine ops_nil ?_
        refine vc_ret ?_
        exact rq2 (.int .u64 ((hi * 18446744073709551616 + lo) / y)) (.int .u64 ((hi * 18446744073709551616 + lo) % y)) (congrArg (Value.int .u64) (show ((a * 4294967296) + b) = ((hi * 18446744073709551616 + lo) / y) from by exact fin.1)) (congrArg (Value.int .u64) (show (((((((v * 4294967296) % 18446744073709551616) + f) % 18446744073709551616) - ((b * Y) % 18446744073709551616)) % 18446744073709551616) / 2 ^ (64 - bl y).toNat) = ((hi * 18446744073709551616 + lo) % y) from by rw [hwv]; exact fin.2)) rfl

set_option maxRecDepth 100000 in
set_option maxHeartbeats 4000000 in
theorem Rem64_c {V : HV} {hi lo y : Int} (h0 : 0 ≤ hi) (h1 : hi < y) (l0 : 0 ≤ lo) (l1 : lo < 18446744073709551616) (y1 : y < 18446744073709551616) :
    FnC Try.prog 108 [(Value.int .u64 hi), (Value.int .u64 lo), (Value.int .u64 y)] V [] (fun v _ _ => v = (.int .u64 ((hi * 18446744073709551616 + lo) % y))) := by
 refine fn_intro (N := 19) Try.func108 (by kernel_rfl) rfl rfl rfl (Nat.le_of_ble_eq_true rfl) ?_
 intro w0 D
 have hm : hi % y = hi := Int.emod_eq_of_lt h0 h1
 refine vc_seq ?_
 refine vc_region ?_
 refine oq (qv_as (Value.int .u64 0) rfl) ?_
 refine ops_nil ?_
 refine vc_seq ?_
 refine vc_region ?_
 refine oq (qv_mv (Value.int .u64 hi) rfl) ?_
 refine oq (qv_mv (Value.int .u64 y) rfl) ?_
 refine oq (qv_remu rfl rfl (by omega) (by omega)) ?_
 refine oq (qv_mv (Value.int .u64 lo) rfl) ?_
 refine oq (qv_mv (Value.int .u64 y) rfl) ?_
 refine oq (qv_call (v := (.tuple #[(.int .u64 (((hi % y) * 18446744073709551616 + lo) / y)), (.int .u64 (((hi % y) * 18446744073709551616 + lo) % y))])) (Div64_c (hi := hi % y) (by omega) (by omega) l0 l1 y1) rfl rfl) ?_
 refine oq (qv_mv (.tuple #[(.int .u64 (((hi % y) * 18446744073709551616 + lo) / y)), (.int .u64 (((hi % y) * 18446744073709551616 + lo) % y))]) rfl) ?_
 refine oq (qv_ext (.int .u64 (((hi % y) * 18446744073709551616 + lo) / y)) rfl rfl) ?_
 refine oq (qv_ext (.int .u64 (((hi % y) * 18446744073709551616 + lo) % y)) rfl rfl) ?_
 refine oq (qv_as (.int .u64 (((hi % y) * 18446744073709551616 + lo) / y)) rfl) ?_
 refine oq (qv_as (.int .u64 (((hi % y) * 18446744073709551616 + lo) % y)) rfl) ?_
 refine ops_nil ?_
 refine vc_seq ?_
 refine vc_region ?_
 refine oq (qv_mv (.int .u64 (((hi % y) * 18446744073709551616 + lo) % y)) rfl) ?_
 refine oq (qv_as (.int .u64 (((hi % y) * 18446744073709551616 + lo) % y)) rfl) ?_
 refine ops_nil ?_
 refine vc_ret ?_
 exact rq1 (.int .u64 ((hi * 18446744073709551616 + lo) % y)) (congrArg (Value.int .u64) (show (((hi % y) * 18446744073709551616 + lo) % y) = ((hi * 18446744073709551616 + lo) % y) from by rw [hm])) rfl

set_option maxRecDepth 100000 in
set_option maxHeartbeats 4000000 in
theorem product_c {V : HV} {x y m : Int} (x0 : 0 ≤ x) (x1 : x < m) (y0 : 0 ≤ y) (y1 : y < m) (m1 : m ≤ 2199023255552) :
    FnC Try.prog 93 [(Value.int .i64 x), (Value.int .i64 y), (Value.int .i64 m)] V [] (fun v _ _ => v = (.int .i64 (x * y % m))) := by
 refine fn_intro (N := 23) Try.func93 (by kernel_rfl) rfl rfl rfl (Nat.le_of_ble_eq_true rfl) ?_
 intro w0 D
 have xy0 : 0 ≤ x * y := Int.mul_nonneg x0 y0
 have xy1 : x * y ≤ 2199023255552 * y := Int.mul_le_mul_of_nonneg_right (by omega) y0
 have xy2 : x * y < m * m := Int.lt_of_le_of_lt (Int.mul_le_mul_of_nonneg_left (Int.le_of_lt y1) x0) (Int.mul_lt_mul_of_pos_right x1 (by omega))
 have xy3 : m * m ≤ 2199023255552 * m := Int.mul_le_mul_of_nonneg_right (by omega) (by omega)
 have hq := Int.emod_lt_of_pos (x * y / 18446744073709551616 * 18446744073709551616 + x * y % 18446744073709551616) (show 0 < m by omega)
 have hq0 := Int.emod_nonneg (x * y / 18446744073709551616 * 18446744073709551616 + x * y % 18446744073709551616) (show m ≠ 0 by omega)
 refine vc_seq ?_
 refine vc_region ?_
 refine oq (qv_as (Value.int .i64 0) rfl) ?_
 refine ops_nil ?_
 refine vc_seq ?_
 refine vc_region ?_
 refine oq (qv_mv (Value.int .i64 x) rfl) ?_
 refine oq (qv_convk Try.underlying3 Try.underlying101 rfl (u64_in (by omega) (by omega))) ?_
 refine oq (qv_mv (Value.int .i64 y) rfl) ?_
 refine oq (qv_convk Try.underlying3 Try.underlying101 rfl (u64_in (by omega) (by omega))) ?_
 refine oq (qv_call (v := (.tuple #[(.int .u64 (x * y / 18446744073709551616)), (.int .u64 (x * y % 18446744073709551616))])) (Mul64_c (by omega) (by omega) (by omega) (by omega)) rfl rfl) ?_
 refine oq (qv_mv (.tuple #[(.int .u64 (x * y / 18446744073709551616)), (.int .u64 (x * y % 18446744073709551616))]) rfl) ?_
 refine oq (qv_ext (.int .u64 (x * y / 18446744073709551616)) rfl rfl) ?_
 refine oq (qv_ext (.int .u64 (x * y % 18446744073709551616)) rfl rfl) ?_
 refine oq (qv_as (.int .u64 (x * y / 18446744073709551616)) rfl) ?_
 refine oq (qv_as (.int .u64 (x * y % 18446744073709551616)) rfl) ?_
 refine ops_nil ?_
 refine vc_seq ?_
 refine vc_region ?_
 refine oq (qv_mv (.int .u64 (x * y / 18446744073709551616)) rfl) ?_
 refine oq (qv_mv (.int .u64 (x * y % 18446744073709551616)) rfl) ?_
 refine oq (qv_mv (Value.int .i64 m) rfl) ?_
 refine oq (qv_convk Try.underlying3 Try.underlying101 rfl (u64_in (by omega) (by omega))) ?_
 refine oq (qv_call (v := (.int .u64 ((x * y / 18446744073709551616 * 18446744073709551616 + x * y % 18446744073709551616) % m))) (Rem64_c (by omega) (hi_small x0 x1 y0 y1 m1) (by omega) (by omega) (by omega)) rfl rfl) ?_
 refine oq (qv_convk Try.underlying101 Try.underlying3 rfl (IntWalk.i64_in _ (by omega))) ?_
 refine oq (qv_as (.int .i64 ((x * y / 18446744073709551616 * 18446744073709551616 + x * y % 18446744073709551616) % m)) rfl) ?_
 refine ops_nil ?_
 refine vc_ret ?_
 exact rq1 (.int .i64 (x * y % m)) (congrArg (Value.int .i64) (show ((x * y / 18446744073709551616 * 18446744073709551616 + x * y % 18446744073709551616) % m) = (x * y % m) from by rw [show x * y / 18446744073709551616 * 18446744073709551616 + x * y % 18446744073709551616 = x * y by omega])) rfl

end Go.Proofs.Ytapkilaikcihgaa
