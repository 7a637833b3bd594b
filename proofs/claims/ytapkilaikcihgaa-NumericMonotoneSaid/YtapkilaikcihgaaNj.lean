/- Walks of numeric: what each function returns. Printed by a program out of notes. -/
import Derived.Test.YtapkilaikcihgaaNi
import Derived.Test.YtapkilaikcihgaaNmW
namespace Go.Proofs.Ytapkilaikcihgaa
open Go.Vc
open Classical

set_option maxRecDepth 100000 in
set_option maxHeartbeats 4000000 in
theorem inverse_c {V : HV} {x m : Int} (x0 : 0 ≤ x) (m1 : 2 ≤ m) (m2 : m ≤ 2199023255552) (hg : ∀ d : Int, d ∣ x → d ∣ m → d ∣ 1) :
    FnC Try.prog 94 [(Value.int .i64 x), (Value.int .i64 m)] V [] (fun v _ _ => v = (.int .i64 (invF x m))) := by
 refine fn_intro (N := 38) Try.func94 (by kernel_rfl) rfl rfl rfl (Nat.le_of_ble_eq_true rfl) ?_
 intro w0 D
 refine vc_seq ?_
 refine vc_region ?_
 refine oq (qv_as (Value.int .i64 0) rfl) ?_
 refine ops_nil ?_
 refine vc_seq ?_
 refine vc_region ?_
 refine oq (qv_mv (Value.int .i64 x) rfl) ?_
 refine oq (qv_mv (Value.int .i64 m) rfl) ?_
 refine oq (qv_rem rfl rfl (by omega) (by omega)) ?_
 refine oq (qv_mv (Value.int .i64 m) rfl) ?_
 refine oq (qv_as (.int .i64 (x % m)) rfl) ?_
 refine oq (qv_as (Value.int .i64 m) rfl) ?_
 refine oq (qv_as (Value.int .i64 1) rfl) ?_
 refine oq (qv_as (Value.int .i64 0) rfl) ?_
 refine ops_nil ?_
 refine vc_seq ?_
 refine vc_block ?_
 refine vc_loop (α := Int × Int × Int × Int) (fun (xx : Int × Int × Int × Int) => [(0, (Value.int .i64 x)), (1, (Value.int .i64 m)), (4, (Value.int .i64 0)), (5, (Value.int .i64 xx.1)), (6, (Value.int .i64 xx.2.1)), (7, (Value.int .i64 xx.2.2.1)), (8, (Value.int .i64 xx.2.2.2))]) (fun (xx : Int × Int × Int × Int) V' σ' => V = V' ∧ [] = σ' ∧ Inv x m xx.1 xx.2.1 xx.2.2.1 xx.2.2.2) (fun (xx : Int × Int × Int × Int) => xx.1.toNat) (x % m, m, 1, 0) ?_ ?_ ?_
 · exact ⟨rfl, rfl, rfl, (congrArg (Value.int .i64) (show (x % m) = ((x % m)) from by rfl)), rfl, rfl, rfl, trivial⟩
 · exact (show V = V ∧ [] = [] ∧ Inv x m (x % m : Int) m (1 : Int) (0 : Int) from ⟨rfl, rfl, Inv.start x0 m1 hg⟩)
 rintro ⟨a, b, u, v⟩ e1 V0l σ0l hI0
 obtain ⟨rfl, rfl, hI⟩ : V = V0l ∧ [] = σ0l ∧ Inv x m a b u v := hI0
 change VC _ _ _ _ _ _ (upds 38 [(0, (Value.int .i64 x)), (1, (Value.int .i64 m)), (4, (Value.int .i64 0)), (5, (Value.int .i64 a)), (6, (Value.int .i64 b)), (7, (Value.int .i64 u)), (8, (Value.int .i64 v))] e1) _ _
 refine vc_seq ?_
 refine vc_seq ?_
 refine vc_region ?_
 refine oq (qv_mv (Value.int .i64 a) rfl) ?_
 refine oq (qv_gtr rfl rfl) ?_
 refine ops_nil ?_
 refine vc_if rfl (fun c1 => ?_) (fun c1 => ?_)
 ·
  refine vc_skip ?_
  refine vc_block ?_
  refine vc_seq ?_
  have i1 := hI.a0
  have i2 := hI.b0
  have tb := hI.ble m1 m2
  refine vc_region ?_
  refine oq (qv_mv (Value.int .i64 b) rfl) ?_
  refine oq (qv_mv (Value.int .i64 a) rfl) ?_
  refine oq (qv_quo rfl rfl (by omega) (by omega)) ?_
  refine oq (qv_as (.int .i64 (b / a)) rfl) ?_
  refine ops_nil ?_
  refine vc_seq ?_
  have t1 := hI.step (by omega)
  have t2 := t1.a0
  have t3 := t1.ab
  have t4 := hI.ab
  refine vc_region ?_
  refine oq (qv_mv (Value.int .i64 b) rfl) ?_
  refine oq (qv_mv (.int .i64 (b / a)) rfl) ?_
  refine oq (qv_mv (Value.int .i64 a) rfl) ?_
  refine oq (qv_mul rfl rfl (by omega)) ?_
  refine oq (qv_sub rfl rfl (by omega)) ?_
  refine oq (qv_mv (Value.int .i64 a) rfl) ?_
  refine oq (qv_as (.int .i64 (b - ((b / a) * a))) rfl) ?_
  refine oq (qv_as (Value.int .i64 a) rfl) ?_
  refine ops_nil ?_
  have b1 := hI.bnd m1
  have b2 := t1.bnd m1
  have b3 := hI.vbd m1 (by omega)
  refine vc_region ?_
  refine oq (qv_mv (Value.int .i64 v) rfl) ?_
  refine oq (qv_mv (.int .i64 (b / a)) rfl) ?_
  refine oq (qv_mv (Value.int .i64 u) rfl) ?_
  refine oq (qv_mul rfl rfl (by omega)) ?_
  refine oq (qv_sub rfl rfl (by omega)) ?_
  refine oq (qv_mv (Value.int .i64 u) rfl) ?_
  refine oq (qv_as (.int .i64 (v - ((b / a) * u))) rfl) ?_
  refine oq (qv_as (Value.int .i64 u) rfl) ?_
  refine ops_nil ?_
  have s1 := hI.step (by omega)
  have s2 := s1.ab
  have s3 := s1.a0
  refine ⟨(b - b / a * a, a, v - b / a * u, u), ⟨rfl, rfl, rfl, (congrArg (Value.int .i64) (show (b - ((b / a) * a)) = ((b - b / a * a)) from by rfl)), rfl, (congrArg (Value.int .i64) (show (v - ((b / a) * u)) = ((v - b / a * u)) from by rfl)), rfl, trivial⟩, (show V = V ∧ [] = [] ∧ Inv x m (b - b / a * a : Int) a (v - b / a * u : Int) u from ⟨rfl, rfl, hI.step (by omega)⟩), show (b - b / a * a : Int).toNat < a.toNat from by omega⟩
 ·
  refine vc_exit ?_
  refine blockQ_hit ?_
  refine vc_seq ?_
  obtain ⟨f1, f2, f3⟩ := tmod_up (u := u) (show 0 < m by omega)
  refine vc_region ?_
  refine oq (qv_mv (Value.int .i64 u) rfl) ?_
  refine oq (qv_mv (Value.int .i64 m) rfl) ?_
  refine oq (qv_remk rfl rfl (by omega) rfl) ?_
  refine oq (qv_mv (Value.int .i64 m) rfl) ?_
  refine oq (qv_add rfl rfl (by omega)) ?_
  refine oq (qv_mv (Value.int .i64 m) rfl) ?_
  refine oq (qv_rem rfl rfl (by omega) (by omega)) ?_
  refine oq (qv_as (.int .i64 (((u.tmod m) + m) % m)) rfl) ?_
  refine ops_nil ?_
  refine vc_ret ?_
  exact rq1 (.int .i64 (invF x m)) (congrArg (Value.int .i64) (show (((u.tmod m) + m) % m) = (invF x m) from by rw [f3]; exact (hI.fin m1 (by omega)).symm)) rfl

set_option maxRecDepth 100000 in
set_option maxHeartbeats 4000000 in
theorem common_c {V : HV} {a b : Nm} (c : Com a b (gcdF [a.s, b.s])) :
    FnC Try.prog 84 [(.agg #[(.int .i64 a.l), (.int .i64 a.h), (.int .i64 a.s)]), (.agg #[(.int .i64 b.l), (.int .i64 b.h), (.int .i64 b.s)])] V [] (fun v _ _ => v = (.agg #[(.int .i64 ((meetF a b).l)), (.int .i64 ((meetF a b).h)), (.int .i64 ((meetF a b).s))])) := by
 refine fn_intro (N := 148) Try.func84 (by kernel_rfl) rfl rfl rfl (Nat.le_of_ble_eq_true rfl) ?_
 intro w0 D
 have ba := vld_bd c.va
 have bb := vld_bd c.vb
 unfold fits at ba bb
 have ca := c.sa
 have cb := c.sb
 have x1 := mx_or a.l b.l
 have x2 := mn_or a.h b.h
 have la := step_le c.va c.na
 have lb := step_le c.vb c.nb
 refine vc_seq ?_
 refine vc_region ?_
 refine ops_box (v := (.agg #[(.int .i64 a.l), (.int .i64 a.h), (.int .i64 a.s)])) (cs := [(.int .i64 a.l), (.int .i64 a.h), (.int .i64 a.s)]) rfl rfl (fun b1 => ?_)
 refine ops_box (v := (.agg #[(.int .i64 b.l), (.int .i64 b.h), (.int .i64 b.s)])) (cs := [(.int .i64 b.l), (.int .i64 b.h), (.int .i64 b.s)]) rfl rfl (fun b2 => ?_)
 refine ops_alloc Try.ti23 rfl (fun b3 => ?_)
 refine ops_nil ?_
 refine vc_seq ?_
 refine vc_res (σ' := [(Arr 23 b1 [(.int .i64 a.l), (.int .i64 a.h), (.int .i64 a.s)]), (Arr 23 b2 [(.int .i64 b.l), (.int .i64 b.h), (.int .i64 b.s)]), (Arr 23 b3 [(Value.int .i64 0), (Value.int .i64 0), (Value.int .i64 0)])]) rfl ?_
 refine vc_region_any Try.mixed (by kernel_rfl) ?_
 refine qq (qv_fa (off := 0) Try.field23_0 rfl) ?_
 refine qq (qv_ldp (v := (.int .i64 a.l)) Try.plain3 rfl (inOc (k := 0) rfl) rfl) ?_
 refine qq (qv_fa (off := 0) Try.field23_0 rfl) ?_
 refine qq (qv_ldp (v := (.int .i64 b.l)) Try.plain3 rfl (inOc (k := 1) rfl) rfl) ?_
 refine qq (qv_max rfl rfl) ?_
 refine qq (qv_fa (off := 0) Try.field23_1 rfl) ?_
 refine qq (qv_ldp (v := (.int .i64 a.h)) Try.plain3 rfl (inOc (k := 0) rfl) rfl) ?_
 refine qq (qv_fa (off := 0) Try.field23_1 rfl) ?_
 refine qq (qv_ldp (v := (.int .i64 b.h)) Try.plain3 rfl (inOc (k := 1) rfl) rfl) ?_
 refine qq (qv_min rfl rfl) ?_
 obtain ⟨L, hL⟩ : ∃ z : Int, z = mx a.l b.l := ⟨_, rfl⟩
 refine qq (qv_as (Value.int .i64 L) (show _ = _ from congrArg (Value.int .i64) ((show (if a.l < b.l then b.l else a.l) = mx a.l b.l from by rfl).trans hL.symm))) ?_
 obtain ⟨H, hH⟩ : ∃ z : Int, z = mn a.h b.h := ⟨_, rfl⟩
 refine qq (qv_as (Value.int .i64 H) (show _ = _ from congrArg (Value.int .i64) ((show (if b.h < a.h then b.h else a.h) = mn a.h b.h from by rfl).trans hH.symm))) ?_
 refine qops_nil ?_
 refine vc_seq ?_
 refine vc_region ?_
 refine oq (qv_fa (off := 0) Try.field23_2 rfl) ?_
 refine oq (qv_ldp (v := (.int .i64 a.s)) Try.plain3 rfl (inOc (k := 0) rfl) rfl) ?_
 refine oq (qv_fa (off := 0) Try.field23_2 rfl) ?_
 refine oq (qv_ldp (v := (.int .i64 b.s)) Try.plain3 rfl (inOc (k := 1) rfl) rfl) ?_
 refine ops_lit (n := 2) (s := 1) (cs := [(.int .i64 a.s), (.int .i64 b.s)]) Try.underlying37 Try.ti3 (Nat.le_of_ble_eq_true rfl) rfl rfl rfl (Nat.le_of_ble_eq_true rfl) rfl (fun b4 => ?_)
 refine oq (qv_call_own (v := (.int .i64 (gcdF [a.s, b.s]))) (k := 3) (b := b4) rfl (fun Vo hVo hbo => gcd_c (xs := [a.s, b.s]) (sl_own (n := 2) (c := 2) hbo rfl (Nat.le_refl _) (by omega)) (nn2 (by omega) (by omega))) rfl rfl) ?_
 obtain ⟨g, hg⟩ : ∃ z : Int, z = gcdF [a.s, b.s] := ⟨_, rfl⟩
 refine oq (qv_as (Value.int .i64 g) (show _ = _ from congrArg (Value.int .i64) hg.symm)) ?_
 refine ops_nil ?_
 refine vc_seq ?_
 refine vc_seq ?_
 refine vc_res (σ' := [(Arr 23 b1 [(.int .i64 a.l), (.int .i64 a.h), (.int .i64 a.s)]), (Arr 23 b2 [(.int .i64 b.l), (.int .i64 b.h), (.int .i64 b.s)]), (Arr 23 b3 [(Value.int .i64 0), (Value.int .i64 0), (Value.int .i64 0)]), (Arr 3 b4 [(.int .i64 a.s), (.int .i64 b.s)])]) rfl ?_
 rw [← hg] at c
 obtain ⟨g0, g1, g2, g3⟩ := c.pos
 refine vc_region ?_
 refine oq (qv_mv (Value.int .i64 L) rfl) ?_
 refine oq (qv_mv (Value.int .i64 H) rfl) ?_
 refine oq (qv_gtr rfl rfl) ?_
 refine oq (qv_mv (.bool (decide (H < L))) rfl) ?_
 by_cases g1 : H < L
 ·
  refine os (want_fn g1 rfl rfl rfl) ?_
  refine os (want_fn g1 rfl rfl rfl) ?_
  refine os (want_fn g1 rfl rfl rfl) ?_
  refine os (want_fn g1 rfl rfl rfl) ?_
  refine os (want_fn g1 rfl rfl rfl) ?_
  refine os (want_fn g1 rfl rfl rfl) ?_
  refine os (want_fn g1 rfl rfl rfl) ?_
  refine os (want_fn g1 rfl rfl rfl) ?_
  refine oq (qv_pick_t g1 rfl (rfl : ev _ _ = (Value.bool true))) ?_
  refine ops_nil ?_
  refine vc_tt rfl ?_
  refine vc_seq ?_
  have hn := c.none (by rw [← hL, ← hH]; first | exact Or.inl (by assumption) | exact Or.inr (fun e => absurd (dvd_tmod.2 e) (by assumption)))
  refine vc_region ?_
  refine oq (qv_call (v := (.agg #[(.int .i64 nE.l), (.int .i64 nE.h), (.int .i64 nE.s)])) (none_c) rfl rfl) ?_
  refine ops_stw (k := 2) (vs := [(.int .i64 nE.l), (.int .i64 nE.h), (.int .i64 nE.s)]) Try.size23 rfl rfl rfl rfl rfl rfl ?_
  refine ops_nil ?_
  refine vc_ret ?_
  refine rs1 _ (rv_c (vs := [(.int .i64 nE.l), (.int .i64 nE.h), (.int .i64 nE.s)]) Try.agg23 rfl (inOc (k := 2) rfl) rfl rfl) ?_
  exact (agg3 (show nE = meetF a b from by first | (rw [hn]; done) | (rw [hone]; done) | (rw [hmany]; done)))
 ·
  refine og (qv_fa (off := 0) Try.field23_0 rfl) (want_f g1 rfl rfl rfl) ?_
  refine og (qv_ldp (v := (.int .i64 b.l)) Try.plain3 rfl (inOc (k := 1) rfl) rfl) (want_f g1 rfl rfl rfl) ?_
  refine og (qv_fa (off := 0) Try.field23_0 rfl) (want_f g1 rfl rfl rfl) ?_
  refine og (qv_ldp (v := (.int .i64 a.l)) Try.plain3 rfl (inOc (k := 0) rfl) rfl) (want_f g1 rfl rfl rfl) ?_
  refine og (qv_sub rfl rfl (by omega)) (want_f g1 rfl rfl rfl) ?_
  refine og (qv_mv (Value.int .i64 g) rfl) (want_f g1 rfl rfl rfl) ?_
  refine og (qv_remk rfl rfl (by omega) rfl) (want_f g1 rfl rfl rfl) ?_
  refine og (qv_neq rfl rfl) (want_f g1 rfl rfl rfl) ?_
  refine oq (qv_pick_f g1 rfl (rfl : ev _ _ = (.bool (decide (((b.l - a.l).tmod g) ≠ 0))))) ?_
  refine ops_nil ?_
  refine vc_if rfl (fun c1 => ?_) (fun c1 => ?_)
  ·
   refine vc_seq ?_
   have hn := c.none (by rw [← hL, ← hH]; first | exact Or.inl (by assumption) | exact Or.inr (fun e => absurd (dvd_tmod.2 e) (by assumption)))
   refine vc_region ?_
   refine oq (qv_call (v := (.agg #[(.int .i64 nE.l), (.int .i64 nE.h), (.int .i64 nE.s)])) (none_c) rfl rfl) ?_
   refine ops_stw (k := 2) (vs := [(.int .i64 nE.l), (.int .i64 nE.h), (.int .i64 nE.s)]) Try.size23 rfl rfl rfl rfl rfl rfl ?_
   refine ops_nil ?_
   refine vc_ret ?_
   refine rs1 _ (rv_c (vs := [(.int .i64 nE.l), (.int .i64 nE.h), (.int .i64 nE.s)]) Try.agg23 rfl (inOc (k := 2) rfl) rfl rfl) ?_
   exact (agg3 (show nE = meetF a b from by first | (rw [hn]; done) | (rw [hone]; done) | (rw [hmany]; done)))
  ·
   refine vc_skip ?_
   refine vc_seq ?_
   have hdv : g ∣ b.l - a.l := dvd_tmod.1 (by omega)
   refine vc_region ?_
   refine oq (qv_fa (off := 0) Try.field23_2 rfl) ?_
   refine oq (qv_ldp (v := (.int .i64 b.s)) Try.plain3 rfl (inOc (k := 1) rfl) rfl) ?_
   refine oq (qv_mv (Value.int .i64 g) rfl) ?_
   refine oq (qv_quo rfl rfl (by omega) (by omega)) ?_
   obtain ⟨p, hp⟩ : ∃ z : Int, z = b.s / g := ⟨_, rfl⟩
   refine oq (qv_as (Value.int .i64 p) (show _ = _ from congrArg (Value.int .i64) hp.symm)) ?_
   refine ops_nil ?_
   refine vc_seq ?_
   have p1 : 1 ≤ p := by rw [hp]; exact Int.le_ediv_of_mul_le (by omega) (by omega)
   have p2 : p ≤ b.s := by rw [hp]; exact Int.ediv_le_self _ (by omega)
   refine vc_region ?_
   refine oq (qv_as (Value.int .i64 0) rfl) ?_
   refine ops_nil ?_
   refine vc_seq ?_
   refine vc_seq ?_
   refine vc_region ?_
   refine oq (qv_mv (Value.int .i64 p) rfl) ?_
   refine oq (qv_gtr rfl rfl) ?_
   refine ops_nil ?_
   refine vc_if rfl (fun c2 => ?_) (fun c2 => ?_)
   ·
    refine vc_region_any Try.mixed (by kernel_rfl) ?_
    refine qq (qv_fa (off := 0) Try.field23_0 rfl) ?_
    refine qq (qv_ldp (v := (.int .i64 b.l)) Try.plain3 rfl (inOc (k := 1) rfl) rfl) ?_
    refine qq (qv_fa (off := 0) Try.field23_0 rfl) ?_
    refine qq (qv_ldp (v := (.int .i64 a.l)) Try.plain3 rfl (inOc (k := 0) rfl) rfl) ?_
    refine qq (qv_sub rfl rfl (by omega)) ?_
    refine qq (qv_mv (Value.int .i64 g) rfl) ?_
    refine qq (qv_quok (r := (b.l - a.l) / g) rfl rfl (by omega) (by rw [tdiv_dvd hdv (by omega)]; exact IntWalk.i64_in _ (ediv_bd (by omega) (by omega) (by omega)))) ?_
    refine qq (qv_mv (Value.int .i64 p) rfl) ?_
    obtain ⟨r1, r2, r3⟩ := tmod_up (u := (b.l - a.l) / g) (show 0 < p by omega)
    refine qq (qv_remk rfl rfl (by omega) rfl) ?_
    refine qq (qv_mv (Value.int .i64 p) rfl) ?_
    refine qq (qv_add rfl rfl (by omega)) ?_
    refine qq (qv_mv (Value.int .i64 p) rfl) ?_
    have r4 := Int.emod_nonneg (((b.l - a.l) / g).tmod p + p) (show p ≠ 0 by omega)
    have r5 := Int.emod_lt_of_pos (((b.l - a.l) / g).tmod p + p) (show 0 < p by omega)
    refine qq (qv_rem rfl rfl (by omega) (by omega)) ?_
    refine qq (qv_fa (off := 0) Try.field23_2 rfl) ?_
    refine qq (qv_ldp (v := (.int .i64 a.s)) Try.plain3 rfl (inOc (k := 0) rfl) rfl) ?_
    refine qq (qv_mv (Value.int .i64 g) rfl) ?_
    refine qq (qv_quo rfl rfl (by omega) (by omega)) ?_
    refine qq (qv_mv (Value.int .i64 p) rfl) ?_
    have q0 := Int.ediv_nonneg (show 0 ≤ a.s by omega) (show 0 ≤ g by omega)
    refine qq (qv_rem rfl rfl (by omega) (by omega)) ?_
    refine qq (qv_mv (Value.int .i64 p) rfl) ?_
    have q1 := Int.emod_nonneg (a.s / g) (show p ≠ 0 by omega)
    have q2 := Int.emod_lt_of_pos (a.s / g) (show 0 < p by omega)
    have q3 : ∀ d : Int, d ∣ a.s / g % p → d ∣ p → d ∣ 1 := fun d h1 h2 => c.cop d (by rw [← Int.emod_add_mul_ediv (a.s / g) p]; exact Int.dvd_add h1 (Int.dvd_trans h2 (Int.dvd_mul_right _ _))) (hp ▸ h2)
    have q4 := invF_ok q1 (show 2 ≤ p by omega) q3
    refine qq (qv_call (v := (.int .i64 (invF (a.s / g % p) p))) (inverse_c q1 (by omega) (by omega) q3) rfl rfl) ?_
    refine qq (qv_mv (Value.int .i64 p) rfl) ?_
    refine qq (qv_call (v := (.int .i64 ((((((b.l - a.l) / g).tmod p) + p) % p) * invF (a.s / g % p) p % p))) (product_c (by omega) (by omega) q4.1 q4.2.1 (by omega)) rfl rfl) ?_
    obtain ⟨k, hk⟩ : ∃ z : Int, z = (b.l - a.l) / g % p * invF (a.s / g % p) p % p := ⟨_, rfl⟩
    refine qq (qv_as (Value.int .i64 k) (show _ = _ from congrArg (Value.int .i64) ((show ((((((b.l - a.l) / g).tmod p) + p) % p) * invF (a.s / g % p) p % p) = (b.l - a.l) / g % p * invF (a.s / g % p) p % p from by rw [r3]).trans hk.symm))) ?_
    refine qops_nil ?_
    refine vc_seq ?_
    have ck := com_k (A := a.s / g) (d := (b.l - a.l) / g) (show 2 ≤ p by omega) q4.2.2 hk
    have k8 := Int.emod_nonneg ((b.l - a.l) / g % p * invF (a.s / g % p) p) (show p ≠ 0 by omega)
    have k9 := Int.emod_lt_of_pos ((b.l - a.l) / g % p * invF (a.s / g % p) p) (show 0 < p by omega)
    have hkey := c.key hdv (k := k) (i := invF (a.s / g % p) p) (Or.inr (by rw [← hp]; exact ck.1)) (Or.inr (by rw [← hp]; exact ck.2))
    have kk0 : 0 ≤ k := by omega
    have kk1 : k < p := by omega
    have x3 : L ≤ H := by omega
    have x4 := Int.ediv_nonneg (show 0 ≤ L - a.l + a.s - 1 by omega) (show 0 ≤ a.s by omega)
    have x5 := Int.ediv_le_self (a := L - a.l + a.s - 1) a.s (by omega)
    have x6 := Int.ediv_nonneg (show 0 ≤ H - a.l by omega) (show 0 ≤ a.s by omega)
    have x7 := Int.ediv_le_self (a := H - a.l) a.s (by omega)
    refine vc_region_any Try.mixed (by kernel_rfl) ?_
    refine qq (qv_mv (Value.int .i64 L) rfl) ?_
    refine qq (qv_fa (off := 0) Try.field23_0 rfl) ?_
    refine qq (qv_ldp (v := (.int .i64 a.l)) Try.plain3 rfl (inOc (k := 0) rfl) rfl) ?_
    refine qq (qv_sub rfl rfl (by omega)) ?_
    refine qq (qv_fa (off := 0) Try.field23_2 rfl) ?_
    refine qq (qv_ldp (v := (.int .i64 a.s)) Try.plain3 rfl (inOc (k := 0) rfl) rfl) ?_
    refine qq (qv_add rfl rfl (by omega)) ?_
    refine qq (qv_sub rfl rfl (by omega)) ?_
    refine qq (qv_fa (off := 0) Try.field23_2 rfl) ?_
    refine qq (qv_ldp (v := (.int .i64 a.s)) Try.plain3 rfl (inOc (k := 0) rfl) rfl) ?_
    refine qq (qv_quo rfl rfl (by omega) (by omega)) ?_
    refine qq (qv_mv (Value.int .i64 H) rfl) ?_
    refine qq (qv_fa (off := 0) Try.field23_0 rfl) ?_
    refine qq (qv_ldp (v := (.int .i64 a.l)) Try.plain3 rfl (inOc (k := 0) rfl) rfl) ?_
    refine qq (qv_sub rfl rfl (by omega)) ?_
    refine qq (qv_fa (off := 0) Try.field23_2 rfl) ?_
    refine qq (qv_ldp (v := (.int .i64 a.s)) Try.plain3 rfl (inOc (k := 0) rfl) rfl) ?_
    refine qq (qv_quo rfl rfl (by omega) (by omega)) ?_
    obtain ⟨lo, hlo⟩ : ∃ z : Int, z = (((L - a.l) + a.s) - 1) / a.s := ⟨_, rfl⟩
    refine qq (qv_as (Value.int .i64 lo) (show _ = _ from congrArg (Value.int .i64) hlo.symm)) ?_
    obtain ⟨hi, hhi⟩ : ∃ z : Int, z = (H - a.l) / a.s := ⟨_, rfl⟩
    refine qq (qv_as (Value.int .i64 hi) (show _ = _ from congrArg (Value.int .i64) hhi.symm)) ?_
    refine qops_nil ?_
    refine vc_seq ?_
    refine vc_seq ?_
    refine vc_region ?_
    refine oq (qv_mv (Value.int .i64 k) rfl) ?_
    refine oq (qv_mv (Value.int .i64 lo) rfl) ?_
    refine oq (qv_lss rfl rfl) ?_
    refine ops_nil ?_
    refine vc_if rfl (fun c3 => ?_) (fun c3 => ?_)
    ·
     have y1 := Int.emod_add_mul_ediv (lo - k + p - 1) p
     rw [Int.mul_comm] at y1
     have y2 := Int.emod_nonneg (lo - k + p - 1) (show p ≠ 0 by omega)
     have y3 := Int.emod_lt_of_pos (lo - k + p - 1) (show 0 < p by omega)
     refine vc_region ?_
     refine oq (qv_mv (Value.int .i64 k) rfl) ?_
     refine oq (qv_mv (Value.int .i64 lo) rfl) ?_
     refine oq (qv_mv (Value.int .i64 k) rfl) ?_
     refine oq (qv_sub rfl rfl (by omega)) ?_
     refine oq (qv_mv (Value.int .i64 p) rfl) ?_
     refine oq (qv_add rfl rfl (by omega)) ?_
     refine oq (qv_sub rfl rfl (by omega)) ?_
     refine oq (qv_mv (Value.int .i64 p) rfl) ?_
     refine oq (qv_quo rfl rfl (by omega) (by omega)) ?_
     refine oq (qv_mv (Value.int .i64 p) rfl) ?_
     refine oq (qv_mul rfl rfl (by omega)) ?_
     refine oq (qv_add rfl rfl (by omega)) ?_
     obtain ⟨k2, hk2⟩ : ∃ z : Int, z = k + (((((lo - k) + p) - 1) / p) * p) := ⟨_, rfl⟩
     refine oq (qv_as (Value.int .i64 k2) (show _ = _ from congrArg (Value.int .i64) hk2.symm)) ?_
     refine ops_nil ?_
     refine vc_seq ?_
     refine vc_seq ?_
     have w : Win a b p lo hi k2 := ⟨c.va, c.vb, c.sa, by omega, by rw [← hL, ← hH]; omega, fun t => by rw [hlo, ceil_iff c.sa, ← hL]; omega, fun t => by rw [hhi, floor_iff c.sa, ← hH]; omega, fun t => by have h := hkey t; rw [← hp] at h; exact h.trans (dvd_shift hk2), by omega, by omega⟩
     refine vc_region ?_
     refine oq (qv_mv (Value.int .i64 k2) rfl) ?_
     refine oq (qv_mv (Value.int .i64 hi) rfl) ?_
     refine oq (qv_gtr rfl rfl) ?_
     refine ops_nil ?_
     refine vc_if rfl (fun c4 => ?_) (fun c4 => ?_)
     ·
      refine vc_seq ?_
      have hn := w.none (by omega)
      refine vc_region ?_
      refine oq (qv_call (v := (.agg #[(.int .i64 nE.l), (.int .i64 nE.h), (.int .i64 nE.s)])) (none_c) rfl rfl) ?_
      refine ops_stw (k := 2) (vs := [(.int .i64 nE.l), (.int .i64 nE.h), (.int .i64 nE.s)]) Try.size23 rfl rfl rfl rfl rfl rfl ?_
      refine ops_nil ?_
      refine vc_ret ?_
      refine rs1 _ (rv_c (vs := [(.int .i64 nE.l), (.int .i64 nE.h), (.int .i64 nE.s)]) Try.agg23 rfl (inOc (k := 2) rfl) rfl rfl) ?_
      exact (agg3 (show nE = meetF a b from by first | (rw [hn]; done) | (rw [hone]; done) | (rw [hmany]; done)))
     ·
      refine vc_skip ?_
      refine vc_seq ?_
      obtain ⟨w1, w2, w3⟩ := w.last (by omega)
      have w4 := Int.mul_nonneg w1 (show 0 ≤ p by omega)
      refine vc_region ?_
      refine oq (qv_mv (Value.int .i64 k2) rfl) ?_
      refine oq (qv_mv (Value.int .i64 hi) rfl) ?_
      refine oq (qv_mv (Value.int .i64 k2) rfl) ?_
      refine oq (qv_sub rfl rfl (by omega)) ?_
      refine oq (qv_mv (Value.int .i64 p) rfl) ?_
      refine oq (qv_quo rfl rfl (by omega) (by omega)) ?_
      refine oq (qv_mv (Value.int .i64 p) rfl) ?_
      refine oq (qv_mul rfl rfl (by omega)) ?_
      refine oq (qv_add rfl rfl (by omega)) ?_
      refine oq (qv_as (.int .i64 (k2 + (((hi - k2) / p) * p))) rfl) ?_
      refine ops_nil ?_
      refine vc_seq ?_
      refine vc_seq ?_
      refine vc_region ?_
      refine oq (qv_mv (Value.int .i64 k2) rfl) ?_
      refine oq (qv_mv (.int .i64 (k2 + (((hi - k2) / p) * p))) rfl) ?_
      refine oq (qv_eql rfl rfl) ?_
      refine ops_nil ?_
      refine vc_if rfl (fun c5 => ?_) (fun c5 => ?_)
      ·
       refine vc_seq ?_
       have v1 := w.bd w.k0 (by omega)
       have hone := w.one (by omega) (by omega)
       refine vc_region ?_
       refine oq (qv_fa (off := 0) Try.field23_0 rfl) ?_
       refine oq (qv_ldp (v := (.int .i64 a.l)) Try.plain3 rfl (inOc (k := 0) rfl) rfl) ?_
       refine oq (qv_mv (Value.int .i64 k2) rfl) ?_
       refine oq (qv_fa (off := 0) Try.field23_2 rfl) ?_
       refine oq (qv_ldp (v := (.int .i64 a.s)) Try.plain3 rfl (inOc (k := 0) rfl) rfl) ?_
       refine oq (qv_mul rfl rfl (by omega)) ?_
       refine oq (qv_add rfl rfl (by omega)) ?_
       refine oq (qv_call (v := (.agg #[(.int .i64 ((sgl (a.l + (k2 * a.s))).l)), (.int .i64 ((sgl (a.l + (k2 * a.s))).h)), (.int .i64 ((sgl (a.l + (k2 * a.s))).s))])) (single_c) rfl rfl) ?_
       refine ops_stw (k := 2) (vs := [(.int .i64 ((sgl (a.l + (k2 * a.s))).l)), (.int .i64 ((sgl (a.l + (k2 * a.s))).h)), (.int .i64 ((sgl (a.l + (k2 * a.s))).s))]) Try.size23 rfl rfl rfl rfl rfl rfl ?_
       refine ops_nil ?_
       refine vc_ret ?_
       refine rs1 _ (rv_c (vs := [(.int .i64 ((sgl (a.l + (k2 * a.s))).l)), (.int .i64 ((sgl (a.l + (k2 * a.s))).h)), (.int .i64 ((sgl (a.l + (k2 * a.s))).s))]) Try.agg23 rfl (inOc (k := 2) rfl) rfl rfl) ?_
       exact (agg3 (show sgl (a.l + (k2 * a.s)) = meetF a b from by first | (rw [hn]; done) | (rw [hone]; done) | (rw [hmany]; done)))
      ·
       refine vc_skip ?_
       refine vc_seq ?_
       have v1 := w.bd w.k0 (by omega)
       have v2 := w.bd (t := k2 + (((hi - k2) / p) * p)) (by omega) w2
       have v3 := w.stp (by omega) (by omega)
       have hmany := w.many (by omega) (by omega)
       refine vc_region ?_
       refine oq (qv_fa (off := 0) Try.field23_0 rfl) ?_
       refine oq (qv_ldp (v := (.int .i64 a.l)) Try.plain3 rfl (inOc (k := 0) rfl) rfl) ?_
       refine oq (qv_mv (Value.int .i64 k2) rfl) ?_
       refine oq (qv_fa (off := 0) Try.field23_2 rfl) ?_
       refine oq (qv_ldp (v := (.int .i64 a.s)) Try.plain3 rfl (inOc (k := 0) rfl) rfl) ?_
       refine oq (qv_mul rfl rfl (by omega)) ?_
       refine oq (qv_add rfl rfl (by omega)) ?_
       refine oq (qv_fa (off := 0) Try.field23_0 rfl) ?_
       refine oq (qv_ldp (v := (.int .i64 a.l)) Try.plain3 rfl (inOc (k := 0) rfl) rfl) ?_
       refine oq (qv_mv (.int .i64 (k2 + (((hi - k2) / p) * p))) rfl) ?_
       refine oq (qv_fa (off := 0) Try.field23_2 rfl) ?_
       refine oq (qv_ldp (v := (.int .i64 a.s)) Try.plain3 rfl (inOc (k := 0) rfl) rfl) ?_
       refine oq (qv_mul rfl rfl (by omega)) ?_
       refine oq (qv_add rfl rfl (by omega)) ?_
       refine oq (qv_mv (Value.int .i64 p) rfl) ?_
       refine oq (qv_fa (off := 0) Try.field23_2 rfl) ?_
       refine oq (qv_ldp (v := (.int .i64 a.s)) Try.plain3 rfl (inOc (k := 0) rfl) rfl) ?_
       refine oq (qv_mul rfl rfl (by omega)) ?_
       refine oq (qv_build (out := [(.int .i64 (a.l + (k2 * a.s))), (.int .i64 (a.l + ((k2 + (((hi - k2) / p) * p)) * a.s))), (.int .i64 (p * a.s))]) Try.build23 [(0, [(.int .i64 (a.l + (k2 * a.s)))]), (1, [(.int .i64 (a.l + ((k2 + (((hi - k2) / p) * p)) * a.s)))]), (2, [(.int .i64 (p * a.s))])] rfl rfl) ?_
       refine ops_stw (k := 2) (vs := [(.int .i64 (a.l + (k2 * a.s))), (.int .i64 (a.l + ((k2 + (((hi - k2) / p) * p)) * a.s))), (.int .i64 (p * a.s))]) Try.size23 rfl rfl rfl rfl rfl rfl ?_
       refine ops_nil ?_
       refine vc_ret ?_
       refine rs1 _ (rv_c (vs := [(.int .i64 (a.l + (k2 * a.s))), (.int .i64 (a.l + ((k2 + (((hi - k2) / p) * p)) * a.s))), (.int .i64 (p * a.s))]) Try.agg23 rfl (inOc (k := 2) rfl) rfl rfl) ?_
       exact (agg3 (show (⟨a.l + (k2 * a.s), a.l + ((k2 + (((hi - k2) / p) * p)) * a.s), p * a.s⟩ : Nm) = meetF a b from by first | (rw [hn]; done) | (rw [hone]; done) | (rw [hmany]; done)))
    ·
     refine vc_skip ?_
     refine vc_seq ?_
     refine vc_seq ?_
     have w : Win a b p lo hi k := ⟨c.va, c.vb, c.sa, by omega, by rw [← hL, ← hH]; omega, fun t => by rw [hlo, ceil_iff c.sa, ← hL]; omega, fun t => by rw [hhi, floor_iff c.sa, ← hH]; omega, fun t => by have h := hkey t; rw [← hp] at h; exact h, by omega, by omega⟩
     refine vc_region ?_
     refine oq (qv_mv (Value.int .i64 k) rfl) ?_
     refine oq (qv_mv (Value.int .i64 hi) rfl) ?_
     refine oq (qv_gtr rfl rfl) ?_
     refine ops_nil ?_
     refine vc_if rfl (fun c6 => ?_) (fun c6 => ?_)
     ·
      refine vc_seq ?_
      have hn := w.none (by omega)
      refine vc_region ?_
      refine oq (qv_call (v := (.agg #[(.int .i64 nE.l), (.int .i64 nE.h), (.int .i64 nE.s)])) (none_c) rfl rfl) ?_
      refine ops_stw (k := 2) (vs := [(.int .i64 nE.l), (.int .i64 nE.h), (.int .i64 nE.s)]) Try.size23 rfl rfl rfl rfl rfl rfl ?_
      refine ops_nil ?_
      refine vc_ret ?_
      refine rs1 _ (rv_c (vs := [(.int .i64 nE.l), (.int .i64 nE.h), (.int .i64 nE.s)]) Try.agg23 rfl (inOc (k := 2) rfl) rfl rfl) ?_
      exact (agg3 (show nE = meetF a b from by first | (rw [hn]; done) | (rw [hone]; done) | (rw [hmany]; done)))
     ·
      refine vc_skip ?_
      refine vc_seq ?_
      obtain ⟨w1, w2, w3⟩ := w.last (by omega)
      have w4 := Int.mul_nonneg w1 (show 0 ≤ p by omega)
      refine vc_region ?_
      refine oq (qv_mv (Value.int .i64 k) rfl) ?_
      refine oq (qv_mv (Value.int .i64 hi) rfl) ?_
      refine oq (qv_mv (Value.int .i64 k) rfl) ?_
      refine oq (qv_sub rfl rfl (by omega)) ?_
      refine oq (qv_mv (Value.int .i64 p) rfl) ?_
      refine oq (qv_quo rfl rfl (by omega) (by omega)) ?_
      refine oq (qv_mv (Value.int .i64 p) rfl) ?_
      refine oq (qv_mul rfl rfl (by omega)) ?_
      refine oq (qv_add rfl rfl (by omega)) ?_
      refine oq (qv_as (.int .i64 (k + (((hi - k) / p) * p))) rfl) ?_
      refine ops_nil ?_
      refine vc_seq ?_
      refine vc_seq ?_
      refine vc_region ?_
      refine oq (qv_mv (Value.int .i64 k) rfl) ?_
      refine oq (qv_mv (.int .i64 (k + (((hi - k) / p) * p))) rfl) ?_
      refine oq (qv_eql rfl rfl) ?_
      refine ops_nil ?_
      refine vc_if rfl (fun c7 => ?_) (fun c7 => ?_)
      ·
       refine vc_seq ?_
       have v1 := w.bd w.k0 (by omega)
       have hone := w.one (by omega) (by omega)
       refine vc_region ?_
       refine oq (qv_fa (off := 0) Try.field23_0 rfl) ?_
       refine oq (qv_ldp (v := (.int .i64 a.l)) Try.plain3 rfl (inOc (k := 0) rfl) rfl) ?_
       refine oq (qv_mv (Value.int .i64 k) rfl) ?_
       refine oq (qv_fa (off := 0) Try.field23_2 rfl) ?_
       refine oq (qv_ldp (v := (.int .i64 a.s)) Try.plain3 rfl (inOc (k := 0) rfl) rfl) ?_
       refine oq (qv_mul rfl rfl (by omega)) ?_
       refine oq (qv_add rfl rfl (by omega)) ?_
       refine oq (qv_call (v := (.agg #[(.int .i64 ((sgl (a.l + (k * a.s))).l)), (.int .i64 ((sgl (a.l + (k * a.s))).h)), (.int .i64 ((sgl (a.l + (k * a.s))).s))])) (single_c) rfl rfl) ?_
       refine ops_stw (k := 2) (vs := [(.int .i64 ((sgl (a.l + (k * a.s))).l)), (.int .i64 ((sgl (a.l + (k * a.s))).h)), (.int .i64 ((sgl (a.l + (k * a.s))).s))]) Try.size23 rfl rfl rfl rfl rfl rfl ?_
       refine ops_nil ?_
       refine vc_ret ?_
       refine rs1 _ (rv_c (vs := [(.int .i64 ((sgl (a.l + (k * a.s))).l)), (.int .i64 ((sgl (a.l + (k * a.s))).h)), (.int .i64 ((sgl (a.l + (k * a.s))).s))]) Try.agg23 rfl (inOc (k := 2) rfl) rfl rfl) ?_
       exact (agg3 (show sgl (a.l + (k * a.s)) = meetF a b from by first | (rw [hn]; done) | (rw [hone]; done) | (rw [hmany]; done)))
      ·
       refine vc_skip ?_
       refine vc_seq ?_
       have v1 := w.bd w.k0 (by omega)
       have v2 := w.bd (t := k + (((hi - k) / p) * p)) (by omega) w2
       have v3 := w.stp (by omega) (by omega)
       have hmany := w.many (by omega) (by omega)
       refine vc_region ?_
       refine oq (qv_fa (off := 0) Try.field23_0 rfl) ?_
       refine oq (qv_ldp (v := (.int .i64 a.l)) Try.plain3 rfl (inOc (k := 0) rfl) rfl) ?_
       refine oq (qv_mv (Value.int .i64 k) rfl) ?_
       refine oq (qv_fa (off := 0) Try.field23_2 rfl) ?_
       refine oq (qv_ldp (v := (.int .i64 a.s)) Try.plain3 rfl (inOc (k := 0) rfl) rfl) ?_
       refine oq (qv_mul rfl rfl (by omega)) ?_
       refine oq (qv_add rfl rfl (by omega)) ?_
       refine oq (qv_fa (off := 0) Try.field23_0 rfl) ?_
       refine oq (qv_ldp (v := (.int .i64 a.l)) Try.plain3 rfl (inOc (k := 0) rfl) rfl) ?_
       refine oq (qv_mv (.int .i64 (k + (((hi - k) / p) * p))) rfl) ?_
       refine oq (qv_fa (off := 0) Try.field23_2 rfl) ?_
       refine oq (qv_ldp (v := (.int .i64 a.s)) Try.plain3 rfl (inOc (k := 0) rfl) rfl) ?_
       refine oq (qv_mul rfl rfl (by omega)) ?_
       refine oq (qv_add rfl rfl (by omega)) ?_
       refine oq (qv_mv (Value.int .i64 p) rfl) ?_
       refine oq (qv_fa (off := 0) Try.field23_2 rfl) ?_
       refine oq (qv_ldp (v := (.int .i64 a.s)) Try.plain3 rfl (inOc (k := 0) rfl) rfl) ?_
       refine oq (qv_mul rfl rfl (by omega)) ?_
       refine oq (qv_build (out := [(.int .i64 (a.l + (k * a.s))), (.int .i64 (a.l + ((k + (((hi - k) / p) * p)) * a.s))), (.int .i64 (p * a.s))]) Try.build23 [(0, [(.int .i64 (a.l + (k * a.s)))]), (1, [(.int .i64 (a.l + ((k + (((hi - k) / p) * p)) * a.s)))]), (2, [(.int .i64 (p * a.s))])] rfl rfl) ?_
       refine ops_stw (k := 2) (vs := [(.int .i64 (a.l + (k * a.s))), (.int .i64 (a.l + ((k + (((hi - k) / p) * p)) * a.s))), (.int .i64 (p * a.s))]) Try.size23 rfl rfl rfl rfl rfl rfl ?_
       refine ops_nil ?_
       refine vc_ret ?_
       refine rs1 _ (rv_c (vs := [(.int .i64 (a.l + (k * a.s))), (.int .i64 (a.l + ((k + (((hi - k) / p) * p)) * a.s))), (.int .i64 (p * a.s))]) Try.agg23 rfl (inOc (k := 2) rfl) rfl rfl) ?_
       exact (agg3 (show (⟨a.l + (k * a.s), a.l + ((k + (((hi - k) / p) * p)) * a.s), p * a.s⟩ : Nm) = meetF a b from by first | (rw [hn]; done) | (rw [hone]; done) | (rw [hmany]; done)))
   ·
    refine vc_skip ?_
    refine vc_seq ?_
    have hkey := c.key hdv (k := 0) (i := 0) (Or.inl (by omega)) (Or.inl (by omega))
    have kk0 : (0 : Int) ≤ 0 := by omega
    have kk1 : 0 < p := by omega
    have x3 : L ≤ H := by omega
    have x4 := Int.ediv_nonneg (show 0 ≤ L - a.l + a.s - 1 by omega) (show 0 ≤ a.s by omega)
    have x5 := Int.ediv_le_self (a := L - a.l + a.s - 1) a.s (by omega)
    have x6 := Int.ediv_nonneg (show 0 ≤ H - a.l by omega) (show 0 ≤ a.s by omega)
    have x7 := Int.ediv_le_self (a := H - a.l) a.s (by omega)
    refine vc_region_any Try.mixed (by kernel_rfl) ?_
    refine qq (qv_mv (Value.int .i64 L) rfl) ?_
    refine qq (qv_fa (off := 0) Try.field23_0 rfl) ?_
    refine qq (qv_ldp (v := (.int .i64 a.l)) Try.plain3 rfl (inOc (k := 0) rfl) rfl) ?_
    refine qq (qv_sub rfl rfl (by omega)) ?_
    refine qq (qv_fa (off := 0) Try.field23_2 rfl) ?_
    refine qq (qv_ldp (v := (.int .i64 a.s)) Try.plain3 rfl (inOc (k := 0) rfl) rfl) ?_
    refine qq (qv_add rfl rfl (by omega)) ?_
    refine qq (qv_sub rfl rfl (by omega)) ?_
    refine qq (qv_fa (off := 0) Try.field23_2 rfl) ?_
    refine qq (qv_ldp (v := (.int .i64 a.s)) Try.plain3 rfl (inOc (k := 0) rfl) rfl) ?_
    refine qq (qv_quo rfl rfl (by omega) (by omega)) ?_
    refine qq (qv_mv (Value.int .i64 H) rfl) ?_
    refine qq (qv_fa (off := 0) Try.field23_0 rfl) ?_
    refine qq (qv_ldp (v := (.int .i64 a.l)) Try.plain3 rfl (inOc (k := 0) rfl) rfl) ?_
    refine qq (qv_sub rfl rfl (by omega)) ?_
    refine qq (qv_fa (off := 0) Try.field23_2 rfl) ?_
    refine qq (qv_ldp (v := (.int .i64 a.s)) Try.plain3 rfl (inOc (k := 0) rfl) rfl) ?_
    refine qq (qv_quo rfl rfl (by omega) (by omega)) ?_
    obtain ⟨lo, hlo⟩ : ∃ z : Int, z = (((L - a.l) + a.s) - 1) / a.s := ⟨_, rfl⟩
    refine qq (qv_as (Value.int .i64 lo) (show _ = _ from congrArg (Value.int .i64) hlo.symm)) ?_
    obtain ⟨hi, hhi⟩ : ∃ z : Int, z = (H - a.l) / a.s := ⟨_, rfl⟩
    refine qq (qv_as (Value.int .i64 hi) (show _ = _ from congrArg (Value.int .i64) hhi.symm)) ?_
    refine qops_nil ?_
    refine vc_seq ?_
    refine vc_seq ?_
    refine vc_region ?_
    refine oq (qv_mv (Value.int .i64 0) rfl) ?_
    refine oq (qv_mv (Value.int .i64 lo) rfl) ?_
    refine oq (qv_lss rfl rfl) ?_
    refine ops_nil ?_
    refine vc_if rfl (fun c8 => ?_) (fun c8 => ?_)
    ·
     have y1 := Int.emod_add_mul_ediv (lo - 0 + p - 1) p
     rw [Int.mul_comm] at y1
     have y2 := Int.emod_nonneg (lo - 0 + p - 1) (show p ≠ 0 by omega)
     have y3 := Int.emod_lt_of_pos (lo - 0 + p - 1) (show 0 < p by omega)
     refine vc_region ?_
     refine oq (qv_mv (Value.int .i64 0) rfl) ?_
     refine oq (qv_mv (Value.int .i64 lo) rfl) ?_
     refine oq (qv_mv (Value.int .i64 0) rfl) ?_
     refine oq (qv_sub rfl rfl (by omega)) ?_
     refine oq (qv_mv (Value.int .i64 p) rfl) ?_
     refine oq (qv_add rfl rfl (by omega)) ?_
     refine oq (qv_sub rfl rfl (by omega)) ?_
     refine oq (qv_mv (Value.int .i64 p) rfl) ?_
     refine oq (qv_quo rfl rfl (by omega) (by omega)) ?_
     refine oq (qv_mv (Value.int .i64 p) rfl) ?_
     refine oq (qv_mul rfl rfl (by omega)) ?_
     refine oq (qv_add rfl rfl (by omega)) ?_
     obtain ⟨k2, hk2⟩ : ∃ z : Int, z = 0 + (((((lo - 0) + p) - 1) / p) * p) := ⟨_, rfl⟩
     refine oq (qv_as (Value.int .i64 k2) (show _ = _ from congrArg (Value.int .i64) hk2.symm)) ?_
     refine ops_nil ?_
     refine vc_seq ?_
     refine vc_seq ?_
     have w : Win a b p lo hi k2 := ⟨c.va, c.vb, c.sa, by omega, by rw [← hL, ← hH]; omega, fun t => by rw [hlo, ceil_iff c.sa, ← hL]; omega, fun t => by rw [hhi, floor_iff c.sa, ← hH]; omega, fun t => by have h := hkey t; rw [← hp] at h; exact h.trans (dvd_shift hk2), by omega, by omega⟩
     refine vc_region ?_
     refine oq (qv_mv (Value.int .i64 k2) rfl) ?_
     refine oq (qv_mv (Value.int .i64 hi) rfl) ?_
     refine oq (qv_gtr rfl rfl) ?_
     refine ops_nil ?_
     refine vc_if rfl (fun c9 => ?_) (fun c9 => ?_)
     ·
      refine vc_seq ?_
      have hn := w.none (by omega)
      refine vc_region ?_
      refine oq (qv_call (v := (.agg #[(.int .i64 nE.l), (.int .i64 nE.h), (.int .i64 nE.s)])) (none_c) rfl rfl) ?_
      refine ops_stw (k := 2) (vs := [(.int .i64 nE.l), (.int .i64 nE.h), (.int .i64 nE.s)]) Try.size23 rfl rfl rfl rfl rfl rfl ?_
      refine ops_nil ?_
      refine vc_ret ?_
      refine rs1 _ (rv_c (vs := [(.int .i64 nE.l), (.int .i64 nE.h), (.int .i64 nE.s)]) Try.agg23 rfl (inOc (k := 2) rfl) rfl rfl) ?_
      exact (agg3 (show nE = meetF a b from by first | (rw [hn]; done) | (rw [hone]; done) | (rw [hmany]; done)))
     ·
      refine vc_skip ?_
      refine vc_seq ?_
      obtain ⟨w1, w2, w3⟩ := w.last (by omega)
      have w4 := Int.mul_nonneg w1 (show 0 ≤ p by omega)
      refine vc_region ?_
      refine oq (qv_mv (Value.int .i64 k2) rfl) ?_
      refine oq (qv_mv (Value.int .i64 hi) rfl) ?_
      refine oq (qv_mv (Value.int .i64 k2) rfl) ?_
      refine oq (qv_sub rfl rfl (by omega)) ?_
      refine oq (qv_mv (Value.int .i64 p) rfl) ?_
      refine oq (qv_quo rfl rfl (by omega) (by omega)) ?_
      refine oq (qv_mv (Value.int .i64 p) rfl) ?_
      refine oq (qv_mul rfl rfl (by omega)) ?_
      refine oq (qv_add rfl rfl (by omega)) ?_
      refine oq (qv_as (.int .i64 (k2 + (((hi - k2) / p) * p))) rfl) ?_
      refine ops_nil ?_
      refine vc_seq ?_
      refine vc_seq ?_
      refine vc_region ?_
      refine oq (qv_mv (Value.int .i64 k2) rfl) ?_
      refine oq (qv_mv (.int .i64 (k2 + (((hi - k2) / p) * p))) rfl) ?_
      refine oq (qv_eql rfl rfl) ?_
      refine ops_nil ?_
      refine vc_if rfl (fun c10 => ?_) (fun c10 => ?_)
      ·
       refine vc_seq ?_
       have v1 := w.bd w.k0 (by omega)
       have hone := w.one (by omega) (by omega)
       refine vc_region ?_
       refine oq (qv_fa (off := 0) Try.field23_0 rfl) ?_
       refine oq (qv_ldp (v := (.int .i64 a.l)) Try.plain3 rfl (inOc (k := 0) rfl) rfl) ?_
       refine oq (qv_mv (Value.int .i64 k2) rfl) ?_
       refine oq (qv_fa (off := 0) Try.field23_2 rfl) ?_
       refine oq (qv_ldp (v := (.int .i64 a.s)) Try.plain3 rfl (inOc (k := 0) rfl) rfl) ?_
       refine oq (qv_mul rfl rfl (by omega)) ?_
       refine oq (qv_add rfl rfl (by omega)) ?_
       refine oq (qv_call (v := (.agg #[(.int .i64 ((sgl (a.l + (k2 * a.s))).l)), (.int .i64 ((sgl (a.l + (k2 * a.s))).h)), (.int .i64 ((sgl (a.l + (k2 * a.s))).s))])) (single_c) rfl rfl) ?_
       refine ops_stw (k := 2) (vs := [(.int .i64 ((sgl (a.l + (k2 * a.s))).l)), (.int .i64 ((sgl (a.l + (k2 * a.s))).h)), (.int .i64 ((sgl (a.l + (k2 * a.s))).s))]) Try.size23 rfl rfl rfl rfl rfl rfl ?_
       refine ops_nil ?_
       refine vc_ret ?_
       refine rs1 _ (rv_c (vs := [(.int .i64 ((sgl (a.l + (k2 * a.s))).l)), (.int .i64 ((sgl (a.l + (k2 * a.s))).h)), (.int .i64 ((sgl (a.l + (k2 * a.s))).s))]) Try.agg23 rfl (inOc (k := 2) rfl) rfl rfl) ?_
       exact (agg3 (show sgl (a.l + (k2 * a.s)) = meetF a b from by first | (rw [hn]; done) | (rw [hone]; done) | (rw [hmany]; done)))
      ·
       refine vc_skip ?_
       refine vc_seq ?_
       have v1 := w.bd w.k0 (by omega)
       have v2 := w.bd (t := k2 + (((hi - k2) / p) * p)) (by omega) w2
       have v3 := w.stp (by omega) (by omega)
       have hmany := w.many (by omega) (by omega)
       refine vc_region ?_
       refine oq (qv_fa (off := 0) Try.field23_0 rfl) ?_
       refine oq (qv_ldp (v := (.int .i64 a.l)) Try.plain3 rfl (inOc (k := 0) rfl) rfl) ?_
       refine oq (qv_mv (Value.int .i64 k2) rfl) ?_
       refine oq (qv_fa (off := 0) Try.field23_2 rfl) ?_
       refine oq (qv_ldp (v := (.int .i64 a.s)) Try.plain3 rfl (inOc (k := 0) rfl) rfl) ?_
       refine oq (qv_mul rfl rfl (by omega)) ?_
       refine oq (qv_add rfl rfl (by omega)) ?_
       refine oq (qv_fa (off := 0) Try.field23_0 rfl) ?_
       refine oq (qv_ldp (v := (.int .i64 a.l)) Try.plain3 rfl (inOc (k := 0) rfl) rfl) ?_
       refine oq (qv_mv (.int .i64 (k2 + (((hi - k2) / p) * p))) rfl) ?_
       refine oq (qv_fa (off := 0) Try.field23_2 rfl) ?_
       refine oq (qv_ldp (v := (.int .i64 a.s)) Try.plain3 rfl (inOc (k := 0) rfl) rfl) ?_
       refine oq (qv_mul rfl rfl (by omega)) ?_
       refine oq (qv_add rfl rfl (by omega)) ?_
       refine oq (qv_mv (Value.int .i64 p) rfl) ?_
       refine oq (qv_fa (off := 0) Try.field23_2 rfl) ?_
       refine oq (qv_ldp (v := (.int .i64 a.s)) Try.plain3 rfl (inOc (k := 0) rfl) rfl) ?_
       refine oq (qv_mul rfl rfl (by omega)) ?_
       refine oq (qv_build (out := [(.int .i64 (a.l + (k2 * a.s))), (.int .i64 (a.l + ((k2 + (((hi - k2) / p) * p)) * a.s))), (.int .i64 (p * a.s))]) Try.build23 [(0, [(.int .i64 (a.l + (k2 * a.s)))]), (1, [(.int .i64 (a.l + ((k2 + (((hi - k2) / p) * p)) * a.s)))]), (2, [(.int .i64 (p * a.s))])] rfl rfl) ?_
       refine ops_stw (k := 2) (vs := [(.int .i64 (a.l + (k2 * a.s))), (.int .i64 (a.l + ((k2 + (((hi - k2) / p) * p)) * a.s))), (.int .i64 (p * a.s))]) Try.size23 rfl rfl rfl rfl rfl rfl ?_
       refine ops_nil ?_
       refine vc_ret ?_
       refine rs1 _ (rv_c (vs := [(.int .i64 (a.l + (k2 * a.s))), (.int .i64 (a.l + ((k2 + (((hi - k2) / p) * p)) * a.s))), (.int .i64 (p * a.s))]) Try.agg23 rfl (inOc (k := 2) rfl) rfl rfl) ?_
       exact (agg3 (show (⟨a.l + (k2 * a.s), a.l + ((k2 + (((hi - k2) / p) * p)) * a.s), p * a.s⟩ : Nm) = meetF a b from by first | (rw [hn]; done) | (rw [hone]; done) | (rw [hmany]; done)))
    ·
     refine vc_skip ?_
     refine vc_seq ?_
     refine vc_seq ?_
     have w : Win a b p lo hi 0 := ⟨c.va, c.vb, c.sa, by omega, by rw [← hL, ← hH]; omega, fun t => by rw [hlo, ceil_iff c.sa, ← hL]; omega, fun t => by rw [hhi, floor_iff c.sa, ← hH]; omega, fun t => by have h := hkey t; rw [← hp] at h; exact h, by omega, by omega⟩
     refine vc_region ?_
     refine oq (qv_mv (Value.int .i64 0) rfl) ?_
     refine oq (qv_mv (Value.int .i64 hi) rfl) ?_
     refine oq (qv_gtr rfl rfl) ?_
     refine ops_nil ?_
     refine vc_if rfl (fun c11 => ?_) (fun c11 => ?_)
     ·
      refine vc_seq ?_
      have hn := w.none (by omega)
      refine vc_region ?_
      refine oq (qv_call (v := (.agg #[(.int .i64 nE.l), (.int .i64 nE.h), (.int .i64 nE.s)])) (none_c) rfl rfl) ?_
      refine ops_stw (k := 2) (vs := [(.int .i64 nE.l), (.int .i64 nE.h), (.int .i64 nE.s)]) Try.size23 rfl rfl rfl rfl rfl rfl ?_
      refine ops_nil ?_
      refine vc_ret ?_
      refine rs1 _ (rv_c (vs := [(.int .i64 nE.l), (.int .i64 nE.h), (.int .i64 nE.s)]) Try.agg23 rfl (inOc (k := 2) rfl) rfl rfl) ?_
      exact (agg3 (show nE = meetF a b from by first | (rw [hn]; done) | (rw [hone]; done) | (rw [hmany]; done)))
     ·
      refine vc_skip ?_
      refine vc_seq ?_
      obtain ⟨w1, w2, w3⟩ := w.last (by omega)
      have w4 := Int.mul_nonneg w1 (show 0 ≤ p by omega)
      refine vc_region ?_
      refine oq (qv_mv (Value.int .i64 0) rfl) ?_
      refine oq (qv_mv (Value.int .i64 hi) rfl) ?_
      refine oq (qv_mv (Value.int .i64 0) rfl) ?_
      refine oq (qv_sub rfl rfl (by omega)) ?_
      refine oq (qv_mv (Value.int .i64 p) rfl) ?_
      refine oq (qv_quo rfl rfl (by omega) (by omega)) ?_
      refine oq (qv_mv (Value.int .i64 p) rfl) ?_
      refine oq (qv_mul rfl rfl (by omega)) ?_
      refine oq (qv_add rfl rfl (by omega)) ?_
      refine oq (qv_as (.int .i64 (0 + (((hi - 0) / p) * p))) rfl) ?_
      refine ops_nil ?_
      refine vc_seq ?_
      refine vc_seq ?_
      refine vc_region ?_
      refine oq (qv_mv (Value.int .i64 0) rfl) ?_
      refine oq (qv_mv (.int .i64 (0 + (((hi - 0) / p) * p))) rfl) ?_
      refine oq (qv_eql rfl rfl) ?_
      refine ops_nil ?_
      refine vc_if rfl (fun c12 => ?_) (fun c12 => ?_)
      ·
       refine vc_seq ?_
       have v1 := w.bd w.k0 (by omega)
       have hone := w.one (by omega) (by omega)
       refine vc_region ?_
       refine oq (qv_fa (off := 0) Try.field23_0 rfl) ?_
       refine oq (qv_ldp (v := (.int .i64 a.l)) Try.plain3 rfl (inOc (k := 0) rfl) rfl) ?_
       refine oq (qv_mv (Value.int .i64 0) rfl) ?_
       refine oq (qv_fa (off := 0) Try.field23_2 rfl) ?_
       refine oq (qv_ldp (v := (.int .i64 a.s)) Try.plain3 rfl (inOc (k := 0) rfl) rfl) ?_
       refine oq (qv_mul rfl rfl (by omega)) ?_
       refine oq (qv_add rfl rfl (by omega)) ?_
       refine oq (qv_call (v := (.agg #[(.int .i64 ((sgl (a.l + (0 * a.s))).l)), (.int .i64 ((sgl (a.l + (0 * a.s))).h)), (.int .i64 ((sgl (a.l + (0 * a.s))).s))])) (single_c) rfl rfl) ?_
       refine ops_stw (k := 2) (vs := [(.int .i64 ((sgl (a.l + (0 * a.s))).l)), (.int .i64 ((sgl (a.l + (0 * a.s))).h)), (.int .i64 ((sgl (a.l + (0 * a.s))).s))]) Try.size23 rfl rfl rfl rfl rfl rfl ?_
       refine ops_nil ?_
       refine vc_ret ?_
       refine rs1 _ (rv_c (vs := [(.int .i64 ((sgl (a.l + (0 * a.s))).l)), (.int .i64 ((sgl (a.l + (0 * a.s))).h)), (.int .i64 ((sgl (a.l + (0 * a.s))).s))]) Try.agg23 rfl (inOc (k := 2) rfl) rfl rfl) ?_
       exact (agg3 (show sgl (a.l + (0 * a.s)) = meetF a b from by first | (rw [hn]; done) | (rw [hone]; done) | (rw [hmany]; done)))
      ·
       refine vc_skip ?_
       refine vc_seq ?_
       have v1 := w.bd w.k0 (by omega)
       have v2 := w.bd (t := 0 + (((hi - 0) / p) * p)) (by omega) w2
       have v3 := w.stp (by omega) (by omega)
       have hmany := w.many (by omega) (by omega)
       refine vc_region ?_
       refine oq (qv_fa (off := 0) Try.field23_0 rfl) ?_
       refine oq (qv_ldp (v := (.int .i64 a.l)) Try.plain3 rfl (inOc (k := 0) rfl) rfl) ?_
       refine oq (qv_mv (Value.int .i64 0) rfl) ?_
       refine oq (qv_fa (off := 0) Try.field23_2 rfl) ?_
       refine oq (qv_ldp (v := (.int .i64 a.s)) Try.plain3 rfl (inOc (k := 0) rfl) rfl) ?_
       refine oq (qv_mul rfl rfl (by omega)) ?_
       refine oq (qv_add rfl rfl (by omega)) ?_
       refine oq (qv_fa (off := 0) Try.field23_0 rfl) ?_
       refine oq (qv_ldp (v := (.int .i64 a.l)) Try.plain3 rfl (inOc (k := 0) rfl) rfl) ?_
       refine oq (qv_mv (.int .i64 (0 + (((hi - 0) / p) * p))) rfl) ?_
       refine oq (qv_fa (off := 0) Try.field23_2 rfl) ?_
       refine oq (qv_ldp (v := (.int .i64 a.s)) Try.plain3 rfl (inOc (k := 0) rfl) rfl) ?_
       refine oq (qv_mul rfl rfl (by omega)) ?_
       refine oq (qv_add rfl rfl (by omega)) ?_
       refine oq (qv_mv (Value.int .i64 p) rfl) ?_
       refine oq (qv_fa (off := 0) Try.field23_2 rfl) ?_
       refine oq (qv_ldp (v := (.int .i64 a.s)) Try.plain3 rfl (inOc (k := 0) rfl) rfl) ?_
       refine oq (qv_mul rfl rfl (by omega)) ?_
       refine oq (qv_build (out := [(.int .i64 (a.l + (0 * a.s))), (.int .i64 (a.l + ((0 + (((hi - 0) / p) * p)) * a.s))), (.int .i64 (p * a.s))]) Try.build23 [(0, [(.int .i64 (a.l + (0 * a.s)))]), (1, [(.int .i64 (a.l + ((0 + (((hi - 0) / p) * p)) * a.s)))]), (2, [(.int .i64 (p * a.s))])] rfl rfl) ?_
       refine ops_stw (k := 2) (vs := [(.int .i64 (a.l + (0 * a.s))), (.int .i64 (a.l + ((0 + (((hi - 0) / p) * p)) * a.s))), (.int .i64 (p * a.s))]) Try.size23 rfl rfl rfl rfl rfl rfl ?_
       refine ops_nil ?_
       refine vc_ret ?_
       refine rs1 _ (rv_c (vs := [(.int .i64 (a.l + (0 * a.s))), (.int .i64 (a.l + ((0 + (((hi - 0) / p) * p)) * a.s))), (.int .i64 (p * a.s))]) Try.agg23 rfl (inOc (k := 2) rfl) rfl rfl) ?_
       exact (agg3 (show (⟨a.l + (0 * a.s), a.l + ((0 + (((hi - 0) / p) * p)) * a.s), p * a.s⟩ : Nm) = meetF a b from by first | (rw [hn]; done) | (rw [hone]; done) | (rw [hmany]; done)))

end Go.Proofs.Ytapkilaikcihgaa
