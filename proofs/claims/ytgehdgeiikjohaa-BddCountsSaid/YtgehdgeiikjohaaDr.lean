/- Walks of bdd: what each function returns. Printed by a program out of notes. -/
import Derived.Test.YtgehdgeiikjohaaBm
import Derived.Test.YtgehdgeiikjohaaBdJ
namespace Go.Proofs.Ytgehdgeiikjohaa
open Go.Vc
open Classical

set_option maxRecDepth 100000 in
set_option maxHeartbeats 4000000 in
theorem Eval_c {V : HV} {na : Value} {A : Dg} (hA : Fks V na A.N) {L : List Bool} {lv : Value} (hL : Bls V lv L) :
    FnC Try.prog 28 [(.agg #[(.int .i64 A.v), na, (.int .i64 A.r)]), lv] V [] (fun v _ _ => v = .tuple #[(.bool (decide (evB A L = true))), (.int .i64 (evE A L))]) := by
 refine fn_intro (N := 37) Try.func28 (by kernel_rfl) rfl rfl rfl (Nat.le_of_ble_eq_true rfl) ?_
 intro w0 D
 have hb := SlS.bound hA
 have hb2 := hL.bound
 refine vc_seq ?_
 refine vc_region ?_
 refine ops_box (v := (.agg #[(.int .i64 A.v), na, (.int .i64 A.r)])) (cs := [(.int .i64 A.v), na, (.int .i64 A.r)]) rfl rfl (fun b1 => ?_)
 refine oq (qv_as (Value.bool false) rfl) ?_
 refine oq (qv_as (Value.int .i64 0) rfl) ?_
 refine ops_nil ?_
 refine vc_seq ?_
 refine vc_seq ?_
 refine vc_res (σ' := [(Arr 24 b1 [(.int .i64 A.v), na, (.int .i64 A.r)])]) rfl ?_
 refine vc_region ?_
 refine oq (qv_ldm (vs := [(.int .i64 A.v), na, (.int .i64 A.r)]) Try.agg24 rfl (inOc (k := 0) rfl) rfl rfl) ?_
 refine ops_lit (n := 1) (s := 3) (cs := [(.int .i64 A.v), na, (.int .i64 A.r)]) Try.underlying83 Try.ti24 (Nat.le_of_ble_eq_true rfl) rfl rfl rfl (Nat.le_of_ble_eq_true rfl) rfl (fun b2 => ?_)
 refine ops_freeze (b := b2) (o := .cells ([(Value.int .i64 (A.v)), na, (Value.int .i64 (A.r))] : List Value).toArray 24 (0, 0)) (σr := [(Arr 24 b1 [(Value.int .i64 (A.v)), na, (Value.int .i64 (A.r))])]) (List.perm_middle (l₁ := [(Arr 24 b1 [(Value.int .i64 (A.v)), na, (Value.int .i64 (A.r))])]) (l₂ := [])) (fun Vf1 hVf1 hb1 => ?_)
 have hc1 : Cells Vf1 b2 [(.int .i64 A.v), na, (.int .i64 A.r)] := ⟨_, _, hb1⟩
 have hA := hA.mono hVf1
 have hL := hL.mono hVf1
 refine oq (qv_call (v := (.int .i64 (vE [A]))) (valid_c (Bdl.one hc1 hA) (by show 1 ≤ 1; omega)) rfl rfl) ?_
 refine oq (qv_as (.int .i64 (vE [A])) rfl) ?_
 refine ops_nil ?_
 refine vc_seq ?_
 refine vc_region ?_
 refine oq (qv_mv (.int .i64 (vE [A])) rfl) ?_
 refine oq (qv_neq rfl rfl) ?_
 refine ops_nil ?_
 refine vc_if rfl (fun c1 => ?_) (fun c1 => ?_)
 ·
  refine vc_seq ?_
  refine vc_region ?_
  refine oq (qv_mv (.int .i64 (vE [A])) rfl) ?_
  refine oq (qv_as (Value.bool false) rfl) ?_
  refine oq (qv_as (.int .i64 (vE [A])) rfl) ?_
  refine ops_nil ?_
  refine vc_ret ?_
  exact rq2 (.bool (decide (evB A L = true))) (.int .i64 (evE A L)) (congrArg Value.bool (decide_eq_false (show ¬ (evB A L = true) from by rw [(ev_v (by omega)).2]; simp)).symm) (congrArg (Value.int .i64) (show (vE [A]) = (evE A L) from by exact (ev_v (by omega)).1.symm)) rfl
 ·
  refine vc_skip ?_
  refine vc_seq ?_
  refine vc_seq ?_
  have hz : vE [A] = 0 := by omega
  have hok := ok_of hz
  have hf := hok.2.2.1.1
  refine vc_region ?_
  refine oq (qv_mv lv rfl) ?_
  refine oq (qv_lenB Try.underlying34 rfl hL) ?_
  refine oq (qv_fa (off := 0) Try.field24_0 rfl) ?_
  refine oq (qv_ldp (v := (.int .i64 A.v)) Try.plain3 rfl (inOc (k := 0) rfl) rfl) ?_
  refine oq (qv_neq rfl rfl) ?_
  refine ops_nil ?_
  refine vc_if rfl (fun c2 => ?_) (fun c2 => ?_)
  ·
   refine vc_seq ?_
   refine vc_region ?_
   refine oq (qv_as (Value.bool false) rfl) ?_
   refine oq (qv_as (Value.int .i64 2) rfl) ?_
   refine ops_nil ?_
   refine vc_ret ?_
   exact rq2 (.bool (decide (evB A L = true))) (.int .i64 (evE A L)) (congrArg Value.bool (decide_eq_false (show ¬ (evB A L = true) from by rw [(ev_2 hz (by omega)).2]; simp)).symm) (congrArg (Value.int .i64) (show 2 = (evE A L) from by exact (ev_2 hz (by omega)).1.symm)) rfl
  ·
   refine vc_skip ?_
   refine vc_seq ?_
   refine vc_region ?_
   refine oq (qv_fa (off := 0) Try.field24_2 rfl) ?_
   refine oq (qv_ldp (v := (.int .i64 A.r)) Try.plain3 rfl (inOc (k := 0) rfl) rfl) ?_
   refine oq (qv_as (.int .i64 A.r) rfl) ?_
   refine ops_nil ?_
   refine vc_seq ?_
   refine vc_block ?_
   refine vc_loop (α := Int) (fun (xx : Int) => [(0, (.agg #[(.int .i64 A.v), na, (.int .i64 A.r)])), (1, lv), (2, (Value.pointer (some ⟨b1, 0, none⟩))), (4, (Value.bool false)), (5, (Value.int .i64 0)), (6, (.int .i64 (vE [A]))), (12, (.bool (decide ((vE [A]) ≠ 0)))), (18, (.bool (decide (((L.length : Int)) ≠ A.v)))), (7, (Value.int .i64 xx))]) (fun (xx : Int) V' σ' => Vf1 = V' ∧ [(Arr 24 b1 [(.int .i64 A.v), na, (.int .i64 A.r)])] = σ' ∧ Rf A.N xx ∧ vl A.N (fun i => gb L i) xx = vl A.N (fun i => gb L i) A.r) (fun (xx : Int) => xx.toNat) (A.r) ?_ ?_ ?_
   · exact ⟨rfl, rfl, rfl, rfl, rfl, rfl, rfl, rfl, rfl, trivial⟩
   · exact ⟨rfl, rfl, hok.2.2.1.rf, rfl⟩
   rintro r e1 V0l σ0l hI0
   obtain ⟨rfl, rfl, hr1, hv1⟩ : Vf1 = V0l ∧ [(Arr 24 b1 [(.int .i64 A.v), na, (.int .i64 A.r)])] = σ0l ∧ Rf A.N r ∧ vl A.N (fun i => gb L i) r = vl A.N (fun i => gb L i) A.r := hI0
   refine vc_seq ?_
   refine vc_seq ?_
   refine vc_region ?_
   refine oq (qv_mv (Value.int .i64 r) rfl) ?_
   refine oq (qv_geq rfl rfl) ?_
   refine ops_nil ?_
   refine vc_if rfl (fun c3 => ?_) (fun c3 => ?_)
   ·
    refine vc_skip ?_
    refine vc_block ?_
    have hq1 := hr1.1
    have hq2 := hr1.2
    have hlo := hf.lo r (by omega) hq2
    have hhi := hf.hi r (by omega) hq2
    have hvr := hf.vr r (by omega) hq2
    have hlev : lev A.v A.N r = (nd A.N r).v := lev_node (by omega)
    have hfv := fol_vl (hi := gb L (lev A.v A.N r) = true) hf hr1 (x := lev A.v A.N r) (by omega) (fun i => gb L i) Iff.rfl
    have hfr := fol_rf (hi := gb L (lev A.v A.N r) = true) hf hr1 (x := lev A.v A.N r) (by omega) (Int.le_refl _)
    have hfr1 := hfr.1.1
    have hfl : fol A.v A.N r (lev A.v A.N r) (gb L (lev A.v A.N r) = true) < r := by
      by_cases q : gb L (lev A.v A.N r) = true
      · rw [fol_h rfl q]; exact hhi.2.1
      · rw [fol_l rfl q]; exact hlo.2.1
    refine vc_region_any Try.mixed (by kernel_rfl) ?_
    refine qq (qv_ldm (vs := [(.int .i64 A.v), na, (.int .i64 A.r)]) Try.agg24 rfl (inOc (k := 0) rfl) rfl rfl) ?_
    refine qq (qv_mv (Value.int .i64 r) rfl) ?_
    refine qq (qv_ldm (vs := [(.int .i64 A.v), na, (.int .i64 A.r)]) Try.agg24 rfl (inOc (k := 0) rfl) rfl rfl) ?_
    refine qq (qv_mv (Value.int .i64 r) rfl) ?_
    refine qq (qv_call (v := (.int .i64 (lev A.v A.N r))) (level_c hA (r := r) (by omega) (by omega)) rfl rfl) ?_
    refine qq (qv_mv lv rfl) ?_
    refine qq (qv_ldm (vs := [(.int .i64 A.v), na, (.int .i64 A.r)]) Try.agg24 rfl (inOc (k := 0) rfl) rfl rfl) ?_
    refine qq (qv_mv (Value.int .i64 r) rfl) ?_
    refine qq (qv_call (v := (.int .i64 (lev A.v A.N r))) (level_c hA (r := r) (by omega) (by omega)) rfl rfl) ?_
    refine qq (qv_iab (v := lv) (i := lev A.v A.N r) Try.underlying34 Try.size4 rfl (inVb hL) rfl (by omega) (by omega)) ?_
    refine qq (qv_ldb (v := lv) (i := lev A.v A.N r) Try.plain4 rfl (inVb hL) (by omega) (by omega)) ?_
    refine qq (qv_call (v := (.int .i64 (fol A.v A.N r (lev A.v A.N r) (gb L (lev A.v A.N r) = true)))) (follow_c hA (r := r) (x := lev A.v A.N r) (hi := gb L (lev A.v A.N r) = true) (by omega) (by omega) (by omega)) rfl rfl) ?_
    refine qq (qv_as (.int .i64 (fol A.v A.N r (lev A.v A.N r) (gb L (lev A.v A.N r) = true))) rfl) ?_
    refine qops_nil ?_
    refine ⟨(fol A.v A.N r (lev A.v A.N r) (gb L (lev A.v A.N r) = true)), ⟨rfl, rfl, rfl, rfl, rfl, rfl, rfl, rfl, (congrArg (Value.int .i64) (show (fol A.v A.N r (lev A.v A.N r) (gb L (lev A.v A.N r) = true)) = ((fol A.v A.N r (lev A.v A.N r) (gb L (lev A.v A.N r) = true))) from by rfl)), trivial⟩, ⟨rfl, rfl, hfr.1, by rw [← hv1]; exact hfv⟩, by omega⟩
   ·
    refine vc_exit ?_
    refine blockQ_hit ?_
    refine vc_seq ?_
    refine vc_region ?_
    refine oq (qv_mv (Value.int .i64 r) rfl) ?_
    refine oq (qv_eql rfl rfl) ?_
    refine oq (qv_as (.bool (decide (r = 1))) rfl) ?_
    refine oq (qv_as (Value.int .i64 0) rfl) ?_
    refine ops_nil ?_
    refine vc_ret ?_
    exact rq2 (.bool (decide (evB A L = true))) (.int .i64 (evE A L)) (congrArg Value.bool (decide_eq_decide.2 (show (r = 1) ↔ (evB A L = true) from by rw [(ev_0 hz (by omega)).2]; show _ ↔ vl A.N _ A.r = true; rw [← hv1, vl_const (by omega)]; simp))) (congrArg (Value.int .i64) (show 0 = (evE A L) from by exact (ev_0 hz (by omega)).1.symm)) rfl

end Go.Proofs.Ytgehdgeiikjohaa
