import Derived.Test.YtkmhjcjpohpiaaaMq
import Derived.Test.YtkmhjcjpohpiaaaWn
/- Walks of mtbdd: what each function returns. Printed by a program out of notes. -/
namespace Go.Proofs.Ytkmhjcjpohpiaaa
open Go.Vc
open Classical

set_option maxRecDepth 100000 in
set_option maxHeartbeats 4000000 in
theorem value_c {V : HV} {la na : Value} {A : Mg} (hA : Mt V la na A) {X : List Bool} {xv : Value} (hX : Bls V xv X) (hok : Ok A) (hl : (X.length : Int) = A.v) :
    FnC Try.prog 54 [(.agg #[(.int .i64 A.v), la, na, (.int .i64 A.r)]), xv] V [] (fun v _ _ => v = (.int .i64 (vl A (eb X)))) := by
 refine fn_intro (N := 30) Try.func54 (by kernel_rfl) rfl rfl rfl (Nat.le_of_ble_eq_true rfl) ?_
 intro w0 D
 have hbl := Ints.bound hA.l
 have hbn := SlS.bound hA.n
 have hb2 := hX.bound
 have hl4 := hok.2.1
 refine vc_seq ?_
 refine vc_region ?_
 refine ops_box (v := (.agg #[(.int .i64 A.v), la, na, (.int .i64 A.r)])) (cs := [(.int .i64 A.v), la, na, (.int .i64 A.r)]) rfl rfl (fun b1 => ?_)
 refine oq (qv_as (Value.int .i64 0) rfl) ?_
 refine ops_nil ?_
 refine vc_seq ?_
 refine vc_res (σ' := [(Arr 25 b1 [(.int .i64 A.v), la, na, (.int .i64 A.r)])]) rfl ?_
 refine vc_region ?_
 refine oq (qv_fa (off := 0) Try.field25_3 rfl) ?_
 refine oq (qv_ldp (v := (.int .i64 A.r)) Try.plain3 rfl (inOc (k := 0) rfl) rfl) ?_
 refine oq (qv_as (.int .i64 A.r) rfl) ?_
 refine ops_nil ?_
 refine vc_seq ?_
 refine vc_block ?_
 refine vc_loop (α := Int) (fun (xx : Int) => [(0, (.agg #[(.int .i64 A.v), la, na, (.int .i64 A.r)])), (1, xv), (2, (Value.pointer (some ⟨b1, 0, none⟩))), (4, (Value.int .i64 0)), (5, (Value.int .i64 xx))]) (fun (xx : Int) V' σ' => V = V' ∧ [(Arr 25 b1 [(.int .i64 A.v), la, na, (.int .i64 A.r)])] = σ' ∧ (mG A).ok xx ∧ gev (mG A) (eb X) xx = vl A (eb X)) (fun (xx : Int) => xx.toNat) (A.r) ?_ ?_ ?_
 · exact ⟨rfl, rfl, rfl, rfl, rfl, trivial⟩
 · exact ⟨rfl, rfl, hok.rt, rfl⟩
 rintro r e1 V0l σ0l hI0
 obtain ⟨rfl, rfl, hr, hv⟩ : V = V0l ∧ [(Arr 25 b1 [(.int .i64 A.v), la, na, (.int .i64 A.r)])] = σ0l ∧ (mG A).ok r ∧ gev (mG A) (eb X) r = vl A (eb X) := hI0
 refine vc_seq ?_
 refine vc_seq ?_
 refine vc_region ?_
 refine oq (qv_mv (Value.int .i64 r) rfl) ?_
 refine oq (qv_fa (off := 0) Try.field25_1 rfl) ?_
 refine oq (qv_ldp (v := la) Try.plain22 rfl (inOc (k := 0) rfl) rfl) ?_
 refine oq (qv_lenI Try.underlying22 rfl (hA.l)) ?_
 refine oq (qv_geq rfl rfl) ?_
 refine ops_nil ?_
 refine vc_if rfl (fun c1 => ?_) (fun c1 => ?_)
 ·
  refine vc_skip ?_
  refine vc_block ?_
  refine vc_seq ?_
  have hr0 : 0 ≤ r := hr.1
  have hr1 : r < A.L.length + A.N.length := hr.2
  have hvb := vr_bd hok hr (by omega)
  have hvb1 := hvb.1
  have hvb2 := hvb.2
  have hs : VSt A (eb X) r (stp A r (tp A r) (gb X (tp A r) = true)) := vst_s hok hr (by omega)
  refine vc_region ?_
  refine oq (qv_ldm (vs := [(.int .i64 A.v), la, na, (.int .i64 A.r)]) Try.agg25 rfl (inOc (k := 0) rfl) rfl rfl) ?_
  refine oq (qv_mv (Value.int .i64 r) rfl) ?_
  refine oq (qv_call (v := (.int .i64 (tp A r))) (top_c hA (by omega) (by omega)) rfl rfl) ?_
  refine oq (qv_as (.int .i64 (tp A r)) rfl) ?_
  refine ops_nil ?_
  refine vc_region_any Try.mixed (by kernel_rfl) ?_
  refine qq (qv_ldm (vs := [(.int .i64 A.v), la, na, (.int .i64 A.r)]) Try.agg25 rfl (inOc (k := 0) rfl) rfl rfl) ?_
  refine qq (qv_mv (Value.int .i64 r) rfl) ?_
  refine qq (qv_mv (.int .i64 (tp A r)) rfl) ?_
  refine qq (qv_mv xv rfl) ?_
  refine qq (qv_mv (.int .i64 (tp A r)) rfl) ?_
  refine qq (qv_iab (v := xv) (i := tp A r) Try.underlying30 Try.size4 rfl (inVb hX) rfl (by omega) (by omega)) ?_
  refine qq (qv_ldb (v := xv) (i := tp A r) Try.plain4 rfl (inVb hX) (by omega) (by omega)) ?_
  refine qq (qv_call (v := (.int .i64 (stp A r (tp A r) (gb X (tp A r) = true)))) (step_c (hi := gb X (tp A r) = true) hA (r := r) (x := tp A r) (by omega) (by omega) (by omega)) rfl rfl) ?_
  refine qq (qv_as (.int .i64 (stp A r (tp A r) (gb X (tp A r) = true))) rfl) ?_
  refine qops_nil ?_
  refine ⟨(stp A r (tp A r) (gb X (tp A r) = true)), ⟨rfl, rfl, rfl, rfl, (congrArg (Value.int .i64) (show (stp A r (tp A r) (gb X (tp A r) = true)) = ((stp A r (tp A r) (gb X (tp A r) = true))) from by rfl)), trivial⟩, ⟨rfl, rfl, hs.ok, by rw [← hv]; exact hs.vl⟩, by have := hs.lt; have := hs.ok.1; omega⟩
 ·
  refine vc_exit ?_
  refine blockQ_hit ?_
  refine vc_seq ?_
  have hr0 : 0 ≤ r := hr.1
  refine vc_region ?_
  refine oq (qv_fa (off := 0) Try.field25_1 rfl) ?_
  refine oq (qv_ldp (v := la) Try.plain22 rfl (inOc (k := 0) rfl) rfl) ?_
  refine oq (qv_mv (Value.int .i64 r) rfl) ?_
  refine oq (qv_iai (v := la) (i := r) Try.underlying22 Try.size3 rfl (inVi (hA.l)) rfl (by omega) (by omega)) ?_
  refine oq (qv_ldi (v := la) (i := r) Try.plain3 rfl (inVi (hA.l)) (by omega) (by omega)) ?_
  refine oq (qv_as (.int .i64 (gi A.L (r))) rfl) ?_
  refine ops_nil ?_
  refine vc_ret ?_
  exact rq1 (.int .i64 (vl A (eb X))) (congrArg (Value.int .i64) (show (gi A.L (r)) = (vl A (eb X)) from by rw [← hv]; exact (gev_lf (G := mG A) (show r < (A.L.length : Int) by omega)).symm)) rfl

set_option maxRecDepth 100000 in
set_option maxHeartbeats 4000000 in
theorem valueR_c {V : HV} {la na : Value} {A : Mg} (hA : Mt V la na A) {X : List Bool} {xv : Value} (hX : Bls V xv X) (hok : Ok A) (hl : (X.length : Int) = A.v) :
    FnC Try.prog 16 [(.agg #[(.int .i64 A.v), la, na, (.int .i64 A.r)]), xv] V [] (fun v _ _ => v = (.int .i64 (vl A (eb X)))) := by
 refine fn_intro (N := 37) Try.func16 (by kernel_rfl) rfl rfl rfl (Nat.le_of_ble_eq_true rfl) ?_
 intro w0 D
 have hbl := Ints.bound hA.l
 have hbn := SlS.bound hA.n
 have hb2 := hX.bound
 have hl4 := hok.2.1
 refine vc_seq ?_
 refine vc_region ?_
 refine ops_box (v := (.agg #[(.int .i64 A.v), la, na, (.int .i64 A.r)])) (cs := [(.int .i64 A.v), la, na, (.int .i64 A.r)]) rfl rfl (fun b1 => ?_)
 refine oq (qv_as (Value.int .i64 0) rfl) ?_
 refine ops_nil ?_
 refine vc_seq ?_
 refine vc_res (σ' := [(Arr 25 b1 [(.int .i64 A.v), la, na, (.int .i64 A.r)])]) rfl ?_
 refine vc_region ?_
 refine oq (qv_fa (off := 0) Try.field25_3 rfl) ?_
 refine oq (qv_ldp (v := (.int .i64 A.r)) Try.plain3 rfl (inOc (k := 0) rfl) rfl) ?_
 refine oq (qv_as (.int .i64 A.r) rfl) ?_
 refine ops_nil ?_
 refine vc_seq ?_
 refine vc_block ?_
 refine vc_loopD (α := Int) (fun (xx : Int) => [(0, (.agg #[(.int .i64 A.v), la, na, (.int .i64 A.r)])), (1, xv), (2, (Value.pointer (some ⟨b1, 0, none⟩))), (4, (Value.int .i64 0)), (5, (Value.int .i64 xx))]) (fun (xx : Int) V' σ' => V = V' ∧ [(Arr 25 b1 [(.int .i64 A.v), la, na, (.int .i64 A.r)])] = σ' ∧ (mG A).ok xx ∧ gev (mG A) (eb X) xx = vl A (eb X)) (fun (xx : Int) => xx.toNat) (A.r) ?_ ?_ ?_
 · exact ⟨rfl, rfl, rfl, rfl, rfl, trivial⟩
 · exact ⟨rfl, rfl, hok.rt, rfl⟩
 rintro r e1 V0l σ0l hI0
 obtain ⟨rfl, rfl, hr, hv⟩ : V = V0l ∧ [(Arr 25 b1 [(.int .i64 A.v), la, na, (.int .i64 A.r)])] = σ0l ∧ (mG A).ok r ∧ gev (mG A) (eb X) r = vl A (eb X) := hI0
 refine vc_seq ?_
 refine vc_seq ?_
 refine vc_region ?_
 refine oq (qv_mv (Value.int .i64 r) rfl) ?_
 refine oq (qv_fa (off := 0) Try.field25_1 rfl) ?_
 refine oq (qv_ldp (v := la) Try.plain22 rfl (inOc (k := 0) rfl) rfl) ?_
 refine oq (qv_lenI Try.underlying22 rfl (hA.l)) ?_
 refine oq (qv_geq rfl rfl) ?_
 refine ops_nil ?_
 refine vc_if rfl (fun c1 => ?_) (fun c1 => ?_)
 ·
  refine vc_skip ?_
  refine vc_block ?_
  refine vc_seq ?_
  have hr0 : 0 ≤ r := hr.1
  have hr1 : r < A.L.length + A.N.length := hr.2
  have hvb := vr_bd hok hr (by omega)
  have hvb1 := hvb.1
  have hvb2 := hvb.2
  have hbj := hok.loc.bd (r - A.L.length) (by omega) (by omega)
  have hbj1 := hbj.1
  have hbj2 := hbj.2
  refine vc_region ?_
  refine oq (qv_fa (off := 0) Try.field25_2 rfl) ?_
  refine oq (qv_ldp (v := na) Try.plain23 rfl (inOc (k := 0) rfl) rfl) ?_
  refine oq (qv_mv (Value.int .i64 r) rfl) ?_
  refine oq (qv_fa (off := 0) Try.field25_1 rfl) ?_
  refine oq (qv_ldp (v := la) Try.plain22 rfl (inOc (k := 0) rfl) rfl) ?_
  refine oq (qv_lenI Try.underlying22 rfl (hA.l)) ?_
  refine oq (qv_sub rfl rfl (by omega)) ?_
  refine oq (qv_ias (v := na) (i := r - ((A.L.length : Int))) Try.underlying23 Try.size80 rfl (hA.n) rfl (by omega) (by omega)) ?_
  refine oq (qv_lds (v := na) (i := r - ((A.L.length : Int))) (vs := [(.int .i64 ((fk A.N (r - ((A.L.length : Int)))).v)), (.int .i64 ((fk A.N (r - ((A.L.length : Int)))).l)), (.int .i64 ((fk A.N (r - ((A.L.length : Int)))).h))]) Try.agg80 rfl (hA.n) (by omega) (by omega) (fks_at (by omega) (by omega))) ?_
  refine ops_alloc Try.ti80 rfl (fun b2 => ?_)
  refine ops_stw (k := 1) (vs := [(.int .i64 ((fk A.N (r - ((A.L.length : Int)))).v)), (.int .i64 ((fk A.N (r - ((A.L.length : Int)))).l)), (.int .i64 ((fk A.N (r - ((A.L.length : Int)))).h))]) Try.size80 rfl rfl rfl rfl rfl rfl ?_
  refine ops_nil ?_
  refine vc_seq ?_
  refine vc_res (σ' := [(Arr 25 b1 [(.int .i64 A.v), la, na, (.int .i64 A.r)]), (Arr 80 b2 [(.int .i64 ((fk A.N (r - ((A.L.length : Int)))).v)), (.int .i64 ((fk A.N (r - ((A.L.length : Int)))).l)), (.int .i64 ((fk A.N (r - ((A.L.length : Int)))).h))])]) rfl ?_
  refine vc_region ?_
  refine oq (qv_fa (off := 0) Try.field80_1 rfl) ?_
  refine oq (qv_ldp (v := (.int .i64 ((fk A.N (r - ((A.L.length : Int)))).l))) Try.plain3 rfl (inOc (k := 1) rfl) rfl) ?_
  refine oq (qv_as (.int .i64 ((fk A.N (r - ((A.L.length : Int)))).l)) rfl) ?_
  refine ops_nil ?_
  refine vc_seq ?_
  refine vc_region ?_
  refine oq (qv_mv xv rfl) ?_
  refine oq (qv_fa (off := 0) Try.field80_0 rfl) ?_
  refine oq (qv_ldp (v := (.int .i64 ((fk A.N (r - ((A.L.length : Int)))).v))) Try.plain3 rfl (inOc (k := 1) rfl) rfl) ?_
  refine oq (qv_iab (v := xv) (i := (fk A.N (r - ((A.L.length : Int)))).v) Try.underlying30 Try.size4 rfl (inVb hX) rfl (by omega) (by omega)) ?_
  refine oq (qv_ldb (v := xv) (i := (fk A.N (r - ((A.L.length : Int)))).v) Try.plain4 rfl (inVb hX) (by omega) (by omega)) ?_
  refine ops_nil ?_
  refine vc_if rfl (fun c2 => ?_) (fun c2 => ?_)
  ·
   refine vc_region ?_
   refine oq (qv_fa (off := 0) Try.field80_2 rfl) ?_
   refine oq (qv_ldp (v := (.int .i64 ((fk A.N (r - ((A.L.length : Int)))).h))) Try.plain3 rfl (inOc (k := 1) rfl) rfl) ?_
   refine oq (qv_as (.int .i64 ((fk A.N (r - ((A.L.length : Int)))).h)) rfl) ?_
   refine ops_nil ?_
   refine ⟨((fk A.N (r - (A.L.length : Int))).h), ⟨rfl, rfl, rfl, rfl, (congrArg (Value.int .i64) (show ((fk A.N (r - ((A.L.length : Int)))).h) = (((fk A.N (r - (A.L.length : Int))).h)) from by rfl)), trivial⟩, ⟨[(Arr 25 b1 [(.int .i64 A.v), la, na, (.int .i64 A.r)])], [(Arr 80 b2 [(.int .i64 ((fk A.N (r - ((A.L.length : Int)))).v)), (.int .i64 ((fk A.N (r - ((A.L.length : Int)))).l)), (.int .i64 ((fk A.N (r - ((A.L.length : Int)))).h))])], (perm_idx _ _ [0, 1] rfl rfl), ⟨rfl, rfl, (vst_h hok hr (by omega) (e := eb X) c2).ok, by rw [← hv]; exact (vst_h hok hr (by omega) (e := eb X) c2).vl⟩⟩, by omega⟩
  ·
   refine vc_skip ?_
   refine ⟨((fk A.N (r - (A.L.length : Int))).l), ⟨rfl, rfl, rfl, rfl, (congrArg (Value.int .i64) (show ((fk A.N (r - ((A.L.length : Int)))).l) = (((fk A.N (r - (A.L.length : Int))).l)) from by rfl)), trivial⟩, ⟨[(Arr 25 b1 [(.int .i64 A.v), la, na, (.int .i64 A.r)])], [(Arr 80 b2 [(.int .i64 ((fk A.N (r - ((A.L.length : Int)))).v)), (.int .i64 ((fk A.N (r - ((A.L.length : Int)))).l)), (.int .i64 ((fk A.N (r - ((A.L.length : Int)))).h))])], (perm_idx _ _ [0, 1] rfl rfl), ⟨rfl, rfl, (vst_l hok hr (by omega) (e := eb X) c2).ok, by rw [← hv]; exact (vst_l hok hr (by omega) (e := eb X) c2).vl⟩⟩, by omega⟩
 ·
  refine vc_exit ?_
  refine blockQ_hit ?_
  refine vc_seq ?_
  have hr0 : 0 ≤ r := hr.1
  refine vc_region ?_
  refine oq (qv_fa (off := 0) Try.field25_1 rfl) ?_
  refine oq (qv_ldp (v := la) Try.plain22 rfl (inOc (k := 0) rfl) rfl) ?_
  refine oq (qv_mv (Value.int .i64 r) rfl) ?_
  refine oq (qv_iai (v := la) (i := r) Try.underlying22 Try.size3 rfl (inVi (hA.l)) rfl (by omega) (by omega)) ?_
  refine oq (qv_ldi (v := la) (i := r) Try.plain3 rfl (inVi (hA.l)) (by omega) (by omega)) ?_
  refine oq (qv_as (.int .i64 (gi A.L (r))) rfl) ?_
  refine ops_nil ?_
  refine vc_ret ?_
  exact rq1 (.int .i64 (vl A (eb X))) (congrArg (Value.int .i64) (show (gi A.L (r)) = (vl A (eb X)) from by rw [← hv]; exact (gev_lf (G := mG A) (show r < (A.L.length : Int) by omega)).symm)) rfl

set_option maxRecDepth 100000 in
set_option maxHeartbeats 4000000 in
theorem Eval_c {V : HV} {la na : Value} {A : Mg} (hA : Mt V la na A) {X : List Bool} {xv : Value} (hX : Bls V xv X) :
    FnC Try.prog 15 [(.agg #[(.int .i64 A.v), la, na, (.int .i64 A.r)]), xv] V [] (fun v _ σ' => σ' = [] ∧ v = .tuple #[.int .i64 (evV A X), .int .i64 (evE A X)]) := by
 refine fn_intro (N := 21) Try.func15 (by kernel_rfl) rfl rfl rfl (Nat.le_of_ble_eq_true rfl) ?_
 intro w0 D
 have hbl := Ints.bound hA.l
 have hbn := SlS.bound hA.n
 have hb2 := hX.bound
 refine vc_seq ?_
 refine vc_region ?_
 refine ops_box (v := (.agg #[(.int .i64 A.v), la, na, (.int .i64 A.r)])) (cs := [(.int .i64 A.v), la, na, (.int .i64 A.r)]) rfl rfl (fun b1 => ?_)
 refine oq (qv_as (Value.int .i64 0) rfl) ?_
 refine oq (qv_as (Value.int .i64 0) rfl) ?_
 refine ops_nil ?_
 refine vc_seq ?_
 refine vc_seq ?_
 refine vc_res (σ' := [(Arr 25 b1 [(.int .i64 A.v), la, na, (.int .i64 A.r)])]) rfl ?_
 refine vc_region ?_
 refine oq (qv_ldm (vs := [(.int .i64 A.v), la, na, (.int .i64 A.r)]) Try.agg25 rfl (inOc (k := 0) rfl) rfl rfl) ?_
 refine ops_lit (n := 1) (s := 4) (cs := [(.int .i64 A.v), la, na, (.int .i64 A.r)]) Try.underlying102 Try.ti25 (Nat.le_of_ble_eq_true rfl) rfl rfl rfl (Nat.le_of_ble_eq_true rfl) rfl (fun b2 => ?_)
 refine ops_freeze (b := b2) (o := .cells ([(Value.int .i64 (A.v)), la, na, (Value.int .i64 (A.r))] : List Value).toArray 25 (0, 0)) (σr := [(Arr 25 b1 [(Value.int .i64 (A.v)), la, na, (Value.int .i64 (A.r))])]) (List.perm_middle (l₁ := [(Arr 25 b1 [(Value.int .i64 (A.v)), la, na, (Value.int .i64 (A.r))])]) (l₂ := [])) (fun Vf1 hVf1 hb1 => ?_)
 have hc1 : Cells Vf1 b2 [(.int .i64 A.v), la, na, (.int .i64 A.r)] := ⟨_, _, hb1⟩
 have hA := hA.mono hVf1
 have hX := hX.mono hVf1
 refine oq (qv_call (v := (.int .i64 (vE [A]))) (checked_c (Mdl.one hc1 hA) (by show 1 ≤ 1; omega)) rfl rfl) ?_
 refine oq (qv_as (.int .i64 (vE [A])) rfl) ?_
 refine ops_nil ?_
 refine vc_seq ?_
 refine vc_region ?_
 refine oq (qv_mv (.int .i64 (vE [A])) rfl) ?_
 refine oq (qv_neq rfl rfl) ?_
 refine ops_nil ?_
 refine vc_if rfl (fun c1 => ?_) (fun c1 => ?_)
 ·
  refine vc_seq ?_
  refine vc_region ?_
  refine oq (qv_mv (.int .i64 (vE [A])) rfl) ?_
  refine oq (qv_as (Value.int .i64 0) rfl) ?_
  refine oq (qv_as (.int .i64 (vE [A])) rfl) ?_
  refine ops_nil ?_
  refine vc_drop [] [(Arr 25 b1 [(.int .i64 A.v), la, na, (.int .i64 A.r)])] (.refl _) ?_
  refine vc_ret ?_
  refine rq2 (Value.int .i64 0) (.int .i64 (vE [A])) rfl rfl ?_
  obtain ⟨hn, e1⟩ := vE1_n (A := A) (by omega)
  have e := ev_1 (A := A) (X := X) hn
  rw [e.1, e.2, e1]
  exact ⟨rfl, rfl⟩
 ·
  refine vc_skip ?_
  refine vc_seq ?_
  refine vc_seq ?_
  have hz : vE [A] = 0 := by omega
  have hok := vE1_ok.1 hz
  refine vc_region ?_
  refine oq (qv_mv xv rfl) ?_
  refine oq (qv_lenB Try.underlying30 rfl hX) ?_
  refine oq (qv_fa (off := 0) Try.field25_0 rfl) ?_
  refine oq (qv_ldp (v := (.int .i64 A.v)) Try.plain3 rfl (inOc (k := 0) rfl) rfl) ?_
  refine oq (qv_neq rfl rfl) ?_
  refine ops_nil ?_
  refine vc_if rfl (fun c2 => ?_) (fun c2 => ?_)
  ·
   refine vc_seq ?_
   refine vc_region ?_
   refine oq (qv_as (Value.int .i64 0) rfl) ?_
   refine oq (qv_as (Value.int .i64 2) rfl) ?_
   refine ops_nil ?_
   refine vc_drop [] [(Arr 25 b1 [(.int .i64 A.v), la, na, (.int .i64 A.r)])] (.refl _) ?_
   refine vc_ret ?_
   refine rq2 (Value.int .i64 0) (Value.int .i64 2) rfl rfl ?_
   have e := ev_2 (A := A) (X := X) hok (by omega)
   rw [e.1, e.2]
   exact ⟨rfl, rfl⟩
  ·
   refine vc_skip ?_
   refine vc_seq ?_
   refine vc_region ?_
   refine oq (qv_ldm (vs := [(.int .i64 A.v), la, na, (.int .i64 A.r)]) Try.agg25 rfl (inOc (k := 0) rfl) rfl rfl) ?_
   refine oq (qv_mv xv rfl) ?_
   refine oq (qv_call (v := (.int .i64 (vl A (eb X)))) (value_c hA hX hok (by omega)) rfl rfl) ?_
   refine oq (qv_as (.int .i64 (vl A (eb X))) rfl) ?_
   refine oq (qv_as (Value.int .i64 0) rfl) ?_
   refine ops_nil ?_
   refine vc_drop [] [(Arr 25 b1 [(.int .i64 A.v), la, na, (.int .i64 A.r)])] (.refl _) ?_
   refine vc_ret ?_
   refine rq2 (.int .i64 (vl A (eb X))) (Value.int .i64 0) rfl rfl ?_
   have e := ev_0 (A := A) (X := X) hok (by omega)
   rw [e.1, e.2]
   exact ⟨rfl, rfl⟩

set_option maxRecDepth 100000 in
set_option maxHeartbeats 4000000 in
theorem assignment_c {V : HV} {vars k : Int} (h0 : 0 ≤ vars) (h1 : vars ≤ 40) (hk : 0 ≤ k) :
    FnC Try.prog 55 [(Value.int .i64 vars), (Value.int .i64 k)] V [] (fun v _ σ' => ∃ b, v = .slice (some ⟨b, 0, none⟩) vars.toNat vars.toNat ∧ σ' = [Arr 4 b (bvs (asL vars k))]) := by
 refine fn_intro (N := 26) Try.func55 (by kernel_rfl) rfl rfl rfl (Nat.le_of_ble_eq_true rfl) ?_
 intro w0 D
 refine vc_seq ?_
 refine vc_region ?_
 refine oq (qv_as (Value.slice none 0 0) rfl) ?_
 refine ops_nil ?_
 refine vc_seq ?_
 refine vc_region ?_
 refine oq (qv_mv (Value.int .i64 vars) rfl) ?_
 refine ops_make (n := vars) Try.underlying30 Try.ti4 rfl rfl rfl rfl (by omega) (by omega) (by omega) (fun b1 => ?_)
 refine oq (qv_as (.slice (some ⟨b1, 0, none⟩) (vars).toNat (vars).toNat) rfl) ?_
 refine ops_nil ?_
 refine vc_seq ?_
 refine vc_seq ?_
 refine vc_res (σ' := [(Arr 4 b1 (List.replicate (vars).toNat (Value.bool false)))]) rfl ?_
 refine vc_region ?_
 refine oq (qv_mv (Value.int .i64 vars) rfl) ?_
 refine oq (qv_mv (Value.int .i64 0) rfl) ?_
 refine ops_nil ?_
 refine vc_block ?_
 refine vc_loop (α := Int × List Bool) (fun (xx : Int × List Bool) => [(0, (Value.int .i64 vars)), (1, (Value.int .i64 k)), (4, (Value.slice none 0 0)), (5, (.slice (some ⟨b1, 0, none⟩) (vars).toNat (vars).toNat)), (9, (Value.int .i64 vars)), (10, (Value.int .i64 xx.1))]) (fun (xx : Int × List Bool) V' σ' => V = V' ∧ [(Arr 4 b1 (bvs xx.2))] = σ' ∧ 0 ≤ xx.1 ∧ xx.1 ≤ vars ∧ (xx.2.length : Int) = vars ∧ ∀ x : Int, 0 ≤ x → x < xx.1 → gb xx.2 x = asg vars k x) (fun (xx : Int × List Bool) => (vars - xx.1).toNat) (0, (List.replicate vars.toNat false)) ?_ ?_ ?_
 · exact ⟨rfl, rfl, rfl, rfl, rfl, rfl, trivial⟩
 · exact ⟨rfl, (show [(Arr 4 b1 (bvs ((List.replicate vars.toNat false))))] = [(Arr 4 b1 (List.replicate (vars).toNat (Value.bool false)))] from by rw [← bvs_rep]), by omega, by omega, by rw [List.length_replicate]; omega, fun x a b => by omega⟩
 rintro ⟨j, Y⟩ e1 V0l σ0l hI0
 obtain ⟨rfl, rfl, i1, i2, hy, ha⟩ : V = V0l ∧ [(Arr 4 b1 (bvs Y))] = σ0l ∧ 0 ≤ j ∧ j ≤ vars ∧ (Y.length : Int) = vars ∧ ∀ x : Int, 0 ≤ x → x < j → gb Y x = asg vars k x := hI0
 change VC _ _ _ _ _ _ (upds 26 [(0, (Value.int .i64 vars)), (1, (Value.int .i64 k)), (4, (Value.slice none 0 0)), (5, (.slice (some ⟨b1, 0, none⟩) (vars).toNat (vars).toNat)), (9, (Value.int .i64 vars)), (10, (Value.int .i64 j))] e1) _ _
 refine vc_seq ?_
 refine vc_res (σ' := [(Arr 4 b1 (bvs Y))]) rfl ?_
 refine vc_region ?_
 refine oq (qv_lss rfl rfl) ?_
 refine ops_nil ?_
 refine vc_seq ?_
 refine vc_if rfl (fun c1 => ?_) (fun c1 => ?_)
 ·
  refine vc_skip ?_
  refine vc_seq ?_
  refine vc_block ?_
  refine vc_seq ?_
  refine vc_region ?_
  refine oq (qv_mv (Value.int .i64 j) rfl) ?_
  refine oq (qv_as (Value.int .i64 j) rfl) ?_
  refine ops_nil ?_
  refine vc_region ?_
  refine oq (qv_mv (.slice (some ⟨b1, 0, none⟩) (vars).toNat (vars).toNat) rfl) ?_
  refine oq (qv_mv (Value.int .i64 j) rfl) ?_
  refine oq (qv_mv (Value.int .i64 k) rfl) ?_
  refine oq (qv_mv (Value.int .i64 vars) rfl) ?_
  refine oq (qv_sub rfl rfl (by omega)) ?_
  refine oq (qv_mv (Value.int .i64 j) rfl) ?_
  refine oq (qv_sub rfl rfl (by omega)) ?_
  refine oq (qv_shri rfl rfl (by omega) (by omega)) ?_
  refine oq (qv_and1 rfl rfl (Int.ediv_nonneg (by omega) (Int.le_of_lt (pow2_pos _)))) ?_
  refine oq (qv_eql rfl rfl) ?_
  refine oq (qv_ia (v := (.slice (some ⟨b1, 0, none⟩) (vars).toNat (vars).toNat)) (i := j) Try.underlying30 Try.size4 rfl (inO (k := 0) rfl (by first | (simp only [bvs, List.length_map]; omega) | (simp only [bvs, List.length_map, List.length_set]; omega) | (simp only [List.length_replicate]; done) | (simp only [List.length_replicate]; omega)) (Nat.le_refl _) (by omega)) rfl (by omega) (by first | omega | (simp only [bvs, List.length_map, List.length_set]; omega))) ?_
  refine ops_ste (k := 0) (b := b1) (n := (vars).toNat) (c := (vars).toNat) (i := j) (cs := (bvs Y)) Try.size4 rfl (rfl : ev _ _ = (.bool (decide (((k / 2 ^ ((vars - 1) - j : Int).toNat) % 2) = 1)))) rfl rfl (by omega) (by first | omega | (simp only [bvs, List.length_map, List.length_set]; omega)) ?_
  refine ops_nil ?_
  refine vc_res (σ' := [(Arr 4 b1 (((bvs Y)).set (j).toNat (.bool (decide (((k / 2 ^ ((vars - 1) - j : Int).toNat) % 2) = 1)))))]) rfl ?_
  refine vc_region ?_
  refine oq (qv_add rfl rfl (by omega)) ?_
  refine oq (qv_mv (.int .i64 (j + 1)) rfl) ?_
  refine ops_nil ?_
  refine ⟨(j + 1, Y.set j.toNat (decide (k / 2 ^ (vars - 1 - j).toNat % 2 = 1))), ⟨rfl, rfl, rfl, rfl, rfl, (congrArg (Value.int .i64) (show (j + 1) = ((j + 1)) from by omega)), trivial⟩, ⟨rfl, (show [(Arr 4 b1 (bvs (Y.set j.toNat (decide (k / 2 ^ (vars - 1 - j).toNat % 2 = 1)))))] = [(Arr 4 b1 (((bvs Y)).set (j).toNat (.bool (decide (((k / 2 ^ ((vars - 1) - j : Int).toNat) % 2) = 1)))))] from by rw [bvs_set]), by omega, by omega, by rw [List.length_set]; exact hy, as_step hy (by omega) (by omega) ha⟩, by omega⟩
 ·
  refine vc_exit ?_
  refine blockQ_hit ?_
  refine vc_seq ?_
  refine vc_region ?_
  refine oq (qv_mv (.slice (some ⟨b1, 0, none⟩) (vars).toNat (vars).toNat) rfl) ?_
  refine oq (qv_as (.slice (some ⟨b1, 0, none⟩) (vars).toNat (vars).toNat) rfl) ?_
  refine ops_nil ?_
  refine vc_ret ?_
  refine rq1 (.slice (some ⟨b1, 0, none⟩) (vars).toNat (vars).toNat) rfl ?_
  exact ⟨b1, rfl, by rw [← asL_of (vars := vars) (k := k) (by omega) (fun x a b => ha x a (by omega))]⟩

end Go.Proofs.Ytkmhjcjpohpiaaa
