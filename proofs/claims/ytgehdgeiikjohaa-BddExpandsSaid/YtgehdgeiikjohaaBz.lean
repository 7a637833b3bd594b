/- Walks of bdd: what each function returns. Printed by a program out of notes. -/
import Derived.Test.YtgehdgeiikjohaaBy
namespace Go.Proofs.Ytgehdgeiikjohaa
open Go.Vc
open Classical

set_option maxRecDepth 100000 in
set_option maxHeartbeats 4000000 in
theorem quantify_c {V : HV} {al : Bool} {l : List Int} {lv : Value} {F : Bool → Bool → Bool → Bool} {fid : Nat} {fcaps : List Value} {na : Value} {A : Dg} (hA : Fks V na A.N) (hl : Ints .i64 V lv l) (h12 : A.v ≤ 12) (hF : ∀ a b c, F a b c = qF al a b c) (hf : ∀ W, Vc.Sub V W → ∀ b0 b1 b2 : Bool, FnC Try.prog fid (.agg #[.bool b0, .bool b1, .bool b2] :: fcaps) W [] (fun v _ _ => v = .bool (F b0 b1 b2))) :
    FnC Try.prog 68 [(.agg #[(.int .i64 A.v), na, (.int .i64 A.r)]), lv, (Value.func (.func fid) #[] fcaps.toArray)] V [] (RD (qtD A l al) (qtE A l)) := by
 refine fn_intro (N := 64) Try.func68 (by kernel_rfl) rfl rfl rfl (Nat.le_of_ble_eq_true rfl) ?_
 intro w0 D
 have hb := SlS.bound hA
 have hbl := hl.bound
 have hsub := Vc.Sub.refl V
 refine vc_seq ?_
 refine vc_region ?_
 refine ops_box (v := (.agg #[(.int .i64 A.v), na, (.int .i64 A.r)])) (cs := [(.int .i64 A.v), na, (.int .i64 A.r)]) rfl rfl (fun b1 => ?_)
 refine ops_alloc Try.ti24 rfl (fun b2 => ?_)
 refine oq (qv_as (Value.int .i64 0) rfl) ?_
 refine ops_nil ?_
 refine vc_seq ?_
 refine vc_seq ?_
 refine vc_res (σ' := [(Arr 24 b1 [(.int .i64 A.v), na, (.int .i64 A.r)]), (Arr 24 b2 [(Value.int .i64 0), (Value.slice none 0 0), (Value.int .i64 0)])]) rfl ?_
 refine vc_region ?_
 refine oq (qv_ldm (vs := [(.int .i64 A.v), na, (.int .i64 A.r)]) Try.agg24 rfl (inOc (k := 0) rfl) rfl rfl) ?_
 refine ops_lit (n := 1) (s := 3) (cs := [(.int .i64 A.v), na, (.int .i64 A.r)]) Try.underlying83 Try.ti24 (Nat.le_of_ble_eq_true rfl) rfl rfl rfl (Nat.le_of_ble_eq_true rfl) rfl (fun b3 => ?_)
 refine ops_freeze (b := b3) (o := .cells ([(Value.int .i64 (A.v)), na, (Value.int .i64 (A.r))] : List Value).toArray 24 (0, 0)) (σr := [(Arr 24 b1 [(Value.int .i64 (A.v)), na, (Value.int .i64 (A.r))]), (Arr 24 b2 [(Value.int .i64 0), (Value.slice none 0 0), (Value.int .i64 0)])]) (List.perm_middle (l₁ := [(Arr 24 b1 [(Value.int .i64 (A.v)), na, (Value.int .i64 (A.r))]), (Arr 24 b2 [(Value.int .i64 0), (Value.slice none 0 0), (Value.int .i64 0)])]) (l₂ := [])) (fun Vf1 hVf1 hb1 => ?_)
 have hc1 : Cells Vf1 b3 [(.int .i64 A.v), na, (.int .i64 A.r)] := ⟨_, _, hb1⟩
 have hA := hA.mono hVf1
 have hl := hl.mono hVf1
 have hsub := hsub.mono hVf1
 refine oq (qv_call (v := (.int .i64 (vE [A]))) (valid_c (Bdl.one hc1 hA) (by show 1 ≤ 1; omega)) rfl rfl) ?_
 refine oq (qv_as (.int .i64 (vE [A])) rfl) ?_
 refine ops_nil ?_
 refine vc_seq ?_
 refine vc_region ?_
 refine oq (qv_mv (.int .i64 (vE [A])) rfl) ?_
 refine oq (qv_neq rfl rfl) ?_
 refine ops_nil ?_
 refine vc_if rfl (fun c1 => ?_) (fun c1 => ?_)
 ·
  refine vc_seq ?_
  refine vc_region ?_
  refine oq (qv_build (out := [(Value.int .i64 0), (Value.slice none 0 0), (Value.int .i64 0)]) Try.build24 [] rfl rfl) ?_
  refine oq (qv_mv (.int .i64 (vE [A])) rfl) ?_
  refine ops_stw (k := 1) (vs := [(Value.int .i64 0), (Value.slice none 0 0), (Value.int .i64 0)]) Try.size24 rfl rfl rfl rfl rfl rfl ?_
  refine oq (qv_as (.int .i64 (vE [A])) rfl) ?_
  refine ops_nil ?_
  refine vc_freeze (b := b2) (o := .cells ([(Value.int .i64 0), (Value.slice none 0 0), (Value.int .i64 0)] : List Value).toArray 24 (0, 0)) (σr := [(Arr 24 b1 [(Value.int .i64 (A.v)), na, (Value.int .i64 (A.r))])]) (List.perm_middle (l₁ := [(Arr 24 b1 [(Value.int .i64 (A.v)), na, (Value.int .i64 (A.r))])]) (l₂ := [])) (fun Vf2 hVf2 hb2 => ?_)
  have hc2 : Cells Vf2 b2 [(Value.int .i64 0), (Value.slice none 0 0), (Value.int .i64 0)] := ⟨_, _, hb2⟩
  have hA := hA.mono hVf2
  have hl := hl.mono hVf2
  have hsub := hsub.mono hVf2
  have hc1 := hc1.mono hVf2
  refine vc_drop [] [(Arr 24 b1 [(.int .i64 A.v), na, (.int .i64 A.r)])] (.refl _) ?_
  refine vc_ret ?_
  refine rs2 _ (.int .i64 (vE [A])) (rv_c (vs := [(Value.int .i64 0), (Value.slice none 0 0), (Value.int .i64 0)]) Try.agg24 rfl (inVc hc2) rfl rfl) (rv_t rfl) ?_
  obtain ⟨e1, e2⟩ := qt_v (A := A) (l := l) (al := al) (by omega)
  rw [e1, e2]
  exact ⟨rfl, _, rfl, Fks.nil⟩
 ·
  refine vc_skip ?_
  refine vc_seq ?_
  refine vc_seq ?_
  have hz : vE [A] = 0 := by omega
  have hok := ok_of hz
  have hv0 := hok.1.1
  refine vc_region ?_
  refine oq (qv_mv lv rfl) ?_
  refine oq (qv_lenI Try.underlying58 rfl hl) ?_
  refine oq (qv_mv (Value.int .i64 0) rfl) ?_
  refine ops_nil ?_
  refine vc_block ?_
  refine vc_loop (α := Int) (fun (xx : Int) => [(0, (.agg #[(.int .i64 A.v), na, (.int .i64 A.r)])), (1, lv), (2, (Value.func (.func fid) #[] fcaps.toArray)), (3, (Value.pointer (some ⟨b1, 0, none⟩))), (6, (Value.pointer (some ⟨b2, 0, none⟩))), (8, (.int .i64 (vE [A]))), (17, (.bool (decide ((vE [A]) ≠ 0)))), (20, lv), (21, (.int .i64 ((l.length : Int)))), (22, (Value.int .i64 xx))]) (fun (xx : Int) V' σ' => Vf1 = V' ∧ [(Arr 24 b1 [(.int .i64 A.v), na, (.int .i64 A.r)]), (Arr 24 b2 [(Value.int .i64 0), (Value.slice none 0 0), (Value.int .i64 0)])] = σ' ∧ 0 ≤ xx ∧ xx ≤ l.length ∧ ∀ j : Int, 0 ≤ j → j < xx → 0 ≤ gi l j ∧ gi l j < A.v) (fun (xx : Int) => (l.length - xx).toNat) (0) ?_ ?_ ?_
  · exact ⟨rfl, rfl, rfl, rfl, rfl, rfl, rfl, rfl, rfl, rfl, trivial⟩
  · exact ⟨rfl, rfl, by omega, by omega, fun j a b => by omega⟩
  rintro q0 e1 V0l σ0l hI0
  obtain ⟨rfl, rfl, i1, i2, hw⟩ : Vf1 = V0l ∧ [(Arr 24 b1 [(.int .i64 A.v), na, (.int .i64 A.r)]), (Arr 24 b2 [(Value.int .i64 0), (Value.slice none 0 0), (Value.int .i64 0)])] = σ0l ∧ 0 ≤ q0 ∧ q0 ≤ l.length ∧ ∀ j : Int, 0 ≤ j → j < q0 → 0 ≤ gi l j ∧ gi l j < A.v := hI0
  refine vc_seq ?_
  refine vc_region ?_
  refine oq (qv_lss rfl rfl) ?_
  refine ops_nil ?_
  refine vc_seq ?_
  refine vc_if rfl (fun c2 => ?_) (fun c2 => ?_)
  ·
   refine vc_skip ?_
   refine vc_seq ?_
   refine vc_block ?_
   refine vc_seq ?_
   refine vc_region ?_
   refine oq (qv_iai (v := lv) (i := q0) Try.underlying58 Try.size3 rfl (inVi hl) rfl (by omega) (by omega)) ?_
   refine oq (qv_ldi (v := lv) (i := q0) Try.plain3 rfl (inVi hl) (by omega) (by omega)) ?_
   refine oq (qv_as (.int .i64 (gi l (q0))) rfl) ?_
   refine ops_nil ?_
   refine vc_seq ?_
   refine vc_region ?_
   refine oq (qv_mv (.int .i64 (gi l (q0))) rfl) ?_
   refine oq (qv_lss rfl rfl) ?_
   refine oq (qv_mv (.bool (decide ((gi l (q0)) < 0))) rfl) ?_
   by_cases g1 : (gi l (q0)) < 0
   ·
    refine os (want_fn g1 rfl rfl rfl) ?_
    refine os (want_fn g1 rfl rfl rfl) ?_
    refine os (want_fn g1 rfl rfl rfl) ?_
    refine os (want_fn g1 rfl rfl rfl) ?_
    refine oq (qv_pick_t g1 rfl (rfl : ev _ _ = (Value.bool true))) ?_
    refine ops_nil ?_
    refine vc_tt rfl ?_
    refine vc_seq ?_
    refine vc_region ?_
    refine oq (qv_build (out := [(Value.int .i64 0), (Value.slice none 0 0), (Value.int .i64 0)]) Try.build24 [] rfl rfl) ?_
    refine ops_stw (k := 1) (vs := [(Value.int .i64 0), (Value.slice none 0 0), (Value.int .i64 0)]) Try.size24 rfl rfl rfl rfl rfl rfl ?_
    refine oq (qv_as (Value.int .i64 3) rfl) ?_
    refine ops_nil ?_
    refine vc_freeze (b := b2) (o := .cells ([(Value.int .i64 0), (Value.slice none 0 0), (Value.int .i64 0)] : List Value).toArray 24 (0, 0)) (σr := [(Arr 24 b1 [(Value.int .i64 (A.v)), na, (Value.int .i64 (A.r))])]) (List.perm_middle (l₁ := [(Arr 24 b1 [(Value.int .i64 (A.v)), na, (Value.int .i64 (A.r))])]) (l₂ := [])) (fun Vf3 hVf3 hb3 => ?_)
    have hc3 : Cells Vf3 b2 [(Value.int .i64 0), (Value.slice none 0 0), (Value.int .i64 0)] := ⟨_, _, hb3⟩
    have hA := hA.mono hVf3
    have hl := hl.mono hVf3
    have hsub := hsub.mono hVf3
    have hc1 := hc1.mono hVf3
    refine vc_drop [] [(Arr 24 b1 [(.int .i64 A.v), na, (.int .i64 A.r)])] (.refl _) ?_
    refine vc_ret ?_
    refine blockQ_ret ?_
    refine blockQ_ret ?_
    refine rs2 _ (Value.int .i64 3) (rv_c (vs := [(Value.int .i64 0), (Value.slice none 0 0), (Value.int .i64 0)]) Try.agg24 rfl (inVc hc3) rfl rfl) (rv_t rfl) ?_
    obtain ⟨e1, e2⟩ := qt_3 (A := A) (l := l) (al := al) hz (fun z => by have := z q0 (by omega) (by omega); omega)
    rw [e1, e2]
    exact ⟨rfl, _, rfl, Fks.nil⟩
   ·
    refine og (qv_mv (.int .i64 (gi l (q0))) rfl) (want_f g1 rfl rfl rfl) ?_
    refine og (qv_fa (off := 0) Try.field24_0 rfl) (want_f g1 rfl rfl rfl) ?_
    refine og (qv_ldp (v := (.int .i64 A.v)) Try.plain3 rfl (inOc (k := 0) rfl) rfl) (want_f g1 rfl rfl rfl) ?_
    refine og (qv_geq rfl rfl) (want_f g1 rfl rfl rfl) ?_
    refine oq (qv_pick_f g1 rfl (rfl : ev _ _ = (.bool (decide (A.v ≤ (gi l (q0))))))) ?_
    refine ops_nil ?_
    refine vc_if rfl (fun c3 => ?_) (fun c3 => ?_)
    ·
     refine vc_seq ?_
     refine vc_region ?_
     refine oq (qv_build (out := [(Value.int .i64 0), (Value.slice none 0 0), (Value.int .i64 0)]) Try.build24 [] rfl rfl) ?_
     refine ops_stw (k := 1) (vs := [(Value.int .i64 0), (Value.slice none 0 0), (Value.int .i64 0)]) Try.size24 rfl rfl rfl rfl rfl rfl ?_
     refine oq (qv_as (Value.int .i64 3) rfl) ?_
     refine ops_nil ?_
     refine vc_freeze (b := b2) (o := .cells ([(Value.int .i64 0), (Value.slice none 0 0), (Value.int .i64 0)] : List Value).toArray 24 (0, 0)) (σr := [(Arr 24 b1 [(Value.int .i64 (A.v)), na, (Value.int .i64 (A.r))])]) (List.perm_middle (l₁ := [(Arr 24 b1 [(Value.int .i64 (A.v)), na, (Value.int .i64 (A.r))])]) (l₂ := [])) (fun Vf4 hVf4 hb4 => ?_)
     have hc4 : Cells Vf4 b2 [(Value.int .i64 0), (Value.slice none 0 0), (Value.int .i64 0)] := ⟨_, _, hb4⟩
     have hA := hA.mono hVf4
     have hl := hl.mono hVf4
     have hsub := hsub.mono hVf4
     have hc1 := hc1.mono hVf4
     refine vc_drop [] [(Arr 24 b1 [(.int .i64 A.v), na, (.int .i64 A.r)])] (.refl _) ?_
     refine vc_ret ?_
     refine blockQ_ret ?_
     refine blockQ_ret ?_
     refine rs2 _ (Value.int .i64 3) (rv_c (vs := [(Value.int .i64 0), (Value.slice none 0 0), (Value.int .i64 0)]) Try.agg24 rfl (inVc hc4) rfl rfl) (rv_t rfl) ?_
     obtain ⟨e1, e2⟩ := qt_3 (A := A) (l := l) (al := al) hz (fun z => by have := z q0 (by omega) (by omega); omega)
     rw [e1, e2]
     exact ⟨rfl, _, rfl, Fks.nil⟩
    ·
     refine vc_skip ?_
     refine vc_region ?_
     refine oq (qv_add rfl rfl (by omega)) ?_
     refine oq (qv_mv (.int .i64 (q0 + 1)) rfl) ?_
     refine ops_nil ?_
     refine ⟨(q0 + 1), ⟨rfl, rfl, rfl, rfl, rfl, rfl, rfl, rfl, rfl, (congrArg (Value.int .i64) (show (q0 + 1) = ((q0 + 1)) from by omega)), trivial⟩, ⟨rfl, rfl, by omega, by omega, all_snoc hw ⟨by omega, by omega⟩⟩, by omega⟩
  ·
   refine vc_exit ?_
   refine blockQ_hit ?_
   refine vc_seq ?_
   refine vc_seq ?_
   refine vc_region ?_
   refine oq (qv_mv lv rfl) ?_
   refine oq (qv_lenI Try.underlying58 rfl hl) ?_
   refine oq (qv_mv (Value.int .i64 0) rfl) ?_
   refine ops_nil ?_
   refine vc_block ?_
   refine vc_loop (α := Int × Value) (fun (xx : Int × Value) => [(0, (.agg #[(.int .i64 A.v), na, (.int .i64 A.r)])), (1, lv), (2, (Value.func (.func fid) #[] fcaps.toArray)), (3, (Value.pointer (some ⟨b1, 0, none⟩))), (6, (Value.pointer (some ⟨b2, 0, none⟩))), (8, (.int .i64 (vE [A]))), (17, (.bool (decide ((vE [A]) ≠ 0)))), (20, lv), (21, (.int .i64 ((l.length : Int)))), (22, (Value.int .i64 q0)), (23, (.bool (decide (q0 < ((l.length : Int)))))), (36, lv), (37, (.int .i64 ((l.length : Int)))), (38, (Value.int .i64 xx.1))]) (fun (xx : Int × Value) V' σ' => [(Arr 24 b1 [(.int .i64 A.v), xx.2, (.int .i64 ((fD A.v (qgs (gA A) l al xx.1.toNat)).r))]), (Arr 24 b2 [(Value.int .i64 0), (Value.slice none 0 0), (Value.int .i64 0)])] = σ' ∧ Fks V' xx.2 (fD A.v (qgs (gA A) l al xx.1.toNat)).N ∧ Ints .i64 V' lv l ∧ Vc.Sub V V' ∧ 0 ≤ xx.1 ∧ xx.1 ≤ l.length) (fun (xx : Int × Value) => (l.length - xx.1).toNat) (0, na) ?_ ?_ ?_
   · exact ⟨rfl, rfl, rfl, rfl, rfl, rfl, rfl, rfl, rfl, rfl, rfl, rfl, rfl, rfl, trivial⟩
   · exact ⟨(show [(Arr 24 b1 [(.int .i64 A.v), na, (.int .i64 ((fD A.v (qgs (gA A) l al (0 : Int).toNat)).r))]), (Arr 24 b2 [(Value.int .i64 0), (Value.slice none 0 0), (Value.int .i64 0)])] = [(Arr 24 b1 [(.int .i64 A.v), na, (.int .i64 A.r)]), (Arr 24 b2 [(Value.int .i64 0), (Value.slice none 0 0), (Value.int .i64 0)])] from by rw [show (fD A.v (qgs (gA A) l al (Int.toNat 0))) = A from ok_fD hok]), by show Fks _ na (fD A.v (gA A)).N; rw [ok_fD hok]; exact hA, hl, hsub, by omega, by omega⟩
   rintro ⟨n, uq⟩ e2 V1l σ1l hI1
   obtain ⟨rfl, hQ, hl, hsub, i3, i4⟩ : [(Arr 24 b1 [(.int .i64 A.v), uq, (.int .i64 ((fD A.v (qgs (gA A) l al n.toNat)).r))]), (Arr 24 b2 [(Value.int .i64 0), (Value.slice none 0 0), (Value.int .i64 0)])] = σ1l ∧ Fks V1l uq (fD A.v (qgs (gA A) l al n.toNat)).N ∧ Ints .i64 V1l lv l ∧ Vc.Sub V V1l ∧ 0 ≤ n ∧ n ≤ l.length := hI1
   change VC _ _ _ _ _ _ (upds 64 [(0, (.agg #[(.int .i64 A.v), na, (.int .i64 A.r)])), (1, lv), (2, (Value.func (.func fid) #[] fcaps.toArray)), (3, (Value.pointer (some ⟨b1, 0, none⟩))), (6, (Value.pointer (some ⟨b2, 0, none⟩))), (8, (.int .i64 (vE [A]))), (17, (.bool (decide ((vE [A]) ≠ 0)))), (20, lv), (21, (.int .i64 ((l.length : Int)))), (22, (Value.int .i64 q0)), (23, (.bool (decide (q0 < ((l.length : Int)))))), (36, lv), (37, (.int .i64 ((l.length : Int)))), (38, (Value.int .i64 n))] e2) _ _
   refine vc_seq ?_
   refine vc_res (σ' := [(Arr 24 b1 [(.int .i64 A.v), uq, (.int .i64 ((fD A.v (qgs (gA A) l al n.toNat)).r))]), (Arr 24 b2 [(Value.int .i64 0), (Value.slice none 0 0), (Value.int .i64 0)])]) rfl ?_
   refine vc_region ?_
   refine oq (qv_lss rfl rfl) ?_
   refine ops_nil ?_
   refine vc_seq ?_
   refine vc_if rfl (fun c4 => ?_) (fun c4 => ?_)
   ·
    refine vc_skip ?_
    refine vc_seq ?_
    refine vc_block ?_
    refine vc_seq ?_
    refine vc_region ?_
    refine oq (qv_iai (v := lv) (i := n) Try.underlying58 Try.size3 rfl (inVi hl) rfl (by omega) (by omega)) ?_
    refine oq (qv_ldi (v := lv) (i := n) Try.plain3 rfl (inVi hl) (by omega) (by omega)) ?_
    refine oq (qv_as (.int .i64 (gi l (n))) rfl) ?_
    refine ops_nil ?_
    refine vc_seq ?_
    have hqo := fD_ok hv0 h12 (qgs (gA A) l al n.toNat)
    have hcm : Cmb A.v [rsD (fD A.v (qgs (gA A) l al n.toNat)) (gi l n) false, rsD (fD A.v (qgs (gA A) l al n.toNat)) (gi l n) true] := cmb_of (by show 1 ≤ 2; omega) (by show 2 ≤ 3; omega) (vE_rs (i := gi l n) hqo h12)
    refine vc_region_order (τ := []) [(0, false), (1, false), (3, false), (4, false), (7, false), (2, true), (5, true), (6, true), (8, true), (9, true)] [(Arr 24 b1 [(.int .i64 A.v), uq, (.int .i64 ((fD A.v (qgs (gA A) l al n.toNat)).r))]), (Arr 24 b2 [(Value.int .i64 0), (Value.slice none 0 0), (Value.int .i64 0)])] Try.mixed (perm_nil _) (by kernel_rfl) ?_
    refine rq rfl (qv_ldm (vs := [(.int .i64 A.v), uq, (.int .i64 ((fD A.v (qgs (gA A) l al n.toNat)).r))]) Try.agg24 rfl (inOc (k := 0) rfl) rfl rfl) ?_
    refine rq rfl (qv_mv (.int .i64 (gi l (n))) rfl) ?_
    refine rq rfl (qv_ldm (vs := [(.int .i64 A.v), uq, (.int .i64 ((fD A.v (qgs (gA A) l al n.toNat)).r))]) Try.agg24 rfl (inOc (k := 0) rfl) rfl rfl) ?_
    refine rq rfl (qv_mv (.int .i64 (gi l (n))) rfl) ?_
    refine rq rfl (qv_mv (Value.func (.func fid) #[] fcaps.toArray) rfl) ?_
    refine rl rfl ?_
    refine ops_call (σa := []) (σr := [(Arr 24 b1 [(.int .i64 A.v), uq, (.int .i64 ((fD A.v (qgs (gA A) l al n.toNat)).r))]), (Arr 24 b2 [(Value.int .i64 0), (Value.slice none 0 0), (Value.int .i64 0)])]) (restrict_c (A := (fD A.v (qgs (gA A) l al n.toNat))) (i := gi l n) (b := false) hQ hqo.2.2.1 hqo.1) rfl rfl (.refl _) (fun r1 V1 sg1 hV1 hp1 => ?_)
    obtain ⟨rfl, u1, rfl, hN1⟩ := hp1
    have hl := hl.mono hV1
    have hsub := hsub.mono hV1
    have hQ := hQ.mono hV1
    refine ops_nil ⟨[(Arr 24 b1 [(.int .i64 A.v), uq, (.int .i64 ((fD A.v (qgs (gA A) l al n.toNat)).r))]), (Arr 24 b2 [(Value.int .i64 0), (Value.slice none 0 0), (Value.int .i64 0)])], [], hV1, perm_nil _, ⟨[], (.refl _)⟩, ?_⟩
    refine rl rfl ?_
    refine ops_call (σa := []) (σr := [(Arr 24 b1 [(.int .i64 A.v), uq, (.int .i64 ((fD A.v (qgs (gA A) l al n.toNat)).r))]), (Arr 24 b2 [(Value.int .i64 0), (Value.slice none 0 0), (Value.int .i64 0)])]) (restrict_c (A := (fD A.v (qgs (gA A) l al n.toNat))) (i := gi l n) (b := true) hQ hqo.2.2.1 hqo.1) rfl rfl (.refl _) (fun r2 V2 sg2 hV2 hp2 => ?_)
    obtain ⟨rfl, u2, rfl, hN2⟩ := hp2
    have hl := hl.mono hV2
    have hsub := hsub.mono hV2
    have hQ := hQ.mono hV2
    have hN1 := hN1.mono hV2
    refine ops_nil ⟨[(Arr 24 b1 [(.int .i64 A.v), uq, (.int .i64 ((fD A.v (qgs (gA A) l al n.toNat)).r))]), (Arr 24 b2 [(Value.int .i64 0), (Value.slice none 0 0), (Value.int .i64 0)])], [], hV2, perm_nil _, ⟨[], (.refl _)⟩, ?_⟩
    refine rl rfl ?_
    refine ops_lit (n := 2) (s := 3) (cs := [(.int .i64 A.v), u1, (.int .i64 ((rsD (fD A.v (qgs (gA A) l al n.toNat)) (gi l n) false).r)), (.int .i64 A.v), u2, (.int .i64 ((rsD (fD A.v (qgs (gA A) l al n.toNat)) (gi l n) true).r))]) Try.underlying83 Try.ti24 (Nat.le_of_ble_eq_true rfl) rfl rfl rfl (Nat.le_of_ble_eq_true rfl) rfl (fun b4 => ?_)
    refine ops_nil ⟨[(Arr 24 b1 [(.int .i64 A.v), uq, (.int .i64 ((fD A.v (qgs (gA A) l al n.toNat)).r))]), (Arr 24 b2 [(Value.int .i64 0), (Value.slice none 0 0), (Value.int .i64 0)])], [(Arr 24 b4 [(.int .i64 A.v), u1, (.int .i64 ((rsD (fD A.v (qgs (gA A) l al n.toNat)) (gi l n) false).r)), (.int .i64 A.v), u2, (.int .i64 ((rsD (fD A.v (qgs (gA A) l al n.toNat)) (gi l n) true).r))])], (Sub.refl _), (perm_idx _ _ [0, 1, 2] rfl rfl), ⟨[], .refl _⟩, ?_⟩
    refine rl rfl ?_
    refine ops_freeze (b := b4) (o := .cells ([(Value.int .i64 (A.v)), u1, (Value.int .i64 ((rsD (fD A.v (qgs (gA A) l al n.toNat)) (gi l n) false).r)), (Value.int .i64 (A.v)), u2, (Value.int .i64 ((rsD (fD A.v (qgs (gA A) l al n.toNat)) (gi l n) true).r))] : List Value).toArray 24 (0, 0)) (σr := [(Arr 24 b1 [(Value.int .i64 (A.v)), uq, (Value.int .i64 ((fD A.v (qgs (gA A) l al n.toNat)).r))]), (Arr 24 b2 [(Value.int .i64 0), (Value.slice none 0 0), (Value.int .i64 0)])]) (List.perm_middle (l₁ := [(Arr 24 b1 [(Value.int .i64 (A.v)), uq, (Value.int .i64 ((fD A.v (qgs (gA A) l al n.toNat)).r))]), (Arr 24 b2 [(Value.int .i64 0), (Value.slice none 0 0), (Value.int .i64 0)])]) (l₂ := [])) (fun Vf5 hVf5 hb5 => ?_)
    have hc5 : Cells Vf5 b4 [(.int .i64 A.v), u1, (.int .i64 ((rsD (fD A.v (qgs (gA A) l al n.toNat)) (gi l n) false).r)), (.int .i64 A.v), u2, (.int .i64 ((rsD (fD A.v (qgs (gA A) l al n.toNat)) (gi l n) true).r))] := ⟨_, _, hb5⟩
    have hl := hl.mono hVf5
    have hsub := hsub.mono hVf5
    have hQ := hQ.mono hVf5
    have hN1 := hN1.mono hVf5
    have hN2 := hN2.mono hVf5
    refine ops_call (σa := []) (σr := [(Arr 24 b1 [(.int .i64 A.v), uq, (.int .i64 ((fD A.v (qgs (gA A) l al n.toNat)).r))]), (Arr 24 b2 [(Value.int .i64 0), (Value.slice none 0 0), (Value.int .i64 0)])]) (combine_c (vars := A.v) (Ds := [rsD (fD A.v (qgs (gA A) l al n.toNat)) (gi l n) false, rsD (fD A.v (qgs (gA A) l al n.toNat)) (gi l n) true]) (F := F) (fid := fid) (fcaps := fcaps) (Bdl.two hc5 hN1 hN2) hcm.ok (by show 1 ≤ 2; omega) hcm.v hcm.r (fun W q => hf W (hsub.trans q))) rfl rfl (.refl _) (fun r3 V3 sg3 hV3 hp3 => ?_)
    obtain ⟨rfl, u3, rfl, hN3⟩ := hp3
    have hl := hl.mono hV3
    have hsub := hsub.mono hV3
    have hQ := hQ.mono hV3
    have hN1 := hN1.mono hV3
    have hN2 := hN2.mono hV3
    have hc5 := hc5.mono hV3
    refine ops_nil ⟨[(Arr 24 b1 [(.int .i64 A.v), uq, (.int .i64 ((fD A.v (qgs (gA A) l al n.toNat)).r))]), (Arr 24 b2 [(Value.int .i64 0), (Value.slice none 0 0), (Value.int .i64 0)])], [], (hVf5.trans hV3), (perm_nil _), ⟨[], .refl _⟩, ?_⟩
    refine rl1 (by kernel_rfl) rfl ?_
    refine ops_stw (k := 0) (vs := [(.int .i64 A.v), u3, (.int .i64 ((cmD A.v [rsD (fD A.v (qgs (gA A) l al n.toNat)) (gi l n) false, rsD (fD A.v (qgs (gA A) l al n.toNat)) (gi l n) true] F).r))]) Try.size24 rfl rfl rfl (allc rfl (allc (SlS.one hN3) (allc rfl rfl))) rfl rfl ?_
    refine ops_nil ⟨[(Arr 24 b1 [(.int .i64 A.v), u3, (.int .i64 ((cmD A.v [rsD (fD A.v (qgs (gA A) l al n.toNat)) (gi l n) false, rsD (fD A.v (qgs (gA A) l al n.toNat)) (gi l n) true] F).r))]), (Arr 24 b2 [(Value.int .i64 0), (Value.slice none 0 0), (Value.int .i64 0)])], [], perm_nil _, ?_⟩
    refine rnil ?_
    refine vc_seq ?_
    refine vc_res (σ' := [(Arr 24 b1 [(.int .i64 A.v), u3, (.int .i64 ((cmD A.v [rsD (fD A.v (qgs (gA A) l al n.toNat)) (gi l n) false, rsD (fD A.v (qgs (gA A) l al n.toNat)) (gi l n) true] F).r))]), (Arr 24 b2 [(Value.int .i64 0), (Value.slice none 0 0), (Value.int .i64 0)])]) rfl ?_
    have hsm := cmb_small (Ds := [rsD (fD A.v (qgs (gA A) l al n.toNat)) (gi l n) false, rsD (fD A.v (qgs (gA A) l al n.toNat)) (gi l n) true]) (F := F) h12
    refine vc_region ?_
    refine oq (qv_fa (off := 0) Try.field24_1 rfl) ?_
    refine oq (qv_ldp (v := u3) Try.plain22 rfl (inOc (k := 0) rfl) rfl) ?_
    refine oq (qv_lenSS Try.underlying22 rfl hN3) ?_
    refine oq (qv_gtr rfl rfl) ?_
    refine ops_nil ?_
    refine vc_if rfl (fun c5 => ?_) (fun c5 => ?_)
    ·
     exact absurd (show ((cmb A.v [rsD (fD A.v (qgs (gA A) l al n.toNat)) (gi l n) false, rsD (fD A.v (qgs (gA A) l al n.toNat)) (gi l n) true] F).1.length : Int) ≤ 4096 by omega) (Int.not_le.2 c5)
    ·
     refine vc_skip ?_
     refine vc_region ?_
     refine oq (qv_add rfl rfl (by omega)) ?_
     refine oq (qv_mv (.int .i64 (n + 1)) rfl) ?_
     refine ops_nil ?_
     refine ⟨(n + 1, u3), ⟨rfl, rfl, rfl, rfl, rfl, rfl, rfl, rfl, rfl, rfl, rfl, rfl, rfl, (congrArg (Value.int .i64) (show (n + 1) = ((n + 1)) from by omega)), trivial⟩, ⟨(show [(Arr 24 b1 [(.int .i64 A.v), u3, (.int .i64 ((fD A.v (qgs (gA A) l al (n + 1 : Int).toNat)).r))]), (Arr 24 b2 [(Value.int .i64 0), (Value.slice none 0 0), (Value.int .i64 0)])] = [(Arr 24 b1 [(.int .i64 A.v), u3, (.int .i64 ((cmD A.v [rsD (fD A.v (qgs (gA A) l al n.toNat)) (gi l n) false, rsD (fD A.v (qgs (gA A) l al n.toNat)) (gi l n) true] F).r))]), (Arr 24 b2 [(Value.int .i64 0), (Value.slice none 0 0), (Value.int .i64 0)])] from by rw [show (fD A.v (qgs (gA A) l al (n + 1).toNat)).r = (cmD A.v [rsD (fD A.v (qgs (gA A) l al n.toNat)) (gi l n) false, rsD (fD A.v (qgs (gA A) l al n.toNat)) (gi l n) true] F).r from congrArg Prod.snd (q_step hok h12 hF (by omega)).symm]), by show Fks _ u3 (cF A.v (qgs (gA A) l al (n + 1).toNat)).1; rw [← q_step hok h12 hF (by omega)]; exact hN3, hl, hsub, by omega, by omega⟩, by omega⟩
   ·
    refine vc_exit ?_
    refine blockQ_hit ?_
    refine vc_seq ?_
    have hqo := fD_ok hv0 h12 (qgs (gA A) l al n.toNat)
    refine vc_region ?_
    refine oq (qv_fa (off := 0) Try.field24_0 rfl) ?_
    refine oq (qv_ldp (v := (.int .i64 A.v)) Try.plain3 rfl (inOc (k := 0) rfl) rfl) ?_
    refine oq (qv_fa (off := 0) Try.field24_1 rfl) ?_
    refine oq (qv_ldp (v := uq) Try.plain22 rfl (inOc (k := 0) rfl) rfl) ?_
    refine oq (qv_fa (off := 0) Try.field24_2 rfl) ?_
    refine oq (qv_ldp (v := (.int .i64 ((fD A.v (qgs (gA A) l al n.toNat)).r))) Try.plain3 rfl (inOc (k := 0) rfl) rfl) ?_
    refine ops_call (σa := []) (σr := [(Arr 24 b1 [(.int .i64 A.v), uq, (.int .i64 ((fD A.v (qgs (gA A) l al n.toNat)).r))]), (Arr 24 b2 [(Value.int .i64 0), (Value.slice none 0 0), (Value.int .i64 0)])]) (by have h := lay_c (vars := A.v) hQ hqo.2.2.1.1 hqo.2.2.1.rf (by have := hqo.2.1; omega); rw [show layF (fD A.v (qgs (gA A) l al n.toNat)).N (fD A.v (qgs (gA A) l al n.toNat)).r = ((fD A.v (qgs (gA A) l al n.toNat)).N, (fD A.v (qgs (gA A) l al n.toNat)).r) from cF_lay hok.1.1 (qgs (gA A) l al n.toNat)] at h; exact h) rfl rfl (.refl _) (fun r4 V4 sg4 hV4 hp4 => ?_)
    obtain ⟨rfl, u9, rfl, hN9⟩ := hp4
    have hl := hl.mono hV4
    have hsub := hsub.mono hV4
    have hQ := hQ.mono hV4
    refine ops_stw (k := 1) (vs := [(.int .i64 A.v), u9, (.int .i64 ((fD A.v (qgs (gA A) l al n.toNat)).r))]) Try.size24 rfl rfl rfl (allc rfl (allc (SlS.one hN9) (allc rfl rfl))) rfl rfl ?_
    refine oq (qv_as (Value.int .i64 0) rfl) ?_
    refine ops_nil ?_
    refine vc_freeze (b := b2) (o := .cells ([(Value.int .i64 (A.v)), u9, (Value.int .i64 ((fD A.v (qgs (gA A) l al n.toNat)).r))] : List Value).toArray 24 (0, 0)) (σr := [(Arr 24 b1 [(Value.int .i64 (A.v)), uq, (Value.int .i64 ((fD A.v (qgs (gA A) l al n.toNat)).r))])]) (List.perm_middle (l₁ := [(Arr 24 b1 [(Value.int .i64 (A.v)), uq, (Value.int .i64 ((fD A.v (qgs (gA A) l al n.toNat)).r))])]) (l₂ := [])) (fun Vf6 hVf6 hb6 => ?_)
    have hc6 : Cells Vf6 b2 [(.int .i64 A.v), u9, (.int .i64 ((fD A.v (qgs (gA A) l al n.toNat)).r))] := ⟨_, _, hb6⟩
    have hl := hl.mono hVf6
    have hsub := hsub.mono hVf6
    have hQ := hQ.mono hVf6
    have hN9 := hN9.mono hVf6
    refine vc_drop [] [(Arr 24 b1 [(.int .i64 A.v), uq, (.int .i64 ((fD A.v (qgs (gA A) l al n.toNat)).r))])] (.refl _) ?_
    refine vc_ret ?_
    refine rs2 _ (Value.int .i64 0) (rv_c (vs := [(.int .i64 A.v), u9, (.int .i64 ((fD A.v (qgs (gA A) l al n.toNat)).r))]) Try.agg24 rfl (inVc hc6) rfl rfl) (rv_t rfl) ?_
    obtain ⟨e1, e2⟩ := qt_0 (A := A) (l := l) (al := al) hz (fun j a b => hw j a (by omega))
    rw [e1, e2, show l.length = n.toNat by omega]
    exact ⟨rfl, u9, rfl, hN9⟩

set_option maxRecDepth 100000 in
set_option maxHeartbeats 4000000 in
theorem Exists_c {V : HV} {l : List Int} {lv : Value} {na : Value} {A : Dg} (hA : Fks V na A.N) (hl : Ints .i64 V lv l) (h12 : A.v ≤ 12) :
    FnC Try.prog 36 [(.agg #[(.int .i64 A.v), na, (.int .i64 A.r)]), lv] V [] (RD (qtD A l false) (qtE A l)) := by
 refine fn_intro (N := 11) Try.func36 (by kernel_rfl) rfl rfl rfl (Nat.le_of_ble_eq_true rfl) ?_
 intro w0 D
 refine vc_seq ?_
 refine vc_region ?_
 refine ops_box (v := (.agg #[(.int .i64 A.v), na, (.int .i64 A.r)])) (cs := [(.int .i64 A.v), na, (.int .i64 A.r)]) rfl rfl (fun b1 => ?_)
 refine ops_alloc Try.ti24 rfl (fun b2 => ?_)
 refine oq (qv_as (Value.int .i64 0) rfl) ?_
 refine ops_nil ?_
 refine vc_seq ?_
 refine vc_res (σ' := [(Arr 24 b1 [(.int .i64 A.v), na, (.int .i64 A.r)]), (Arr 24 b2 [(Value.int .i64 0), (Value.slice none 0 0), (Value.int .i64 0)])]) rfl ?_
 refine vc_region ?_
 refine oq (qv_ldm (vs := [(.int .i64 A.v), na, (.int .i64 A.r)]) Try.agg24 rfl (inOc (k := 0) rfl) rfl rfl) ?_
 refine oq (qv_mv lv rfl) ?_
 refine ops_call (σa := []) (σr := [(Arr 24 b1 [(.int .i64 A.v), na, (.int .i64 A.r)]), (Arr 24 b2 [(Value.int .i64 0), (Value.slice none 0 0), (Value.int .i64 0)])]) (quantify_c (al := false) (F := orF) (fid := 69) (fcaps := []) hA hl h12 (fun a b c => rfl) (fun W s b0 b1 b2 => by have h := Exists1_c (V := W) (p0 := b0 = true) (p1 := b1 = true) (p2 := b2 = true); simp only [Bool.decide_eq_true] at h; exact h)) rfl rfl (.refl _) (fun r1 V1 sg1 hV1 hp1 => ?_)
 obtain ⟨rfl, u1, rfl, hN1⟩ := hp1
 have hA := hA.mono hV1
 have hl := hl.mono hV1
 refine oq (qv_ext (.agg #[(.int .i64 ((qtD A l false).v)), u1, (.int .i64 ((qtD A l false).r))]) rfl rfl) ?_
 refine oq (qv_ext (.int .i64 (qtE A l)) rfl rfl) ?_
 refine ops_stw (k := 1) (vs := [(.int .i64 ((qtD A l false).v)), u1, (.int .i64 ((qtD A l false).r))]) Try.size24 rfl rfl rfl (allc rfl (allc (SlS.one hN1) (allc rfl rfl))) rfl rfl ?_
 refine oq (qv_as (.int .i64 (qtE A l)) rfl) ?_
 refine ops_nil ?_
 refine vc_freeze (b := b2) (o := .cells ([(Value.int .i64 ((qtD A l false).v)), u1, (Value.int .i64 ((qtD A l false).r))] : List Value).toArray 24 (0, 0)) (σr := [(Arr 24 b1 [(Value.int .i64 (A.v)), na, (Value.int .i64 (A.r))])]) (List.perm_middle (l₁ := [(Arr 24 b1 [(Value.int .i64 (A.v)), na, (Value.int .i64 (A.r))])]) (l₂ := [])) (fun Vf1 hVf1 hb1 => ?_)
 have hc1 : Cells Vf1 b2 [(.int .i64 ((qtD A l false).v)), u1, (.int .i64 ((qtD A l false).r))] := ⟨_, _, hb1⟩
 have hA := hA.mono hVf1
 have hl := hl.mono hVf1
 have hN1 := hN1.mono hVf1
 refine vc_drop [] [(Arr 24 b1 [(.int .i64 A.v), na, (.int .i64 A.r)])] (.refl _) ?_
 refine vc_ret ?_
 refine rs2 _ (.int .i64 (qtE A l)) (rv_c (vs := [(.int .i64 ((qtD A l false).v)), u1, (.int .i64 ((qtD A l false).r))]) Try.agg24 rfl (inVc hc1) rfl rfl) (rv_t rfl) ?_
 exact ⟨rfl, u1, rfl, hN1⟩

set_option maxRecDepth 100000 in
set_option maxHeartbeats 4000000 in
theorem Forall_c {V : HV} {l : List Int} {lv : Value} {na : Value} {A : Dg} (hA : Fks V na A.N) (hl : Ints .i64 V lv l) (h12 : A.v ≤ 12) :
    FnC Try.prog 37 [(.agg #[(.int .i64 A.v), na, (.int .i64 A.r)]), lv] V [] (RD (qtD A l true) (qtE A l)) := by
 refine fn_intro (N := 11) Try.func37 (by kernel_rfl) rfl rfl rfl (Nat.le_of_ble_eq_true rfl) ?_
 intro w0 D
 refine vc_seq ?_
 refine vc_region ?_
 refine ops_box (v := (.agg #[(.int .i64 A.v), na, (.int .i64 A.r)])) (cs := [(.int .i64 A.v), na, (.int .i64 A.r)]) rfl rfl (fun b1 => ?_)
 refine ops_alloc Try.ti24 rfl (fun b2 => ?_)
 refine oq (qv_as (Value.int .i64 0) rfl) ?_
 refine ops_nil ?_
 refine vc_seq ?_
 refine vc_res (σ' := [(Arr 24 b1 [(.int .i64 A.v), na, (.int .i64 A.r)]), (Arr 24 b2 [(Value.int .i64 0), (Value.slice none 0 0), (Value.int .i64 0)])]) rfl ?_
 refine vc_region ?_
 refine oq (qv_ldm (vs := [(.int .i64 A.v), na, (.int .i64 A.r)]) Try.agg24 rfl (inOc (k := 0) rfl) rfl rfl) ?_
 refine oq (qv_mv lv rfl) ?_
 refine ops_call (σa := []) (σr := [(Arr 24 b1 [(.int .i64 A.v), na, (.int .i64 A.r)]), (Arr 24 b2 [(Value.int .i64 0), (Value.slice none 0 0), (Value.int .i64 0)])]) (quantify_c (al := true) (F := andF) (fid := 70) (fcaps := []) hA hl h12 (fun a b c => rfl) (fun W s b0 b1 b2 => by have h := Forall1_c (V := W) (p0 := b0 = true) (p1 := b1 = true) (p2 := b2 = true); simp only [Bool.decide_eq_true] at h; exact h)) rfl rfl (.refl _) (fun r1 V1 sg1 hV1 hp1 => ?_)
 obtain ⟨rfl, u1, rfl, hN1⟩ := hp1
 have hA := hA.mono hV1
 have hl := hl.mono hV1
 refine oq (qv_ext (.agg #[(.int .i64 ((qtD A l true).v)), u1, (.int .i64 ((qtD A l true).r))]) rfl rfl) ?_
 refine oq (qv_ext (.int .i64 (qtE A l)) rfl rfl) ?_
 refine ops_stw (k := 1) (vs := [(.int .i64 ((qtD A l true).v)), u1, (.int .i64 ((qtD A l true).r))]) Try.size24 rfl rfl rfl (allc rfl (allc (SlS.one hN1) (allc rfl rfl))) rfl rfl ?_
 refine oq (qv_as (.int .i64 (qtE A l)) rfl) ?_
 refine ops_nil ?_
 refine vc_freeze (b := b2) (o := .cells ([(Value.int .i64 ((qtD A l true).v)), u1, (Value.int .i64 ((qtD A l true).r))] : List Value).toArray 24 (0, 0)) (σr := [(Arr 24 b1 [(Value.int .i64 (A.v)), na, (Value.int .i64 (A.r))])]) (List.perm_middle (l₁ := [(Arr 24 b1 [(Value.int .i64 (A.v)), na, (Value.int .i64 (A.r))])]) (l₂ := [])) (fun Vf1 hVf1 hb1 => ?_)
 have hc1 : Cells Vf1 b2 [(.int .i64 ((qtD A l true).v)), u1, (.int .i64 ((qtD A l true).r))] := ⟨_, _, hb1⟩
 have hA := hA.mono hVf1
 have hl := hl.mono hVf1
 have hN1 := hN1.mono hVf1
 refine vc_drop [] [(Arr 24 b1 [(.int .i64 A.v), na, (.int .i64 A.r)])] (.refl _) ?_
 refine vc_ret ?_
 refine rs2 _ (.int .i64 (qtE A l)) (rv_c (vs := [(.int .i64 ((qtD A l true).v)), u1, (.int .i64 ((qtD A l true).r))]) Try.agg24 rfl (inVc hc1) rfl rfl) (rv_t rfl) ?_
 exact ⟨rfl, u1, rfl, hN1⟩

end Go.Proofs.Ytgehdgeiikjohaa
