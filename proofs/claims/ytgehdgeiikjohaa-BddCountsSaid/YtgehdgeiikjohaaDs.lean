/- Walks of bdd: what each function returns. Printed by a program out of notes. -/
import Derived.Test.YtgehdgeiikjohaaDr
import Derived.Test.YtgehdgeiikjohaaBdR
namespace Go.Proofs.Ytgehdgeiikjohaa
open Go.Vc
open Classical

set_option maxRecDepth 100000 in
set_option maxHeartbeats 4000000 in
theorem First_c {V : HV} {na : Value} {A : Dg} (hA : Fks V na A.N) :
    FnC Try.prog 44 [(.agg #[(.int .i64 A.v), na, (.int .i64 A.r)])] V [] (fun v V' σ' => σ' = [] ∧ ∃ u, v = .tuple #[u, .int .i64 (fiE A)] ∧ Bls V' u (fiT A)) := by
 refine fn_intro (N := 48) Try.func44 (by kernel_rfl) rfl rfl rfl (Nat.le_of_ble_eq_true rfl) ?_
 intro w0 D
 have hb := SlS.bound hA
 refine vc_seq ?_
 refine vc_region ?_
 refine ops_box (v := (.agg #[(.int .i64 A.v), na, (.int .i64 A.r)])) (cs := [(.int .i64 A.v), na, (.int .i64 A.r)]) rfl rfl (fun b1 => ?_)
 refine oq (qv_as (Value.slice none 0 0) rfl) ?_
 refine oq (qv_as (Value.int .i64 0) rfl) ?_
 refine ops_nil ?_
 refine vc_seq ?_
 refine vc_seq ?_
 refine vc_res (σ' := [(Arr 24 b1 [(.int .i64 A.v), na, (.int .i64 A.r)])]) rfl ?_
 refine vc_region ?_
 refine oq (qv_ldm (vs := [(.int .i64 A.v), na, (.int .i64 A.r)]) Try.agg24 rfl (inOc (k := 0) rfl) rfl rfl) ?_
 refine ops_lit (n := 1) (s := 3) (cs := [(.int .i64 A.v), na, (.int .i64 A.r)]) Try.underlying83 Try.ti24 (Nat.le_of_ble_eq_true rfl) rfl rfl rfl (Nat.le_of_ble_eq_true rfl) rfl (fun b2 => ?_)
 refine ops_freeze (b := b2) (o := .cells ([(Value.int .i64 (A.v)), na, (Value.int .i64 (A.r))] : List Value).toArray 24 (0, 0)) (σr := [(Arr 24 b1 [(Value.int .i64 (A.v)), na, (Value.int .i64 (A.r))])]) (List.perm_middle (l₁ := [(Arr 24 b1 [(Value.int .i64 (A.v)), na, (Value.int .i64 (A.r))])]) (l₂ := [])) (fun Vf1 hVf1 hb1 => ?_)
 have hc1 : Cells Vf1 b2 [(.int .i64 A.v), na, (.int .i64 A.r)] := ⟨_, _, hb1⟩
 have hA := hA.mono hVf1
 refine oq (qv_call (v := (.int .i64 (vE [A]))) (valid_c (Bdl.one hc1 hA) (by show 1 ≤ 1; omega)) rfl rfl) ?_
 refine oq (qv_as (.int .i64 (vE [A])) rfl) ?_
 refine ops_nil ?_
 refine vc_seq ?_
 refine vc_region ?_
 refine oq (qv_mv (.int .i64 (vE [A])) rfl) ?_
 refine oq (qv_neq rfl rfl) ?_
 refine ops_nil ?_
 refine vc_if rfl (fun c1 => ?_) (fun c1 => ?_)
 ·
  refine vc_seq ?_
  refine vc_region ?_
  refine oq (qv_mv (.int .i64 (vE [A])) rfl) ?_
  refine oq (qv_as (Value.slice none 0 0) rfl) ?_
  refine oq (qv_as (.int .i64 (vE [A])) rfl) ?_
  refine ops_nil ?_
  refine vc_drop [] [(Arr 24 b1 [(.int .i64 A.v), na, (.int .i64 A.r)])] (.refl _) ?_
  refine vc_ret ?_
  refine rq2 (Value.slice none 0 0) (.int .i64 (vE [A])) rfl rfl ?_
  obtain ⟨e1, e2⟩ := fi_v (A := A) (by omega)
  rw [e1, e2]
  exact ⟨rfl, _, rfl, Bls.nil⟩
 ·
  refine vc_skip ?_
  refine vc_seq ?_
  refine vc_seq ?_
  have hz : vE [A] = 0 := by omega
  have hok := ok_of hz
  have hf := hok.2.2.1.1
  have hv0 := hok.1.1
  have hv40 := hok.1.2
  refine vc_region ?_
  refine oq (qv_fa (off := 0) Try.field24_2 rfl) ?_
  refine oq (qv_ldp (v := (.int .i64 A.r)) Try.plain3 rfl (inOc (k := 0) rfl) rfl) ?_
  refine oq (qv_eql rfl rfl) ?_
  refine ops_nil ?_
  refine vc_if rfl (fun c2 => ?_) (fun c2 => ?_)
  ·
   refine vc_seq ?_
   refine vc_region ?_
   refine oq (qv_as (Value.slice none 0 0) rfl) ?_
   refine oq (qv_as (Value.int .i64 11) rfl) ?_
   refine ops_nil ?_
   refine vc_drop [] [(Arr 24 b1 [(.int .i64 A.v), na, (.int .i64 A.r)])] (.refl _) ?_
   refine vc_ret ?_
   refine rq2 (Value.slice none 0 0) (Value.int .i64 11) rfl rfl ?_
   obtain ⟨e1, e2⟩ := fi_11 (A := A) hz (by omega)
   rw [e1, e2]
   exact ⟨rfl, _, rfl, Bls.nil⟩
  ·
   refine vc_skip ?_
   refine vc_seq ?_
   refine vc_region ?_
   refine oq (qv_fa (off := 0) Try.field24_0 rfl) ?_
   refine oq (qv_ldp (v := (.int .i64 A.v)) Try.plain3 rfl (inOc (k := 0) rfl) rfl) ?_
   refine ops_make (n := A.v) Try.underlying34 Try.ti4 rfl rfl rfl rfl (by omega) (by omega) (by omega) (fun b3 => ?_)
   refine oq (qv_as (.slice (some ⟨b3, 0, none⟩) (A.v).toNat (A.v).toNat) rfl) ?_
   refine ops_nil ?_
   refine vc_seq ?_
   refine vc_seq ?_
   refine vc_res (σ' := [(Arr 24 b1 [(.int .i64 A.v), na, (.int .i64 A.r)]), (Arr 4 b3 (List.replicate (A.v).toNat (Value.bool false)))]) rfl ?_
   refine vc_region ?_
   refine oq (qv_fa (off := 0) Try.field24_2 rfl) ?_
   refine oq (qv_ldp (v := (.int .i64 A.r)) Try.plain3 rfl (inOc (k := 0) rfl) rfl) ?_
   refine oq (qv_as (.int .i64 A.r) rfl) ?_
   refine ops_nil ?_
   refine vc_block ?_
   refine vc_loopD (α := Int × (Int → Bool)) (fun (xx : Int × (Int → Bool)) => [(0, (.agg #[(.int .i64 A.v), na, (.int .i64 A.r)])), (1, (Value.pointer (some ⟨b1, 0, none⟩))), (2, (Value.slice none 0 0)), (3, (Value.int .i64 0)), (4, (.int .i64 (vE [A]))), (5, (.slice (some ⟨b3, 0, none⟩) (A.v).toNat (A.v).toNat)), (12, (.bool (decide ((vE [A]) ≠ 0)))), (16, (.bool (decide (A.r = 0)))), (6, (Value.int .i64 xx.1))]) (fun (xx : Int × (Int → Bool)) V' σ' => Vf1 = V' ∧ [(Arr 24 b1 [(.int .i64 A.v), na, (.int .i64 A.r)]), (Arr 4 b3 (fiF xx.2 A.v.toNat))] = σ' ∧ Rf A.N xx.1 ∧ FiI A.N A.v A.r xx.1 xx.2) (fun (xx : Int × (Int → Bool)) => xx.1.toNat) (A.r, (fun _ => false)) ?_ ?_ ?_
   · exact ⟨rfl, rfl, rfl, rfl, rfl, rfl, rfl, rfl, rfl, trivial⟩
   · exact ⟨rfl, (show [(Arr 24 b1 [(.int .i64 A.v), na, (.int .i64 A.r)]), (Arr 4 b3 (fiF ((fun _ => false)) A.v.toNat))] = [(Arr 24 b1 [(.int .i64 A.v), na, (.int .i64 A.r)]), (Arr 4 b3 (List.replicate (A.v).toNat (Value.bool false)))] from by rw [← fiF_0]), hok.2.2.1.rf, fi_start⟩
   rintro ⟨r, q⟩ e1 V0l σ0l hI0
   obtain ⟨rfl, rfl, hr1, hfi⟩ : Vf1 = V0l ∧ [(Arr 24 b1 [(.int .i64 A.v), na, (.int .i64 A.r)]), (Arr 4 b3 (fiF q A.v.toNat))] = σ0l ∧ Rf A.N r ∧ FiI A.N A.v A.r r q := hI0
   change VC _ _ _ _ _ _ (upds 48 [(0, (.agg #[(.int .i64 A.v), na, (.int .i64 A.r)])), (1, (Value.pointer (some ⟨b1, 0, none⟩))), (2, (Value.slice none 0 0)), (3, (Value.int .i64 0)), (4, (.int .i64 (vE [A]))), (5, (.slice (some ⟨b3, 0, none⟩) (A.v).toNat (A.v).toNat)), (12, (.bool (decide ((vE [A]) ≠ 0)))), (16, (.bool (decide (A.r = 0)))), (6, (Value.int .i64 r))] e1) _ _
   refine vc_seq ?_
   refine vc_seq ?_
   refine vc_res (σ' := [(Arr 24 b1 [(.int .i64 A.v), na, (.int .i64 A.r)]), (Arr 4 b3 (fiF q A.v.toNat))]) rfl ?_
   refine vc_region ?_
   refine oq (qv_mv (Value.int .i64 r) rfl) ?_
   refine oq (qv_geq rfl rfl) ?_
   refine ops_nil ?_
   refine vc_if rfl (fun c3 => ?_) (fun c3 => ?_)
   ·
    refine vc_skip ?_
    refine vc_block ?_
    refine vc_seq ?_
    have hq2 := hr1.2
    have hcr := fc_rf hf (by omega) hq2
    have hcr1 := hcr.1.1
    have hcr2 := hcr.2.1
    have hvr := hf.vr r (by omega) hq2
    rw [nd_fk] at hvr
    refine vc_region ?_
    refine oq (qv_fa (off := 0) Try.field24_1 rfl) ?_
    refine oq (qv_ldp (v := na) Try.plain22 rfl (inOc (k := 0) rfl) rfl) ?_
    refine oq (qv_mv (Value.int .i64 r) rfl) ?_
    refine oq (qv_sub rfl rfl (by omega)) ?_
    refine oq (qv_ias (v := na) (i := r - 2) Try.underlying22 Try.size42 rfl hA rfl (by omega) (by omega)) ?_
    refine oq (qv_lds (v := na) (i := r - 2) (vs := [(.int .i64 ((fk A.N (r - 2)).v)), (.int .i64 ((fk A.N (r - 2)).l)), (.int .i64 ((fk A.N (r - 2)).h))]) Try.agg42 rfl hA (by omega) (by omega) (fks_at (N := A.N) (by omega) (by omega))) ?_
    refine ops_alloc Try.ti42 rfl (fun b4 => ?_)
    refine ops_stw (k := 2) (vs := [(.int .i64 ((fk A.N (r - 2)).v)), (.int .i64 ((fk A.N (r - 2)).l)), (.int .i64 ((fk A.N (r - 2)).h))]) Try.size42 rfl rfl rfl rfl rfl rfl ?_
    refine ops_nil ?_
    refine vc_seq ?_
    refine vc_res (σ' := [(Arr 24 b1 [(.int .i64 A.v), na, (.int .i64 A.r)]), (Arr 4 b3 (fiF q A.v.toNat)), (Arr 42 b4 [(.int .i64 ((fk A.N (r - 2)).v)), (.int .i64 ((fk A.N (r - 2)).l)), (.int .i64 ((fk A.N (r - 2)).h))])]) rfl ?_
    refine vc_region ?_
    refine oq (qv_mv (.slice (some ⟨b3, 0, none⟩) (A.v).toNat (A.v).toNat) rfl) ?_
    refine oq (qv_fa (off := 0) Try.field42_0 rfl) ?_
    refine oq (qv_ldp (v := (.int .i64 ((fk A.N (r - 2)).v))) Try.plain3 rfl (inOc (k := 2) rfl) rfl) ?_
    refine oq (qv_fa (off := 0) Try.field42_1 rfl) ?_
    refine oq (qv_ldp (v := (.int .i64 ((fk A.N (r - 2)).l))) Try.plain3 rfl (inOc (k := 2) rfl) rfl) ?_
    refine oq (qv_eql rfl rfl) ?_
    refine oq (qv_ia (v := (.slice (some ⟨b3, 0, none⟩) (A.v).toNat (A.v).toNat)) (i := (fk A.N (r - 2)).v) Try.underlying34 Try.size4 rfl (inO (k := 1) rfl (fiF_len _ _).symm (Nat.le_refl _) (by omega)) rfl (by omega) (by rw [fiF_len]; omega)) ?_
    refine ops_ste (k := 1) (b := b3) (n := (A.v).toNat) (c := (A.v).toNat) (i := (fk A.N (r - 2)).v) (cs := (fiF q A.v.toNat)) Try.size4 rfl (rfl : ev _ _ = (.bool (decide (((fk A.N (r - 2)).l) = 0)))) rfl rfl (by omega) (by rw [fiF_len]; omega) ?_
    refine ops_nil ?_
    refine vc_res (σ' := [(Arr 24 b1 [(.int .i64 A.v), na, (.int .i64 A.r)]), (Arr 4 b3 (((fiF q A.v.toNat)).set ((fk A.N (r - 2)).v).toNat (.bool (decide (((fk A.N (r - 2)).l) = 0))))), (Arr 42 b4 [(.int .i64 ((fk A.N (r - 2)).v)), (.int .i64 ((fk A.N (r - 2)).l)), (.int .i64 ((fk A.N (r - 2)).h))])]) rfl ?_
    refine vc_region_any Try.mixed (by kernel_rfl) ?_
    refine qq (qv_ldm (vs := [(.int .i64 A.v), na, (.int .i64 A.r)]) Try.agg24 rfl (inOc (k := 0) rfl) rfl rfl) ?_
    refine qq (qv_mv (Value.int .i64 r) rfl) ?_
    refine qq (qv_fa (off := 0) Try.field42_0 rfl) ?_
    refine qq (qv_ldp (v := (.int .i64 ((fk A.N (r - 2)).v))) Try.plain3 rfl (inOc (k := 2) rfl) rfl) ?_
    refine qq (qv_mv (.slice (some ⟨b3, 0, none⟩) (A.v).toNat (A.v).toNat) rfl) ?_
    refine qq (qv_fa (off := 0) Try.field42_0 rfl) ?_
    refine qq (qv_ldp (v := (.int .i64 ((fk A.N (r - 2)).v))) Try.plain3 rfl (inOc (k := 2) rfl) rfl) ?_
    refine qq (qv_ia (v := (.slice (some ⟨b3, 0, none⟩) (A.v).toNat (A.v).toNat)) (i := (fk A.N (r - 2)).v) Try.underlying34 Try.size4 rfl (inO (k := 1) rfl (by rw [List.length_set, fiF_len]) (Nat.le_refl _) (by omega)) rfl (by omega) (by rw [List.length_set, fiF_len]; omega)) ?_
    refine qq (qv_ldv (u := (.bool (decide ((fk A.N (r - 2)).l = 0)))) (v := (.slice (some ⟨b3, 0, none⟩) (A.v).toNat (A.v).toNat)) (i := (fk A.N (r - 2)).v) Try.plain4 rfl (inO (k := 1) rfl (by rw [List.length_set, fiF_len]) (Nat.le_refl _) (by omega)) (by omega) (by rw [List.length_set, fiF_len]; omega) (gv_set_same (by omega) (by rw [fiF_len]; omega))) ?_
    refine qq (qv_call (v := (.int .i64 (fol A.v A.N r (fk A.N (r - 2)).v ((fk A.N (r - 2)).l = 0)))) (follow_c hA (r := r) (x := (fk A.N (r - 2)).v) (hi := (fk A.N (r - 2)).l = 0) (by omega) (by omega) (by omega)) rfl rfl) ?_
    refine qq (qv_as (.int .i64 (fol A.v A.N r (fk A.N (r - 2)).v ((fk A.N (r - 2)).l = 0))) rfl) ?_
    refine qops_nil ?_
    refine ⟨(fc A.N r, (fun j => if j = (fk A.N (r - 2)).v then decide ((fk A.N (r - 2)).l = 0) else q j)), ⟨rfl, rfl, rfl, rfl, rfl, rfl, rfl, rfl, (congrArg (Value.int .i64) (show (fol A.v A.N r (fk A.N (r - 2)).v ((fk A.N (r - 2)).l = 0)) = ((fc A.N r)) from by exact fol_fc (by omega))), trivial⟩, ⟨[(Arr 24 b1 [(.int .i64 A.v), na, (.int .i64 A.r)]), (Arr 4 b3 (((fiF q A.v.toNat)).set ((fk A.N (r - 2)).v).toNat (.bool (decide (((fk A.N (r - 2)).l) = 0)))))], [(Arr 42 b4 [(.int .i64 ((fk A.N (r - 2)).v)), (.int .i64 ((fk A.N (r - 2)).l)), (.int .i64 ((fk A.N (r - 2)).h))])], (perm_idx _ _ [0, 1, 2] rfl rfl), ⟨rfl, (show [(Arr 24 b1 [(.int .i64 A.v), na, (.int .i64 A.r)]), (Arr 4 b3 (fiF ((fun j => if j = (fk A.N (r - 2)).v then decide ((fk A.N (r - 2)).l = 0) else q j)) A.v.toNat))] = [(Arr 24 b1 [(.int .i64 A.v), na, (.int .i64 A.r)]), (Arr 4 b3 (((fiF q A.v.toNat)).set ((fk A.N (r - 2)).v).toNat (.bool (decide (((fk A.N (r - 2)).l) = 0)))))] from by rw [fiF_set (by omega)]), hcr.1, fi_step hf hfi hr1 (by omega)⟩⟩, by omega⟩
   ·
    refine vc_exit ?_
    refine blockQ_hit ?_
    refine vc_seq ?_
    refine vc_region ?_
    refine oq (qv_mv (.slice (some ⟨b3, 0, none⟩) (A.v).toNat (A.v).toNat) rfl) ?_
    refine oq (qv_as (.slice (some ⟨b3, 0, none⟩) (A.v).toNat (A.v).toNat) rfl) ?_
    refine oq (qv_as (Value.int .i64 0) rfl) ?_
    refine ops_nil ?_
    refine vc_freeze (b := b3) (o := .cells ((fiF q A.v.toNat) : List Value).toArray 4 (0, 0)) (σr := [(Arr 24 b1 [(Value.int .i64 (A.v)), na, (Value.int .i64 (A.r))])]) (List.perm_middle (l₁ := [(Arr 24 b1 [(Value.int .i64 (A.v)), na, (Value.int .i64 (A.r))])]) (l₂ := [])) (fun Vf2 hVf2 hb2 => ?_)
    have hc2 : Cells Vf2 b3 (fiF q A.v.toNat) := ⟨_, _, hb2⟩
    have hA := hA.mono hVf2
    have hc1 := hc1.mono hVf2
    refine vc_drop [] [(Arr 24 b1 [(.int .i64 A.v), na, (.int .i64 A.r)])] (.refl _) ?_
    refine vc_ret ?_
    refine rq2 (.slice (some ⟨b3, 0, none⟩) (A.v).toNat (A.v).toNat) (Value.int .i64 0) rfl rfl ?_
    obtain ⟨e1, e2⟩ := fi_0 (A := A) hz (by omega)
    rw [e1, e2]
    have hcq := hc2
    rw [fi_end hfi (by omega)] at hcq
    exact ⟨rfl, _, rfl, bls_cells hcq (by unfold fpL; simp) (Nat.le_refl _) (by omega)⟩

end Go.Proofs.Ytgehdgeiikjohaa
