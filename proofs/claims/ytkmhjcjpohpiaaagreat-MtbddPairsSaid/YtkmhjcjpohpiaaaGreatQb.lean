import Derived.Test.YtkmhjcjpohpiaaaGreatPb
import Derived.Test.YtkmhjcjpohpiaaaGreatWo
/- Walks of mtbdd: what each function returns. Printed by a program out of notes. -/
namespace Go.Proofs.YtkmhjcjpohpiaaaGreat
open Go.Vc
open Classical

set_option maxRecDepth 100000 in
set_option maxHeartbeats 4000000 in
theorem CompactP_c {V : HV} {v : Value} {X : List P2} (hX : X.length ≤ 1000000) :
    FnC Tryz.prog 55 [v] V [(Gr 50 2 v X.length ((p2s X)))] (fun u V' σ' => ∃ R : List P2, CpF X R ∧ σ' = [Gr 50 2 u R.length (p2s R)]) := by
 refine fn_intro (N := 61) Tryz.func55 (by kernel_rfl) rfl rfl rfl (Nat.le_of_ble_eq_true rfl) ?_
 intro w0 D
 refine vc_seq ?_
 refine vc_res (σ' := [(Gr 50 2 v X.length ((p2s X)))]) rfl ?_
 refine vc_region ?_
 refine oq (qv_as (Value.slice none 0 0) rfl) ?_
 refine ops_nil ?_
 refine vc_seq ?_
 refine vc_seq ?_
 refine vc_region ?_
 refine oq (qv_mv v rfl) ?_
 refine oq (qv_lenGr (k := 0) Tryz.underlying44 rfl rfl) ?_
 refine oq (qv_lss rfl rfl) ?_
 refine ops_nil ?_
 refine vc_if rfl (fun c1 => ?_) (fun c1 => ?_)
 ·
  refine vc_seq ?_
  refine vc_region ?_
  refine oq (qv_mv v rfl) ?_
  refine oq (qv_as v rfl) ?_
  refine ops_nil ?_
  refine vc_ret ?_
  refine rq1 v rfl ?_
  exact ⟨X, cpF_small (by omega), rfl⟩
 ·
  refine vc_skip ?_
  refine vc_seq ?_
  refine vc_seq ?_
  refine vc_of_gr (k := 0) (by omega) rfl (fun b cap cs0 hv hcap hmax hcl hct => ?_)
  subst hv
  obtain ⟨rs, rfl⟩ := open_row rfl hct
  refine vc_region ?_
  refine oq (qv_as (Value.int .i64 1) rfl) ?_
  refine ops_nil ?_
  refine vc_block ?_
  refine vc_loop (α := Int) (fun (xx : Int) => [(0, (.slice (some ⟨b, 0, none⟩) X.length cap)), (8, (.bool (decide ((((X.length : Nat) : Int)) < 2)))), (3, (Value.int .i64 xx))]) (fun (xx : Int) V' σ' => V = V' ∧ [(Arr 50 b (p2s X ++ rs))] = σ' ∧ 1 ≤ xx ∧ xx ≤ X.length ∧ CpI X xx (X.take xx.toNat)) (fun (xx : Int) => (X.length - xx).toNat) (1) ?_ ?_ ?_
  · exact ⟨rfl, rfl, rfl, trivial⟩
  · exact ⟨rfl, rfl, by omega, by omega, cpI_1 (by omega)⟩
  rintro k e1 V0l σ0l hI0
  obtain ⟨rfl, rfl, i1, i2, hC⟩ : V = V0l ∧ [(Arr 50 b (p2s X ++ rs))] = σ0l ∧ 1 ≤ k ∧ k ≤ X.length ∧ CpI X k (X.take k.toNat) := hI0
  refine vc_seq ?_
  refine vc_seq ?_
  refine vc_res (σ' := [(Arr 50 b (p2s X ++ rs))]) rfl ?_
  refine vc_region ?_
  refine oq (qv_mv (Value.int .i64 k) rfl) ?_
  refine oq (qv_mv (.slice (some ⟨b, 0, none⟩) X.length cap) rfl) ?_
  refine oq (qv_len Tryz.underlying44 rfl rfl) ?_
  refine oq (qv_lss rfl rfl) ?_
  refine ops_nil ?_
  refine vc_if rfl (fun c2 => ?_) (fun c2 => ?_)
  ·
   refine vc_skip ?_
   refine vc_seq ?_
   refine vc_block ?_
   refine vc_seq ?_
   refine vc_region_any Tryz.mixed (by kernel_rfl) ?_
   refine qq (qv_mv (.slice (some ⟨b, 0, none⟩) X.length cap) rfl) ?_
   refine qq (qv_mv (Value.int .i64 k) rfl) ?_
   refine qq (qv_iao (i := k) (o := (k).toNat * 2) Tryz.underlying44 Tryz.size50 rfl rfl (by omega) (by omega) (by omega)) ?_
   refine qq (qv_ldm (vs := [(.int .i64 ((p2 X (k)).a)), (.int .i64 ((p2 X (k)).b))]) Tryz.agg50 rfl (inOc (k := 0) rfl) (p2r_at (by omega) (by omega)) rfl) ?_
   refine qq (qv_mv (.slice (some ⟨b, 0, none⟩) X.length cap) rfl) ?_
   refine qq (qv_mv (Value.int .i64 k) rfl) ?_
   refine qq (qv_sub rfl rfl (by omega)) ?_
   refine qq (qv_iao (i := k - 1) (o := (k - 1).toNat * 2) Tryz.underlying44 Tryz.size50 rfl rfl (by omega) (by omega) (by omega)) ?_
   refine qq (qv_ldm (vs := [(.int .i64 ((p2 X (k - 1)).a)), (.int .i64 ((p2 X (k - 1)).b))]) Tryz.agg50 rfl (inOc (k := 0) rfl) (p2r_at (by omega) (by omega)) rfl) ?_
   refine qq (qv_eqls Tryz.eq50 [(p2 X (k)).a, (p2 X (k)).b] [(p2 X (k - 1)).a, (p2 X (k - 1)).b] rfl rfl rfl rfl rfl rfl eq2) ?_
   refine qops_nil ?_
   refine vc_if rfl (fun c3 => ?_) (fun c3 => ?_)
   ·
    refine vc_seq ?_
    refine vc_region ?_
    refine oq (qv_mv (.slice (some ⟨b, 0, none⟩) X.length cap) rfl) ?_
    refine oq (qv_mv (Value.int .i64 k) rfl) ?_
    refine oq (qv_sliceLoN Tryz.underlying44 Tryz.size50 rfl rfl (by omega) (by omega) (by omega)) ?_
    refine oq (qv_as (.slice (some ⟨b, (k).toNat * 2, none⟩) (X.length - (k).toNat) (cap - (k).toNat)) rfl) ?_
    refine ops_nil ?_
    refine vc_seq ?_
    refine vc_seq ?_
    refine vc_region ?_
    refine oq (qv_as (Value.int .i64 1) rfl) ?_
    refine ops_nil ?_
    refine vc_block ?_
    refine vc_loop (α := Int × Int × List P2) (fun (xx : Int × Int × List P2) => [(0, (.slice (some ⟨b, 0, none⟩) X.length cap)), (4, (.slice (some ⟨b, (k).toNat * 2, none⟩) (X.length - (k).toNat) (cap - (k).toNat))), (8, (.bool (decide ((((X.length : Nat) : Int)) < 2)))), (13, (.bool (decide (k < (((X.length : Nat) : Int)))))), (25, (.bool (decide (((p2 X (k)).a) = ((p2 X (k - 1)).a) ∧ ((p2 X (k)).b) = ((p2 X (k - 1)).b))))), (3, (Value.int .i64 xx.2.1)), (5, (Value.int .i64 xx.1))]) (fun (xx : Int × Int × List P2) V' σ' => V = V' ∧ [(Arr 50 b (p2s xx.2.2 ++ rs))] = σ' ∧ 1 ≤ xx.1 ∧ k + xx.1 ≤ X.length ∧ k ≤ xx.2.1 ∧ xx.2.1 ≤ k + xx.1 - 1 ∧ xx.2.2.length = X.length ∧ Cp2 X xx.2.2 xx.2.1 (k + xx.1)) (fun (xx : Int × Int × List P2) => (X.length - (k + xx.1)).toNat) (1, k, X) ?_ ?_ ?_
    · exact ⟨rfl, rfl, rfl, rfl, rfl, rfl, rfl, trivial⟩
    · exact (show V = V ∧ [(Arr 50 b (p2s X ++ rs))] = [(Arr 50 b (p2s X ++ rs))] ∧ 1 ≤ (1 : Int) ∧ k + (1 : Int) ≤ X.length ∧ k ≤ k ∧ k ≤ k + (1 : Int) - 1 ∧ X.length = X.length ∧ Cp2 X X k (k + (1 : Int)) from ⟨rfl, (show [(Arr 50 b (p2s X ++ rs))] = [(Arr 50 b (p2s X ++ rs))] from by rfl), by omega, by omega, by omega, by omega, rfl, cp2_0 hC (by omega) (p2_eq c3)⟩)
    rintro ⟨k2, kk, Y⟩ e2 V1l σ1l hI1
    obtain ⟨rfl, rfl, i3, i4, i5, i6, hYl, hP⟩ : V = V1l ∧ [(Arr 50 b (p2s Y ++ rs))] = σ1l ∧ 1 ≤ k2 ∧ k + k2 ≤ X.length ∧ k ≤ kk ∧ kk ≤ k + k2 - 1 ∧ Y.length = X.length ∧ Cp2 X Y kk (k + k2) := hI1
    change VC _ _ _ _ _ _ (upds 61 [(0, (.slice (some ⟨b, 0, none⟩) X.length cap)), (4, (.slice (some ⟨b, (k).toNat * 2, none⟩) (X.length - (k).toNat) (cap - (k).toNat))), (8, (.bool (decide ((((X.length : Nat) : Int)) < 2)))), (13, (.bool (decide (k < (((X.length : Nat) : Int)))))), (25, (.bool (decide (((p2 X (k)).a) = ((p2 X (k - 1)).a) ∧ ((p2 X (k)).b) = ((p2 X (k - 1)).b))))), (3, (Value.int .i64 kk)), (5, (Value.int .i64 k2))] e2) _ _
    refine vc_seq ?_
    refine vc_seq ?_
    refine vc_res (σ' := [(Arr 50 b (p2s Y ++ rs))]) rfl ?_
    refine vc_region ?_
    refine oq (qv_mv (Value.int .i64 k2) rfl) ?_
    refine oq (qv_mv (.slice (some ⟨b, (k).toNat * 2, none⟩) (X.length - (k).toNat) (cap - (k).toNat)) rfl) ?_
    refine oq (qv_len Tryz.underlying44 rfl rfl) ?_
    refine oq (qv_lss rfl rfl) ?_
    refine ops_nil ?_
    refine vc_if rfl (fun c4 => ?_) (fun c4 => ?_)
    ·
     refine vc_skip ?_
     refine vc_seq ?_
     refine vc_block ?_
     refine vc_seq ?_
     refine vc_region_any Tryz.mixed (by kernel_rfl) ?_
     refine qq (qv_mv (.slice (some ⟨b, (k).toNat * 2, none⟩) (X.length - (k).toNat) (cap - (k).toNat)) rfl) ?_
     refine qq (qv_mv (Value.int .i64 k2) rfl) ?_
     refine qq (qv_iao (i := k2) (o := (k + k2).toNat * 2) Tryz.underlying44 Tryz.size50 rfl rfl (by omega) (by omega) (by omega)) ?_
     refine qq (qv_ldm (vs := [(.int .i64 ((p2 Y (k + k2)).a)), (.int .i64 ((p2 Y (k + k2)).b))]) Tryz.agg50 rfl (inOc (k := 0) rfl) (p2r_at (by omega) (by omega)) rfl) ?_
     refine qq (qv_mv (.slice (some ⟨b, (k).toNat * 2, none⟩) (X.length - (k).toNat) (cap - (k).toNat)) rfl) ?_
     refine qq (qv_mv (Value.int .i64 k2) rfl) ?_
     refine qq (qv_sub rfl rfl (by omega)) ?_
     refine qq (qv_iao (i := k2 - 1) (o := (k + (k2 - 1)).toNat * 2) Tryz.underlying44 Tryz.size50 rfl rfl (by omega) (by omega) (by omega)) ?_
     refine qq (qv_ldm (vs := [(.int .i64 ((p2 Y (k + (k2 - 1))).a)), (.int .i64 ((p2 Y (k + (k2 - 1))).b))]) Tryz.agg50 rfl (inOc (k := 0) rfl) (p2r_at (by omega) (by omega)) rfl) ?_
     refine qq (qv_neqs Tryz.eq50 [(p2 Y (k + k2)).a, (p2 Y (k + k2)).b] [(p2 Y (k + (k2 - 1))).a, (p2 Y (k + (k2 - 1))).b] rfl rfl rfl rfl rfl rfl eq2) ?_
     refine qops_nil ?_
     refine vc_if rfl (fun c5 => ?_) (fun c5 => ?_)
     ·
      refine vc_seq ?_
      refine vc_region ?_
      refine oq (qv_mv (.slice (some ⟨b, 0, none⟩) X.length cap) rfl) ?_
      refine oq (qv_mv (Value.int .i64 kk) rfl) ?_
      refine oq (qv_mv (.slice (some ⟨b, (k).toNat * 2, none⟩) (X.length - (k).toNat) (cap - (k).toNat)) rfl) ?_
      refine oq (qv_mv (Value.int .i64 k2) rfl) ?_
      refine oq (qv_iao (i := k2) (o := (k + k2).toNat * 2) Tryz.underlying44 Tryz.size50 rfl rfl (by omega) (by omega) (by omega)) ?_
      refine oq (qv_ldm (vs := [(.int .i64 ((p2 Y (k + k2)).a)), (.int .i64 ((p2 Y (k + k2)).b))]) Tryz.agg50 rfl (inOc (k := 0) rfl) (p2r_at (by omega) (by omega)) rfl) ?_
      refine oq (qv_iao (i := kk) (o := (kk).toNat * 2) Tryz.underlying44 Tryz.size50 rfl rfl (by omega) (by omega) (by omega)) ?_
      refine ops_stm (k := 0) (off := (kk).toNat * 2) (v := (.agg #[(.int .i64 ((p2 Y (k + k2)).a)), (.int .i64 ((p2 Y (k + k2)).b))])) (vs := [(.int .i64 ((p2 Y (k + k2)).a)), (.int .i64 ((p2 Y (k + k2)).b))]) (cs := (p2s Y ++ rs)) (cs' := (p2s (Y.set (kk).toNat ⟨(p2 Y (k + k2)).a, (p2 Y (k + k2)).b⟩) ++ rs)) Tryz.size50 rfl rfl rfl rfl rfl rfl (p2r_ho (by omega) (by omega)) (p2r_set (by omega) (by omega)) ?_
      refine ops_nil ?_
      refine vc_res (σ' := [(Arr 50 b (p2s (Y.set (kk).toNat ⟨(p2 Y (k + k2)).a, (p2 Y (k + k2)).b⟩) ++ rs))]) rfl ?_
      refine vc_region ?_
      refine oq (qv_mv (Value.int .i64 kk) rfl) ?_
      refine oq (qv_add rfl rfl (by omega)) ?_
      refine oq (qv_as (.int .i64 (kk + 1)) rfl) ?_
      refine ops_nil ?_
      refine vc_region ?_
      refine oq (qv_mv (Value.int .i64 k2) rfl) ?_
      refine oq (qv_add rfl rfl (by omega)) ?_
      refine oq (qv_as (.int .i64 (k2 + 1)) rfl) ?_
      refine ops_nil ?_
      refine ⟨(k2 + 1, kk + 1, (Y.set kk.toNat ⟨(p2 Y (k + k2)).a, (p2 Y (k + k2)).b⟩)), ⟨rfl, rfl, rfl, rfl, rfl, (congrArg (Value.int .i64) (show (kk + 1) = ((kk + 1)) from by omega)), (congrArg (Value.int .i64) (show (k2 + 1) = ((k2 + 1)) from by omega)), trivial⟩, (show V = V ∧ [(Arr 50 b (p2s ((Y.set kk.toNat ⟨(p2 Y (k + k2)).a, (p2 Y (k + k2)).b⟩) : List P2) ++ rs))] = [(Arr 50 b (p2s (Y.set (kk).toNat ⟨(p2 Y (k + k2)).a, (p2 Y (k + k2)).b⟩) ++ rs))] ∧ 1 ≤ (k2 + 1 : Int) ∧ k + (k2 + 1 : Int) ≤ X.length ∧ k ≤ (kk + 1 : Int) ∧ (kk + 1 : Int) ≤ k + (k2 + 1 : Int) - 1 ∧ ((Y.set kk.toNat ⟨(p2 Y (k + k2)).a, (p2 Y (k + k2)).b⟩) : List P2).length = X.length ∧ Cp2 X ((Y.set kk.toNat ⟨(p2 Y (k + k2)).a, (p2 Y (k + k2)).b⟩) : List P2) (kk + 1 : Int) (k + (k2 + 1 : Int)) from ⟨rfl, (show [(Arr 50 b (p2s ((Y.set kk.toNat ⟨(p2 Y (k + k2)).a, (p2 Y (k + k2)).b⟩)) ++ rs))] = [(Arr 50 b (p2s (Y.set (kk).toNat ⟨(p2 Y (k + k2)).a, (p2 Y (k + k2)).b⟩) ++ rs))] from by rfl), by omega, by omega, by omega, by omega, by rw [List.length_set]; exact hYl, by have q := hP.new (by omega) (by omega) (by omega) (by omega) (fun e => c5 (by rw [show k + (k2 - 1) = k + k2 - 1 by omega, ← e]; exact ⟨rfl, rfl⟩)); rw [show k + k2 + 1 = k + (k2 + 1) by omega] at q; exact q⟩), show (X.length - (k + (k2 + 1))).toNat < (X.length - (k + k2)).toNat from by omega⟩
     ·
      refine vc_skip ?_
      refine vc_region ?_
      refine oq (qv_mv (Value.int .i64 k2) rfl) ?_
      refine oq (qv_add rfl rfl (by omega)) ?_
      refine oq (qv_as (.int .i64 (k2 + 1)) rfl) ?_
      refine ops_nil ?_
      refine ⟨(k2 + 1, kk, Y), ⟨rfl, rfl, rfl, rfl, rfl, rfl, (congrArg (Value.int .i64) (show (k2 + 1) = ((k2 + 1)) from by omega)), trivial⟩, (show V = V ∧ [(Arr 50 b (p2s Y ++ rs))] = [(Arr 50 b (p2s Y ++ rs))] ∧ 1 ≤ (k2 + 1 : Int) ∧ k + (k2 + 1 : Int) ≤ X.length ∧ k ≤ kk ∧ kk ≤ k + (k2 + 1 : Int) - 1 ∧ Y.length = X.length ∧ Cp2 X Y kk (k + (k2 + 1 : Int)) from ⟨rfl, (show [(Arr 50 b (p2s Y ++ rs))] = [(Arr 50 b (p2s Y ++ rs))] from by rfl), by omega, by omega, by omega, by omega, hYl, by have q := hP.keep (by omega) (by omega) (p2_eq (by rw [show k + k2 - 1 = k + (k2 - 1) by omega]; exact (Decidable.not_not.1 c5))); rw [show k + k2 + 1 = k + (k2 + 1) by omega] at q; exact q⟩), show (X.length - (k + (k2 + 1))).toNat < (X.length - (k + k2)).toNat from by omega⟩
    ·
     refine vc_exit ?_
     refine blockQ_hit ?_
     refine vc_seq ?_
     refine vc_region ?_
     refine oq (qv_mv (.slice (some ⟨b, 0, none⟩) X.length cap) rfl) ?_
     refine oq (qv_mv (Value.int .i64 kk) rfl) ?_
     refine oq (qv_sliceLoN Tryz.underlying44 Tryz.size50 rfl rfl (by omega) (by omega) (by omega)) ?_
     refine ops_clear (k := 0) (off := (kk).toNat * 2) (cs := (p2s Y ++ rs)) Tryz.underlying44 Tryz.ti50 rfl rfl rfl (by omega) rfl (by rw [List.length_append, p2s_len]; omega) (fun nw1 hnw1 => ?_)
     refine ops_nil ?_
     refine vc_seq ?_
     refine vc_res (σ' := [(Arr 50 b (((p2s Y ++ rs)).take ((kk).toNat * 2) ++ nw1 ++ ((p2s Y ++ rs)).drop ((kk).toNat * 2 + (X.length - (kk).toNat) * 2)))]) rfl ?_
     refine vc_to_gr (k := 0) (n := (kk).toNat) (cap := cap) 2 (p2s (Y.take (kk).toNat)) rfl (by rw [p2s_len, List.length_take]; omega) (by omega) hmax (by rw [clr_len (by rw [List.length_append, p2s_len]; omega) (by assumption), p2r_len hYl]; exact hcl) (clr_take (by omega)) ?_
     refine vc_res (σ' := [(Gr 50 2 ((.slice (some ⟨b, 0, none⟩) (kk).toNat cap)) ((kk).toNat) ((p2s (Y.take (kk).toNat))))]) rfl ?_
     refine vc_region ?_
     refine oq (qv_mv (.slice (some ⟨b, 0, none⟩) X.length cap) rfl) ?_
     refine oq (qv_mv (Value.int .i64 kk) rfl) ?_
     refine oq (qv_sliceHiN Tryz.underlying44 Tryz.size50 rfl rfl (by omega) (by omega)) ?_
     refine oq (qv_as (.slice (some ⟨b, 0, none⟩) (kk).toNat cap) rfl) ?_
     refine ops_nil ?_
     refine vc_ret ?_
     refine blockQ_ret ?_
     refine blockQ_ret ?_
     refine rq1 (.slice (some ⟨b, 0, none⟩) (kk).toNat cap) rfl ?_
     refine ⟨Y.take (kk).toNat, ?_, ?_⟩
     · have q := hP.ci
       rw [show k + k2 = X.length by omega] at q
       exact cpF_of q (by rw [List.length_take]; omega)
     · rw [List.length_take, Nat.min_eq_left (by omega)]
   ·
    refine vc_skip ?_
    refine vc_region ?_
    refine oq (qv_mv (Value.int .i64 k) rfl) ?_
    refine oq (qv_add rfl rfl (by omega)) ?_
    refine oq (qv_as (.int .i64 (k + 1)) rfl) ?_
    refine ops_nil ?_
    refine ⟨(k + 1), ⟨rfl, rfl, (congrArg (Value.int .i64) (show (k + 1) = ((k + 1)) from by omega)), trivial⟩, ⟨rfl, rfl, by omega, by omega, cpI_all hC (by omega) (by omega) (fun e => c3 (by rw [← e]; exact ⟨rfl, rfl⟩))⟩, by omega⟩
  ·
   refine vc_exit ?_
   refine blockQ_hit ?_
   refine vc_seq ?_
   refine vc_to_gr (k := 0) (n := X.length) (cap := cap) 2 (p2s X) rfl (p2s_len _) (by omega) hmax hcl hct ?_
   refine vc_res (σ' := [(Gr 50 2 ((.slice (some ⟨b, 0, none⟩) X.length cap)) X.length ((p2s X)))]) rfl ?_
   refine vc_region ?_
   refine oq (qv_mv (.slice (some ⟨b, 0, none⟩) X.length cap) rfl) ?_
   refine oq (qv_as (.slice (some ⟨b, 0, none⟩) X.length cap) rfl) ?_
   refine ops_nil ?_
   refine vc_ret ?_
   refine rq1 (.slice (some ⟨b, 0, none⟩) X.length cap) rfl ?_
   refine ⟨X, cpF_of (by have q := hC; rw [show k = X.length by omega, Int.toNat_natCast, List.take_length] at q; exact q) (Nat.le_refl _), rfl⟩

end Go.Proofs.YtkmhjcjpohpiaaaGreat
