import Derived.Test.YtkmhjcjpohpiaaaGreatRa
import Derived.Test.YtkmhjcjpohpiaaaGreatWo
import Derived.Test.YtkmhjcjpohpiaaaGreatBt
/- Walks of mtbdd: what each function returns. Printed by a program out of notes. -/
namespace Go.Proofs.YtkmhjcjpohpiaaaGreat
open Go.Vc
open Classical

set_option maxRecDepth 100000 in
set_option maxHeartbeats 4000000 in
theorem Checked27_c {V : HV} {nc : Value} {cv cr : Int} {cN : List Fk} (hC : Fks V nc cN) :
    FnC Tryz.prog 22 [(.agg #[(Value.int .i64 cv), nc, (Value.int .i64 cr)])] V [] (fun v _ _ => v = (.int .i64 (Bd.chkC cv cN cr))) := by
 refine fn_intro (N := 5) Tryz.func22 (by kernel_rfl) rfl rfl rfl (Nat.le_of_ble_eq_true rfl) ?_
 intro w0 D
 have hbn := SlS.bound hC
 refine vc_seq ?_
 refine vc_region ?_
 refine ops_box (v := (.agg #[(Value.int .i64 cv), nc, (Value.int .i64 cr)])) (cs := [(Value.int .i64 cv), nc, (Value.int .i64 cr)]) rfl rfl (fun b1 => ?_)
 refine oq (qv_as (Value.int .i64 0) rfl) ?_
 refine ops_nil ?_
 refine vc_seq ?_
 refine vc_res (σ' := [(Arr 55 b1 [(Value.int .i64 cv), nc, (Value.int .i64 cr)])]) rfl ?_
 refine vc_region ?_
 refine oq (qv_ldm (vs := [(Value.int .i64 cv), nc, (Value.int .i64 cr)]) Tryz.agg55 rfl (inOc (k := 0) rfl) rfl rfl) ?_
 refine oq (qv_call (v := (.int .i64 (Bd.chkC cv cN cr))) (Bd.check_c hC) rfl rfl) ?_
 refine oq (qv_as (.int .i64 (Bd.chkC cv cN cr)) rfl) ?_
 refine ops_nil ?_
 refine vc_ret ?_
 exact rq1 (.int .i64 (Bd.chkC cv cN cr)) rfl rfl

set_option maxRecDepth 100000 in
set_option maxHeartbeats 4000000 in
theorem Truths27_c {V : HV} {nc : Value} {cv cr : Int} {cN : List Fk} (hC : Fks V nc cN) (hok : Bd.Ok cv cN cr) (h12 : cv ≤ 12) :
    FnC Tryz.prog 24 [(.agg #[(Value.int .i64 cv), nc, (Value.int .i64 cr)])] V [] (fun v V' σ' => σ' = [] ∧ Bls V' v (Bd.tbD ⟨cv, cN, cr⟩)) := by
 refine fn_intro (N := 5) Tryz.func24 (by kernel_rfl) rfl rfl rfl (Nat.le_of_ble_eq_true rfl) ?_
 intro w0 D
 have hbn := SlS.bound hC
 refine vc_seq ?_
 refine vc_region ?_
 refine ops_box (v := (.agg #[(Value.int .i64 cv), nc, (Value.int .i64 cr)])) (cs := [(Value.int .i64 cv), nc, (Value.int .i64 cr)]) rfl rfl (fun b1 => ?_)
 refine oq (qv_as (Value.slice none 0 0) rfl) ?_
 refine ops_nil ?_
 refine vc_seq ?_
 refine vc_res (σ' := [(Arr 55 b1 [(Value.int .i64 cv), nc, (Value.int .i64 cr)])]) rfl ?_
 refine vc_region ?_
 refine oq (qv_ldm (vs := [(Value.int .i64 cv), nc, (Value.int .i64 cr)]) Tryz.agg55 rfl (inOc (k := 0) rfl) rfl rfl) ?_
 refine ops_call (σa := []) (σr := [(Arr 55 b1 [(Value.int .i64 cv), nc, (Value.int .i64 cr)])]) (Bd.table_c (A := ⟨cv, cN, cr⟩) hC hok h12) rfl rfl (.refl _) (fun r1 V1 sg1 hV1 hp1 => ?_)
 obtain ⟨rfl, hTt⟩ := hp1
 obtain ⟨tt, htt⟩ : ∃ x, x = r1 := ⟨_, rfl⟩
 subst htt
 have hC := hC.mono hV1
 refine oq (qv_as tt rfl) ?_
 refine ops_nil ?_
 refine vc_drop [] [(Arr 55 b1 [(Value.int .i64 cv), nc, (Value.int .i64 cr)])] (.refl _) ?_
 refine vc_ret ?_
 refine rq1 tt rfl ?_
 exact ⟨rfl, hTt⟩

set_option maxRecDepth 100000 in
set_option maxHeartbeats 4000000 in
theorem Choose1_c {V : HV} {x y z : Int} :
    FnC Tryz.prog 61 [(.agg #[(Value.int .i64 x), (Value.int .i64 y), (Value.int .i64 z)])] V [] (fun v _ _ => v = (.int .i64 (if x = 1 then y else z))) := by
 refine fn_intro (N := 10) Tryz.func61 (by kernel_rfl) rfl rfl rfl (Nat.le_of_ble_eq_true rfl) ?_
 intro w0 D
 refine vc_seq ?_
 refine vc_region ?_
 refine ops_box (v := (.agg #[(Value.int .i64 x), (Value.int .i64 y), (Value.int .i64 z)])) (cs := [(Value.int .i64 x), (Value.int .i64 y), (Value.int .i64 z)]) rfl rfl (fun b1 => ?_)
 refine oq (qv_as (Value.int .i64 0) rfl) ?_
 refine ops_nil ?_
 refine vc_seq ?_
 refine vc_seq ?_
 refine vc_res (σ' := [(Arr 71 b1 [(Value.int .i64 x), (Value.int .i64 y), (Value.int .i64 z)])]) rfl ?_
 refine vc_region ?_
 refine oq (qv_iaa (i := 0) (off := 0) Tryz.underlying71 Tryz.size3 rfl rfl (by omega) (by omega) rfl) ?_
 refine oq (qv_ldp (v := (Value.int .i64 x)) Tryz.plain3 rfl (inOc (k := 0) rfl) rfl) ?_
 refine oq (qv_eql rfl rfl) ?_
 refine ops_nil ?_
 refine vc_if rfl (fun c1 => ?_) (fun c1 => ?_)
 ·
  refine vc_seq ?_
  refine vc_region ?_
  refine oq (qv_iaa (i := 1) (off := 0) Tryz.underlying71 Tryz.size3 rfl rfl (by omega) (by omega) rfl) ?_
  refine oq (qv_ldp (v := (Value.int .i64 y)) Tryz.plain3 rfl (inOc (k := 0) rfl) rfl) ?_
  refine oq (qv_as (Value.int .i64 y) rfl) ?_
  refine ops_nil ?_
  refine vc_ret ?_
  exact rq1 (.int .i64 (if x = 1 then y else z)) (congrArg (Value.int .i64) (show y = (if x = 1 then y else z) from by first | exact if_pos (by assumption) | exact if_neg (by assumption) | exact (if_pos (by assumption)).symm | exact (if_neg (by assumption)).symm)) rfl
 ·
  refine vc_skip ?_
  refine vc_seq ?_
  refine vc_region ?_
  refine oq (qv_iaa (i := 2) (off := 0) Tryz.underlying71 Tryz.size3 rfl rfl (by omega) (by omega) rfl) ?_
  refine oq (qv_ldp (v := (Value.int .i64 z)) Tryz.plain3 rfl (inOc (k := 0) rfl) rfl) ?_
  refine oq (qv_as (Value.int .i64 z) rfl) ?_
  refine ops_nil ?_
  refine vc_ret ?_
  exact rq1 (.int .i64 (if x = 1 then y else z)) (congrArg (Value.int .i64) (show z = (if x = 1 then y else z) from by first | exact if_pos (by assumption) | exact if_neg (by assumption) | exact (if_pos (by assumption)).symm | exact (if_neg (by assumption)).symm)) rfl

set_option maxRecDepth 100000 in
set_option maxHeartbeats 4000000 in
theorem Choose_c {V : HV} {nc : Value} {cv cr : Int} {cN : List Fk} (hC : Fks V nc cN) {la na : Value} {A : Mg} (hA : Mt V la na A) {lb nb : Value} {B : Mg} (hB : Mt V lb nb B) (h12 : Bd.Ok cv cN cr → cv ≤ 12) :
    FnC Tryz.prog 23 [(.agg #[(Value.int .i64 cv), nc, (Value.int .i64 cr)]), (.agg #[(.int .i64 A.v), la, na, (.int .i64 A.r)]), (.agg #[(.int .i64 B.v), lb, nb, (.int .i64 B.r)])] V [] (fun v V' σ' => σ' = [] ∧ MRs V' v (chD cv cN cr A B) (chE cv cN cr A B)) := by
 refine fn_intro (N := 32) Tryz.func23 (by kernel_rfl) rfl rfl rfl (Nat.le_of_ble_eq_true rfl) ?_
 intro w0 D
 have hbl := Ints.bound hA.l
 have hbn := SlS.bound hA.n
 have hbc := SlS.bound hC
 refine vc_seq ?_
 refine vc_region ?_
 refine ops_box (v := (.agg #[(Value.int .i64 cv), nc, (Value.int .i64 cr)])) (cs := [(Value.int .i64 cv), nc, (Value.int .i64 cr)]) rfl rfl (fun b1 => ?_)
 refine ops_box (v := (.agg #[(.int .i64 A.v), la, na, (.int .i64 A.r)])) (cs := [(.int .i64 A.v), la, na, (.int .i64 A.r)]) rfl rfl (fun b2 => ?_)
 refine ops_box (v := (.agg #[(.int .i64 B.v), lb, nb, (.int .i64 B.r)])) (cs := [(.int .i64 B.v), lb, nb, (.int .i64 B.r)]) rfl rfl (fun b3 => ?_)
 refine ops_alloc Tryz.ti25 rfl (fun b4 => ?_)
 refine oq (qv_as (Value.int .i64 0) rfl) ?_
 refine ops_nil ?_
 refine vc_seq ?_
 refine vc_seq ?_
 let ζ1 : Asrt := Arr 55 b1 [(Value.int .i64 cv), nc, (Value.int .i64 cr)]
 let ζ2 : Asrt := Arr 25 b4 [(Value.int .i64 0), (Value.slice none 0 0), (Value.slice none 0 0), (Value.int .i64 0)]
 let ζ8 : Asrt := Arr 25 b2 [(.int .i64 A.v), la, na, (.int .i64 A.r)]
 let ζ9 : Asrt := Arr 25 b3 [(.int .i64 B.v), lb, nb, (.int .i64 B.r)]
 refine vc_res (σ' := [ζ1, ζ8, ζ9, ζ2]) rfl ?_
 refine vc_region ?_
 refine oq (qv_ldm (vs := [(Value.int .i64 cv), nc, (Value.int .i64 cr)]) Tryz.agg55 rfl (inOc (k := 0) rfl) rfl rfl) ?_
 refine oq (qv_call (v := (.int .i64 (Bd.chkC cv cN cr))) (Bd.Check_c hC) rfl rfl) ?_
 refine oq (qv_neq rfl rfl) ?_
 refine ops_nil ?_
 refine vc_if rfl (fun c1 => ?_) (fun c1 => ?_)
 ·
  refine vc_seq ?_
  refine vc_region ?_
  refine oq (qv_build (out := [(Value.int .i64 0), (Value.slice none 0 0), (Value.slice none 0 0), (Value.int .i64 0)]) Tryz.build25 [] rfl rfl) ?_
  refine ops_stw (k := 3) (vs := [(Value.int .i64 0), (Value.slice none 0 0), (Value.slice none 0 0), (Value.int .i64 0)]) Tryz.size25 rfl rfl rfl rfl rfl rfl ?_
  refine oq (qv_as (Value.int .i64 1) rfl) ?_
  refine ops_nil ?_
  refine vc_freeze (b := b4) (o := .cells ([(Value.int .i64 0), (Value.slice none 0 0), (Value.slice none 0 0), (Value.int .i64 0)] : List Value).toArray 25 (0, 0)) (σr := [ζ1, (Arr 25 b2 [(Value.int .i64 (A.v)), la, na, (Value.int .i64 (A.r))]), (Arr 25 b3 [(Value.int .i64 (B.v)), lb, nb, (Value.int .i64 (B.r))])]) (List.perm_middle (l₁ := [ζ1, (Arr 25 b2 [(Value.int .i64 (A.v)), la, na, (Value.int .i64 (A.r))]), (Arr 25 b3 [(Value.int .i64 (B.v)), lb, nb, (Value.int .i64 (B.r))])]) (l₂ := [])) (fun Vf1 hVf1 hb1 => ?_)
  have hc1 : Cells Vf1 b4 [(Value.int .i64 0), (Value.slice none 0 0), (Value.slice none 0 0), (Value.int .i64 0)] := ⟨_, _, hb1⟩
  have hC := hC.mono hVf1
  have hA := hA.mono hVf1
  have hB := hB.mono hVf1
  refine vc_drop [] [ζ1, ζ8, ζ9] (.refl _) ?_
  refine vc_ret ?_
  refine rs2 _ (Value.int .i64 1) (rv_c (vs := [(Value.int .i64 0), (Value.slice none 0 0), (Value.slice none 0 0), (Value.int .i64 0)]) Tryz.agg25 rfl (inVc hc1) rfl rfl) (rv_t rfl) ?_
  have e := ch_1 (A := A) (B := B) (fun q => absurd (Bd.chk_0 q) (by assumption))
  subst ζ1 ζ2 ζ8 ζ9
  rw [e.1, e.2]
  exact ⟨rfl, MRs.zero⟩
 ·
  refine vc_skip ?_
  refine vc_seq ?_
  have hbok : Bd.Ok cv cN cr := Bd.chk_ok.1 (by omega)
  have hcv := h12 hbok
  refine vc_region ?_
  refine oq (qv_ldm (vs := [(Value.int .i64 cv), nc, (Value.int .i64 cr)]) Tryz.agg55 rfl (inOc (k := 0) rfl) rfl rfl) ?_
  refine ops_call (σa := []) (σr := [ζ1, ζ8, ζ9, ζ2]) (lifted_c hC hbok) rfl rfl (.refl _) (fun r1 V1 sg1 hV1 hp1 => ?_)
  obtain ⟨rfl, lvd, nvd, rfl, hMd⟩ := hp1
  have hC := hC.mono hV1
  have hA := hA.mono hV1
  have hB := hB.mono hV1
  refine ops_alloc Tryz.ti25 rfl (fun b5 => ?_)
  let ζ6 : Value := .int .i64 ((lfD cv cN cr).v)
  let ζ7 : Value := .int .i64 ((lfD cv cN cr).r)
  refine ops_stw (k := 4) (vs := [ζ6, lvd, nvd, ζ7]) Tryz.size25 rfl rfl rfl (allc rfl (allc (Sl.one hMd.l) (allc (SlS.one hMd.n) (allc rfl rfl)))) rfl rfl ?_
  refine ops_nil ?_
  refine vc_seq ?_
  refine vc_seq ?_
  refine vc_res (σ' := [ζ1, ζ8, ζ9, ζ2, (Arr 25 b5 [ζ6, lvd, nvd, ζ7])]) rfl ?_
  refine vc_region ?_
  refine oq (qv_ldm (vs := [ζ6, lvd, nvd, ζ7]) Tryz.agg25 rfl (inOc (k := 4) rfl) rfl rfl) ?_
  refine oq (qv_ldm (vs := [(.int .i64 A.v), la, na, (.int .i64 A.r)]) Tryz.agg25 rfl (inOc (k := 1) rfl) rfl rfl) ?_
  refine oq (qv_ldm (vs := [(.int .i64 B.v), lb, nb, (.int .i64 B.r)]) Tryz.agg25 rfl (inOc (k := 2) rfl) rfl rfl) ?_
  refine ops_lit (n := 3) (s := 4) (cs := [ζ6, lvd, nvd, ζ7, (.int .i64 A.v), la, na, (.int .i64 A.r), (.int .i64 B.v), lb, nb, (.int .i64 B.r)]) Tryz.underlying90 Tryz.ti25 (Nat.le_of_ble_eq_true rfl) rfl rfl rfl (Nat.le_of_ble_eq_true rfl) rfl (fun b6 => ?_)
  let ζ3 : Asrt := Arr 25 b5 [(Value.int .i64 ((lfD cv cN cr).v)), lvd, nvd, (Value.int .i64 ((lfD cv cN cr).r))]
  let ζ4 : Asrt := Arr 25 b2 [(Value.int .i64 (A.v)), la, na, (Value.int .i64 (A.r))]
  let ζ5 : Asrt := Arr 25 b3 [(Value.int .i64 (B.v)), lb, nb, (Value.int .i64 (B.r))]
  refine ops_freeze (b := b6) (o := .cells ([(Value.int .i64 ((lfD cv cN cr).v)), lvd, nvd, (Value.int .i64 ((lfD cv cN cr).r)), (Value.int .i64 (A.v)), la, na, (Value.int .i64 (A.r)), (Value.int .i64 (B.v)), lb, nb, (Value.int .i64 (B.r))] : List Value).toArray 25 (0, 0)) (σr := [ζ1, ζ4, ζ5, ζ2, ζ3]) (List.perm_middle (l₁ := [ζ1, ζ4, ζ5, ζ2, ζ3]) (l₂ := [])) (fun Vf2 hVf2 hb2 => ?_)
  have hc2 : Cells Vf2 b6 [ζ6, lvd, nvd, ζ7, (.int .i64 A.v), la, na, (.int .i64 A.r), (.int .i64 B.v), lb, nb, (.int .i64 B.r)] := ⟨_, _, hb2⟩
  have hC := hC.mono hVf2
  have hA := hA.mono hVf2
  have hB := hB.mono hVf2
  have hMd := hMd.mono hVf2
  let ζ10 : Value := .int .i64 (vE [(lfD cv cN cr), A, B])
  refine oq (qv_call (v := ζ10) (checked_c (Mdl.three hc2 hMd hA hB) (by show 1 ≤ 3; omega)) rfl rfl) ?_
  refine oq (qv_as ζ10 rfl) ?_
  refine ops_nil ?_
  refine vc_seq ?_
  refine vc_region ?_
  refine oq (qv_mv ζ10 rfl) ?_
  refine oq (qv_neq rfl rfl) ?_
  refine ops_nil ?_
  refine vc_if rfl (fun c2 => ?_) (fun c2 => ?_)
  ·
   refine vc_seq ?_
   refine vc_region ?_
   refine oq (qv_build (out := [(Value.int .i64 0), (Value.slice none 0 0), (Value.slice none 0 0), (Value.int .i64 0)]) Tryz.build25 [] rfl rfl) ?_
   refine oq (qv_mv ζ10 rfl) ?_
   refine ops_stw (k := 3) (vs := [(Value.int .i64 0), (Value.slice none 0 0), (Value.slice none 0 0), (Value.int .i64 0)]) Tryz.size25 rfl rfl rfl rfl rfl rfl ?_
   refine oq (qv_as ζ10 rfl) ?_
   refine ops_nil ?_
   refine vc_freeze (b := b4) (o := .cells ([(Value.int .i64 0), (Value.slice none 0 0), (Value.slice none 0 0), (Value.int .i64 0)] : List Value).toArray 25 (0, 0)) (σr := [ζ1, ζ4, ζ5, ζ3]) (List.perm_middle (l₁ := [ζ1, ζ4, ζ5]) (l₂ := [ζ3])) (fun Vf3 hVf3 hb3 => ?_)
   have hc3 : Cells Vf3 b4 [(Value.int .i64 0), (Value.slice none 0 0), (Value.slice none 0 0), (Value.int .i64 0)] := ⟨_, _, hb3⟩
   have hC := hC.mono hVf3
   have hA := hA.mono hVf3
   have hB := hB.mono hVf3
   have hMd := hMd.mono hVf3
   have hc2 := hc2.mono hVf3
   refine vc_drop [] [ζ1, ζ8, ζ9, (Arr 25 b5 [ζ6, lvd, nvd, ζ7])] (.refl _) ?_
   refine vc_ret ?_
   refine rs2 _ ζ10 (rv_c (vs := [(Value.int .i64 0), (Value.slice none 0 0), (Value.slice none 0 0), (Value.int .i64 0)]) Tryz.agg25 rfl (inVc hc3) rfl rfl) (rv_t rfl) ?_
   have e := ch_v (A := A) (B := B) hbok (by assumption)
   subst ζ1 ζ2 ζ8 ζ9 ζ6 ζ7 ζ3 ζ4 ζ5 ζ10
   rw [e.1, e.2]
   exact ⟨rfl, MRs.zero⟩
  ·
   refine vc_skip ?_
   refine vc_seq ?_
   have hz : vE [(lfD cv cN cr), A, B] = 0 := by omega
   have hcm : Cmb [(lfD cv cN cr), A, B] := cmb_of (vE_ok.1 hz).1 (vE_ok.1 hz).2 (by show 1 ≤ 3; omega) (by show 3 ≤ 3; omega)
   refine vc_region ?_
   refine oq (qv_ldm (vs := [ζ6, lvd, nvd, ζ7]) Tryz.agg25 rfl (inOc (k := 4) rfl) rfl rfl) ?_
   refine oq (qv_ldm (vs := [(.int .i64 A.v), la, na, (.int .i64 A.r)]) Tryz.agg25 rfl (inOc (k := 1) rfl) rfl rfl) ?_
   refine oq (qv_ldm (vs := [(.int .i64 B.v), lb, nb, (.int .i64 B.r)]) Tryz.agg25 rfl (inOc (k := 2) rfl) rfl rfl) ?_
   refine ops_lit (n := 3) (s := 4) (cs := [ζ6, lvd, nvd, ζ7, (.int .i64 A.v), la, na, (.int .i64 A.r), (.int .i64 B.v), lb, nb, (.int .i64 B.r)]) Tryz.underlying90 Tryz.ti25 (Nat.le_of_ble_eq_true rfl) rfl rfl rfl (Nat.le_of_ble_eq_true rfl) rfl (fun b7 => ?_)
   refine ops_freeze (b := b7) (o := .cells ([(Value.int .i64 ((lfD cv cN cr).v)), lvd, nvd, (Value.int .i64 ((lfD cv cN cr).r)), (Value.int .i64 (A.v)), la, na, (Value.int .i64 (A.r)), (Value.int .i64 (B.v)), lb, nb, (Value.int .i64 (B.r))] : List Value).toArray 25 (0, 0)) (σr := [ζ1, ζ4, ζ5, ζ2, ζ3]) (List.perm_middle (l₁ := [ζ1, ζ4, ζ5, ζ2, ζ3]) (l₂ := [])) (fun Vf4 hVf4 hb4 => ?_)
   have hc4 : Cells Vf4 b7 [ζ6, lvd, nvd, ζ7, (.int .i64 A.v), la, na, (.int .i64 A.r), (.int .i64 B.v), lb, nb, (.int .i64 B.r)] := ⟨_, _, hb4⟩
   have hC := hC.mono hVf4
   have hA := hA.mono hVf4
   have hB := hB.mono hVf4
   have hMd := hMd.mono hVf4
   have hc2 := hc2.mono hVf4
   subst ζ1 ζ2 ζ8 ζ9 ζ6 ζ7 ζ3 ζ4 ζ5 ζ10
   refine ops_call (σa := []) (σr := [(Arr 55 b1 [(Value.int .i64 cv), nc, (Value.int .i64 cr)]), (Arr 25 b2 [(.int .i64 A.v), la, na, (.int .i64 A.r)]), (Arr 25 b3 [(.int .i64 B.v), lb, nb, (.int .i64 B.r)]), (Arr 25 b4 [(Value.int .i64 0), (Value.slice none 0 0), (Value.slice none 0 0), (Value.int .i64 0)]), (Arr 25 b5 [(.int .i64 ((lfD cv cN cr).v)), lvd, nvd, (.int .i64 ((lfD cv cN cr).r))])]) (by have h := made_c (Ds := [(lfD cv cN cr), A, B]) (vars := cv) (F := fun x y z => if x = 1 then y else z) (fid := 61) (fcaps := []) (Mdl.three hc4 hMd hA hB) hcm.ok hcm.sv hcm.rg (by show 1 ≤ 3; omega) hcm.rt (fun W q x y z _ _ _ => Choose1_c); rw [cT3] at h; exact h) rfl rfl (.refl _) (fun r2 V2 sg2 hV2 hp2 => ?_)
   obtain ⟨rfl, lv1, nv1, rfl, hMt⟩ := hp2
   have hC := hC.mono hV2
   have hA := hA.mono hV2
   have hB := hB.mono hV2
   have hMd := hMd.mono hV2
   have hc2 := hc2.mono hV2
   have hc4 := hc4.mono hV2
   let ζ11 : Value := .int .i64 ((mkD cv (chT cv cN cr A B)).v)
   let ζ12 : Value := .int .i64 ((mkD cv (chT cv cN cr A B)).r)
   refine oq (qv_ext (.agg #[ζ11, lv1, nv1, ζ12]) rfl rfl) ?_
   let ζ13 : Value := .int .i64 (mkE cv (chT cv cN cr A B))
   refine oq (qv_ext ζ13 rfl rfl) ?_
   refine ops_stw (k := 3) (vs := [ζ11, lv1, nv1, ζ12]) Tryz.size25 rfl rfl rfl (allc rfl (allc (Sl.one hMt.l) (allc (SlS.one hMt.n) (allc rfl rfl)))) rfl rfl ?_
   refine oq (qv_as ζ13 rfl) ?_
   refine ops_nil ?_
   let ζ1 : Asrt := Arr 55 b1 [(Value.int .i64 cv), nc, (Value.int .i64 cr)]
   refine vc_freeze (b := b4) (o := .cells ([(Value.int .i64 ((mkD cv (chT cv cN cr A B)).v)), lv1, nv1, (Value.int .i64 ((mkD cv (chT cv cN cr A B)).r))] : List Value).toArray 25 (0, 0)) (σr := [ζ1, (Arr 25 b2 [(Value.int .i64 (A.v)), la, na, (Value.int .i64 (A.r))]), (Arr 25 b3 [(Value.int .i64 (B.v)), lb, nb, (Value.int .i64 (B.r))]), (Arr 25 b5 [(Value.int .i64 ((lfD cv cN cr).v)), lvd, nvd, (Value.int .i64 ((lfD cv cN cr).r))])]) (List.perm_middle (l₁ := [ζ1, (Arr 25 b2 [(Value.int .i64 (A.v)), la, na, (Value.int .i64 (A.r))]), (Arr 25 b3 [(Value.int .i64 (B.v)), lb, nb, (Value.int .i64 (B.r))])]) (l₂ := [(Arr 25 b5 [(Value.int .i64 ((lfD cv cN cr).v)), lvd, nvd, (Value.int .i64 ((lfD cv cN cr).r))])])) (fun Vf5 hVf5 hb5 => ?_)
   have hc5 : Cells Vf5 b4 [ζ11, lv1, nv1, ζ12] := ⟨_, _, hb5⟩
   have hC := hC.mono hVf5
   have hA := hA.mono hVf5
   have hB := hB.mono hVf5
   have hMd := hMd.mono hVf5
   have hc2 := hc2.mono hVf5
   have hc4 := hc4.mono hVf5
   have hMt := hMt.mono hVf5
   refine vc_drop [] [ζ1, (Arr 25 b2 [(.int .i64 A.v), la, na, (.int .i64 A.r)]), (Arr 25 b3 [(.int .i64 B.v), lb, nb, (.int .i64 B.r)]), (Arr 25 b5 [(.int .i64 ((lfD cv cN cr).v)), lvd, nvd, (.int .i64 ((lfD cv cN cr).r))])] (.refl _) ?_
   refine vc_ret ?_
   refine rs2 _ ζ13 (rv_c (vs := [ζ11, lv1, nv1, ζ12]) Tryz.agg25 rfl (inVc hc5) rfl rfl) (rv_t rfl) ?_
   obtain ⟨e1, e2, e3, _⟩ := ch_0 (A := A) (B := B) hbok hcv hz
   subst ζ11 ζ12 ζ13 ζ1
   rw [e1, e2, e3]
   exact ⟨rfl, lv1, nv1, rfl, hMt⟩

end Go.Proofs.YtkmhjcjpohpiaaaGreat
