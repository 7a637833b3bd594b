import Derived.Test.YtkmhjcjpohpiaaaGreatPa
/- Walks of mtbdd: what each function returns. Printed by a program out of notes. -/
namespace Go.Proofs.YtkmhjcjpohpiaaaGreat
open Go.Vc
open Classical

set_option maxRecDepth 100000 in
set_option maxHeartbeats 4000000 in
theorem Pair_c {V : HV} {la na : Value} {A : Mg} (hA : Mt V la na A) {lb nb : Value} {B : Mg} (hB : Mt V lb nb B) (h12 : vE [A, B] = 0 → A.v ≤ 12) :
    FnC Tryz.prog 17 [(.agg #[(.int .i64 A.v), la, na, (.int .i64 A.r)]), (.agg #[(.int .i64 B.v), lb, nb, (.int .i64 B.r)])] V [] (fun v V' σ' => σ' = [] ∧ ∃ (S : List P2) (lv nv sv : Value), v = .tuple #[.agg #[.int .i64 (prD A B S).v, lv, nv, .int .i64 (prD A B S).r], sv, .int .i64 (vE [A, B])] ∧ Mt V' lv nv (prD A B S) ∧ P2s V' sv S ∧ (vE [A, B] = 0 → PSet A B S) ∧ (vE [A, B] ≠ 0 → S = [])) := by
 refine fn_intro (N := 77) Tryz.func17 (by kernel_rfl) rfl rfl rfl (Nat.le_of_ble_eq_true rfl) ?_
 intro w0 D
 have hbl := Ints.bound hA.l
 have hbn := SlS.bound hA.n
 refine vc_seq ?_
 refine vc_region ?_
 refine ops_box (v := (.agg #[(.int .i64 A.v), la, na, (.int .i64 A.r)])) (cs := [(.int .i64 A.v), la, na, (.int .i64 A.r)]) rfl rfl (fun b1 => ?_)
 refine ops_box (v := (.agg #[(.int .i64 B.v), lb, nb, (.int .i64 B.r)])) (cs := [(.int .i64 B.v), lb, nb, (.int .i64 B.r)]) rfl rfl (fun b2 => ?_)
 refine ops_alloc Tryz.ti25 rfl (fun b3 => ?_)
 refine oq (qv_as (Value.slice none 0 0) rfl) ?_
 refine oq (qv_as (Value.int .i64 0) rfl) ?_
 refine ops_nil ?_
 refine vc_seq ?_
 refine vc_seq ?_
 let ζ1 : Asrt := Arr 25 b3 [(Value.int .i64 0), (Value.slice none 0 0), (Value.slice none 0 0), (Value.int .i64 0)]
 let ζ3 : Asrt := Arr 25 b1 [(.int .i64 A.v), la, na, (.int .i64 A.r)]
 let ζ4 : Asrt := Arr 25 b2 [(.int .i64 B.v), lb, nb, (.int .i64 B.r)]
 refine vc_res (σ' := [ζ3, ζ4, ζ1]) rfl ?_
 refine vc_region ?_
 refine oq (qv_ldm (vs := [(.int .i64 A.v), la, na, (.int .i64 A.r)]) Tryz.agg25 rfl (inOc (k := 0) rfl) rfl rfl) ?_
 refine oq (qv_ldm (vs := [(.int .i64 B.v), lb, nb, (.int .i64 B.r)]) Tryz.agg25 rfl (inOc (k := 1) rfl) rfl rfl) ?_
 refine ops_lit (n := 2) (s := 4) (cs := [(.int .i64 A.v), la, na, (.int .i64 A.r), (.int .i64 B.v), lb, nb, (.int .i64 B.r)]) Tryz.underlying90 Tryz.ti25 (Nat.le_of_ble_eq_true rfl) rfl rfl rfl (Nat.le_of_ble_eq_true rfl) rfl (fun b4 => ?_)
 let ζ7 : Asrt := Arr 25 b1 [(Value.int .i64 (A.v)), la, na, (Value.int .i64 (A.r))]
 let ζ8 : Asrt := Arr 25 b2 [(Value.int .i64 (B.v)), lb, nb, (Value.int .i64 (B.r))]
 refine ops_freeze (b := b4) (o := .cells ([(Value.int .i64 (A.v)), la, na, (Value.int .i64 (A.r)), (Value.int .i64 (B.v)), lb, nb, (Value.int .i64 (B.r))] : List Value).toArray 25 (0, 0)) (σr := [ζ7, ζ8, ζ1]) (List.perm_middle (l₁ := [ζ7, ζ8, ζ1]) (l₂ := [])) (fun Vf1 hVf1 hb1 => ?_)
 have hc1 : Cells Vf1 b4 [(.int .i64 A.v), la, na, (.int .i64 A.r), (.int .i64 B.v), lb, nb, (.int .i64 B.r)] := ⟨_, _, hb1⟩
 have hA := hA.mono hVf1
 have hB := hB.mono hVf1
 refine oq (qv_call (v := (.int .i64 (vE [A, B]))) (checked_c (Mdl.two hc1 hA hB) (by show 1 ≤ 2; omega)) rfl rfl) ?_
 refine oq (qv_as (.int .i64 (vE [A, B])) rfl) ?_
 refine ops_nil ?_
 refine vc_seq ?_
 refine vc_region ?_
 refine oq (qv_mv (.int .i64 (vE [A, B])) rfl) ?_
 refine oq (qv_neq rfl rfl) ?_
 refine ops_nil ?_
 refine vc_if rfl (fun c1 => ?_) (fun c1 => ?_)
 ·
  refine vc_seq ?_
  refine vc_region ?_
  refine oq (qv_build (out := [(Value.int .i64 0), (Value.slice none 0 0), (Value.slice none 0 0), (Value.int .i64 0)]) Tryz.build25 [] rfl rfl) ?_
  refine oq (qv_mv (.int .i64 (vE [A, B])) rfl) ?_
  refine ops_stw (k := 2) (vs := [(Value.int .i64 0), (Value.slice none 0 0), (Value.slice none 0 0), (Value.int .i64 0)]) Tryz.size25 rfl rfl rfl rfl rfl rfl ?_
  refine oq (qv_as (Value.slice none 0 0) rfl) ?_
  refine oq (qv_as (.int .i64 (vE [A, B])) rfl) ?_
  refine ops_nil ?_
  refine vc_freeze (b := b3) (o := .cells ([(Value.int .i64 0), (Value.slice none 0 0), (Value.slice none 0 0), (Value.int .i64 0)] : List Value).toArray 25 (0, 0)) (σr := [ζ7, ζ8]) (List.perm_middle (l₁ := [ζ7, ζ8]) (l₂ := [])) (fun Vf2 hVf2 hb2 => ?_)
  have hc2 : Cells Vf2 b3 [(Value.int .i64 0), (Value.slice none 0 0), (Value.slice none 0 0), (Value.int .i64 0)] := ⟨_, _, hb2⟩
  have hA := hA.mono hVf2
  have hB := hB.mono hVf2
  have hc1 := hc1.mono hVf2
  refine vc_drop [] [ζ3, ζ4] (.refl _) ?_
  refine vc_ret ?_
  refine rs3 _ (Value.slice none 0 0) (.int .i64 (vE [A, B])) (rv_c (vs := [(Value.int .i64 0), (Value.slice none 0 0), (Value.slice none 0 0), (Value.int .i64 0)]) Tryz.agg25 rfl (inVc hc2) rfl rfl) (rv_t rfl) (rv_t rfl) ?_
  have hn : vE [A, B] ≠ 0 := by omega
  refine ⟨rfl, [], .slice none 0 0, .slice none 0 0, .slice none 0 0, ?_, ?_, P2s.nil, fun q => absurd q hn, fun _ => rfl⟩
  · subst ζ1 ζ3 ζ4 ζ7 ζ8; rw [prD_n hn]
  · subst ζ1 ζ3 ζ4 ζ7 ζ8; rw [prD_n hn]; exact Mt.nil
 ·
  refine vc_skip ?_
  refine vc_seq ?_
  have hz : vE [A, B] = 0 := by omega
  have hcm : Cmb [A, B] := cmb_of (vE_ok.1 hz).1 (vE_ok.1 hz).2 (by show 1 ≤ 2; omega) (by show 2 ≤ 3; omega)
  obtain ⟨⟨hokA, hokB⟩, hvv⟩ := vE2_ok.1 hz
  refine vc_region ?_
  refine ops_call (σa := []) (σr := [ζ3, ζ4, ζ1]) (newBuilder_c) rfl rfl (.refl _) (fun r1 V1 sg1 hV1 hp1 => ?_)
  obtain ⟨bb, ba, bi, rfl, rfl⟩ := hp1
  have hA := hA.mono hV1
  have hB := hB.mono hV1
  have hc1 := hc1.mono hV1
  let ζ23 : Value := Value.pointer (some ⟨bb, 0, none⟩)
  refine oq (qv_as ζ23 rfl) ?_
  refine ops_nil ?_
  refine vc_seq ?_
  let ζ13 : Asrt := Arr 100 bb [(Value.slice none 0 0), (Value.slice none 0 0), (Value.map (some ba)), (Value.map (some bi)), (.bool (decide (wd [])))]
  let ζ16 : Asrt := Mf ba (Value.int .i64) (Value.int .i64) (lfF [])
  let ζ18 : Asrt := Mf bi fkv (Value.int .i64) (idF [])
  refine vc_res (σ' := [ζ13, ζ16, ζ18, ζ3, ζ4, ζ1]) rfl ?_
  refine vc_region ?_
  refine ops_mkmap0 k2v (Value.int .i64) (fun b5 => ?_)
  refine ops_alloc Tryz.ti88 rfl (fun b6 => ?_)
  refine ops_stp (k := 7) (off := 0) (cs := [(Value.map none)]) Tryz.size88 rfl (rfl : ev _ _ = (Value.map (some b5))) rfl rfl (Nat.le_of_ble_eq_true rfl) ?_
  refine ops_nil ?_
  refine vc_seq ?_
  refine vc_res (σ' := [ζ13, ζ16, ζ18, ζ3, ζ4, ζ1, (Mf b5 k2v (Value.int .i64) (fun _ => none)), (Arr 88 b6 [(Value.map (some b5))])]) rfl ?_
  refine vc_nil 50 2 ?_
  refine vc_region ?_
  refine ops_alloc Tryz.ti44 rfl (fun b7 => ?_)
  refine ops_nil ?_
  refine vc_seq ?_
  refine vc_res (σ' := [ζ13, ζ16, ζ18, ζ3, ζ4, ζ1, (Mf b5 k2v (Value.int .i64) (fun _ => none)), (Arr 88 b6 [(Value.map (some b5))]), (Gr 50 2 ((Value.slice none 0 0)) 0 ([])), (Arr 44 b7 [(Value.slice none 0 0)])]) rfl ?_
  refine vc_pack (PRs b5 b7 (⟨[], List.nodup_nil⟩ : PSt)) (.slice none 0 0) (τ := [ζ13, ζ16, ζ18, ζ3, ζ4, ζ1, (Arr 88 b6 [(Value.map (some b5))])]) (perm_idx _ _ [6, 9, 8, 0, 1, 2, 3, 4, 5, 7] rfl rfl) ?_
  refine vc_nil 3 1 ?_
  refine vc_nil 65 3 ?_
  refine vc_region ?_
  refine oq (qv_mv ζ23 rfl) ?_
  refine oq (qv_ldm (vs := [(.int .i64 A.v), la, na, (.int .i64 A.r)]) Tryz.agg25 rfl (inOc (k := 4) rfl) rfl rfl) ?_
  refine oq (qv_ldm (vs := [(.int .i64 B.v), lb, nb, (.int .i64 B.r)]) Tryz.agg25 rfl (inOc (k := 5) rfl) rfl rfl) ?_
  refine ops_lit (n := 2) (s := 4) (cs := [(.int .i64 A.v), la, na, (.int .i64 A.r), (.int .i64 B.v), lb, nb, (.int .i64 B.r)]) Tryz.underlying90 Tryz.ti25 (Nat.le_of_ble_eq_true rfl) rfl rfl rfl (Nat.le_of_ble_eq_true rfl) rfl (fun b8 => ?_)
  refine oq (qv_func (cs := [(Value.pointer (some ⟨b6, 0, none⟩)), (Value.pointer (some ⟨b7, 0, none⟩))]) rfl) ?_
  let ζ12 : Asrt := Arr 100 bb [(Value.slice none 0 0), (Value.slice none 0 0), (Value.map (some ba)), (Value.map (some bi)), (Value.bool (decide (wd [])))]
  let ζ21 : Asrt := Gr 65 3 ((Value.slice none 0 0)) 0 ([])
  let ζ22 : Asrt := Gr 3 1 ((Value.slice none 0 0)) 0 ([])
  refine ops_freeze (b := b6) (o := .cells ([(Value.map (some b5))] : List Value).toArray 88 (0, 0)) (σr := [(PS b5 b7 (⟨[], List.nodup_nil⟩ : PSt)), ζ12, ζ16, ζ18, ζ7, ζ8, ζ1, ζ22, ζ21, (Arr 25 b8 [(Value.int .i64 (A.v)), la, na, (Value.int .i64 (A.r)), (Value.int .i64 (B.v)), lb, nb, (Value.int .i64 (B.r))])]) (List.perm_middle (l₁ := [(PS b5 b7 (⟨[], List.nodup_nil⟩ : PSt)), ζ12, ζ16, ζ18, ζ7, ζ8, ζ1]) (l₂ := [ζ22, ζ21, (Arr 25 b8 [(Value.int .i64 (A.v)), la, na, (Value.int .i64 (A.r)), (Value.int .i64 (B.v)), lb, nb, (Value.int .i64 (B.r))])])) (fun Vf3 hVf3 hb3 => ?_)
  have hc3 : Cells Vf3 b6 [(Value.map (some b5))] := ⟨_, _, hb3⟩
  have hA := hA.mono hVf3
  have hB := hB.mono hVf3
  have hc1 := hc1.mono hVf3
  refine ops_freeze (b := b8) (o := .cells ([(Value.int .i64 (A.v)), la, na, (Value.int .i64 (A.r)), (Value.int .i64 (B.v)), lb, nb, (Value.int .i64 (B.r))] : List Value).toArray 25 (0, 0)) (σr := [(PS b5 b7 (⟨[], List.nodup_nil⟩ : PSt)), ζ12, ζ16, ζ18, ζ7, ζ8, ζ1, ζ22, ζ21]) (List.perm_middle (l₁ := [(PS b5 b7 (⟨[], List.nodup_nil⟩ : PSt)), ζ12, ζ16, ζ18, ζ7, ζ8, ζ1, ζ22, ζ21]) (l₂ := [])) (fun Vf4 hVf4 hb4 => ?_)
  have hc4 : Cells Vf4 b8 [(.int .i64 A.v), la, na, (.int .i64 A.r), (.int .i64 B.v), lb, nb, (.int .i64 B.r)] := ⟨_, _, hb4⟩
  have hA := hA.mono hVf4
  have hB := hB.mono hVf4
  have hc1 := hc1.mono hVf4
  have hc3 := hc3.mono hVf4
  subst ζ1 ζ3 ζ4 ζ7 ζ8 ζ23 ζ13 ζ16 ζ18 ζ12 ζ21 ζ22
  refine ops_call (σa := [(Arr 100 bb [(Value.slice none 0 0), (Value.slice none 0 0), (Value.map (some ba)), (Value.map (some bi)), (.bool (decide (wd [])))]), (Gr 3 1 ((Value.slice none 0 0)) 0 ([])), (Gr 65 3 ((Value.slice none 0 0)) 0 ([])), (Mf ba (Value.int .i64) (Value.int .i64) (lfF [])), (Mf bi fkv (Value.int .i64) (idF [])), (PS b5 b7 (⟨[], List.nodup_nil⟩ : PSt))]) (σr := [(Arr 25 b1 [(.int .i64 A.v), la, na, (.int .i64 A.r)]), (Arr 25 b2 [(.int .i64 B.v), lb, nb, (.int .i64 B.r)]), (Arr 25 b3 [(Value.int .i64 0), (Value.slice none 0 0), (Value.slice none 0 0), (Value.int .i64 0)])]) (combine_s (γ := PSt) (S := PS b5 b7) (Ag := AgP) (sz := fun T => T.1.length) (Iv := IvP) (s := (⟨[], List.nodup_nil⟩ : PSt)) (vars := A.v) (Ds := [A, B]) (u := .slice none 0 0) (w := .slice none 0 0) (L := []) (M := []) (bb := bb) (ba := ba) (bi := bi) (Mdl.two hc4 hA hB) hcm.ok hcm.sv hcm.rg (by show 1 ≤ 2; omega) hcm.rt bok_nil (by simp) (by simp) rfl (by decide) (fun W q s x y z hx hy _ hz => pairf_c hx hy (hc3.mono q) hz) (fun s => ⟨_, agP_ix s⟩)) rfl rfl (perm_idx _ _ [1, 7, 8, 2, 3, 0, 4, 5, 6] rfl rfl) (fun r2 V2 sg2 hV2 hp2 => ?_)
  obtain ⟨L1, M1, p1, u1, w1, T1, rfl, rfl, hz1, hI1, _, hml1, hll1, hall1⟩ := hp2
  have z1 : M1.length ≤ 0 + 1099511627776 := hml1
  have z2 : L1.length ≤ 0 + 1099511627776 := hll1
  have hA := hA.mono hV2
  have hB := hB.mono hV2
  have hc1 := hc1.mono hV2
  have hc3 := hc3.mono hV2
  have hc4 := hc4.mono hV2
  refine oq (qv_as (Value.int .i64 p1) rfl) ?_
  refine ops_nil ?_
  refine vc_seq ?_
  refine vc_seq ?_
  let ζ1 : Asrt := Arr 25 b3 [(Value.int .i64 0), (Value.slice none 0 0), (Value.slice none 0 0), (Value.int .i64 0)]
  let ζ2 : Asrt := Arr 100 bb [u1, w1, (Value.map (some ba)), (Value.map (some bi)), (.bool (decide (wd L1)))]
  let ζ3 : Asrt := Arr 25 b1 [(.int .i64 A.v), la, na, (.int .i64 A.r)]
  let ζ4 : Asrt := Arr 25 b2 [(.int .i64 B.v), lb, nb, (.int .i64 B.r)]
  let ζ5 : Asrt := Mf ba (Value.int .i64) (Value.int .i64) (lfF L1)
  let ζ9 : Asrt := Mf bi fkv (Value.int .i64) (idF M1)
  let ζ10 : Asrt := Gr 3 1 u1 L1.length ((L1.map (Value.int .i64)))
  let ζ11 : Asrt := Gr 65 3 w1 M1.length ((fks M1))
  refine vc_res (σ' := [ζ2, ζ10, ζ11, ζ5, ζ9, (PS b5 b7 T1), ζ3, ζ4, ζ1]) rfl ?_
  refine vc_unpack (PRs b5 b7 T1) (τ := [ζ2, ζ10, ζ11, ζ5, ζ9, ζ3, ζ4, ζ1]) (perm_idx _ _ [5, 0, 1, 2, 3, 4, 6, 7, 8] rfl rfl) (fun wp => ?_)
  let ζ6 : Asrt := Mf b5 k2v (Value.int .i64) (pF (vals2 T1.1))
  refine vc_res (σ' := [ζ6, (Arr 44 b7 [wp]), (Gr 50 2 wp ((vals2 T1.1).length) ((p2s (vals2 T1.1)))), ζ2, ζ10, ζ11, ζ5, ζ9, ζ3, ζ4, ζ1]) rfl ?_
  have hcnt0 := pair_cnt hokA hokB hvv hI1 hall1
  have hP12 := h12 hz
  have hp2 : 2 ^ A.v.toNat ≤ 2 ^ 12 := Nat.pow_le_pow_right (by omega) (by omega)
  have hp3 : (2 : Nat) ^ 12 = 4096 := by decide
  have hel : (vals2 T1.1).length = T1.1.length := List.length_map ..
  have hL1 : L1.length = T1.1.length := by rw [hI1]; exact upN_len _
  refine vc_region ?_
  refine oq (qv_ldp (v := wp) Tryz.plain44 rfl (inOc (k := 1) rfl) rfl) ?_
  refine oq (qv_lenGr (k := 2) Tryz.underlying44 rfl rfl) ?_
  refine oq (qv_gtr rfl rfl) ?_
  refine ops_nil ?_
  refine vc_if rfl (fun c2 => ?_) (fun c2 => ?_)
  ·
   omega
  ·
   refine vc_skip ?_
   refine vc_seq ?_
   refine vc_res (σ' := [ζ6, (Arr 44 b7 [wp]), (Gr 50 2 wp ((vals2 T1.1).length) ((p2s (vals2 T1.1)))), ζ2, ζ10, ζ11, ζ5, ζ9, ζ3, ζ4, ζ1]) rfl ?_
   let ζ7 : Asrt := Arr 25 b1 [(Value.int .i64 (A.v)), la, na, (Value.int .i64 (A.r))]
   let ζ8 : Asrt := Arr 25 b2 [(Value.int .i64 (B.v)), lb, nb, (Value.int .i64 (B.r))]
   let ζ17 : Asrt := Arr 100 bb [u1, w1, (Value.map (some ba)), (Value.map (some bi)), (Value.bool (decide (wd L1)))]
   refine vc_freezeS (v := wp) (E := 50) (n := (vals2 T1.1).length) (xs := (p2s (vals2 T1.1))) (σr := [ζ6, (Arr 44 b7 [wp]), ζ17, ζ10, ζ11, ζ5, ζ9, ζ7, ζ8, ζ1]) (List.perm_middle (l₁ := [ζ6, (Arr 44 b7 [wp])]) (l₂ := [ζ17, ζ10, ζ11, ζ5, ζ9, ζ7, ζ8, ζ1])) (fun Vf5 hVf5 hc5 => ?_)
   have hA := hA.mono hVf5
   have hB := hB.mono hVf5
   have hc1 := hc1.mono hVf5
   have hc3 := hc3.mono hVf5
   have hc4 := hc4.mono hVf5
   refine vc_region ?_
   refine oq (qv_ldp (v := wp) Tryz.plain44 rfl (inOc (k := 1) rfl) rfl) ?_
   have hP : P2s Vf5 wp (vals2 T1.1) := hc5
   refine ops_call (σa := []) (σr := [ζ6, (Arr 44 b7 [wp]), ζ2, ζ10, ζ11, ζ5, ζ9, ζ3, ζ4, ζ1]) (ValuesP_c hP) rfl rfl (.refl _) (fun r3 V3 sg3 hV3 hp3 => ?_)
   obtain ⟨rfl, Bs, rfl, hcs⟩ := hp3
   have hA := hA.mono hV3
   have hB := hB.mono hV3
   have hc1 := hc1.mono hV3
   have hc3 := hc3.mono hV3
   have hc4 := hc4.mono hV3
   have hc5 := hc5.mono hV3
   have hP := hP.mono hV3
   refine ops_call (σa := []) (σr := [ζ6, (Arr 44 b7 [wp]), ζ2, ζ10, ζ11, ζ5, ζ9, ζ3, ζ4, ζ1]) (SortedP_c (T := T1.1) hcs hP (by omega)) rfl rfl (.refl _) (fun r4 V4 sg4 hV4 hp4 => ?_)
   obtain ⟨T', hp1, hs1, rfl⟩ := hp4
   have hA := hA.mono hV4
   have hB := hB.mono hV4
   have hc1 := hc1.mono hV4
   have hc3 := hc3.mono hV4
   have hc4 := hc4.mono hV4
   have hc5 := hc5.mono hV4
   have hP := hP.mono hV4
   have hcs := hcs.mono hV4
   refine oq (qv_as r4 rfl) ?_
   refine ops_nil ?_
   refine vc_seq ?_
   refine vc_seq ?_
   refine vc_res (σ' := [(Gr 50 2 r4 T1.1.length ((p2s (vals2 T')))), ζ6, (Arr 44 b7 [wp]), ζ2, ζ10, ζ11, ζ5, ζ9, ζ3, ζ4, ζ1]) rfl ?_
   have hTl : T'.length = T1.1.length := hp1.length_eq
   have hTv : (vals2 T').length = T1.1.length := by rw [← hTl]; exact List.length_map ..
   refine vc_freezeS (v := r4) (E := 50) (n := T1.1.length) (xs := (p2s (vals2 T'))) (σr := [ζ6, (Arr 44 b7 [wp]), ζ17, ζ10, ζ11, ζ5, ζ9, ζ7, ζ8, ζ1]) (List.perm_middle (l₁ := []) (l₂ := [ζ6, (Arr 44 b7 [wp]), ζ17, ζ10, ζ11, ζ5, ζ9, ζ7, ζ8, ζ1])) (fun Vf6 hVf6 hc6 => ?_)
   have hA := hA.mono hVf6
   have hB := hB.mono hVf6
   have hc1 := hc1.mono hVf6
   have hc3 := hc3.mono hVf6
   have hc4 := hc4.mono hVf6
   have hc5 := hc5.mono hVf6
   have hP := hP.mono hVf6
   have hcs := hcs.mono hVf6
   refine vc_region ?_
   have hS : P2s Vf6 r4 (vals2 T') := by have q := hc6; rw [← hTv] at q; exact q
   let ζ23 : Value := Value.pointer (some ⟨bb, 0, none⟩)
   refine oq (qv_mv ζ23 rfl) ?_
   refine oq (qv_nilck rfl) ?_
   refine oq (qv_fa (off := 0) Tryz.field100_0 rfl) ?_
   refine oq (qv_ldp (v := u1) Tryz.plain22 rfl (inOc (k := 2) rfl) rfl) ?_
   refine oq (qv_lenGi Tryz.underlying22 rfl (inGi (k := 3) rfl)) ?_
   refine oq (qv_mv (Value.int .i64 0) rfl) ?_
   refine ops_nil ?_
   refine vc_block ?_
   refine vc_loop (α := Int × List Int) (fun (xx : Int × List Int) => [(0, (.agg #[(.int .i64 A.v), la, na, (.int .i64 A.r)])), (1, (.agg #[(.int .i64 B.v), lb, nb, (.int .i64 B.r)])), (2, (Value.pointer (some ⟨b1, 0, none⟩))), (3, (Value.pointer (some ⟨b2, 0, none⟩))), (4, (Value.pointer (some ⟨b3, 0, none⟩))), (5, (Value.slice none 0 0)), (6, (Value.int .i64 0)), (7, (.int .i64 (vE [A, B]))), (8, ζ23), (9, (Value.pointer (some ⟨b6, 0, none⟩))), (10, (Value.pointer (some ⟨b7, 0, none⟩))), (11, (Value.int .i64 p1)), (12, r4), (22, (.bool (decide ((vE [A, B]) ≠ 0)))), (35, (.bool (decide (4096 < ((((vals2 T1.1).length : Nat) : Int)))))), (43, u1), (44, (.int .i64 ((L1.length : Int)))), (45, (Value.int .i64 xx.1))]) (fun (xx : Int × List Int) V' σ' => Vf6 = V' ∧ [ζ6, (Arr 44 b7 [wp]), ζ2, (Gr 3 1 u1 L1.length ((xx.2.map (Value.int .i64)))), ζ11, ζ5, ζ9, ζ3, ζ4, ζ1] = σ' ∧ 0 ≤ xx.1 ∧ xx.1 ≤ L1.length ∧ (xx.2.length : Int) = L1.length ∧ (∀ x : Int, 0 ≤ x → x < xx.1 → gi xx.2 x = ixP (vals2 T') (p2 (vals2 T1.1) (gi L1 x)).a (p2 (vals2 T1.1) (gi L1 x)).b) ∧ ∀ x : Int, xx.1 ≤ x → x < L1.length → gi xx.2 x = gi L1 x) (fun (xx : Int × List Int) => (L1.length - xx.1).toNat) (0, L1) ?_ ?_ ?_
   · exact ⟨rfl, rfl, rfl, rfl, rfl, rfl, rfl, rfl, rfl, rfl, rfl, rfl, rfl, rfl, rfl, rfl, rfl, rfl, trivial⟩
   · exact ⟨rfl, (show [ζ6, (Arr 44 b7 [wp]), ζ2, (Gr 3 1 u1 L1.length (((L1 : List Int).map (Value.int .i64)))), ζ11, ζ5, ζ9, ζ3, ζ4, ζ1] = [ζ6, (Arr 44 b7 [wp]), ζ2, ζ10, ζ11, ζ5, ζ9, ζ3, ζ4, ζ1] from by rfl), by omega, by omega, rfl, fun x a b => by omega, fun x a b => rfl⟩
   rintro ⟨i, Lc⟩ e1 V0l σ0l hI0
   let ζ26 : Asrt := Gr 3 1 u1 L1.length ((Lc.map (Value.int .i64)))
   obtain ⟨rfl, rfl, i1, i2, i3, hdone, hrest⟩ : Vf6 = V0l ∧ [ζ6, (Arr 44 b7 [wp]), ζ2, ζ26, ζ11, ζ5, ζ9, ζ3, ζ4, ζ1] = σ0l ∧ 0 ≤ i ∧ i ≤ L1.length ∧ (Lc.length : Int) = L1.length ∧ (∀ x : Int, 0 ≤ x → x < i → gi Lc x = ixP (vals2 T') (p2 (vals2 T1.1) (gi L1 x)).a (p2 (vals2 T1.1) (gi L1 x)).b) ∧ ∀ x : Int, i ≤ x → x < L1.length → gi Lc x = gi L1 x := hI0
   change VC _ _ _ _ _ _ (upds 77 [(0, (.agg #[(.int .i64 A.v), la, na, (.int .i64 A.r)])), (1, (.agg #[(.int .i64 B.v), lb, nb, (.int .i64 B.r)])), (2, (Value.pointer (some ⟨b1, 0, none⟩))), (3, (Value.pointer (some ⟨b2, 0, none⟩))), (4, (Value.pointer (some ⟨b3, 0, none⟩))), (5, (Value.slice none 0 0)), (6, (Value.int .i64 0)), (7, (.int .i64 (vE [A, B]))), (8, ζ23), (9, (Value.pointer (some ⟨b6, 0, none⟩))), (10, (Value.pointer (some ⟨b7, 0, none⟩))), (11, (Value.int .i64 p1)), (12, r4), (22, (.bool (decide ((vE [A, B]) ≠ 0)))), (35, (.bool (decide (4096 < ((((vals2 T1.1).length : Nat) : Int)))))), (43, u1), (44, (.int .i64 ((L1.length : Int)))), (45, (Value.int .i64 i))] e1) _ _
   refine vc_seq ?_
   refine vc_res (σ' := [ζ6, (Arr 44 b7 [wp]), ζ2, ζ26, ζ11, ζ5, ζ9, ζ3, ζ4, ζ1]) rfl ?_
   refine vc_region ?_
   refine oq (qv_lss rfl rfl) ?_
   refine ops_nil ?_
   refine vc_seq ?_
   refine vc_if rfl (fun c3 => ?_) (fun c3 => ?_)
   ·
    refine vc_skip ?_
    refine vc_seq ?_
    refine vc_block ?_
    refine vc_seq ?_
    refine vc_region ?_
    refine oq (qv_mv (Value.int .i64 i) rfl) ?_
    refine oq (qv_iai (v := u1) (i := i) Tryz.underlying22 Tryz.size3 rfl (inGi (k := 3) rfl) rfl (by omega) (by omega)) ?_
    refine oq (qv_ldi (v := u1) (i := i) Tryz.plain3 rfl (inGi (k := 3) rfl) (by omega) (by omega)) ?_
    refine oq (qv_as (Value.int .i64 i) rfl) ?_
    refine oq (qv_as (.int .i64 (gi Lc (i))) rfl) ?_
    refine ops_nil ?_
    have hk1 := hrest i (by omega) (by omega)
    have hk2 : gi L1 i = i := by rw [hI1]; exact upN_at (by omega) (by omega)
    refine vc_region_order (τ := []) [(0, false), (1, false), (2, false), (3, false), (4, false), (5, false), (6, false), (7, false), (8, false), (9, false), (10, false), (11, false), (12, true)] [ζ6, (Arr 44 b7 [wp]), ζ2, ζ26, ζ11, ζ5, ζ9, ζ3, ζ4, ζ1] Tryz.mixed (perm_nil _) (by kernel_rfl) ?_
    refine rq rfl (qv_mv ζ23 rfl) ?_
    refine rq rfl (qv_nilck rfl) ?_
    refine rq rfl (qv_fa (off := 0) Tryz.field100_0 rfl) ?_
    refine rq rfl (qv_ldp (v := u1) Tryz.plain22 rfl (inOc (k := 2) rfl) rfl) ?_
    refine rq rfl (qv_mv (Value.int .i64 i) rfl) ?_
    refine rq rfl (qv_mv r4 rfl) ?_
    refine rq rfl (qv_ldp (v := wp) Tryz.plain44 rfl (inOc (k := 1) rfl) rfl) ?_
    refine rq rfl (qv_mv (.int .i64 (gi Lc (i))) rfl) ?_
    refine rq rfl (qv_ias (v := wp) (i := gi Lc (i)) Tryz.underlying44 Tryz.size50 rfl hP rfl (by omega) (by omega)) ?_
    refine rq rfl (qv_lds (v := wp) (i := gi Lc (i)) (vs := [(.int .i64 ((p2 (vals2 T1.1) (gi Lc (i))).a)), (.int .i64 ((p2 (vals2 T1.1) (gi Lc (i))).b))]) Tryz.agg50 rfl hP (by omega) (by omega) (p2s_at (by omega) (by omega))) ?_
    refine rq rfl (qv_call (v := (.int .i64 (ixP (vals2 T') ((p2 (vals2 T1.1) (gi Lc (i))).a) ((p2 (vals2 T1.1) (gi Lc (i))).b)))) (IndexP_c hS) rfl rfl) ?_
    refine rq rfl (qv_iai (v := u1) (i := i) Tryz.underlying22 Tryz.size3 rfl (inGi (k := 3) rfl) rfl (by omega) (by omega)) ?_
    refine rl1 (by kernel_rfl) rfl ?_
    subst ζ1 ζ2 ζ3 ζ4 ζ5 ζ9 ζ10 ζ11 ζ6 ζ7 ζ8 ζ17 ζ23 ζ26
    refine ops_stg (k := 3) (v := u1) (i := i) (u := (.int .i64 (ixP (vals2 T') ((p2 (vals2 T1.1) (gi Lc (i))).a) ((p2 (vals2 T1.1) (gi Lc (i))).b)))) Tryz.size3 rfl rfl rfl rfl (by omega) (by simp only [List.length_map, List.length_set]; omega) ?_
    let ζ1 : Asrt := Arr 25 b3 [(Value.int .i64 0), (Value.slice none 0 0), (Value.slice none 0 0), (Value.int .i64 0)]
    let ζ2 : Asrt := Arr 100 bb [u1, w1, (Value.map (some ba)), (Value.map (some bi)), (.bool (decide (wd L1)))]
    let ζ3 : Asrt := Arr 25 b1 [(.int .i64 A.v), la, na, (.int .i64 A.r)]
    let ζ4 : Asrt := Arr 25 b2 [(.int .i64 B.v), lb, nb, (.int .i64 B.r)]
    let ζ5 : Asrt := Mf ba (Value.int .i64) (Value.int .i64) (lfF L1)
    let ζ6 : Asrt := Mf b5 k2v (Value.int .i64) (pF (vals2 T1.1))
    let ζ9 : Asrt := Mf bi fkv (Value.int .i64) (idF M1)
    let ζ11 : Asrt := Gr 65 3 w1 M1.length ((fks M1))
    let ζ19 : Asrt := Gr 3 1 u1 L1.length (((Lc.map (Value.int .i64)).set (i).toNat (.int .i64 (ixP (vals2 T') ((p2 (vals2 T1.1) (gi Lc (i))).a) ((p2 (vals2 T1.1) (gi Lc (i))).b)))))
    refine ops_nil ⟨[ζ6, (Arr 44 b7 [wp]), ζ2, ζ19, ζ11, ζ5, ζ9, ζ3, ζ4, ζ1], [], perm_nil _, ?_⟩
    refine rnil ?_
    refine vc_res (σ' := [ζ6, (Arr 44 b7 [wp]), ζ2, ζ19, ζ11, ζ5, ζ9, ζ3, ζ4, ζ1]) rfl ?_
    refine vc_region ?_
    refine oq (qv_add rfl rfl (by omega)) ?_
    refine oq (qv_mv (.int .i64 (i + 1)) rfl) ?_
    refine ops_nil ?_
    subst ζ1 ζ2 ζ3 ζ4 ζ5 ζ6 ζ9 ζ11 ζ19
    refine ⟨(i + 1, Lc.set i.toNat (ixP (vals2 T') (p2 (vals2 T1.1) (gi Lc i)).a (p2 (vals2 T1.1) (gi Lc i)).b)), ⟨rfl, rfl, rfl, rfl, rfl, rfl, rfl, rfl, rfl, rfl, rfl, rfl, rfl, rfl, rfl, rfl, rfl, (congrArg (Value.int .i64) (show (i + 1) = ((i + 1)) from by omega)), trivial⟩, ⟨rfl, (show [(Mf b5 k2v (Value.int .i64) (pF (vals2 T1.1))), (Arr 44 b7 [wp]), (Arr 100 bb [u1, w1, (Value.map (some ba)), (Value.map (some bi)), (.bool (decide (wd L1)))]), (Gr 3 1 u1 L1.length (((Lc.set i.toNat (ixP (vals2 T') (p2 (vals2 T1.1) (gi Lc i)).a (p2 (vals2 T1.1) (gi Lc i)).b) : List Int).map (Value.int .i64)))), (Gr 65 3 w1 M1.length ((fks M1))), (Mf ba (Value.int .i64) (Value.int .i64) (lfF L1)), (Mf bi fkv (Value.int .i64) (idF M1)), (Arr 25 b1 [(.int .i64 A.v), la, na, (.int .i64 A.r)]), (Arr 25 b2 [(.int .i64 B.v), lb, nb, (.int .i64 B.r)]), (Arr 25 b3 [(Value.int .i64 0), (Value.slice none 0 0), (Value.slice none 0 0), (Value.int .i64 0)])] = [(Mf b5 k2v (Value.int .i64) (pF (vals2 T1.1))), (Arr 44 b7 [wp]), (Arr 100 bb [u1, w1, (Value.map (some ba)), (Value.map (some bi)), (.bool (decide (wd L1)))]), (Gr 3 1 u1 L1.length (((Lc.map (Value.int .i64)).set (i).toNat (.int .i64 (ixP (vals2 T') ((p2 (vals2 T1.1) (gi Lc (i))).a) ((p2 (vals2 T1.1) (gi Lc (i))).b)))))), (Gr 65 3 w1 M1.length ((fks M1))), (Mf ba (Value.int .i64) (Value.int .i64) (lfF L1)), (Mf bi fkv (Value.int .i64) (idF M1)), (Arr 25 b1 [(.int .i64 A.v), la, na, (.int .i64 A.r)]), (Arr 25 b2 [(.int .i64 B.v), lb, nb, (.int .i64 B.r)]), (Arr 25 b3 [(Value.int .i64 0), (Value.slice none 0 0), (Value.slice none 0 0), (Value.int .i64 0)])] from by rw [mset]), by omega, by omega, by rw [List.length_set]; omega, ren_done (f := fun k => ixP (vals2 T') (p2 (vals2 T1.1) k).a (p2 (vals2 T1.1) k).b) (by omega) (by omega) (by rw [hk1]) hdone, ren_rest (by omega) (by omega) hrest⟩, by omega⟩
   ·
    refine vc_exit ?_
    refine blockQ_hit ?_
    refine vc_seq ?_
    have hLe : Lc.length = L1.length := by omega
    obtain ⟨hps, hcnt, hin1, hren⟩ := pair_fin hokA hokB hvv hI1 hall1 hp1 hs1
    have hP12 : A.v ≤ 12 := h12 hz
    obtain ⟨hbk2, hst2, hrc2⟩ := hren Lc hLe (fun x a b => hdone x a (by omega))
    obtain ⟨hbd2, hbe2⟩ := made_mk (vars := A.v) hcm.ok hcm.rt hbk2 hst2 hrc2
    subst ζ1 ζ2 ζ3 ζ4 ζ5 ζ9 ζ10 ζ11 ζ6 ζ7 ζ8 ζ17 ζ23 ζ26
    rw [hbd2] at hbe2
    rw [cT2] at hbd2 hbe2
    have hmk := prT_in hokA hokB hvv hps hP12
    have hw1 : ¬ wd L1 := fun ⟨q, a, b⟩ => (hin1 q a).elim b (fun c => c hP12)
    have hw2 : ¬ wd Lc := fun q => by have : finE Lc (dg A.v (prT A B (vals2 T'))) = 3 := finE_w q; have hbe3 : finE Lc (dg A.v (prT A B (vals2 T'))) = mkE A.v (prT A B (vals2 T')) := hbe2; omega
    have hwe : decide (wd L1) = decide (wd Lc) := by rw [decide_eq_false hw1, decide_eq_false hw2]
    refine vc_res (σ' := [(Mf b5 k2v (Value.int .i64) (pF (vals2 T1.1))), (Arr 44 b7 [wp]), (Arr 100 bb [u1, w1, (Value.map (some ba)), (Value.map (some bi)), (.bool (decide (wd Lc)))]), (Gr 3 1 u1 Lc.length ((Lc.map (Value.int .i64)))), (Gr 65 3 w1 M1.length ((fks M1))), (Mf ba (Value.int .i64) (Value.int .i64) (lfF L1)), (Mf bi fkv (Value.int .i64) (idF M1)), (Arr 25 b1 [(.int .i64 A.v), la, na, (.int .i64 A.r)]), (Arr 25 b2 [(.int .i64 B.v), lb, nb, (.int .i64 B.r)]), (Arr 25 b3 [(Value.int .i64 0), (Value.slice none 0 0), (Value.slice none 0 0), (Value.int .i64 0)])]) (by rw [hLe, hwe]) ?_
    refine vc_region ?_
    refine oq (qv_mv (Value.pointer (some ⟨bb, 0, none⟩)) rfl) ?_
    refine oq (qv_fa (off := 0) Tryz.field25_0 rfl) ?_
    refine oq (qv_ldp (v := (.int .i64 A.v)) Tryz.plain3 rfl (inOc (k := 7) rfl) rfl) ?_
    refine oq (qv_mv (Value.int .i64 p1) rfl) ?_
    refine ops_call (σa := [(Arr 100 bb [u1, w1, (Value.map (some ba)), (Value.map (some bi)), (.bool (decide (wd Lc)))]), (Gr 3 1 u1 Lc.length ((Lc.map (Value.int .i64)))), (Gr 65 3 w1 M1.length ((fks M1))), (Mf ba (Value.int .i64) (Value.int .i64) (lfF L1)), (Mf bi fkv (Value.int .i64) (idF M1))]) (σr := [(Mf b5 k2v (Value.int .i64) (pF (vals2 T1.1))), (Arr 44 b7 [wp]), (Arr 25 b1 [(.int .i64 A.v), la, na, (.int .i64 A.r)]), (Arr 25 b2 [(.int .i64 B.v), lb, nb, (.int .i64 B.r)]), (Arr 25 b3 [(Value.int .i64 0), (Value.slice none 0 0), (Value.slice none 0 0), (Value.int .i64 0)])]) (by have h := finish_c (vars := A.v) (L := Lc) (M := M1) (fa := lfF L1) (fb := idF M1) (root := p1) (u := u1) (w := w1) (bb := bb) (ba := ba) (bi := bi) (V := Vf6) hokA.1.1 hbk2 hst2.rf (by omega) (by omega); rw [hbd2, hbe2] at h; exact h) rfl rfl (perm_idx _ _ [2, 3, 4, 5, 6, 0, 1, 7, 8, 9] rfl rfl) (fun r5 V5 sg5 hV5 hp5 => ?_)
    obtain ⟨rfl, lv1, nv1, rfl, hMt⟩ := hp5
    have hA := hA.mono hV5
    have hB := hB.mono hV5
    have hc1 := hc1.mono hV5
    have hc3 := hc3.mono hV5
    have hc4 := hc4.mono hV5
    have hc5 := hc5.mono hV5
    have hP := hP.mono hV5
    have hcs := hcs.mono hV5
    have hc6 := hc6.mono hV5
    have hS := hS.mono hV5
    let ζ14 : Value := .int .i64 (((mkD A.v (prT A B (vals2 T')))).v)
    let ζ15 : Value := .int .i64 (((mkD A.v (prT A B (vals2 T')))).r)
    let ζ20 : Value := .int .i64 (mkE A.v (prT A B (vals2 T')))
    refine oq (qv_mv (.tuple #[(.agg #[ζ14, lv1, nv1, ζ15]), ζ20]) rfl) ?_
    refine oq (qv_ext (.agg #[ζ14, lv1, nv1, ζ15]) rfl rfl) ?_
    refine oq (qv_ext ζ20 rfl rfl) ?_
    refine ops_alloc Tryz.ti25 rfl (fun b9 => ?_)
    refine ops_stw (k := 5) (vs := [ζ14, lv1, nv1, ζ15]) Tryz.size25 rfl rfl rfl (allc rfl (allc (Sl.one hMt.l) (allc (SlS.one hMt.n) (allc rfl rfl)))) rfl rfl ?_
    refine oq (qv_as ζ20 rfl) ?_
    refine ops_nil ?_
    refine vc_seq ?_
    refine vc_seq ?_
    let ζ3 : Asrt := Arr 25 b1 [(.int .i64 A.v), la, na, (.int .i64 A.r)]
    let ζ4 : Asrt := Arr 25 b2 [(.int .i64 B.v), lb, nb, (.int .i64 B.r)]
    let ζ6 : Asrt := Mf b5 k2v (Value.int .i64) (pF (vals2 T1.1))
    refine vc_res (σ' := [ζ6, (Arr 44 b7 [wp]), ζ3, ζ4, (Arr 25 b3 [(Value.int .i64 0), (Value.slice none 0 0), (Value.slice none 0 0), (Value.int .i64 0)]), (Arr 25 b9 [ζ14, lv1, nv1, ζ15])]) rfl ?_
    have hmk0 := hmk.2
    refine vc_region ?_
    refine oq (qv_mv ζ20 rfl) ?_
    refine oq (qv_neq rfl rfl) ?_
    refine ops_nil ?_
    refine vc_if rfl (fun c4 => ?_) (fun c4 => ?_)
    ·
     exact absurd hmk0 c4
    ·
     refine vc_skip ?_
     refine vc_seq ?_
     refine vc_region ?_
     refine oq (qv_ldm (vs := [ζ14, lv1, nv1, ζ15]) Tryz.agg25 rfl (inOc (k := 5) rfl) rfl rfl) ?_
     refine oq (qv_mv r4 rfl) ?_
     refine ops_stw (k := 4) (vs := [ζ14, lv1, nv1, ζ15]) Tryz.size25 rfl rfl rfl (allc rfl (allc (Sl.one hMt.l) (allc (SlS.one hMt.n) (allc rfl rfl)))) rfl rfl ?_
     refine oq (qv_as r4 rfl) ?_
     refine oq (qv_as (Value.int .i64 0) rfl) ?_
     refine ops_nil ?_
     let ζ24 : Value := Value.int .i64 (((mkD A.v (prT A B (vals2 T')))).v)
     let ζ25 : Value := Value.int .i64 (((mkD A.v (prT A B (vals2 T')))).r)
     refine vc_freeze (b := b3) (o := .cells ([ζ24, lv1, nv1, ζ25] : List Value).toArray 25 (0, 0)) (σr := [ζ6, (Arr 44 b7 [wp]), (Arr 25 b1 [(Value.int .i64 (A.v)), la, na, (Value.int .i64 (A.r))]), (Arr 25 b2 [(Value.int .i64 (B.v)), lb, nb, (Value.int .i64 (B.r))]), (Arr 25 b9 [ζ24, lv1, nv1, ζ25])]) (List.perm_middle (l₁ := [ζ6, (Arr 44 b7 [wp]), (Arr 25 b1 [(Value.int .i64 (A.v)), la, na, (Value.int .i64 (A.r))]), (Arr 25 b2 [(Value.int .i64 (B.v)), lb, nb, (Value.int .i64 (B.r))])]) (l₂ := [(Arr 25 b9 [ζ24, lv1, nv1, ζ25])])) (fun Vf7 hVf7 hb7 => ?_)
     have hc7 : Cells Vf7 b3 [ζ14, lv1, nv1, ζ15] := ⟨_, _, hb7⟩
     have hA := hA.mono hVf7
     have hB := hB.mono hVf7
     have hc1 := hc1.mono hVf7
     have hc3 := hc3.mono hVf7
     have hc4 := hc4.mono hVf7
     have hc5 := hc5.mono hVf7
     have hP := hP.mono hVf7
     have hcs := hcs.mono hVf7
     have hc6 := hc6.mono hVf7
     have hS := hS.mono hVf7
     have hMt := hMt.mono hVf7
     refine vc_drop [] [ζ6, (Arr 44 b7 [wp]), ζ3, ζ4, (Arr 25 b9 [ζ14, lv1, nv1, ζ15])] (.refl _) ?_
     refine vc_ret ?_
     refine rs3 _ r4 (Value.int .i64 0) (rv_c (vs := [ζ14, lv1, nv1, ζ15]) Tryz.agg25 rfl (inVc hc7) rfl rfl) (rv_t rfl) (rv_t rfl) ?_
     refine ⟨rfl, vals2 T', lv1, nv1, _, ?_, ?_, hS, fun _ => hps, fun q => absurd hz q⟩
     · subst ζ14 ζ15 ζ20 ζ3 ζ4 ζ6 ζ24 ζ25; rw [prD_0 hz, hz]
     · subst ζ14 ζ15 ζ20 ζ3 ζ4 ζ6 ζ24 ζ25; rw [prD_0 hz]; exact hMt

end Go.Proofs.YtkmhjcjpohpiaaaGreat
