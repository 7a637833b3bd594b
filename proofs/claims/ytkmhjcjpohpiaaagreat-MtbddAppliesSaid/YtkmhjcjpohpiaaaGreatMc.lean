import Derived.Test.YtkmhjcjpohpiaaaGreatMb
import Derived.Test.YtkmhjcjpohpiaaaGreatWb
/- Walks of mtbdd: what each function returns. Printed by a program out of notes. -/
namespace Go.Proofs.YtkmhjcjpohpiaaaGreat
open Go.Vc
open Classical

set_option maxRecDepth 100000 in
set_option maxHeartbeats 4000000 in
theorem combine_c {V : HV} {vars : Int} {Ds : List Mg} {F : Int → Int → Int → Int} {lv : Value} {lvs nvs : List Value} {fid : Nat} {fcaps : List Value} {bb ba bi : Nat} {L : List Int} {M : List Fk} {u w : Value} (hM : Mdl V lv lvs nvs Ds) (hd : DsOk vars Ds) (hsv : SameV vars Ds) (hrg : Rng Ds) (h1 : 1 ≤ Ds.length) (hr : Rts Ds) (hok : BOk vars L M) (hMb : M.length ≤ 1099511627776) (hLb : L.length ≤ 1099511627776) (hf : ∀ W, Vc.Sub V W → ∀ x y z : Int, inR x → inR y → inR z → FnC Tryz.prog fid (.agg #[.int .i64 x, .int .i64 y, .int .i64 z] :: fcaps) W [] (fun v _ _ => v = .int .i64 (F x y z))) :
    FnC Tryz.prog 47 [(Value.pointer (some ⟨bb, 0, none⟩)), lv, (Value.func (.func fid) #[] fcaps.toArray)] V [(Arr 100 bb [u, w, (Value.map (some ba)), (Value.map (some bi)), (.bool (decide (wd L)))]), (Gr 3 1 u L.length ((L.map (Value.int .i64)))), (Gr 65 3 w M.length ((fks M))), (Mf ba (Value.int .i64) (Value.int .i64) (lfF L)), (Mf bi fkv (Value.int .i64) (idF M))] (fun v _ σ' => ∃ L' M' p u' w', v = .int .i64 p ∧ σ' = [Arr 100 bb [u', w', .map (some ba), .map (some bi), .bool (decide (wd L'))], Gr 3 1 u' L'.length (L'.map (Value.int .i64)), Gr 65 3 w' M'.length (fks M'), Mf ba (Value.int .i64) (Value.int .i64) (lfF L'), Mf bi fkv (Value.int .i64) (idF M')] ∧ BOk vars L' M' ∧ Std vars Ds F L' M' (rt Ds) p ∧ (∀ z ∈ L', z ∈ L ∨ ∃ e, gF Ds F (rt Ds) e = z) ∧ M'.length ≤ M.length + 1099511627776 ∧ L'.length ≤ L.length + 1099511627776) := by
 refine fn_intro (N := 29) Tryz.func47 (by kernel_rfl) rfl rfl rfl (Nat.le_of_ble_eq_true rfl) ?_
 intro w0 D
 have hb := SlS.bound hM.sl
 have hle := hd.le
 have hv0 := hd.v0
 have hv1 := hd.v1
 have hsub := Vc.Sub.refl V
 have hK := rt_ok hr
 have hpw := comb_pow hd hK
 have hpw1 := one_le_two_pow' (vars - mlv vars Ds (rt Ds)).toNat
 refine vc_seq ?_
 refine vc_res (σ' := [(Arr 100 bb [u, w, (Value.map (some ba)), (Value.map (some bi)), (.bool (decide (wd L)))]), (Gr 3 1 u L.length ((L.map (Value.int .i64)))), (Gr 65 3 w M.length ((fks M))), (Mf ba (Value.int .i64) (Value.int .i64) (lfF L)), (Mf bi fkv (Value.int .i64) (idF M))]) rfl ?_
 refine vc_region ?_
 refine ops_box (v := (Value.pointer (some ⟨bb, 0, none⟩))) (cs := [(Value.pointer (some ⟨bb, 0, none⟩))]) rfl rfl (fun b1 => ?_)
 refine ops_box (v := lv) (cs := [lv]) rfl (SlS.cells hM.sl) (fun b2 => ?_)
 refine ops_box (v := (Value.func (.func fid) #[] fcaps.toArray)) (cs := [(Value.func (.func fid) #[] fcaps.toArray)]) rfl rfl (fun b3 => ?_)
 refine oq (qv_as (Value.int .i64 0) rfl) ?_
 refine ops_nil ?_
 refine vc_seq ?_
 refine vc_res (σ' := [(Arr 100 bb [u, w, (Value.map (some ba)), (Value.map (some bi)), (.bool (decide (wd L)))]), (Gr 3 1 u L.length ((L.map (Value.int .i64)))), (Gr 65 3 w M.length ((fks M))), (Mf ba (Value.int .i64) (Value.int .i64) (lfF L)), (Mf bi fkv (Value.int .i64) (idF M)), (Arr 86 b1 [(Value.pointer (some ⟨bb, 0, none⟩))]), (Arr 90 b2 [lv]), (Arr 72 b3 [(Value.func (.func fid) #[] fcaps.toArray)])]) rfl ?_
 refine vc_region ?_
 refine ops_mkmap0 kv (Value.int .i64) (fun b4 => ?_)
 refine ops_alloc Tryz.ti119 rfl (fun b5 => ?_)
 refine ops_stp (k := 9) (off := 0) (cs := [(Value.map none)]) Tryz.size119 rfl (rfl : ev _ _ = (Value.map (some b4))) rfl rfl (Nat.le_of_ble_eq_true rfl) ?_
 refine ops_nil ?_
 refine vc_seq ?_
 refine vc_res (σ' := [(Arr 100 bb [u, w, (Value.map (some ba)), (Value.map (some bi)), (.bool (decide (wd L)))]), (Gr 3 1 u L.length ((L.map (Value.int .i64)))), (Gr 65 3 w M.length ((fks M))), (Mf ba (Value.int .i64) (Value.int .i64) (lfF L)), (Mf bi fkv (Value.int .i64) (idF M)), (Arr 86 b1 [(Value.pointer (some ⟨bb, 0, none⟩))]), (Arr 90 b2 [lv]), (Arr 72 b3 [(Value.func (.func fid) #[] fcaps.toArray)]), (Mf b4 kv (Value.int .i64) (fun _ => none)), (Arr 119 b5 [(Value.map (some b4))])]) rfl ?_
 refine vc_region ?_
 refine ops_alloc Tryz.ti72 rfl (fun b6 => ?_)
 refine ops_nil ?_
 refine vc_seq ?_
 refine vc_res (σ' := [(Arr 100 bb [u, w, (Value.map (some ba)), (Value.map (some bi)), (.bool (decide (wd L)))]), (Gr 3 1 u L.length ((L.map (Value.int .i64)))), (Gr 65 3 w M.length ((fks M))), (Mf ba (Value.int .i64) (Value.int .i64) (lfF L)), (Mf bi fkv (Value.int .i64) (idF M)), (Arr 86 b1 [(Value.pointer (some ⟨bb, 0, none⟩))]), (Arr 90 b2 [lv]), (Arr 72 b3 [(Value.func (.func fid) #[] fcaps.toArray)]), (Mf b4 kv (Value.int .i64) (fun _ => none)), (Arr 119 b5 [(Value.map (some b4))]), (Arr 72 b6 [Value.nilFunc])]) rfl ?_
 refine vc_region ?_
 refine oq (qv_func (cs := [(Value.pointer (some ⟨b5, 0, none⟩)), (Value.pointer (some ⟨b2, 0, none⟩)), (Value.pointer (some ⟨b1, 0, none⟩)), (Value.pointer (some ⟨b3, 0, none⟩)), (Value.pointer (some ⟨b6, 0, none⟩))]) rfl) ?_
 refine ops_stp (k := 10) (off := 0) (cs := [Value.nilFunc]) Tryz.size72 rfl (rfl : ev _ _ = (Value.func (.func 89) #[] #[(Value.pointer (some ⟨b5, 0, none⟩)), (Value.pointer (some ⟨b2, 0, none⟩)), (Value.pointer (some ⟨b1, 0, none⟩)), (Value.pointer (some ⟨b3, 0, none⟩)), (Value.pointer (some ⟨b6, 0, none⟩))])) rfl rfl (Nat.le_of_ble_eq_true rfl) ?_
 refine ops_nil ?_
 refine vc_seq ?_
 refine vc_res (σ' := [(Arr 100 bb [u, w, (Value.map (some ba)), (Value.map (some bi)), (.bool (decide (wd L)))]), (Gr 3 1 u L.length ((L.map (Value.int .i64)))), (Gr 65 3 w M.length ((fks M))), (Mf ba (Value.int .i64) (Value.int .i64) (lfF L)), (Mf bi fkv (Value.int .i64) (idF M)), (Arr 86 b1 [(Value.pointer (some ⟨bb, 0, none⟩))]), (Arr 90 b2 [lv]), (Arr 72 b3 [(Value.func (.func fid) #[] fcaps.toArray)]), (Mf b4 kv (Value.int .i64) (fun _ => none)), (Arr 119 b5 [(Value.map (some b4))]), (Arr 72 b6 [(Value.func (.func 89) #[] #[(Value.pointer (some ⟨b5, 0, none⟩)), (Value.pointer (some ⟨b2, 0, none⟩)), (Value.pointer (some ⟨b1, 0, none⟩)), (Value.pointer (some ⟨b3, 0, none⟩)), (Value.pointer (some ⟨b6, 0, none⟩))])])]) rfl ?_
 refine vc_region ?_
 refine ops_alloc Tryz.ti71 rfl (fun b7 => ?_)
 refine ops_nil ?_
 refine vc_seq ?_
 refine vc_seq ?_
 refine vc_res (σ' := [(Arr 100 bb [u, w, (Value.map (some ba)), (Value.map (some bi)), (.bool (decide (wd L)))]), (Gr 3 1 u L.length ((L.map (Value.int .i64)))), (Gr 65 3 w M.length ((fks M))), (Mf ba (Value.int .i64) (Value.int .i64) (lfF L)), (Mf bi fkv (Value.int .i64) (idF M)), (Arr 86 b1 [(Value.pointer (some ⟨bb, 0, none⟩))]), (Arr 90 b2 [lv]), (Arr 72 b3 [(Value.func (.func fid) #[] fcaps.toArray)]), (Mf b4 kv (Value.int .i64) (fun _ => none)), (Arr 119 b5 [(Value.map (some b4))]), (Arr 72 b6 [(Value.func (.func 89) #[] #[(Value.pointer (some ⟨b5, 0, none⟩)), (Value.pointer (some ⟨b2, 0, none⟩)), (Value.pointer (some ⟨b1, 0, none⟩)), (Value.pointer (some ⟨b3, 0, none⟩)), (Value.pointer (some ⟨b6, 0, none⟩))])]), (Arr 71 b7 [(Value.int .i64 0), (Value.int .i64 0), (Value.int .i64 0)])]) rfl ?_
 refine vc_region ?_
 refine oq (qv_ldp (v := lv) Tryz.plain90 rfl (inOc (k := 6) rfl) rfl) ?_
 refine oq (qv_lenSS Tryz.underlying90 rfl hM.sl) ?_
 refine oq (qv_mv (Value.int .i64 0) rfl) ?_
 refine ops_nil ?_
 refine vc_block ?_
 refine vc_loop (α := Int) (fun (xx : Int) => [(0, (Value.pointer (some ⟨bb, 0, none⟩))), (1, lv), (2, (Value.func (.func fid) #[] fcaps.toArray)), (3, (Value.pointer (some ⟨b1, 0, none⟩))), (4, (Value.pointer (some ⟨b2, 0, none⟩))), (5, (Value.pointer (some ⟨b3, 0, none⟩))), (6, (Value.int .i64 0)), (7, (Value.pointer (some ⟨b5, 0, none⟩))), (8, (Value.pointer (some ⟨b6, 0, none⟩))), (9, (Value.pointer (some ⟨b7, 0, none⟩))), (14, lv), (15, (.int .i64 ((Ds.length : Int)))), (16, (Value.int .i64 xx))]) (fun (xx : Int) V' σ' => V = V' ∧ [(Arr 100 bb [u, w, (Value.map (some ba)), (Value.map (some bi)), (.bool (decide (wd L)))]), (Gr 3 1 u L.length ((L.map (Value.int .i64)))), (Gr 65 3 w M.length ((fks M))), (Mf ba (Value.int .i64) (Value.int .i64) (lfF L)), (Mf bi fkv (Value.int .i64) (idF M)), (Arr 86 b1 [(Value.pointer (some ⟨bb, 0, none⟩))]), (Arr 90 b2 [lv]), (Arr 72 b3 [(Value.func (.func fid) #[] fcaps.toArray)]), (Mf b4 kv (Value.int .i64) (fun _ => none)), (Arr 119 b5 [(Value.map (some b4))]), (Arr 72 b6 [(Value.func (.func 89) #[] #[(Value.pointer (some ⟨b5, 0, none⟩)), (Value.pointer (some ⟨b2, 0, none⟩)), (Value.pointer (some ⟨b1, 0, none⟩)), (Value.pointer (some ⟨b3, 0, none⟩)), (Value.pointer (some ⟨b6, 0, none⟩))])]), (Arr 71 b7 [(.int .i64 (rn Ds xx.toNat 0)), (.int .i64 (rn Ds xx.toNat 1)), (.int .i64 (rn Ds xx.toNat 2))])] = σ' ∧ 0 ≤ xx ∧ xx ≤ Ds.length) (fun (xx : Int) => (Ds.length - xx).toNat) (0) ?_ ?_ ?_
 · exact ⟨rfl, rfl, rfl, rfl, rfl, rfl, rfl, rfl, rfl, rfl, rfl, rfl, rfl, trivial⟩
 · exact ⟨rfl, (show [(Arr 100 bb [u, w, (Value.map (some ba)), (Value.map (some bi)), (.bool (decide (wd L)))]), (Gr 3 1 u L.length ((L.map (Value.int .i64)))), (Gr 65 3 w M.length ((fks M))), (Mf ba (Value.int .i64) (Value.int .i64) (lfF L)), (Mf bi fkv (Value.int .i64) (idF M)), (Arr 86 b1 [(Value.pointer (some ⟨bb, 0, none⟩))]), (Arr 90 b2 [lv]), (Arr 72 b3 [(Value.func (.func fid) #[] fcaps.toArray)]), (Mf b4 kv (Value.int .i64) (fun _ => none)), (Arr 119 b5 [(Value.map (some b4))]), (Arr 72 b6 [(Value.func (.func 89) #[] #[(Value.pointer (some ⟨b5, 0, none⟩)), (Value.pointer (some ⟨b2, 0, none⟩)), (Value.pointer (some ⟨b1, 0, none⟩)), (Value.pointer (some ⟨b3, 0, none⟩)), (Value.pointer (some ⟨b6, 0, none⟩))])]), (Arr 71 b7 [(.int .i64 (rn Ds (0 : Int).toNat 0)), (.int .i64 (rn Ds (0 : Int).toNat 1)), (.int .i64 (rn Ds (0 : Int).toNat 2))])] = [(Arr 100 bb [u, w, (Value.map (some ba)), (Value.map (some bi)), (.bool (decide (wd L)))]), (Gr 3 1 u L.length ((L.map (Value.int .i64)))), (Gr 65 3 w M.length ((fks M))), (Mf ba (Value.int .i64) (Value.int .i64) (lfF L)), (Mf bi fkv (Value.int .i64) (idF M)), (Arr 86 b1 [(Value.pointer (some ⟨bb, 0, none⟩))]), (Arr 90 b2 [lv]), (Arr 72 b3 [(Value.func (.func fid) #[] fcaps.toArray)]), (Mf b4 kv (Value.int .i64) (fun _ => none)), (Arr 119 b5 [(Value.map (some b4))]), (Arr 72 b6 [(Value.func (.func 89) #[] #[(Value.pointer (some ⟨b5, 0, none⟩)), (Value.pointer (some ⟨b2, 0, none⟩)), (Value.pointer (some ⟨b1, 0, none⟩)), (Value.pointer (some ⟨b3, 0, none⟩)), (Value.pointer (some ⟨b6, 0, none⟩))])]), (Arr 71 b7 [(Value.int .i64 0), (Value.int .i64 0), (Value.int .i64 0)])] from by simp only [show Int.toNat 0 = 0 from rfl, rn_0]), by omega, by omega⟩
 rintro i e1 V0l σ0l hI0
 obtain ⟨rfl, rfl, i1, i2⟩ : V = V0l ∧ [(Arr 100 bb [u, w, (Value.map (some ba)), (Value.map (some bi)), (.bool (decide (wd L)))]), (Gr 3 1 u L.length ((L.map (Value.int .i64)))), (Gr 65 3 w M.length ((fks M))), (Mf ba (Value.int .i64) (Value.int .i64) (lfF L)), (Mf bi fkv (Value.int .i64) (idF M)), (Arr 86 b1 [(Value.pointer (some ⟨bb, 0, none⟩))]), (Arr 90 b2 [lv]), (Arr 72 b3 [(Value.func (.func fid) #[] fcaps.toArray)]), (Mf b4 kv (Value.int .i64) (fun _ => none)), (Arr 119 b5 [(Value.map (some b4))]), (Arr 72 b6 [(Value.func (.func 89) #[] #[(Value.pointer (some ⟨b5, 0, none⟩)), (Value.pointer (some ⟨b2, 0, none⟩)), (Value.pointer (some ⟨b1, 0, none⟩)), (Value.pointer (some ⟨b3, 0, none⟩)), (Value.pointer (some ⟨b6, 0, none⟩))])]), (Arr 71 b7 [(.int .i64 (rn Ds i.toNat 0)), (.int .i64 (rn Ds i.toNat 1)), (.int .i64 (rn Ds i.toNat 2))])] = σ0l ∧ 0 ≤ i ∧ i ≤ Ds.length := hI0
 refine vc_seq ?_
 refine vc_res (σ' := [(Arr 100 bb [u, w, (Value.map (some ba)), (Value.map (some bi)), (.bool (decide (wd L)))]), (Gr 3 1 u L.length ((L.map (Value.int .i64)))), (Gr 65 3 w M.length ((fks M))), (Mf ba (Value.int .i64) (Value.int .i64) (lfF L)), (Mf bi fkv (Value.int .i64) (idF M)), (Arr 86 b1 [(Value.pointer (some ⟨bb, 0, none⟩))]), (Arr 90 b2 [lv]), (Arr 72 b3 [(Value.func (.func fid) #[] fcaps.toArray)]), (Mf b4 kv (Value.int .i64) (fun _ => none)), (Arr 119 b5 [(Value.map (some b4))]), (Arr 72 b6 [(Value.func (.func 89) #[] #[(Value.pointer (some ⟨b5, 0, none⟩)), (Value.pointer (some ⟨b2, 0, none⟩)), (Value.pointer (some ⟨b1, 0, none⟩)), (Value.pointer (some ⟨b3, 0, none⟩)), (Value.pointer (some ⟨b6, 0, none⟩))])]), (Arr 71 b7 [(.int .i64 (rn Ds i.toNat 0)), (.int .i64 (rn Ds i.toNat 1)), (.int .i64 (rn Ds i.toNat 2))])]) rfl ?_
 refine vc_region ?_
 refine oq (qv_lss rfl rfl) ?_
 refine ops_nil ?_
 refine vc_seq ?_
 refine vc_if rfl (fun c1 => ?_) (fun c1 => ?_)
 ·
  refine vc_skip ?_
  refine vc_seq ?_
  refine vc_block ?_
  refine vc_seq ?_
  refine vc_region ?_
  refine oq (qv_mv (Value.int .i64 i) rfl) ?_
  refine oq (qv_ias (v := lv) (i := i) Tryz.underlying90 Tryz.size25 rfl hM.sl rfl (by omega) (by omega)) ?_
  refine oq (qv_lds (v := lv) (i := i) (vs := [(.int .i64 ((dm Ds (i)).v)), (gv lvs (i)), (gv nvs (i)), (.int .i64 ((dm Ds (i)).r))]) Tryz.agg25 rfl hM.sl (by omega) (by omega) (mdls_at (by omega) (by omega))) ?_
  refine ops_alloc Tryz.ti25 rfl (fun b8 => ?_)
  refine oq (qv_as (Value.int .i64 i) rfl) ?_
  refine ops_stw (k := 12) (vs := [(.int .i64 ((dm Ds (i)).v)), (gv lvs (i)), (gv nvs (i)), (.int .i64 ((dm Ds (i)).r))]) Tryz.size25 rfl rfl rfl (allc rfl (allc (Sl.one (hM.at_ (i) (by omega) (by omega)).l) (allc (SlS.one (hM.at_ (i) (by omega) (by omega)).n) (allc rfl rfl)))) rfl rfl ?_
  refine ops_nil ?_
  refine vc_res (σ' := [(Arr 100 bb [u, w, (Value.map (some ba)), (Value.map (some bi)), (.bool (decide (wd L)))]), (Gr 3 1 u L.length ((L.map (Value.int .i64)))), (Gr 65 3 w M.length ((fks M))), (Mf ba (Value.int .i64) (Value.int .i64) (lfF L)), (Mf bi fkv (Value.int .i64) (idF M)), (Arr 86 b1 [(Value.pointer (some ⟨bb, 0, none⟩))]), (Arr 90 b2 [lv]), (Arr 72 b3 [(Value.func (.func fid) #[] fcaps.toArray)]), (Mf b4 kv (Value.int .i64) (fun _ => none)), (Arr 119 b5 [(Value.map (some b4))]), (Arr 72 b6 [(Value.func (.func 89) #[] #[(Value.pointer (some ⟨b5, 0, none⟩)), (Value.pointer (some ⟨b2, 0, none⟩)), (Value.pointer (some ⟨b1, 0, none⟩)), (Value.pointer (some ⟨b3, 0, none⟩)), (Value.pointer (some ⟨b6, 0, none⟩))])]), (Arr 71 b7 [(.int .i64 (rn Ds i.toNat 0)), (.int .i64 (rn Ds i.toNat 1)), (.int .i64 (rn Ds i.toNat 2))]), (Arr 25 b8 [(.int .i64 ((dm Ds (i)).v)), (gv lvs (i)), (gv nvs (i)), (.int .i64 ((dm Ds (i)).r))])]) rfl ?_
  refine vc_region ?_
  refine oq (qv_mv (Value.int .i64 i) rfl) ?_
  refine oq (qv_fa (off := 0) Tryz.field25_3 rfl) ?_
  refine oq (qv_ldp (v := (.int .i64 ((dm Ds (i)).r))) Tryz.plain3 rfl (inOc (k := 12) rfl) rfl) ?_
  refine oq (qv_iav (i := i) (off := 0) Tryz.underlying71 Tryz.size3 rfl rfl (by omega) (by omega)) ?_
  refine ops_stp (k := 11) (off := 0 + (i).toNat) (cs := [(.int .i64 (rn Ds i.toNat 0)), (.int .i64 (rn Ds i.toNat 1)), (.int .i64 (rn Ds i.toNat 2))]) Tryz.size3 rfl (rfl : ev _ _ = (.int .i64 ((dm Ds (i)).r))) rfl rfl (by simp; omega) ?_
  refine ops_nil ?_
  refine vc_res (σ' := [(Arr 100 bb [u, w, (Value.map (some ba)), (Value.map (some bi)), (.bool (decide (wd L)))]), (Gr 3 1 u L.length ((L.map (Value.int .i64)))), (Gr 65 3 w M.length ((fks M))), (Mf ba (Value.int .i64) (Value.int .i64) (lfF L)), (Mf bi fkv (Value.int .i64) (idF M)), (Arr 86 b1 [(Value.pointer (some ⟨bb, 0, none⟩))]), (Arr 90 b2 [lv]), (Arr 72 b3 [(Value.func (.func fid) #[] fcaps.toArray)]), (Mf b4 kv (Value.int .i64) (fun _ => none)), (Arr 119 b5 [(Value.map (some b4))]), (Arr 72 b6 [(Value.func (.func 89) #[] #[(Value.pointer (some ⟨b5, 0, none⟩)), (Value.pointer (some ⟨b2, 0, none⟩)), (Value.pointer (some ⟨b1, 0, none⟩)), (Value.pointer (some ⟨b3, 0, none⟩)), (Value.pointer (some ⟨b6, 0, none⟩))])]), (Arr 71 b7 (([(.int .i64 (rn Ds i.toNat 0)), (.int .i64 (rn Ds i.toNat 1)), (.int .i64 (rn Ds i.toNat 2))]).set (0 + (i).toNat) (.int .i64 ((dm Ds (i)).r)))), (Arr 25 b8 [(.int .i64 ((dm Ds (i)).v)), (gv lvs (i)), (gv nvs (i)), (.int .i64 ((dm Ds (i)).r))])]) rfl ?_
  refine vc_drop [(Arr 100 bb [u, w, (Value.map (some ba)), (Value.map (some bi)), (Value.bool (decide (wd L)))]), (Gr 3 1 u L.length ((L.map (Value.int .i64)))), (Gr 65 3 w M.length ((fks M))), (Mf ba (Value.int .i64) (Value.int .i64) (lfF L)), (Mf bi fkv (Value.int .i64) (idF M)), (Arr 86 b1 [(Value.pointer (some ⟨bb, 0, none⟩))]), (Arr 90 b2 [lv]), (Arr 72 b3 [(Value.func (.func fid) #[] fcaps.toArray)]), (Mf b4 kv (Value.int .i64) (fun _ => none)), (Arr 119 b5 [(Value.map (some b4))]), (Arr 72 b6 [(Value.func (.func 89) #[] #[(Value.pointer (some ⟨b5, 0, none⟩)), (Value.pointer (some ⟨b2, 0, none⟩)), (Value.pointer (some ⟨b1, 0, none⟩)), (Value.pointer (some ⟨b3, 0, none⟩)), (Value.pointer (some ⟨b6, 0, none⟩))])]), (Arr 71 b7 (([(Value.int .i64 (rn Ds i.toNat 0)), (Value.int .i64 (rn Ds i.toNat 1)), (Value.int .i64 (rn Ds i.toNat 2))]).set (0 + (i).toNat) (Value.int .i64 ((dm Ds (i)).r))))] [(Arr 25 b8 [(Value.int .i64 ((dm Ds (i)).v)), (gv lvs (i)), (gv nvs (i)), (Value.int .i64 ((dm Ds (i)).r))])] ((List.perm_middle (l₁ := [(Arr 100 bb [u, w, (Value.map (some ba)), (Value.map (some bi)), (Value.bool (decide (wd L)))]), (Gr 3 1 u L.length ((L.map (Value.int .i64)))), (Gr 65 3 w M.length ((fks M))), (Mf ba (Value.int .i64) (Value.int .i64) (lfF L)), (Mf bi fkv (Value.int .i64) (idF M)), (Arr 86 b1 [(Value.pointer (some ⟨bb, 0, none⟩))]), (Arr 90 b2 [lv]), (Arr 72 b3 [(Value.func (.func fid) #[] fcaps.toArray)]), (Mf b4 kv (Value.int .i64) (fun _ => none)), (Arr 119 b5 [(Value.map (some b4))]), (Arr 72 b6 [(Value.func (.func 89) #[] #[(Value.pointer (some ⟨b5, 0, none⟩)), (Value.pointer (some ⟨b2, 0, none⟩)), (Value.pointer (some ⟨b1, 0, none⟩)), (Value.pointer (some ⟨b3, 0, none⟩)), (Value.pointer (some ⟨b6, 0, none⟩))])]), (Arr 71 b7 (([(Value.int .i64 (rn Ds i.toNat 0)), (Value.int .i64 (rn Ds i.toNat 1)), (Value.int .i64 (rn Ds i.toNat 2))]).set (0 + (i).toNat) (Value.int .i64 ((dm Ds (i)).r))))]) (l₂ := [])).trans (List.perm_append_comm (l₁ := [(Arr 25 b8 [(Value.int .i64 ((dm Ds (i)).v)), (gv lvs (i)), (gv nvs (i)), (Value.int .i64 ((dm Ds (i)).r))])]))) ?_
  refine vc_region ?_
  refine oq (qv_add rfl rfl (by omega)) ?_
  refine oq (qv_mv (.int .i64 (i + 1)) rfl) ?_
  refine ops_nil ?_
  refine ⟨(i + 1), ⟨rfl, rfl, rfl, rfl, rfl, rfl, rfl, rfl, rfl, rfl, rfl, rfl, (congrArg (Value.int .i64) (show (i + 1) = ((i + 1)) from by omega)), trivial⟩, ⟨rfl, (show [(Arr 100 bb [u, w, (Value.map (some ba)), (Value.map (some bi)), (.bool (decide (wd L)))]), (Gr 3 1 u L.length ((L.map (Value.int .i64)))), (Gr 65 3 w M.length ((fks M))), (Mf ba (Value.int .i64) (Value.int .i64) (lfF L)), (Mf bi fkv (Value.int .i64) (idF M)), (Arr 86 b1 [(Value.pointer (some ⟨bb, 0, none⟩))]), (Arr 90 b2 [lv]), (Arr 72 b3 [(Value.func (.func fid) #[] fcaps.toArray)]), (Mf b4 kv (Value.int .i64) (fun _ => none)), (Arr 119 b5 [(Value.map (some b4))]), (Arr 72 b6 [(Value.func (.func 89) #[] #[(Value.pointer (some ⟨b5, 0, none⟩)), (Value.pointer (some ⟨b2, 0, none⟩)), (Value.pointer (some ⟨b1, 0, none⟩)), (Value.pointer (some ⟨b3, 0, none⟩)), (Value.pointer (some ⟨b6, 0, none⟩))])]), (Arr 71 b7 [(.int .i64 (rn Ds (i + 1 : Int).toNat 0)), (.int .i64 (rn Ds (i + 1 : Int).toNat 1)), (.int .i64 (rn Ds (i + 1 : Int).toNat 2))])] = [(Arr 100 bb [u, w, (Value.map (some ba)), (Value.map (some bi)), (.bool (decide (wd L)))]), (Gr 3 1 u L.length ((L.map (Value.int .i64)))), (Gr 65 3 w M.length ((fks M))), (Mf ba (Value.int .i64) (Value.int .i64) (lfF L)), (Mf bi fkv (Value.int .i64) (idF M)), (Arr 86 b1 [(Value.pointer (some ⟨bb, 0, none⟩))]), (Arr 90 b2 [lv]), (Arr 72 b3 [(Value.func (.func fid) #[] fcaps.toArray)]), (Mf b4 kv (Value.int .i64) (fun _ => none)), (Arr 119 b5 [(Value.map (some b4))]), (Arr 72 b6 [(Value.func (.func 89) #[] #[(Value.pointer (some ⟨b5, 0, none⟩)), (Value.pointer (some ⟨b2, 0, none⟩)), (Value.pointer (some ⟨b1, 0, none⟩)), (Value.pointer (some ⟨b3, 0, none⟩)), (Value.pointer (some ⟨b6, 0, none⟩))])]), (Arr 71 b7 (([(.int .i64 (rn Ds i.toNat 0)), (.int .i64 (rn Ds i.toNat 1)), (.int .i64 (rn Ds i.toNat 2))]).set (0 + (i).toNat) (.int .i64 ((dm Ds (i)).r))))] from by rw [show ([(.int .i64 (rn Ds (i + 1).toNat 0)), (.int .i64 (rn Ds (i + 1).toNat 1)), (.int .i64 (rn Ds (i + 1).toNat 2))] : List Value) = ([(.int .i64 (rn Ds i.toNat 0)), (.int .i64 (rn Ds i.toNat 1)), (.int .i64 (rn Ds i.toNat 2))] : List Value).set (0 + i.toNat) (.int .i64 (dm Ds (i)).r) from (rnL_step (by omega) (by omega)).symm]), by omega, by omega⟩, by omega⟩
 ·
  refine vc_exit ?_
  refine blockQ_hit ?_
  refine vc_seq ?_
  have hrt : rnL Ds i.toNat = rt Ds := rnL_all (by omega)
  refine vc_freeze (b := b5) (o := .cells ([(Value.map (some b4))] : List Value).toArray 119 (0, 0)) (σr := [(Arr 100 bb [u, w, (Value.map (some ba)), (Value.map (some bi)), (Value.bool (decide (wd L)))]), (Gr 3 1 u L.length ((L.map (Value.int .i64)))), (Gr 65 3 w M.length ((fks M))), (Mf ba (Value.int .i64) (Value.int .i64) (lfF L)), (Mf bi fkv (Value.int .i64) (idF M)), (Arr 86 b1 [(Value.pointer (some ⟨bb, 0, none⟩))]), (Arr 90 b2 [lv]), (Arr 72 b3 [(Value.func (.func fid) #[] fcaps.toArray)]), (Mf b4 kv (Value.int .i64) (fun _ => none)), (Arr 72 b6 [(Value.func (.func 89) #[] #[(Value.pointer (some ⟨b5, 0, none⟩)), (Value.pointer (some ⟨b2, 0, none⟩)), (Value.pointer (some ⟨b1, 0, none⟩)), (Value.pointer (some ⟨b3, 0, none⟩)), (Value.pointer (some ⟨b6, 0, none⟩))])]), (Arr 71 b7 [(Value.int .i64 (rn Ds i.toNat 0)), (Value.int .i64 (rn Ds i.toNat 1)), (Value.int .i64 (rn Ds i.toNat 2))])]) (List.perm_middle (l₁ := [(Arr 100 bb [u, w, (Value.map (some ba)), (Value.map (some bi)), (Value.bool (decide (wd L)))]), (Gr 3 1 u L.length ((L.map (Value.int .i64)))), (Gr 65 3 w M.length ((fks M))), (Mf ba (Value.int .i64) (Value.int .i64) (lfF L)), (Mf bi fkv (Value.int .i64) (idF M)), (Arr 86 b1 [(Value.pointer (some ⟨bb, 0, none⟩))]), (Arr 90 b2 [lv]), (Arr 72 b3 [(Value.func (.func fid) #[] fcaps.toArray)]), (Mf b4 kv (Value.int .i64) (fun _ => none))]) (l₂ := [(Arr 72 b6 [(Value.func (.func 89) #[] #[(Value.pointer (some ⟨b5, 0, none⟩)), (Value.pointer (some ⟨b2, 0, none⟩)), (Value.pointer (some ⟨b1, 0, none⟩)), (Value.pointer (some ⟨b3, 0, none⟩)), (Value.pointer (some ⟨b6, 0, none⟩))])]), (Arr 71 b7 [(Value.int .i64 (rn Ds i.toNat 0)), (Value.int .i64 (rn Ds i.toNat 1)), (Value.int .i64 (rn Ds i.toNat 2))])])) (fun Vf1 hVf1 hb1 => ?_)
  have hc1 : Cells Vf1 b5 [(Value.map (some b4))] := ⟨_, _, hb1⟩
  have hM := hM.mono hVf1
  have hsub := hsub.mono hVf1
  refine vc_freeze (b := b2) (o := .cells ([lv] : List Value).toArray 90 (0, 0)) (σr := [(Arr 100 bb [u, w, (Value.map (some ba)), (Value.map (some bi)), (Value.bool (decide (wd L)))]), (Gr 3 1 u L.length ((L.map (Value.int .i64)))), (Gr 65 3 w M.length ((fks M))), (Mf ba (Value.int .i64) (Value.int .i64) (lfF L)), (Mf bi fkv (Value.int .i64) (idF M)), (Arr 86 b1 [(Value.pointer (some ⟨bb, 0, none⟩))]), (Arr 72 b3 [(Value.func (.func fid) #[] fcaps.toArray)]), (Mf b4 kv (Value.int .i64) (fun _ => none)), (Arr 72 b6 [(Value.func (.func 89) #[] #[(Value.pointer (some ⟨b5, 0, none⟩)), (Value.pointer (some ⟨b2, 0, none⟩)), (Value.pointer (some ⟨b1, 0, none⟩)), (Value.pointer (some ⟨b3, 0, none⟩)), (Value.pointer (some ⟨b6, 0, none⟩))])]), (Arr 71 b7 [(Value.int .i64 (rn Ds i.toNat 0)), (Value.int .i64 (rn Ds i.toNat 1)), (Value.int .i64 (rn Ds i.toNat 2))])]) (List.perm_middle (l₁ := [(Arr 100 bb [u, w, (Value.map (some ba)), (Value.map (some bi)), (Value.bool (decide (wd L)))]), (Gr 3 1 u L.length ((L.map (Value.int .i64)))), (Gr 65 3 w M.length ((fks M))), (Mf ba (Value.int .i64) (Value.int .i64) (lfF L)), (Mf bi fkv (Value.int .i64) (idF M)), (Arr 86 b1 [(Value.pointer (some ⟨bb, 0, none⟩))])]) (l₂ := [(Arr 72 b3 [(Value.func (.func fid) #[] fcaps.toArray)]), (Mf b4 kv (Value.int .i64) (fun _ => none)), (Arr 72 b6 [(Value.func (.func 89) #[] #[(Value.pointer (some ⟨b5, 0, none⟩)), (Value.pointer (some ⟨b2, 0, none⟩)), (Value.pointer (some ⟨b1, 0, none⟩)), (Value.pointer (some ⟨b3, 0, none⟩)), (Value.pointer (some ⟨b6, 0, none⟩))])]), (Arr 71 b7 [(Value.int .i64 (rn Ds i.toNat 0)), (Value.int .i64 (rn Ds i.toNat 1)), (Value.int .i64 (rn Ds i.toNat 2))])])) (fun Vf2 hVf2 hb2 => ?_)
  have hc2 : Cells Vf2 b2 [lv] := ⟨_, _, hb2⟩
  have hM := hM.mono hVf2
  have hsub := hsub.mono hVf2
  have hc1 := hc1.mono hVf2
  refine vc_freeze (b := b1) (o := .cells ([(Value.pointer (some ⟨bb, 0, none⟩))] : List Value).toArray 86 (0, 0)) (σr := [(Arr 100 bb [u, w, (Value.map (some ba)), (Value.map (some bi)), (Value.bool (decide (wd L)))]), (Gr 3 1 u L.length ((L.map (Value.int .i64)))), (Gr 65 3 w M.length ((fks M))), (Mf ba (Value.int .i64) (Value.int .i64) (lfF L)), (Mf bi fkv (Value.int .i64) (idF M)), (Arr 72 b3 [(Value.func (.func fid) #[] fcaps.toArray)]), (Mf b4 kv (Value.int .i64) (fun _ => none)), (Arr 72 b6 [(Value.func (.func 89) #[] #[(Value.pointer (some ⟨b5, 0, none⟩)), (Value.pointer (some ⟨b2, 0, none⟩)), (Value.pointer (some ⟨b1, 0, none⟩)), (Value.pointer (some ⟨b3, 0, none⟩)), (Value.pointer (some ⟨b6, 0, none⟩))])]), (Arr 71 b7 [(Value.int .i64 (rn Ds i.toNat 0)), (Value.int .i64 (rn Ds i.toNat 1)), (Value.int .i64 (rn Ds i.toNat 2))])]) (List.perm_middle (l₁ := [(Arr 100 bb [u, w, (Value.map (some ba)), (Value.map (some bi)), (Value.bool (decide (wd L)))]), (Gr 3 1 u L.length ((L.map (Value.int .i64)))), (Gr 65 3 w M.length ((fks M))), (Mf ba (Value.int .i64) (Value.int .i64) (lfF L)), (Mf bi fkv (Value.int .i64) (idF M))]) (l₂ := [(Arr 72 b3 [(Value.func (.func fid) #[] fcaps.toArray)]), (Mf b4 kv (Value.int .i64) (fun _ => none)), (Arr 72 b6 [(Value.func (.func 89) #[] #[(Value.pointer (some ⟨b5, 0, none⟩)), (Value.pointer (some ⟨b2, 0, none⟩)), (Value.pointer (some ⟨b1, 0, none⟩)), (Value.pointer (some ⟨b3, 0, none⟩)), (Value.pointer (some ⟨b6, 0, none⟩))])]), (Arr 71 b7 [(Value.int .i64 (rn Ds i.toNat 0)), (Value.int .i64 (rn Ds i.toNat 1)), (Value.int .i64 (rn Ds i.toNat 2))])])) (fun Vf3 hVf3 hb3 => ?_)
  have hc3 : Cells Vf3 b1 [(Value.pointer (some ⟨bb, 0, none⟩))] := ⟨_, _, hb3⟩
  have hM := hM.mono hVf3
  have hsub := hsub.mono hVf3
  have hc1 := hc1.mono hVf3
  have hc2 := hc2.mono hVf3
  refine vc_freeze (b := b3) (o := .cells ([(Value.func (.func fid) #[] fcaps.toArray)] : List Value).toArray 72 (0, 0)) (σr := [(Arr 100 bb [u, w, (Value.map (some ba)), (Value.map (some bi)), (Value.bool (decide (wd L)))]), (Gr 3 1 u L.length ((L.map (Value.int .i64)))), (Gr 65 3 w M.length ((fks M))), (Mf ba (Value.int .i64) (Value.int .i64) (lfF L)), (Mf bi fkv (Value.int .i64) (idF M)), (Mf b4 kv (Value.int .i64) (fun _ => none)), (Arr 72 b6 [(Value.func (.func 89) #[] #[(Value.pointer (some ⟨b5, 0, none⟩)), (Value.pointer (some ⟨b2, 0, none⟩)), (Value.pointer (some ⟨b1, 0, none⟩)), (Value.pointer (some ⟨b3, 0, none⟩)), (Value.pointer (some ⟨b6, 0, none⟩))])]), (Arr 71 b7 [(Value.int .i64 (rn Ds i.toNat 0)), (Value.int .i64 (rn Ds i.toNat 1)), (Value.int .i64 (rn Ds i.toNat 2))])]) (List.perm_middle (l₁ := [(Arr 100 bb [u, w, (Value.map (some ba)), (Value.map (some bi)), (Value.bool (decide (wd L)))]), (Gr 3 1 u L.length ((L.map (Value.int .i64)))), (Gr 65 3 w M.length ((fks M))), (Mf ba (Value.int .i64) (Value.int .i64) (lfF L)), (Mf bi fkv (Value.int .i64) (idF M))]) (l₂ := [(Mf b4 kv (Value.int .i64) (fun _ => none)), (Arr 72 b6 [(Value.func (.func 89) #[] #[(Value.pointer (some ⟨b5, 0, none⟩)), (Value.pointer (some ⟨b2, 0, none⟩)), (Value.pointer (some ⟨b1, 0, none⟩)), (Value.pointer (some ⟨b3, 0, none⟩)), (Value.pointer (some ⟨b6, 0, none⟩))])]), (Arr 71 b7 [(Value.int .i64 (rn Ds i.toNat 0)), (Value.int .i64 (rn Ds i.toNat 1)), (Value.int .i64 (rn Ds i.toNat 2))])])) (fun Vf4 hVf4 hb4 => ?_)
  have hc4 : Cells Vf4 b3 [(Value.func (.func fid) #[] fcaps.toArray)] := ⟨_, _, hb4⟩
  have hM := hM.mono hVf4
  have hsub := hsub.mono hVf4
  have hc1 := hc1.mono hVf4
  have hc2 := hc2.mono hVf4
  have hc3 := hc3.mono hVf4
  refine vc_freeze (b := b6) (o := .cells ([(Value.func (.func 89) #[] #[(Value.pointer (some ⟨b5, 0, none⟩)), (Value.pointer (some ⟨b2, 0, none⟩)), (Value.pointer (some ⟨b1, 0, none⟩)), (Value.pointer (some ⟨b3, 0, none⟩)), (Value.pointer (some ⟨b6, 0, none⟩))])] : List Value).toArray 72 (0, 0)) (σr := [(Arr 100 bb [u, w, (Value.map (some ba)), (Value.map (some bi)), (Value.bool (decide (wd L)))]), (Gr 3 1 u L.length ((L.map (Value.int .i64)))), (Gr 65 3 w M.length ((fks M))), (Mf ba (Value.int .i64) (Value.int .i64) (lfF L)), (Mf bi fkv (Value.int .i64) (idF M)), (Mf b4 kv (Value.int .i64) (fun _ => none)), (Arr 71 b7 [(Value.int .i64 (rn Ds i.toNat 0)), (Value.int .i64 (rn Ds i.toNat 1)), (Value.int .i64 (rn Ds i.toNat 2))])]) (List.perm_middle (l₁ := [(Arr 100 bb [u, w, (Value.map (some ba)), (Value.map (some bi)), (Value.bool (decide (wd L)))]), (Gr 3 1 u L.length ((L.map (Value.int .i64)))), (Gr 65 3 w M.length ((fks M))), (Mf ba (Value.int .i64) (Value.int .i64) (lfF L)), (Mf bi fkv (Value.int .i64) (idF M)), (Mf b4 kv (Value.int .i64) (fun _ => none))]) (l₂ := [(Arr 71 b7 [(Value.int .i64 (rn Ds i.toNat 0)), (Value.int .i64 (rn Ds i.toNat 1)), (Value.int .i64 (rn Ds i.toNat 2))])])) (fun Vf5 hVf5 hb5 => ?_)
  have hc5 : Cells Vf5 b6 [(Value.func (.func 89) #[] #[(Value.pointer (some ⟨b5, 0, none⟩)), (Value.pointer (some ⟨b2, 0, none⟩)), (Value.pointer (some ⟨b1, 0, none⟩)), (Value.pointer (some ⟨b3, 0, none⟩)), (Value.pointer (some ⟨b6, 0, none⟩))])] := ⟨_, _, hb5⟩
  have hM := hM.mono hVf5
  have hsub := hsub.mono hVf5
  have hc1 := hc1.mono hVf5
  have hc2 := hc2.mono hVf5
  have hc3 := hc3.mono hVf5
  have hc4 := hc4.mono hVf5
  refine vc_region ?_
  refine oq (qv_ldp (v := (Value.func (.func 89) #[] #[(Value.pointer (some ⟨b5, 0, none⟩)), (Value.pointer (some ⟨b2, 0, none⟩)), (Value.pointer (some ⟨b1, 0, none⟩)), (Value.pointer (some ⟨b3, 0, none⟩)), (Value.pointer (some ⟨b6, 0, none⟩))])) Tryz.plain72 rfl (inVc hc5) rfl) ?_
  refine oq (qv_ldm (vs := [(.int .i64 (rn Ds i.toNat 0)), (.int .i64 (rn Ds i.toNat 1)), (.int .i64 (rn Ds i.toNat 2))]) Tryz.agg71 rfl (inOc (k := 6) rfl) rfl rfl) ?_
  refine ops_call (σa := [(Arr 100 bb [u, w, (Value.map (some ba)), (Value.map (some bi)), (.bool (decide (wd L)))]), (Gr 3 1 u L.length ((L.map (Value.int .i64)))), (Gr 65 3 w M.length ((fks M))), (Mf ba (Value.int .i64) (Value.int .i64) (lfF L)), (Mf bi fkv (Value.int .i64) (idF M)), (Mf b4 kv (Value.int .i64) (fun _ => none))]) (σr := [(Arr 71 b7 [(.int .i64 (rn Ds i.toNat 0)), (.int .i64 (rn Ds i.toNat 1)), (.int .i64 (rn Ds i.toNat 2))])]) (by have h := comb_c (ba := ba) (bi := bi) (vars := vars) (F := F) ((vars - mlv vars Ds (rt Ds)).toNat + 1) _ (rt Ds) L M (fun _ => none) u w ⟨hM, hd, hsv, hrg, h1, hc1, hc2, hc3, hc4, hc5, fun W q => hf W (hsub.trans q)⟩ hK (by omega) ⟨hok, fun _ _ h => by cases h⟩ (by omega) (by omega); rw [← hrt] at h; exact h) rfl rfl (.refl _) (fun r1 V1 sg1 hV1 hp1 => ?_)
  obtain ⟨L1, M1, D1, p1, u1, w1, rfl, rfl, X⟩ := hp1
  rw [hrt] at X
  have hM := hM.mono hV1
  have hsub := hsub.mono hV1
  have hc1 := hc1.mono hV1
  have hc2 := hc2.mono hV1
  have hc3 := hc3.mono hV1
  have hc4 := hc4.mono hV1
  have hc5 := hc5.mono hV1
  refine oq (qv_as (Value.int .i64 p1) rfl) ?_
  refine ops_nil ?_
  refine vc_drop [(Arr 100 bb [u1, w1, (Value.map (some ba)), (Value.map (some bi)), (Value.bool (decide (wd L1)))]), (Gr 3 1 u1 L1.length ((L1.map (Value.int .i64)))), (Gr 65 3 w1 M1.length ((fks M1))), (Mf ba (Value.int .i64) (Value.int .i64) (lfF L1)), (Mf bi fkv (Value.int .i64) (idF M1)), (Mf b4 kv (Value.int .i64) D1)] [(Arr 71 b7 [(Value.int .i64 (rn Ds i.toNat 0)), (Value.int .i64 (rn Ds i.toNat 1)), (Value.int .i64 (rn Ds i.toNat 2))])] ((List.perm_middle (l₁ := [(Arr 100 bb [u1, w1, (Value.map (some ba)), (Value.map (some bi)), (Value.bool (decide (wd L1)))]), (Gr 3 1 u1 L1.length ((L1.map (Value.int .i64)))), (Gr 65 3 w1 M1.length ((fks M1))), (Mf ba (Value.int .i64) (Value.int .i64) (lfF L1)), (Mf bi fkv (Value.int .i64) (idF M1)), (Mf b4 kv (Value.int .i64) D1)]) (l₂ := [])).trans (List.perm_append_comm (l₁ := [(Arr 71 b7 [(Value.int .i64 (rn Ds i.toNat 0)), (Value.int .i64 (rn Ds i.toNat 1)), (Value.int .i64 (rn Ds i.toNat 2))])]))) ?_
  refine vc_drop [(Arr 100 bb [u1, w1, (Value.map (some ba)), (Value.map (some bi)), (Value.bool (decide (wd L1)))]), (Gr 3 1 u1 L1.length ((L1.map (Value.int .i64)))), (Gr 65 3 w1 M1.length ((fks M1))), (Mf ba (Value.int .i64) (Value.int .i64) (lfF L1)), (Mf bi fkv (Value.int .i64) (idF M1))] [(Mf b4 kv (Value.int .i64) D1)] ((List.perm_middle (l₁ := [(Arr 100 bb [u1, w1, (Value.map (some ba)), (Value.map (some bi)), (Value.bool (decide (wd L1)))]), (Gr 3 1 u1 L1.length ((L1.map (Value.int .i64)))), (Gr 65 3 w1 M1.length ((fks M1))), (Mf ba (Value.int .i64) (Value.int .i64) (lfF L1)), (Mf bi fkv (Value.int .i64) (idF M1))]) (l₂ := [])).trans (List.perm_append_comm (l₁ := [(Mf b4 kv (Value.int .i64) D1)]))) ?_
  refine vc_ret ?_
  refine rq1 (Value.int .i64 p1) rfl ?_
  have hXl := X.len
  have hXl2 := X.lel
  exact ⟨L1, M1, p1, u1, w1, rfl, rfl, X.inv.ok, X.std, X.rch, by omega, by omega⟩

set_option maxRecDepth 100000 in
set_option maxHeartbeats 4000000 in
theorem newBuilder_c {V : HV} :
    FnC Tryz.prog 46 [] V [] (fun v _ σ' => ∃ bb ba bi, v = .pointer (some ⟨bb, 0, none⟩) ∧ σ' = [Arr 100 bb [.slice none 0 0, .slice none 0 0, .map (some ba), .map (some bi), .bool (decide (wd []))], Mf ba (Value.int .i64) (Value.int .i64) (lfF []), Mf bi fkv (Value.int .i64) (idF [])]) := by
 refine FnC.drop ?_
 refine fn_intro (N := 5) Tryz.func46 (by kernel_rfl) rfl rfl rfl (Nat.le_of_ble_eq_true rfl) ?_
 intro w0 D
 refine vc_seq ?_
 refine vc_region ?_
 refine oq (qv_as (Value.pointer none) rfl) ?_
 refine ops_nil ?_
 refine vc_seq ?_
 refine vc_region ?_
 refine ops_mkmap0 (Value.int .i64) (Value.int .i64) (fun b1 => ?_)
 refine ops_mkmap0 fkv (Value.int .i64) (fun b2 => ?_)
 refine oq (qv_build (out := [(Value.slice none 0 0), (Value.slice none 0 0), (Value.map (some b1)), (Value.map (some b2)), (Value.bool false)]) Tryz.build100 [(2, [(Value.map (some b1))]), (3, [(Value.map (some b2))])] rfl rfl) ?_
 refine ops_box (v := (.agg #[(Value.slice none 0 0), (Value.slice none 0 0), (Value.map (some b1)), (Value.map (some b2)), (Value.bool false)])) (cs := [(Value.slice none 0 0), (Value.slice none 0 0), (Value.map (some b1)), (Value.map (some b2)), (Value.bool false)]) rfl rfl (fun b3 => ?_)
 refine oq (qv_as (Value.pointer (some ⟨b3, 0, none⟩)) rfl) ?_
 refine ops_nil ?_
 refine vc_ret ?_
 refine rq1 (Value.pointer (some ⟨b3, 0, none⟩)) rfl ?_
 rw [show (decide (wd [])) = false from decide_eq_false wd_nil]
 exact ⟨[(Arr 100 b3 [(Value.slice none 0 0), (Value.slice none 0 0), (Value.map (some b1)), (Value.map (some b2)), (Value.bool false)]), (Mf b1 (Value.int .i64) (Value.int .i64) (fun _ => none)), (Mf b2 fkv (Value.int .i64) (fun _ => none))], [], perm_idx _ _ [2, 0, 1] rfl rfl, b3, b1, b2, rfl, rfl⟩

end Go.Proofs.YtkmhjcjpohpiaaaGreat
