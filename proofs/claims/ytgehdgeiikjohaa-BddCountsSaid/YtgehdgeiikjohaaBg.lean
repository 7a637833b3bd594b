/- Walks of bdd: what each function returns. Printed by a program out of notes. -/
import Derived.Test.YtgehdgeiikjohaaBf
import Derived.Test.YtgehdgeiikjohaaWd
namespace Go.Proofs.Ytgehdgeiikjohaa
open Go.Vc
open Classical

set_option maxRecDepth 100000 in
set_option maxHeartbeats 4000000 in
theorem combine_c {V : HV} {vars : Int} {Ds : List Dg} {F : Bool → Bool → Bool → Bool} {lv : Value} {nvs : List Value} {fid : Nat} {fcaps : List Value} (hB : Bdl V lv nvs Ds) (hd : DsOk vars Ds) (h1 : 1 ≤ Ds.length) (hv : ∀ i : Int, 0 ≤ i → i < Ds.length → (dg Ds i).v = vars) (hr : Rts Ds) (hf : ∀ W, Vc.Sub V W → ∀ b0 b1 b2 : Bool, FnC Try.prog fid (.agg #[.bool b0, .bool b1, .bool b2] :: fcaps) W [] (fun v _ _ => v = .bool (F b0 b1 b2))) :
    FnC Try.prog 55 [lv, (Value.func (.func fid) #[] fcaps.toArray)] V [] (fun v V' σ' => σ' = [] ∧ ∃ u', v = .agg #[.int .i64 vars, u', .int .i64 (cmb vars Ds F).2] ∧ Fks V' u' (cmb vars Ds F).1) := by
 refine fn_intro (N := 44) Try.func55 (by kernel_rfl) rfl rfl rfl (Nat.le_of_ble_eq_true rfl) ?_
 intro w0 D
 have hb := SlS.bound hB.sl
 have hle := hd.le
 have hv0 := hd.v0
 have hv1 := hd.v1
 have hsub := Vc.Sub.refl V
 have hK := rt_ok hr
 have hpw := comb_pow hd hK
 have hvz := hv 0 (by omega) (by omega)
 refine vc_seq ?_
 refine vc_region ?_
 refine ops_box (v := lv) (cs := [lv]) rfl (SlS.cells hB.sl) (fun b1 => ?_)
 refine ops_box (v := (Value.func (.func fid) #[] fcaps.toArray)) (cs := [(Value.func (.func fid) #[] fcaps.toArray)]) rfl rfl (fun b2 => ?_)
 refine ops_alloc Try.ti24 rfl (fun b3 => ?_)
 refine ops_nil ?_
 refine vc_seq ?_
 refine vc_res (σ' := [(Arr 83 b1 [lv]), (Arr 85 b2 [(Value.func (.func fid) #[] fcaps.toArray)]), (Arr 24 b3 [(Value.int .i64 0), (Value.slice none 0 0), (Value.int .i64 0)])]) rfl ?_
 refine vc_region ?_
 refine oq (qv_ldp (v := lv) Try.plain83 rfl (inOc (k := 0) rfl) rfl) ?_
 refine oq (qv_ias (v := lv) (i := 0) Try.underlying83 Try.size24 rfl hB.sl rfl (by omega) (by omega)) ?_
 refine oq (qv_fas Try.field24_0 rfl hB.sl (by omega) (by omega)) ?_
 refine oq (qv_ldf (u := (.int .i64 ((dg Ds (0)).v))) (v := lv) (i := 0) Try.plain3 rfl hB.sl (by omega) (by omega) (by omega) (bdls_el (o := 0) (by omega) (by omega) (by omega) rfl)) ?_
 refine ops_alloc Try.ti3 rfl (fun b4 => ?_)
 refine ops_stp (k := 3) (off := 0) (cs := [(Value.int .i64 0)]) Try.size3 rfl (rfl : ev _ _ = (.int .i64 ((dg Ds (0)).v))) rfl rfl (Nat.le_of_ble_eq_true rfl) ?_
 refine ops_nil ?_
 refine vc_seq ?_
 refine vc_res (σ' := [(Arr 83 b1 [lv]), (Arr 85 b2 [(Value.func (.func fid) #[] fcaps.toArray)]), (Arr 24 b3 [(Value.int .i64 0), (Value.slice none 0 0), (Value.int .i64 0)]), (Arr 3 b4 [(.int .i64 ((dg Ds (0)).v))])]) rfl ?_
 refine vc_region ?_
 refine ops_mkmap0 fkv (Value.int .i64) (fun b5 => ?_)
 refine oq (qv_build (out := [(Value.slice none 0 0), (Value.map (some b5))]) Try.build95 [(1, [(Value.map (some b5))])] rfl rfl) ?_
 refine ops_box (v := (.agg #[(Value.slice none 0 0), (Value.map (some b5))])) (cs := [(Value.slice none 0 0), (Value.map (some b5))]) rfl rfl (fun b6 => ?_)
 refine ops_alloc Try.ti92 rfl (fun b7 => ?_)
 refine ops_stp (k := 6) (off := 0) (cs := [(Value.pointer none)]) Try.size92 rfl (rfl : ev _ _ = (Value.pointer (some ⟨b6, 0, none⟩))) rfl rfl (Nat.le_of_ble_eq_true rfl) ?_
 refine ops_nil ?_
 refine vc_seq ?_
 refine vc_res (σ' := [(Arr 83 b1 [lv]), (Arr 85 b2 [(Value.func (.func fid) #[] fcaps.toArray)]), (Arr 24 b3 [(Value.int .i64 0), (Value.slice none 0 0), (Value.int .i64 0)]), (Arr 3 b4 [(.int .i64 ((dg Ds (0)).v))]), (Mf b5 fkv (Value.int .i64) (fun _ => none)), (Arr 95 b6 [(Value.slice none 0 0), (Value.map (some b5))]), (Arr 92 b7 [(Value.pointer (some ⟨b6, 0, none⟩))])]) rfl ?_
 refine vc_region ?_
 refine ops_mkmap0 kv (Value.int .i64) (fun b8 => ?_)
 refine ops_alloc Try.ti107 rfl (fun b9 => ?_)
 refine ops_stp (k := 8) (off := 0) (cs := [(Value.map none)]) Try.size107 rfl (rfl : ev _ _ = (Value.map (some b8))) rfl rfl (Nat.le_of_ble_eq_true rfl) ?_
 refine ops_nil ?_
 refine vc_seq ?_
 refine vc_res (σ' := [(Arr 83 b1 [lv]), (Arr 85 b2 [(Value.func (.func fid) #[] fcaps.toArray)]), (Arr 24 b3 [(Value.int .i64 0), (Value.slice none 0 0), (Value.int .i64 0)]), (Arr 3 b4 [(.int .i64 ((dg Ds (0)).v))]), (Mf b5 fkv (Value.int .i64) (fun _ => none)), (Arr 95 b6 [(Value.slice none 0 0), (Value.map (some b5))]), (Arr 92 b7 [(Value.pointer (some ⟨b6, 0, none⟩))]), (Mf b8 kv (Value.int .i64) (fun _ => none)), (Arr 107 b9 [(Value.map (some b8))])]) rfl ?_
 refine vc_region ?_
 refine ops_alloc Try.ti108 rfl (fun b10 => ?_)
 refine ops_nil ?_
 refine vc_seq ?_
 refine vc_res (σ' := [(Arr 83 b1 [lv]), (Arr 85 b2 [(Value.func (.func fid) #[] fcaps.toArray)]), (Arr 24 b3 [(Value.int .i64 0), (Value.slice none 0 0), (Value.int .i64 0)]), (Arr 3 b4 [(.int .i64 ((dg Ds (0)).v))]), (Mf b5 fkv (Value.int .i64) (fun _ => none)), (Arr 95 b6 [(Value.slice none 0 0), (Value.map (some b5))]), (Arr 92 b7 [(Value.pointer (some ⟨b6, 0, none⟩))]), (Mf b8 kv (Value.int .i64) (fun _ => none)), (Arr 107 b9 [(Value.map (some b8))]), (Arr 108 b10 [Value.nilFunc])]) rfl ?_
 refine vc_region ?_
 refine oq (qv_func (cs := [(Value.pointer (some ⟨b9, 0, none⟩)), (Value.pointer (some ⟨b4, 0, none⟩)), (Value.pointer (some ⟨b1, 0, none⟩)), (Value.pointer (some ⟨b2, 0, none⟩)), (Value.pointer (some ⟨b10, 0, none⟩)), (Value.pointer (some ⟨b7, 0, none⟩))]) rfl) ?_
 refine ops_stp (k := 9) (off := 0) (cs := [Value.nilFunc]) Try.size108 rfl (rfl : ev _ _ = (Value.func (.func 76) #[] #[(Value.pointer (some ⟨b9, 0, none⟩)), (Value.pointer (some ⟨b4, 0, none⟩)), (Value.pointer (some ⟨b1, 0, none⟩)), (Value.pointer (some ⟨b2, 0, none⟩)), (Value.pointer (some ⟨b10, 0, none⟩)), (Value.pointer (some ⟨b7, 0, none⟩))])) rfl rfl (Nat.le_of_ble_eq_true rfl) ?_
 refine ops_nil ?_
 refine vc_seq ?_
 refine vc_res (σ' := [(Arr 83 b1 [lv]), (Arr 85 b2 [(Value.func (.func fid) #[] fcaps.toArray)]), (Arr 24 b3 [(Value.int .i64 0), (Value.slice none 0 0), (Value.int .i64 0)]), (Arr 3 b4 [(.int .i64 ((dg Ds (0)).v))]), (Mf b5 fkv (Value.int .i64) (fun _ => none)), (Arr 95 b6 [(Value.slice none 0 0), (Value.map (some b5))]), (Arr 92 b7 [(Value.pointer (some ⟨b6, 0, none⟩))]), (Mf b8 kv (Value.int .i64) (fun _ => none)), (Arr 107 b9 [(Value.map (some b8))]), (Arr 108 b10 [(Value.func (.func 76) #[] #[(Value.pointer (some ⟨b9, 0, none⟩)), (Value.pointer (some ⟨b4, 0, none⟩)), (Value.pointer (some ⟨b1, 0, none⟩)), (Value.pointer (some ⟨b2, 0, none⟩)), (Value.pointer (some ⟨b10, 0, none⟩)), (Value.pointer (some ⟨b7, 0, none⟩))])])]) rfl ?_
 refine vc_region ?_
 refine ops_alloc Try.ti109 rfl (fun b11 => ?_)
 refine ops_nil ?_
 refine vc_seq ?_
 refine vc_seq ?_
 refine vc_res (σ' := [(Arr 83 b1 [lv]), (Arr 85 b2 [(Value.func (.func fid) #[] fcaps.toArray)]), (Arr 24 b3 [(Value.int .i64 0), (Value.slice none 0 0), (Value.int .i64 0)]), (Arr 3 b4 [(.int .i64 ((dg Ds (0)).v))]), (Mf b5 fkv (Value.int .i64) (fun _ => none)), (Arr 95 b6 [(Value.slice none 0 0), (Value.map (some b5))]), (Arr 92 b7 [(Value.pointer (some ⟨b6, 0, none⟩))]), (Mf b8 kv (Value.int .i64) (fun _ => none)), (Arr 107 b9 [(Value.map (some b8))]), (Arr 108 b10 [(Value.func (.func 76) #[] #[(Value.pointer (some ⟨b9, 0, none⟩)), (Value.pointer (some ⟨b4, 0, none⟩)), (Value.pointer (some ⟨b1, 0, none⟩)), (Value.pointer (some ⟨b2, 0, none⟩)), (Value.pointer (some ⟨b10, 0, none⟩)), (Value.pointer (some ⟨b7, 0, none⟩))])]), (Arr 109 b11 [(Value.int .i64 0), (Value.int .i64 0), (Value.int .i64 0)])]) rfl ?_
 refine vc_region ?_
 refine oq (qv_ldp (v := lv) Try.plain83 rfl (inOc (k := 0) rfl) rfl) ?_
 refine oq (qv_lenSS Try.underlying83 rfl hB.sl) ?_
 refine oq (qv_mv (Value.int .i64 0) rfl) ?_
 refine ops_nil ?_
 refine vc_block ?_
 refine vc_loop (α := Int) (fun (xx : Int) => [(0, lv), (1, (Value.func (.func fid) #[] fcaps.toArray)), (2, (Value.pointer (some ⟨b1, 0, none⟩))), (3, (Value.pointer (some ⟨b2, 0, none⟩))), (4, (Value.pointer (some ⟨b3, 0, none⟩))), (5, (Value.pointer (some ⟨b4, 0, none⟩))), (6, (Value.pointer (some ⟨b7, 0, none⟩))), (7, (Value.pointer (some ⟨b9, 0, none⟩))), (8, (Value.pointer (some ⟨b10, 0, none⟩))), (9, (Value.pointer (some ⟨b11, 0, none⟩))), (22, lv), (23, (.int .i64 ((Ds.length : Int)))), (24, (Value.int .i64 xx))]) (fun (xx : Int) V' σ' => V = V' ∧ [(Arr 83 b1 [lv]), (Arr 85 b2 [(Value.func (.func fid) #[] fcaps.toArray)]), (Arr 24 b3 [(Value.int .i64 0), (Value.slice none 0 0), (Value.int .i64 0)]), (Arr 3 b4 [(.int .i64 ((dg Ds (0)).v))]), (Mf b5 fkv (Value.int .i64) (fun _ => none)), (Arr 95 b6 [(Value.slice none 0 0), (Value.map (some b5))]), (Arr 92 b7 [(Value.pointer (some ⟨b6, 0, none⟩))]), (Mf b8 kv (Value.int .i64) (fun _ => none)), (Arr 107 b9 [(Value.map (some b8))]), (Arr 108 b10 [(Value.func (.func 76) #[] #[(Value.pointer (some ⟨b9, 0, none⟩)), (Value.pointer (some ⟨b4, 0, none⟩)), (Value.pointer (some ⟨b1, 0, none⟩)), (Value.pointer (some ⟨b2, 0, none⟩)), (Value.pointer (some ⟨b10, 0, none⟩)), (Value.pointer (some ⟨b7, 0, none⟩))])]), (Arr 109 b11 [(.int .i64 (rn Ds xx.toNat 0)), (.int .i64 (rn Ds xx.toNat 1)), (.int .i64 (rn Ds xx.toNat 2))])] = σ' ∧ 0 ≤ xx ∧ xx ≤ Ds.length) (fun (xx : Int) => (Ds.length - xx).toNat) (0) ?_ ?_ ?_
 · exact ⟨rfl, rfl, rfl, rfl, rfl, rfl, rfl, rfl, rfl, rfl, rfl, rfl, rfl, trivial⟩
 · exact ⟨rfl, (show [(Arr 83 b1 [lv]), (Arr 85 b2 [(Value.func (.func fid) #[] fcaps.toArray)]), (Arr 24 b3 [(Value.int .i64 0), (Value.slice none 0 0), (Value.int .i64 0)]), (Arr 3 b4 [(.int .i64 ((dg Ds (0)).v))]), (Mf b5 fkv (Value.int .i64) (fun _ => none)), (Arr 95 b6 [(Value.slice none 0 0), (Value.map (some b5))]), (Arr 92 b7 [(Value.pointer (some ⟨b6, 0, none⟩))]), (Mf b8 kv (Value.int .i64) (fun _ => none)), (Arr 107 b9 [(Value.map (some b8))]), (Arr 108 b10 [(Value.func (.func 76) #[] #[(Value.pointer (some ⟨b9, 0, none⟩)), (Value.pointer (some ⟨b4, 0, none⟩)), (Value.pointer (some ⟨b1, 0, none⟩)), (Value.pointer (some ⟨b2, 0, none⟩)), (Value.pointer (some ⟨b10, 0, none⟩)), (Value.pointer (some ⟨b7, 0, none⟩))])]), (Arr 109 b11 [(.int .i64 (rn Ds (0 : Int).toNat 0)), (.int .i64 (rn Ds (0 : Int).toNat 1)), (.int .i64 (rn Ds (0 : Int).toNat 2))])] = [(Arr 83 b1 [lv]), (Arr 85 b2 [(Value.func (.func fid) #[] fcaps.toArray)]), (Arr 24 b3 [(Value.int .i64 0), (Value.slice none 0 0), (Value.int .i64 0)]), (Arr 3 b4 [(.int .i64 ((dg Ds (0)).v))]), (Mf b5 fkv (Value.int .i64) (fun _ => none)), (Arr 95 b6 [(Value.slice none 0 0), (Value.map (some b5))]), (Arr 92 b7 [(Value.pointer (some ⟨b6, 0, none⟩))]), (Mf b8 kv (Value.int .i64) (fun _ => none)), (Arr 107 b9 [(Value.map (some b8))]), (Arr 108 b10 [(Value.func (.func 76) #[] #[(Value.pointer (some ⟨b9, 0, none⟩)), (Value.pointer (some ⟨b4, 0, none⟩)), (Value.pointer (some ⟨b1, 0, none⟩)), (Value.pointer (some ⟨b2, 0, none⟩)), (Value.pointer (some ⟨b10, 0, none⟩)), (Value.pointer (some ⟨b7, 0, none⟩))])]), (Arr 109 b11 [(Value.int .i64 0), (Value.int .i64 0), (Value.int .i64 0)])] from by simp only [show Int.toNat 0 = 0 from rfl, rn_0]), by omega, by omega⟩
 rintro i e1 V0l σ0l hI0
 obtain ⟨rfl, rfl, i1, i2⟩ : V = V0l ∧ [(Arr 83 b1 [lv]), (Arr 85 b2 [(Value.func (.func fid) #[] fcaps.toArray)]), (Arr 24 b3 [(Value.int .i64 0), (Value.slice none 0 0), (Value.int .i64 0)]), (Arr 3 b4 [(.int .i64 ((dg Ds (0)).v))]), (Mf b5 fkv (Value.int .i64) (fun _ => none)), (Arr 95 b6 [(Value.slice none 0 0), (Value.map (some b5))]), (Arr 92 b7 [(Value.pointer (some ⟨b6, 0, none⟩))]), (Mf b8 kv (Value.int .i64) (fun _ => none)), (Arr 107 b9 [(Value.map (some b8))]), (Arr 108 b10 [(Value.func (.func 76) #[] #[(Value.pointer (some ⟨b9, 0, none⟩)), (Value.pointer (some ⟨b4, 0, none⟩)), (Value.pointer (some ⟨b1, 0, none⟩)), (Value.pointer (some ⟨b2, 0, none⟩)), (Value.pointer (some ⟨b10, 0, none⟩)), (Value.pointer (some ⟨b7, 0, none⟩))])]), (Arr 109 b11 [(.int .i64 (rn Ds i.toNat 0)), (.int .i64 (rn Ds i.toNat 1)), (.int .i64 (rn Ds i.toNat 2))])] = σ0l ∧ 0 ≤ i ∧ i ≤ Ds.length := hI0
 refine vc_seq ?_
 refine vc_res (σ' := [(Arr 83 b1 [lv]), (Arr 85 b2 [(Value.func (.func fid) #[] fcaps.toArray)]), (Arr 24 b3 [(Value.int .i64 0), (Value.slice none 0 0), (Value.int .i64 0)]), (Arr 3 b4 [(.int .i64 ((dg Ds (0)).v))]), (Mf b5 fkv (Value.int .i64) (fun _ => none)), (Arr 95 b6 [(Value.slice none 0 0), (Value.map (some b5))]), (Arr 92 b7 [(Value.pointer (some ⟨b6, 0, none⟩))]), (Mf b8 kv (Value.int .i64) (fun _ => none)), (Arr 107 b9 [(Value.map (some b8))]), (Arr 108 b10 [(Value.func (.func 76) #[] #[(Value.pointer (some ⟨b9, 0, none⟩)), (Value.pointer (some ⟨b4, 0, none⟩)), (Value.pointer (some ⟨b1, 0, none⟩)), (Value.pointer (some ⟨b2, 0, none⟩)), (Value.pointer (some ⟨b10, 0, none⟩)), (Value.pointer (some ⟨b7, 0, none⟩))])]), (Arr 109 b11 [(.int .i64 (rn Ds i.toNat 0)), (.int .i64 (rn Ds i.toNat 1)), (.int .i64 (rn Ds i.toNat 2))])]) rfl ?_
 refine vc_region ?_
 refine oq (qv_lss rfl rfl) ?_
 refine ops_nil ?_
 refine vc_seq ?_
 refine vc_if rfl (fun c1 => ?_) (fun c1 => ?_)
 ·
  refine vc_skip ?_
  refine vc_seq ?_
  refine vc_block ?_
  refine vc_seq ?_
  refine vc_region ?_
  refine oq (qv_mv (Value.int .i64 i) rfl) ?_
  refine oq (qv_ias (v := lv) (i := i) Try.underlying83 Try.size24 rfl hB.sl rfl (by omega) (by omega)) ?_
  refine oq (qv_lds (v := lv) (i := i) (vs := [(.int .i64 ((dg Ds (i)).v)), (gv nvs (i)), (.int .i64 ((dg Ds (i)).r))]) Try.agg24 rfl hB.sl (by omega) (by omega) (bdls_at (by omega) (by omega))) ?_
  refine ops_alloc Try.ti24 rfl (fun b12 => ?_)
  refine oq (qv_as (Value.int .i64 i) rfl) ?_
  refine ops_stw (k := 11) (vs := [(.int .i64 ((dg Ds (i)).v)), (gv nvs (i)), (.int .i64 ((dg Ds (i)).r))]) Try.size24 rfl rfl rfl (allc rfl (allc (SlS.one (hB.at_ (i) (by omega) (by omega))) (allc rfl rfl))) rfl rfl ?_
  refine ops_nil ?_
  refine vc_res (σ' := [(Arr 83 b1 [lv]), (Arr 85 b2 [(Value.func (.func fid) #[] fcaps.toArray)]), (Arr 24 b3 [(Value.int .i64 0), (Value.slice none 0 0), (Value.int .i64 0)]), (Arr 3 b4 [(.int .i64 ((dg Ds (0)).v))]), (Mf b5 fkv (Value.int .i64) (fun _ => none)), (Arr 95 b6 [(Value.slice none 0 0), (Value.map (some b5))]), (Arr 92 b7 [(Value.pointer (some ⟨b6, 0, none⟩))]), (Mf b8 kv (Value.int .i64) (fun _ => none)), (Arr 107 b9 [(Value.map (some b8))]), (Arr 108 b10 [(Value.func (.func 76) #[] #[(Value.pointer (some ⟨b9, 0, none⟩)), (Value.pointer (some ⟨b4, 0, none⟩)), (Value.pointer (some ⟨b1, 0, none⟩)), (Value.pointer (some ⟨b2, 0, none⟩)), (Value.pointer (some ⟨b10, 0, none⟩)), (Value.pointer (some ⟨b7, 0, none⟩))])]), (Arr 109 b11 [(.int .i64 (rn Ds i.toNat 0)), (.int .i64 (rn Ds i.toNat 1)), (.int .i64 (rn Ds i.toNat 2))]), (Arr 24 b12 [(.int .i64 ((dg Ds (i)).v)), (gv nvs (i)), (.int .i64 ((dg Ds (i)).r))])]) rfl ?_
  refine vc_region ?_
  refine oq (qv_mv (Value.int .i64 i) rfl) ?_
  refine oq (qv_fa (off := 0) Try.field24_2 rfl) ?_
  refine oq (qv_ldp (v := (.int .i64 ((dg Ds (i)).r))) Try.plain3 rfl (inOc (k := 11) rfl) rfl) ?_
  refine oq (qv_iav (i := i) (off := 0) Try.underlying109 Try.size3 rfl rfl (by omega) (by omega)) ?_
  refine ops_stp (k := 10) (off := 0 + (i).toNat) (cs := [(.int .i64 (rn Ds i.toNat 0)), (.int .i64 (rn Ds i.toNat 1)), (.int .i64 (rn Ds i.toNat 2))]) Try.size3 rfl (rfl : ev _ _ = (.int .i64 ((dg Ds (i)).r))) rfl rfl (by simp; omega) ?_
  refine ops_nil ?_
  refine vc_res (σ' := [(Arr 83 b1 [lv]), (Arr 85 b2 [(Value.func (.func fid) #[] fcaps.toArray)]), (Arr 24 b3 [(Value.int .i64 0), (Value.slice none 0 0), (Value.int .i64 0)]), (Arr 3 b4 [(.int .i64 ((dg Ds (0)).v))]), (Mf b5 fkv (Value.int .i64) (fun _ => none)), (Arr 95 b6 [(Value.slice none 0 0), (Value.map (some b5))]), (Arr 92 b7 [(Value.pointer (some ⟨b6, 0, none⟩))]), (Mf b8 kv (Value.int .i64) (fun _ => none)), (Arr 107 b9 [(Value.map (some b8))]), (Arr 108 b10 [(Value.func (.func 76) #[] #[(Value.pointer (some ⟨b9, 0, none⟩)), (Value.pointer (some ⟨b4, 0, none⟩)), (Value.pointer (some ⟨b1, 0, none⟩)), (Value.pointer (some ⟨b2, 0, none⟩)), (Value.pointer (some ⟨b10, 0, none⟩)), (Value.pointer (some ⟨b7, 0, none⟩))])]), (Arr 109 b11 (([(.int .i64 (rn Ds i.toNat 0)), (.int .i64 (rn Ds i.toNat 1)), (.int .i64 (rn Ds i.toNat 2))]).set (0 + (i).toNat) (.int .i64 ((dg Ds (i)).r)))), (Arr 24 b12 [(.int .i64 ((dg Ds (i)).v)), (gv nvs (i)), (.int .i64 ((dg Ds (i)).r))])]) rfl ?_
  refine vc_drop [(Arr 83 b1 [lv]), (Arr 85 b2 [(Value.func (.func fid) #[] fcaps.toArray)]), (Arr 24 b3 [(Value.int .i64 0), (Value.slice none 0 0), (Value.int .i64 0)]), (Arr 3 b4 [(Value.int .i64 ((dg Ds (0)).v))]), (Mf b5 fkv (Value.int .i64) (fun _ => none)), (Arr 95 b6 [(Value.slice none 0 0), (Value.map (some b5))]), (Arr 92 b7 [(Value.pointer (some ⟨b6, 0, none⟩))]), (Mf b8 kv (Value.int .i64) (fun _ => none)), (Arr 107 b9 [(Value.map (some b8))]), (Arr 108 b10 [(Value.func (.func 76) #[] #[(Value.pointer (some ⟨b9, 0, none⟩)), (Value.pointer (some ⟨b4, 0, none⟩)), (Value.pointer (some ⟨b1, 0, none⟩)), (Value.pointer (some ⟨b2, 0, none⟩)), (Value.pointer (some ⟨b10, 0, none⟩)), (Value.pointer (some ⟨b7, 0, none⟩))])]), (Arr 109 b11 (([(Value.int .i64 (rn Ds i.toNat 0)), (Value.int .i64 (rn Ds i.toNat 1)), (Value.int .i64 (rn Ds i.toNat 2))]).set (0 + (i).toNat) (Value.int .i64 ((dg Ds (i)).r))))] [(Arr 24 b12 [(Value.int .i64 ((dg Ds (i)).v)), (gv nvs (i)), (Value.int .i64 ((dg Ds (i)).r))])] ((List.perm_middle (l₁ := [(Arr 83 b1 [lv]), (Arr 85 b2 [(Value.func (.func fid) #[] fcaps.toArray)]), (Arr 24 b3 [(Value.int .i64 0), (Value.slice none 0 0), (Value.int .i64 0)]), (Arr 3 b4 [(Value.int .i64 ((dg Ds (0)).v))]), (Mf b5 fkv (Value.int .i64) (fun _ => none)), (Arr 95 b6 [(Value.slice none 0 0), (Value.map (some b5))]), (Arr 92 b7 [(Value.pointer (some ⟨b6, 0, none⟩))]), (Mf b8 kv (Value.int .i64) (fun _ => none)), (Arr 107 b9 [(Value.map (some b8))]), (Arr 108 b10 [(Value.func (.func 76) #[] #[(Value.pointer (some ⟨b9, 0, none⟩)), (Value.pointer (some ⟨b4, 0, none⟩)), (Value.pointer (some ⟨b1, 0, none⟩)), (Value.pointer (some ⟨b2, 0, none⟩)), (Value.pointer (some ⟨b10, 0, none⟩)), (Value.pointer (some ⟨b7, 0, none⟩))])]), (Arr 109 b11 (([(Value.int .i64 (rn Ds i.toNat 0)), (Value.int .i64 (rn Ds i.toNat 1)), (Value.int .i64 (rn Ds i.toNat 2))]).set (0 + (i).toNat) (Value.int .i64 ((dg Ds (i)).r))))]) (l₂ := [])).trans (List.perm_append_comm (l₁ := [(Arr 24 b12 [(Value.int .i64 ((dg Ds (i)).v)), (gv nvs (i)), (Value.int .i64 ((dg Ds (i)).r))])]))) ?_
  refine vc_region ?_
  refine oq (qv_add rfl rfl (by omega)) ?_
  refine oq (qv_mv (.int .i64 (i + 1)) rfl) ?_
  refine ops_nil ?_
  refine ⟨(i + 1), ⟨rfl, rfl, rfl, rfl, rfl, rfl, rfl, rfl, rfl, rfl, rfl, rfl, (congrArg (Value.int .i64) (show (i + 1) = ((i + 1)) from by omega)), trivial⟩, ⟨rfl, (show [(Arr 83 b1 [lv]), (Arr 85 b2 [(Value.func (.func fid) #[] fcaps.toArray)]), (Arr 24 b3 [(Value.int .i64 0), (Value.slice none 0 0), (Value.int .i64 0)]), (Arr 3 b4 [(.int .i64 ((dg Ds (0)).v))]), (Mf b5 fkv (Value.int .i64) (fun _ => none)), (Arr 95 b6 [(Value.slice none 0 0), (Value.map (some b5))]), (Arr 92 b7 [(Value.pointer (some ⟨b6, 0, none⟩))]), (Mf b8 kv (Value.int .i64) (fun _ => none)), (Arr 107 b9 [(Value.map (some b8))]), (Arr 108 b10 [(Value.func (.func 76) #[] #[(Value.pointer (some ⟨b9, 0, none⟩)), (Value.pointer (some ⟨b4, 0, none⟩)), (Value.pointer (some ⟨b1, 0, none⟩)), (Value.pointer (some ⟨b2, 0, none⟩)), (Value.pointer (some ⟨b10, 0, none⟩)), (Value.pointer (some ⟨b7, 0, none⟩))])]), (Arr 109 b11 [(.int .i64 (rn Ds (i + 1 : Int).toNat 0)), (.int .i64 (rn Ds (i + 1 : Int).toNat 1)), (.int .i64 (rn Ds (i + 1 : Int).toNat 2))])] = [(Arr 83 b1 [lv]), (Arr 85 b2 [(Value.func (.func fid) #[] fcaps.toArray)]), (Arr 24 b3 [(Value.int .i64 0), (Value.slice none 0 0), (Value.int .i64 0)]), (Arr 3 b4 [(.int .i64 ((dg Ds (0)).v))]), (Mf b5 fkv (Value.int .i64) (fun _ => none)), (Arr 95 b6 [(Value.slice none 0 0), (Value.map (some b5))]), (Arr 92 b7 [(Value.pointer (some ⟨b6, 0, none⟩))]), (Mf b8 kv (Value.int .i64) (fun _ => none)), (Arr 107 b9 [(Value.map (some b8))]), (Arr 108 b10 [(Value.func (.func 76) #[] #[(Value.pointer (some ⟨b9, 0, none⟩)), (Value.pointer (some ⟨b4, 0, none⟩)), (Value.pointer (some ⟨b1, 0, none⟩)), (Value.pointer (some ⟨b2, 0, none⟩)), (Value.pointer (some ⟨b10, 0, none⟩)), (Value.pointer (some ⟨b7, 0, none⟩))])]), (Arr 109 b11 (([(.int .i64 (rn Ds i.toNat 0)), (.int .i64 (rn Ds i.toNat 1)), (.int .i64 (rn Ds i.toNat 2))]).set (0 + (i).toNat) (.int .i64 ((dg Ds (i)).r))))] from by rw [show ([(.int .i64 (rn Ds (i + 1).toNat 0)), (.int .i64 (rn Ds (i + 1).toNat 1)), (.int .i64 (rn Ds (i + 1).toNat 2))] : List Value) = ([(.int .i64 (rn Ds i.toNat 0)), (.int .i64 (rn Ds i.toNat 1)), (.int .i64 (rn Ds i.toNat 2))] : List Value).set (0 + i.toNat) (.int .i64 (dg Ds (i)).r) from (rnL_step (by omega) (by omega)).symm]), by omega, by omega⟩, by omega⟩
 ·
  refine vc_exit ?_
  refine blockQ_hit ?_
  refine vc_seq ?_
  have hrt : rnL Ds i.toNat = rt Ds := rnL_all (by omega)
  refine vc_freeze (b := b9) (o := .cells ([(Value.map (some b8))] : List Value).toArray 107 (0, 0)) (σr := [(Arr 83 b1 [lv]), (Arr 85 b2 [(Value.func (.func fid) #[] fcaps.toArray)]), (Arr 24 b3 [(Value.int .i64 0), (Value.slice none 0 0), (Value.int .i64 0)]), (Arr 3 b4 [(Value.int .i64 ((dg Ds (0)).v))]), (Mf b5 fkv (Value.int .i64) (fun _ => none)), (Arr 95 b6 [(Value.slice none 0 0), (Value.map (some b5))]), (Arr 92 b7 [(Value.pointer (some ⟨b6, 0, none⟩))]), (Mf b8 kv (Value.int .i64) (fun _ => none)), (Arr 108 b10 [(Value.func (.func 76) #[] #[(Value.pointer (some ⟨b9, 0, none⟩)), (Value.pointer (some ⟨b4, 0, none⟩)), (Value.pointer (some ⟨b1, 0, none⟩)), (Value.pointer (some ⟨b2, 0, none⟩)), (Value.pointer (some ⟨b10, 0, none⟩)), (Value.pointer (some ⟨b7, 0, none⟩))])]), (Arr 109 b11 [(Value.int .i64 (rn Ds i.toNat 0)), (Value.int .i64 (rn Ds i.toNat 1)), (Value.int .i64 (rn Ds i.toNat 2))])]) (List.perm_middle (l₁ := [(Arr 83 b1 [lv]), (Arr 85 b2 [(Value.func (.func fid) #[] fcaps.toArray)]), (Arr 24 b3 [(Value.int .i64 0), (Value.slice none 0 0), (Value.int .i64 0)]), (Arr 3 b4 [(Value.int .i64 ((dg Ds (0)).v))]), (Mf b5 fkv (Value.int .i64) (fun _ => none)), (Arr 95 b6 [(Value.slice none 0 0), (Value.map (some b5))]), (Arr 92 b7 [(Value.pointer (some ⟨b6, 0, none⟩))]), (Mf b8 kv (Value.int .i64) (fun _ => none))]) (l₂ := [(Arr 108 b10 [(Value.func (.func 76) #[] #[(Value.pointer (some ⟨b9, 0, none⟩)), (Value.pointer (some ⟨b4, 0, none⟩)), (Value.pointer (some ⟨b1, 0, none⟩)), (Value.pointer (some ⟨b2, 0, none⟩)), (Value.pointer (some ⟨b10, 0, none⟩)), (Value.pointer (some ⟨b7, 0, none⟩))])]), (Arr 109 b11 [(Value.int .i64 (rn Ds i.toNat 0)), (Value.int .i64 (rn Ds i.toNat 1)), (Value.int .i64 (rn Ds i.toNat 2))])])) (fun Vf1 hVf1 hb1 => ?_)
  have hc1 : Cells Vf1 b9 [(Value.map (some b8))] := ⟨_, _, hb1⟩
  have hB := hB.mono hVf1
  have hsub := hsub.mono hVf1
  refine vc_freeze (b := b4) (o := .cells ([(Value.int .i64 ((dg Ds (0)).v))] : List Value).toArray 3 (0, 0)) (σr := [(Arr 83 b1 [lv]), (Arr 85 b2 [(Value.func (.func fid) #[] fcaps.toArray)]), (Arr 24 b3 [(Value.int .i64 0), (Value.slice none 0 0), (Value.int .i64 0)]), (Mf b5 fkv (Value.int .i64) (fun _ => none)), (Arr 95 b6 [(Value.slice none 0 0), (Value.map (some b5))]), (Arr 92 b7 [(Value.pointer (some ⟨b6, 0, none⟩))]), (Mf b8 kv (Value.int .i64) (fun _ => none)), (Arr 108 b10 [(Value.func (.func 76) #[] #[(Value.pointer (some ⟨b9, 0, none⟩)), (Value.pointer (some ⟨b4, 0, none⟩)), (Value.pointer (some ⟨b1, 0, none⟩)), (Value.pointer (some ⟨b2, 0, none⟩)), (Value.pointer (some ⟨b10, 0, none⟩)), (Value.pointer (some ⟨b7, 0, none⟩))])]), (Arr 109 b11 [(Value.int .i64 (rn Ds i.toNat 0)), (Value.int .i64 (rn Ds i.toNat 1)), (Value.int .i64 (rn Ds i.toNat 2))])]) (List.perm_middle (l₁ := [(Arr 83 b1 [lv]), (Arr 85 b2 [(Value.func (.func fid) #[] fcaps.toArray)]), (Arr 24 b3 [(Value.int .i64 0), (Value.slice none 0 0), (Value.int .i64 0)])]) (l₂ := [(Mf b5 fkv (Value.int .i64) (fun _ => none)), (Arr 95 b6 [(Value.slice none 0 0), (Value.map (some b5))]), (Arr 92 b7 [(Value.pointer (some ⟨b6, 0, none⟩))]), (Mf b8 kv (Value.int .i64) (fun _ => none)), (Arr 108 b10 [(Value.func (.func 76) #[] #[(Value.pointer (some ⟨b9, 0, none⟩)), (Value.pointer (some ⟨b4, 0, none⟩)), (Value.pointer (some ⟨b1, 0, none⟩)), (Value.pointer (some ⟨b2, 0, none⟩)), (Value.pointer (some ⟨b10, 0, none⟩)), (Value.pointer (some ⟨b7, 0, none⟩))])]), (Arr 109 b11 [(Value.int .i64 (rn Ds i.toNat 0)), (Value.int .i64 (rn Ds i.toNat 1)), (Value.int .i64 (rn Ds i.toNat 2))])])) (fun Vf2 hVf2 hb2 => ?_)
  have hc2 : Cells Vf2 b4 [(.int .i64 ((dg Ds (0)).v))] := ⟨_, _, hb2⟩
  have hB := hB.mono hVf2
  have hsub := hsub.mono hVf2
  have hc1 := hc1.mono hVf2
  refine vc_freeze (b := b1) (o := .cells ([lv] : List Value).toArray 83 (0, 0)) (σr := [(Arr 85 b2 [(Value.func (.func fid) #[] fcaps.toArray)]), (Arr 24 b3 [(Value.int .i64 0), (Value.slice none 0 0), (Value.int .i64 0)]), (Mf b5 fkv (Value.int .i64) (fun _ => none)), (Arr 95 b6 [(Value.slice none 0 0), (Value.map (some b5))]), (Arr 92 b7 [(Value.pointer (some ⟨b6, 0, none⟩))]), (Mf b8 kv (Value.int .i64) (fun _ => none)), (Arr 108 b10 [(Value.func (.func 76) #[] #[(Value.pointer (some ⟨b9, 0, none⟩)), (Value.pointer (some ⟨b4, 0, none⟩)), (Value.pointer (some ⟨b1, 0, none⟩)), (Value.pointer (some ⟨b2, 0, none⟩)), (Value.pointer (some ⟨b10, 0, none⟩)), (Value.pointer (some ⟨b7, 0, none⟩))])]), (Arr 109 b11 [(Value.int .i64 (rn Ds i.toNat 0)), (Value.int .i64 (rn Ds i.toNat 1)), (Value.int .i64 (rn Ds i.toNat 2))])]) (List.perm_middle (l₁ := []) (l₂ := [(Arr 85 b2 [(Value.func (.func fid) #[] fcaps.toArray)]), (Arr 24 b3 [(Value.int .i64 0), (Value.slice none 0 0), (Value.int .i64 0)]), (Mf b5 fkv (Value.int .i64) (fun _ => none)), (Arr 95 b6 [(Value.slice none 0 0), (Value.map (some b5))]), (Arr 92 b7 [(Value.pointer (some ⟨b6, 0, none⟩))]), (Mf b8 kv (Value.int .i64) (fun _ => none)), (Arr 108 b10 [(Value.func (.func 76) #[] #[(Value.pointer (some ⟨b9, 0, none⟩)), (Value.pointer (some ⟨b4, 0, none⟩)), (Value.pointer (some ⟨b1, 0, none⟩)), (Value.pointer (some ⟨b2, 0, none⟩)), (Value.pointer (some ⟨b10, 0, none⟩)), (Value.pointer (some ⟨b7, 0, none⟩))])]), (Arr 109 b11 [(Value.int .i64 (rn Ds i.toNat 0)), (Value.int .i64 (rn Ds i.toNat 1)), (Value.int .i64 (rn Ds i.toNat 2))])])) (fun Vf3 hVf3 hb3 => ?_)
  have hc3 : Cells Vf3 b1 [lv] := ⟨_, _, hb3⟩
  have hB := hB.mono hVf3
  have hsub := hsub.mono hVf3
  have hc1 := hc1.mono hVf3
  have hc2 := hc2.mono hVf3
  refine vc_freeze (b := b2) (o := .cells ([(Value.func (.func fid) #[] fcaps.toArray)] : List Value).toArray 85 (0, 0)) (σr := [(Arr 24 b3 [(Value.int .i64 0), (Value.slice none 0 0), (Value.int .i64 0)]), (Mf b5 fkv (Value.int .i64) (fun _ => none)), (Arr 95 b6 [(Value.slice none 0 0), (Value.map (some b5))]), (Arr 92 b7 [(Value.pointer (some ⟨b6, 0, none⟩))]), (Mf b8 kv (Value.int .i64) (fun _ => none)), (Arr 108 b10 [(Value.func (.func 76) #[] #[(Value.pointer (some ⟨b9, 0, none⟩)), (Value.pointer (some ⟨b4, 0, none⟩)), (Value.pointer (some ⟨b1, 0, none⟩)), (Value.pointer (some ⟨b2, 0, none⟩)), (Value.pointer (some ⟨b10, 0, none⟩)), (Value.pointer (some ⟨b7, 0, none⟩))])]), (Arr 109 b11 [(Value.int .i64 (rn Ds i.toNat 0)), (Value.int .i64 (rn Ds i.toNat 1)), (Value.int .i64 (rn Ds i.toNat 2))])]) (List.perm_middle (l₁ := []) (l₂ := [(Arr 24 b3 [(Value.int .i64 0), (Value.slice none 0 0), (Value.int .i64 0)]), (Mf b5 fkv (Value.int .i64) (fun _ => none)), (Arr 95 b6 [(Value.slice none 0 0), (Value.map (some b5))]), (Arr 92 b7 [(Value.pointer (some ⟨b6, 0, none⟩))]), (Mf b8 kv (Value.int .i64) (fun _ => none)), (Arr 108 b10 [(Value.func (.func 76) #[] #[(Value.pointer (some ⟨b9, 0, none⟩)), (Value.pointer (some ⟨b4, 0, none⟩)), (Value.pointer (some ⟨b1, 0, none⟩)), (Value.pointer (some ⟨b2, 0, none⟩)), (Value.pointer (some ⟨b10, 0, none⟩)), (Value.pointer (some ⟨b7, 0, none⟩))])]), (Arr 109 b11 [(Value.int .i64 (rn Ds i.toNat 0)), (Value.int .i64 (rn Ds i.toNat 1)), (Value.int .i64 (rn Ds i.toNat 2))])])) (fun Vf4 hVf4 hb4 => ?_)
  have hc4 : Cells Vf4 b2 [(Value.func (.func fid) #[] fcaps.toArray)] := ⟨_, _, hb4⟩
  have hB := hB.mono hVf4
  have hsub := hsub.mono hVf4
  have hc1 := hc1.mono hVf4
  have hc2 := hc2.mono hVf4
  have hc3 := hc3.mono hVf4
  refine vc_freeze (b := b10) (o := .cells ([(Value.func (.func 76) #[] #[(Value.pointer (some ⟨b9, 0, none⟩)), (Value.pointer (some ⟨b4, 0, none⟩)), (Value.pointer (some ⟨b1, 0, none⟩)), (Value.pointer (some ⟨b2, 0, none⟩)), (Value.pointer (some ⟨b10, 0, none⟩)), (Value.pointer (some ⟨b7, 0, none⟩))])] : List Value).toArray 108 (0, 0)) (σr := [(Arr 24 b3 [(Value.int .i64 0), (Value.slice none 0 0), (Value.int .i64 0)]), (Mf b5 fkv (Value.int .i64) (fun _ => none)), (Arr 95 b6 [(Value.slice none 0 0), (Value.map (some b5))]), (Arr 92 b7 [(Value.pointer (some ⟨b6, 0, none⟩))]), (Mf b8 kv (Value.int .i64) (fun _ => none)), (Arr 109 b11 [(Value.int .i64 (rn Ds i.toNat 0)), (Value.int .i64 (rn Ds i.toNat 1)), (Value.int .i64 (rn Ds i.toNat 2))])]) (List.perm_middle (l₁ := [(Arr 24 b3 [(Value.int .i64 0), (Value.slice none 0 0), (Value.int .i64 0)]), (Mf b5 fkv (Value.int .i64) (fun _ => none)), (Arr 95 b6 [(Value.slice none 0 0), (Value.map (some b5))]), (Arr 92 b7 [(Value.pointer (some ⟨b6, 0, none⟩))]), (Mf b8 kv (Value.int .i64) (fun _ => none))]) (l₂ := [(Arr 109 b11 [(Value.int .i64 (rn Ds i.toNat 0)), (Value.int .i64 (rn Ds i.toNat 1)), (Value.int .i64 (rn Ds i.toNat 2))])])) (fun Vf5 hVf5 hb5 => ?_)
  have hc5 : Cells Vf5 b10 [(Value.func (.func 76) #[] #[(Value.pointer (some ⟨b9, 0, none⟩)), (Value.pointer (some ⟨b4, 0, none⟩)), (Value.pointer (some ⟨b1, 0, none⟩)), (Value.pointer (some ⟨b2, 0, none⟩)), (Value.pointer (some ⟨b10, 0, none⟩)), (Value.pointer (some ⟨b7, 0, none⟩))])] := ⟨_, _, hb5⟩
  have hB := hB.mono hVf5
  have hsub := hsub.mono hVf5
  have hc1 := hc1.mono hVf5
  have hc2 := hc2.mono hVf5
  have hc3 := hc3.mono hVf5
  have hc4 := hc4.mono hVf5
  refine vc_freeze (b := b7) (o := .cells ([(Value.pointer (some ⟨b6, 0, none⟩))] : List Value).toArray 92 (0, 0)) (σr := [(Arr 24 b3 [(Value.int .i64 0), (Value.slice none 0 0), (Value.int .i64 0)]), (Mf b5 fkv (Value.int .i64) (fun _ => none)), (Arr 95 b6 [(Value.slice none 0 0), (Value.map (some b5))]), (Mf b8 kv (Value.int .i64) (fun _ => none)), (Arr 109 b11 [(Value.int .i64 (rn Ds i.toNat 0)), (Value.int .i64 (rn Ds i.toNat 1)), (Value.int .i64 (rn Ds i.toNat 2))])]) (List.perm_middle (l₁ := [(Arr 24 b3 [(Value.int .i64 0), (Value.slice none 0 0), (Value.int .i64 0)]), (Mf b5 fkv (Value.int .i64) (fun _ => none)), (Arr 95 b6 [(Value.slice none 0 0), (Value.map (some b5))])]) (l₂ := [(Mf b8 kv (Value.int .i64) (fun _ => none)), (Arr 109 b11 [(Value.int .i64 (rn Ds i.toNat 0)), (Value.int .i64 (rn Ds i.toNat 1)), (Value.int .i64 (rn Ds i.toNat 2))])])) (fun Vf6 hVf6 hb6 => ?_)
  have hc6 : Cells Vf6 b7 [(Value.pointer (some ⟨b6, 0, none⟩))] := ⟨_, _, hb6⟩
  have hB := hB.mono hVf6
  have hsub := hsub.mono hVf6
  have hc1 := hc1.mono hVf6
  have hc2 := hc2.mono hVf6
  have hc3 := hc3.mono hVf6
  have hc4 := hc4.mono hVf6
  have hc5 := hc5.mono hVf6
  refine vc_nil 42 3 ?_
  refine vc_region ?_
  refine oq (qv_ldp (v := (Value.func (.func 76) #[] #[(Value.pointer (some ⟨b9, 0, none⟩)), (Value.pointer (some ⟨b4, 0, none⟩)), (Value.pointer (some ⟨b1, 0, none⟩)), (Value.pointer (some ⟨b2, 0, none⟩)), (Value.pointer (some ⟨b10, 0, none⟩)), (Value.pointer (some ⟨b7, 0, none⟩))])) Try.plain108 rfl (inVc hc5) rfl) ?_
  refine oq (qv_ldm (vs := [(.int .i64 (rn Ds i.toNat 0)), (.int .i64 (rn Ds i.toNat 1)), (.int .i64 (rn Ds i.toNat 2))]) Try.agg109 rfl (inOc (k := 4) rfl) rfl rfl) ?_
  refine ops_call (σa := [(Arr 95 b6 [(Value.slice none 0 0), (Value.map (some b5))]), (Gr 42 3 ((Value.slice none 0 0)) 0 ([])), (Mf b5 fkv (Value.int .i64) (fun _ => none)), (Mf b8 kv (Value.int .i64) (fun _ => none))]) (σr := [(Arr 24 b3 [(Value.int .i64 0), (Value.slice none 0 0), (Value.int .i64 0)]), (Arr 109 b11 [(.int .i64 (rn Ds i.toNat 0)), (.int .i64 (rn Ds i.toNat 1)), (.int .i64 (rn Ds i.toNat 2))])]) (by have h := comb_c (bi := b5) (vars := vars) (F := F) ((vars - mlv vars Ds (rt Ds)).toNat + 1) _ (rt Ds) [] (fun _ => none) (Value.slice none 0 0) ⟨hB, hd, hv, hc1, by have q := hc2; rw [hvz] at q; exact q, hc3, hc4, hc5, hc6, fun W q => hf W (hsub.trans q)⟩ hK (by omega) comb0 (by show 0 + _ ≤ _; omega); rw [← hrt] at h; exact h) rfl rfl (perm_idx _ _ [2, 5, 1, 3, 0, 4] rfl rfl) (fun r1 V1 sg1 hV1 hp1 => ?_)
  obtain ⟨M1, D1, p1, u1, rfl, rfl, A⟩ := hp1
  rw [hrt] at A
  have hAs : M1.length + 1 ≤ 0 + 1099511627776 := A.small hd hK
  have hB := hB.mono hV1
  have hsub := hsub.mono hV1
  have hc1 := hc1.mono hV1
  have hc2 := hc2.mono hV1
  have hc3 := hc3.mono hV1
  have hc4 := hc4.mono hV1
  have hc5 := hc5.mono hV1
  have hc6 := hc6.mono hV1
  refine ops_perm (σ' := [(Arr 24 b3 [(Value.int .i64 0), (Value.slice none 0 0), (Value.int .i64 0)]), (Mf b5 fkv (Value.int .i64) (idxF M1)), (Arr 95 b6 [u1, (Value.map (some b5))]), (Mf b8 kv (Value.int .i64) D1), (Arr 109 b11 [(.int .i64 (rn Ds i.toNat 0)), (.int .i64 (rn Ds i.toNat 1)), (.int .i64 (rn Ds i.toNat 2))]), (Gr 42 3 u1 M1.length ((fks M1)))]) (perm_idx _ _ [4, 2, 0, 3, 5, 1] rfl rfl) ?_
  refine oq (qv_as (Value.int .i64 p1) rfl) ?_
  refine ops_nil ?_
  refine vc_seq ?_
  refine vc_res (σ' := [(Arr 24 b3 [(Value.int .i64 0), (Value.slice none 0 0), (Value.int .i64 0)]), (Mf b5 fkv (Value.int .i64) (idxF M1)), (Arr 95 b6 [u1, (Value.map (some b5))]), (Mf b8 kv (Value.int .i64) D1), (Arr 109 b11 [(.int .i64 (rn Ds i.toNat 0)), (.int .i64 (rn Ds i.toNat 1)), (.int .i64 (rn Ds i.toNat 2))]), (Gr 42 3 u1 M1.length ((fks M1)))]) rfl ?_
  refine vc_freezeS (v := u1) (E := 42) (n := M1.length) (xs := (fks M1)) (σr := [(Arr 24 b3 [(Value.int .i64 0), (Value.slice none 0 0), (Value.int .i64 0)]), (Mf b5 fkv (Value.int .i64) (idxF M1)), (Arr 95 b6 [u1, (Value.map (some b5))]), (Mf b8 kv (Value.int .i64) D1), (Arr 109 b11 [(Value.int .i64 (rn Ds i.toNat 0)), (Value.int .i64 (rn Ds i.toNat 1)), (Value.int .i64 (rn Ds i.toNat 2))])]) (List.perm_middle (l₁ := [(Arr 24 b3 [(Value.int .i64 0), (Value.slice none 0 0), (Value.int .i64 0)]), (Mf b5 fkv (Value.int .i64) (idxF M1)), (Arr 95 b6 [u1, (Value.map (some b5))]), (Mf b8 kv (Value.int .i64) D1), (Arr 109 b11 [(Value.int .i64 (rn Ds i.toNat 0)), (Value.int .i64 (rn Ds i.toNat 1)), (Value.int .i64 (rn Ds i.toNat 2))])]) (l₂ := [])) (fun Vf7 hVf7 hc7 => ?_)
  have hB := hB.mono hVf7
  have hsub := hsub.mono hVf7
  have hc1 := hc1.mono hVf7
  have hc2 := hc2.mono hVf7
  have hc3 := hc3.mono hVf7
  have hc4 := hc4.mono hVf7
  have hc5 := hc5.mono hVf7
  have hc6 := hc6.mono hVf7
  refine vc_region_order (τ := []) [(0, false), (1, false), (2, false), (3, false), (4, false), (5, false), (6, true), (7, true)] [(Arr 24 b3 [(Value.int .i64 0), (Value.slice none 0 0), (Value.int .i64 0)]), (Mf b5 fkv (Value.int .i64) (idxF M1)), (Arr 95 b6 [u1, (Value.map (some b5))]), (Mf b8 kv (Value.int .i64) D1), (Arr 109 b11 [(.int .i64 (rn Ds i.toNat 0)), (.int .i64 (rn Ds i.toNat 1)), (.int .i64 (rn Ds i.toNat 2))])] Try.mixed (perm_nil _) (by kernel_rfl) ?_
  refine rq rfl (qv_ldp (v := (.int .i64 ((dg Ds (0)).v))) Try.plain3 rfl (inVc hc2) rfl) ?_
  refine rq rfl (qv_ldp (v := (Value.pointer (some ⟨b6, 0, none⟩))) Try.plain92 rfl (inVc hc6) rfl) ?_
  refine rq rfl (qv_nilck rfl) ?_
  refine rq rfl (qv_fa (off := 0) Try.field95_0 rfl) ?_
  refine rq rfl (qv_ldp (v := u1) Try.plain22 rfl (inOc (k := 2) rfl) rfl) ?_
  refine rq rfl (qv_mv (Value.int .i64 p1) rfl) ?_
  refine rl rfl ?_
  refine ops_call (σa := []) (σr := [(Arr 24 b3 [(Value.int .i64 0), (Value.slice none 0 0), (Value.int .i64 0)]), (Mf b5 fkv (Value.int .i64) (idxF M1)), (Arr 95 b6 [u1, (Value.map (some b5))]), (Mf b8 kv (Value.int .i64) D1), (Arr 109 b11 [(.int .i64 (rn Ds i.toNat 0)), (.int .i64 (rn Ds i.toNat 1)), (.int .i64 (rn Ds i.toNat 2))])]) (by have h := lay_c (vars := vars) hc7 A.inv.fm A.std.rf (by omega); rw [← hvz] at h; exact h) rfl rfl (.refl _) (fun r2 V2 sg2 hV2 hp2 => ?_)
  obtain ⟨rfl, u9, rfl, hN9⟩ := hp2
  have hB := hB.mono hV2
  have hsub := hsub.mono hV2
  have hc1 := hc1.mono hV2
  have hc2 := hc2.mono hV2
  have hc3 := hc3.mono hV2
  have hc4 := hc4.mono hV2
  have hc5 := hc5.mono hV2
  have hc6 := hc6.mono hV2
  have hc7 := hc7.mono hV2
  refine ops_nil ⟨[(Arr 24 b3 [(Value.int .i64 0), (Value.slice none 0 0), (Value.int .i64 0)]), (Mf b5 fkv (Value.int .i64) (idxF M1)), (Arr 95 b6 [u1, (Value.map (some b5))]), (Mf b8 kv (Value.int .i64) D1), (Arr 109 b11 [(.int .i64 (rn Ds i.toNat 0)), (.int .i64 (rn Ds i.toNat 1)), (.int .i64 (rn Ds i.toNat 2))])], [], hV2, perm_nil _, ⟨[], (.refl _)⟩, ?_⟩
  refine rl1 (by kernel_rfl) rfl ?_
  refine ops_stw (k := 0) (vs := [(.int .i64 ((dg Ds (0)).v)), u9, (.int .i64 ((layF M1 p1).2))]) Try.size24 rfl rfl rfl (allc rfl (allc (SlS.one hN9) (allc rfl rfl))) rfl rfl ?_
  refine ops_nil ⟨[(Arr 24 b3 [(.int .i64 ((dg Ds (0)).v)), u9, (.int .i64 ((layF M1 p1).2))]), (Mf b5 fkv (Value.int .i64) (idxF M1)), (Arr 95 b6 [u1, (Value.map (some b5))]), (Mf b8 kv (Value.int .i64) D1), (Arr 109 b11 [(.int .i64 (rn Ds i.toNat 0)), (.int .i64 (rn Ds i.toNat 1)), (.int .i64 (rn Ds i.toNat 2))])], [], perm_nil _, ?_⟩
  refine rnil ?_
  refine vc_freeze (b := b3) (o := .cells ([(Value.int .i64 ((dg Ds (0)).v)), u9, (Value.int .i64 ((layF M1 p1).2))] : List Value).toArray 24 (0, 0)) (σr := [(Mf b5 fkv (Value.int .i64) (idxF M1)), (Arr 95 b6 [u1, (Value.map (some b5))]), (Mf b8 kv (Value.int .i64) D1), (Arr 109 b11 [(Value.int .i64 (rn Ds i.toNat 0)), (Value.int .i64 (rn Ds i.toNat 1)), (Value.int .i64 (rn Ds i.toNat 2))])]) (List.perm_middle (l₁ := []) (l₂ := [(Mf b5 fkv (Value.int .i64) (idxF M1)), (Arr 95 b6 [u1, (Value.map (some b5))]), (Mf b8 kv (Value.int .i64) D1), (Arr 109 b11 [(Value.int .i64 (rn Ds i.toNat 0)), (Value.int .i64 (rn Ds i.toNat 1)), (Value.int .i64 (rn Ds i.toNat 2))])])) (fun Vf8 hVf8 hb8 => ?_)
  have hc8 : Cells Vf8 b3 [(.int .i64 ((dg Ds (0)).v)), u9, (.int .i64 ((layF M1 p1).2))] := ⟨_, _, hb8⟩
  have hB := hB.mono hVf8
  have hsub := hsub.mono hVf8
  have hc1 := hc1.mono hVf8
  have hc2 := hc2.mono hVf8
  have hc3 := hc3.mono hVf8
  have hc4 := hc4.mono hVf8
  have hc5 := hc5.mono hVf8
  have hc6 := hc6.mono hVf8
  have hc7 := hc7.mono hVf8
  have hN9 := hN9.mono hVf8
  refine vc_drop [] [(Mf b5 fkv (Value.int .i64) (idxF M1)), (Arr 95 b6 [u1, (Value.map (some b5))]), (Mf b8 kv (Value.int .i64) D1), (Arr 109 b11 [(.int .i64 (rn Ds i.toNat 0)), (.int .i64 (rn Ds i.toNat 1)), (.int .i64 (rn Ds i.toNat 2))])] (.refl _) ?_
  refine vc_ret ?_
  refine rs1 _ (rv_c (vs := [(.int .i64 ((dg Ds (0)).v)), u9, (.int .i64 ((layF M1 p1).2))]) Try.agg24 rfl (inVc hc8) rfl rfl) ?_
  have hcf := cmb_lay A.inv.fm A.std hv0
  exact ⟨rfl, u9, by rw [← hcf, hvz], by rw [← hcf]; exact hN9⟩

end Go.Proofs.Ytgehdgeiikjohaa
