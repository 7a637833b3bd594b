/- Walks of bdd: what each function returns. Printed by a program out of notes. -/
import Derived.Test.YtgehdgeiikjohaaBk
namespace Go.Proofs.Ytgehdgeiikjohaa
open Go.Vc
open Classical

set_option maxRecDepth 100000 in
set_option maxHeartbeats 4000000 in
theorem restrict_c {V : HV} {i : Int} {b : Bool} {na : Value} {A : Dg} (hA : Fks V na A.N) (hOk : Form A.v A.N A.r) (hv : 0 ≤ A.v ∧ A.v ≤ 40) :
    FnC Try.prog 71 [(.agg #[(.int .i64 A.v), na, (.int .i64 A.r)]), (Value.int .i64 i), (.bool (decide (b = true)))] V [] (RB (rsD A i b)) := by
 refine fn_intro (N := 29) Try.func71 (by kernel_rfl) rfl rfl rfl (Nat.le_of_ble_eq_true rfl) ?_
 intro w0 D
 have hb := SlS.bound hA
 have hpw := rst_pow hOk.1 hOk.rf hv.1 hv.2
 refine vc_seq ?_
 refine vc_region ?_
 refine ops_box (v := (.agg #[(.int .i64 A.v), na, (.int .i64 A.r)])) (cs := [(.int .i64 A.v), na, (.int .i64 A.r)]) rfl rfl (fun b1 => ?_)
 refine ops_box (v := (Value.int .i64 i)) (cs := [(Value.int .i64 i)]) rfl rfl (fun b2 => ?_)
 refine ops_box (v := (.bool (decide (b = true)))) (cs := [(.bool (decide (b = true)))]) rfl rfl (fun b3 => ?_)
 refine ops_alloc Try.ti24 rfl (fun b4 => ?_)
 refine ops_nil ?_
 refine vc_seq ?_
 refine vc_res (σ' := [(Arr 24 b1 [(.int .i64 A.v), na, (.int .i64 A.r)]), (Arr 3 b2 [(Value.int .i64 i)]), (Arr 4 b3 [(.bool (decide (b = true)))]), (Arr 24 b4 [(Value.int .i64 0), (Value.slice none 0 0), (Value.int .i64 0)])]) rfl ?_
 refine vc_region ?_
 refine ops_mkmap0 fkv (Value.int .i64) (fun b5 => ?_)
 refine oq (qv_build (out := [(Value.slice none 0 0), (Value.map (some b5))]) Try.build95 [(1, [(Value.map (some b5))])] rfl rfl) ?_
 refine ops_box (v := (.agg #[(Value.slice none 0 0), (Value.map (some b5))])) (cs := [(Value.slice none 0 0), (Value.map (some b5))]) rfl rfl (fun b6 => ?_)
 refine ops_alloc Try.ti92 rfl (fun b7 => ?_)
 refine ops_stp (k := 6) (off := 0) (cs := [(Value.pointer none)]) Try.size92 rfl (rfl : ev _ _ = (Value.pointer (some ⟨b6, 0, none⟩))) rfl rfl (Nat.le_of_ble_eq_true rfl) ?_
 refine ops_nil ?_
 refine vc_seq ?_
 refine vc_res (σ' := [(Arr 24 b1 [(.int .i64 A.v), na, (.int .i64 A.r)]), (Arr 3 b2 [(Value.int .i64 i)]), (Arr 4 b3 [(.bool (decide (b = true)))]), (Arr 24 b4 [(Value.int .i64 0), (Value.slice none 0 0), (Value.int .i64 0)]), (Mf b5 fkv (Value.int .i64) (fun _ => none)), (Arr 95 b6 [(Value.slice none 0 0), (Value.map (some b5))]), (Arr 92 b7 [(Value.pointer (some ⟨b6, 0, none⟩))])]) rfl ?_
 refine vc_region ?_
 refine ops_mkmap0 (Value.int .i64) (Value.int .i64) (fun b8 => ?_)
 refine ops_mapins (k := 7) (key := 0) (v := 0) Try.underlying101 (KeyT.int Try.underlying3) rfl rfl rfl rfl ?_
 refine ops_mapins (k := 7) (key := 1) (v := 1) Try.underlying101 (KeyT.int Try.underlying3) rfl rfl rfl rfl ?_
 refine oq (qv_mv (Value.map (some b8)) rfl) ?_
 refine ops_alloc Try.ti101 rfl (fun b9 => ?_)
 refine ops_stp (k := 8) (off := 0) (cs := [(Value.map none)]) Try.size101 rfl (rfl : ev _ _ = (Value.map (some b8))) rfl rfl (Nat.le_of_ble_eq_true rfl) ?_
 refine ops_nil ?_
 refine vc_seq ?_
 refine vc_res (σ' := [(Arr 24 b1 [(.int .i64 A.v), na, (.int .i64 A.r)]), (Arr 3 b2 [(Value.int .i64 i)]), (Arr 4 b3 [(.bool (decide (b = true)))]), (Arr 24 b4 [(Value.int .i64 0), (Value.slice none 0 0), (Value.int .i64 0)]), (Mf b5 fkv (Value.int .i64) (fun _ => none)), (Arr 95 b6 [(Value.slice none 0 0), (Value.map (some b5))]), (Arr 92 b7 [(Value.pointer (some ⟨b6, 0, none⟩))]), (Mf b8 (Value.int .i64) (Value.int .i64) (setF (setF (fun _ => none) 0 0) 1 1)), (Arr 101 b9 [(Value.map (some b8))])]) rfl ?_
 refine vc_region ?_
 refine ops_alloc Try.ti44 rfl (fun b10 => ?_)
 refine ops_nil ?_
 refine vc_seq ?_
 refine vc_res (σ' := [(Arr 24 b1 [(.int .i64 A.v), na, (.int .i64 A.r)]), (Arr 3 b2 [(Value.int .i64 i)]), (Arr 4 b3 [(.bool (decide (b = true)))]), (Arr 24 b4 [(Value.int .i64 0), (Value.slice none 0 0), (Value.int .i64 0)]), (Mf b5 fkv (Value.int .i64) (fun _ => none)), (Arr 95 b6 [(Value.slice none 0 0), (Value.map (some b5))]), (Arr 92 b7 [(Value.pointer (some ⟨b6, 0, none⟩))]), (Mf b8 (Value.int .i64) (Value.int .i64) (setF (setF (fun _ => none) 0 0) 1 1)), (Arr 101 b9 [(Value.map (some b8))]), (Arr 44 b10 [Value.nilFunc])]) rfl ?_
 refine vc_region ?_
 refine oq (qv_func (cs := [(Value.pointer (some ⟨b9, 0, none⟩)), (Value.pointer (some ⟨b1, 0, none⟩)), (Value.pointer (some ⟨b2, 0, none⟩)), (Value.pointer (some ⟨b3, 0, none⟩)), (Value.pointer (some ⟨b10, 0, none⟩)), (Value.pointer (some ⟨b7, 0, none⟩))]) rfl) ?_
 refine ops_stp (k := 9) (off := 0) (cs := [Value.nilFunc]) Try.size44 rfl (rfl : ev _ _ = (Value.func (.func 78) #[] #[(Value.pointer (some ⟨b9, 0, none⟩)), (Value.pointer (some ⟨b1, 0, none⟩)), (Value.pointer (some ⟨b2, 0, none⟩)), (Value.pointer (some ⟨b3, 0, none⟩)), (Value.pointer (some ⟨b10, 0, none⟩)), (Value.pointer (some ⟨b7, 0, none⟩))])) rfl rfl (Nat.le_of_ble_eq_true rfl) ?_
 refine ops_nil ?_
 refine vc_seq ?_
 refine vc_res (σ' := [(Arr 24 b1 [(.int .i64 A.v), na, (.int .i64 A.r)]), (Arr 3 b2 [(Value.int .i64 i)]), (Arr 4 b3 [(.bool (decide (b = true)))]), (Arr 24 b4 [(Value.int .i64 0), (Value.slice none 0 0), (Value.int .i64 0)]), (Mf b5 fkv (Value.int .i64) (fun _ => none)), (Arr 95 b6 [(Value.slice none 0 0), (Value.map (some b5))]), (Arr 92 b7 [(Value.pointer (some ⟨b6, 0, none⟩))]), (Mf b8 (Value.int .i64) (Value.int .i64) (setF (setF (fun _ => none) 0 0) 1 1)), (Arr 101 b9 [(Value.map (some b8))]), (Arr 44 b10 [(Value.func (.func 78) #[] #[(Value.pointer (some ⟨b9, 0, none⟩)), (Value.pointer (some ⟨b1, 0, none⟩)), (Value.pointer (some ⟨b2, 0, none⟩)), (Value.pointer (some ⟨b3, 0, none⟩)), (Value.pointer (some ⟨b10, 0, none⟩)), (Value.pointer (some ⟨b7, 0, none⟩))])])]) rfl ?_
 refine vc_freeze (b := b9) (o := .cells ([(Value.map (some b8))] : List Value).toArray 101 (0, 0)) (σr := [(Arr 24 b1 [(Value.int .i64 (A.v)), na, (Value.int .i64 (A.r))]), (Arr 3 b2 [(Value.int .i64 i)]), (Arr 4 b3 [(Value.bool (decide (b = true)))]), (Arr 24 b4 [(Value.int .i64 0), (Value.slice none 0 0), (Value.int .i64 0)]), (Mf b5 fkv (Value.int .i64) (fun _ => none)), (Arr 95 b6 [(Value.slice none 0 0), (Value.map (some b5))]), (Arr 92 b7 [(Value.pointer (some ⟨b6, 0, none⟩))]), (Mf b8 (Value.int .i64) (Value.int .i64) (setF (setF (fun _ => none) 0 0) 1 1)), (Arr 44 b10 [(Value.func (.func 78) #[] #[(Value.pointer (some ⟨b9, 0, none⟩)), (Value.pointer (some ⟨b1, 0, none⟩)), (Value.pointer (some ⟨b2, 0, none⟩)), (Value.pointer (some ⟨b3, 0, none⟩)), (Value.pointer (some ⟨b10, 0, none⟩)), (Value.pointer (some ⟨b7, 0, none⟩))])])]) (List.perm_middle (l₁ := [(Arr 24 b1 [(Value.int .i64 (A.v)), na, (Value.int .i64 (A.r))]), (Arr 3 b2 [(Value.int .i64 i)]), (Arr 4 b3 [(Value.bool (decide (b = true)))]), (Arr 24 b4 [(Value.int .i64 0), (Value.slice none 0 0), (Value.int .i64 0)]), (Mf b5 fkv (Value.int .i64) (fun _ => none)), (Arr 95 b6 [(Value.slice none 0 0), (Value.map (some b5))]), (Arr 92 b7 [(Value.pointer (some ⟨b6, 0, none⟩))]), (Mf b8 (Value.int .i64) (Value.int .i64) (setF (setF (fun _ => none) 0 0) 1 1))]) (l₂ := [(Arr 44 b10 [(Value.func (.func 78) #[] #[(Value.pointer (some ⟨b9, 0, none⟩)), (Value.pointer (some ⟨b1, 0, none⟩)), (Value.pointer (some ⟨b2, 0, none⟩)), (Value.pointer (some ⟨b3, 0, none⟩)), (Value.pointer (some ⟨b10, 0, none⟩)), (Value.pointer (some ⟨b7, 0, none⟩))])])])) (fun Vf1 hVf1 hb1 => ?_)
 have hc1 : Cells Vf1 b9 [(Value.map (some b8))] := ⟨_, _, hb1⟩
 have hA := hA.mono hVf1
 refine vc_freeze (b := b1) (o := .cells ([(Value.int .i64 (A.v)), na, (Value.int .i64 (A.r))] : List Value).toArray 24 (0, 0)) (σr := [(Arr 3 b2 [(Value.int .i64 i)]), (Arr 4 b3 [(Value.bool (decide (b = true)))]), (Arr 24 b4 [(Value.int .i64 0), (Value.slice none 0 0), (Value.int .i64 0)]), (Mf b5 fkv (Value.int .i64) (fun _ => none)), (Arr 95 b6 [(Value.slice none 0 0), (Value.map (some b5))]), (Arr 92 b7 [(Value.pointer (some ⟨b6, 0, none⟩))]), (Mf b8 (Value.int .i64) (Value.int .i64) (setF (setF (fun _ => none) 0 0) 1 1)), (Arr 44 b10 [(Value.func (.func 78) #[] #[(Value.pointer (some ⟨b9, 0, none⟩)), (Value.pointer (some ⟨b1, 0, none⟩)), (Value.pointer (some ⟨b2, 0, none⟩)), (Value.pointer (some ⟨b3, 0, none⟩)), (Value.pointer (some ⟨b10, 0, none⟩)), (Value.pointer (some ⟨b7, 0, none⟩))])])]) (List.perm_middle (l₁ := []) (l₂ := [(Arr 3 b2 [(Value.int .i64 i)]), (Arr 4 b3 [(Value.bool (decide (b = true)))]), (Arr 24 b4 [(Value.int .i64 0), (Value.slice none 0 0), (Value.int .i64 0)]), (Mf b5 fkv (Value.int .i64) (fun _ => none)), (Arr 95 b6 [(Value.slice none 0 0), (Value.map (some b5))]), (Arr 92 b7 [(Value.pointer (some ⟨b6, 0, none⟩))]), (Mf b8 (Value.int .i64) (Value.int .i64) (setF (setF (fun _ => none) 0 0) 1 1)), (Arr 44 b10 [(Value.func (.func 78) #[] #[(Value.pointer (some ⟨b9, 0, none⟩)), (Value.pointer (some ⟨b1, 0, none⟩)), (Value.pointer (some ⟨b2, 0, none⟩)), (Value.pointer (some ⟨b3, 0, none⟩)), (Value.pointer (some ⟨b10, 0, none⟩)), (Value.pointer (some ⟨b7, 0, none⟩))])])])) (fun Vf2 hVf2 hb2 => ?_)
 have hc2 : Cells Vf2 b1 [(.int .i64 A.v), na, (.int .i64 A.r)] := ⟨_, _, hb2⟩
 have hA := hA.mono hVf2
 have hc1 := hc1.mono hVf2
 refine vc_freeze (b := b2) (o := .cells ([(Value.int .i64 i)] : List Value).toArray 3 (0, 0)) (σr := [(Arr 4 b3 [(Value.bool (decide (b = true)))]), (Arr 24 b4 [(Value.int .i64 0), (Value.slice none 0 0), (Value.int .i64 0)]), (Mf b5 fkv (Value.int .i64) (fun _ => none)), (Arr 95 b6 [(Value.slice none 0 0), (Value.map (some b5))]), (Arr 92 b7 [(Value.pointer (some ⟨b6, 0, none⟩))]), (Mf b8 (Value.int .i64) (Value.int .i64) (setF (setF (fun _ => none) 0 0) 1 1)), (Arr 44 b10 [(Value.func (.func 78) #[] #[(Value.pointer (some ⟨b9, 0, none⟩)), (Value.pointer (some ⟨b1, 0, none⟩)), (Value.pointer (some ⟨b2, 0, none⟩)), (Value.pointer (some ⟨b3, 0, none⟩)), (Value.pointer (some ⟨b10, 0, none⟩)), (Value.pointer (some ⟨b7, 0, none⟩))])])]) (List.perm_middle (l₁ := []) (l₂ := [(Arr 4 b3 [(Value.bool (decide (b = true)))]), (Arr 24 b4 [(Value.int .i64 0), (Value.slice none 0 0), (Value.int .i64 0)]), (Mf b5 fkv (Value.int .i64) (fun _ => none)), (Arr 95 b6 [(Value.slice none 0 0), (Value.map (some b5))]), (Arr 92 b7 [(Value.pointer (some ⟨b6, 0, none⟩))]), (Mf b8 (Value.int .i64) (Value.int .i64) (setF (setF (fun _ => none) 0 0) 1 1)), (Arr 44 b10 [(Value.func (.func 78) #[] #[(Value.pointer (some ⟨b9, 0, none⟩)), (Value.pointer (some ⟨b1, 0, none⟩)), (Value.pointer (some ⟨b2, 0, none⟩)), (Value.pointer (some ⟨b3, 0, none⟩)), (Value.pointer (some ⟨b10, 0, none⟩)), (Value.pointer (some ⟨b7, 0, none⟩))])])])) (fun Vf3 hVf3 hb3 => ?_)
 have hc3 : Cells Vf3 b2 [(Value.int .i64 i)] := ⟨_, _, hb3⟩
 have hA := hA.mono hVf3
 have hc1 := hc1.mono hVf3
 have hc2 := hc2.mono hVf3
 refine vc_freeze (b := b3) (o := .cells ([(Value.bool (decide (b = true)))] : List Value).toArray 4 (0, 0)) (σr := [(Arr 24 b4 [(Value.int .i64 0), (Value.slice none 0 0), (Value.int .i64 0)]), (Mf b5 fkv (Value.int .i64) (fun _ => none)), (Arr 95 b6 [(Value.slice none 0 0), (Value.map (some b5))]), (Arr 92 b7 [(Value.pointer (some ⟨b6, 0, none⟩))]), (Mf b8 (Value.int .i64) (Value.int .i64) (setF (setF (fun _ => none) 0 0) 1 1)), (Arr 44 b10 [(Value.func (.func 78) #[] #[(Value.pointer (some ⟨b9, 0, none⟩)), (Value.pointer (some ⟨b1, 0, none⟩)), (Value.pointer (some ⟨b2, 0, none⟩)), (Value.pointer (some ⟨b3, 0, none⟩)), (Value.pointer (some ⟨b10, 0, none⟩)), (Value.pointer (some ⟨b7, 0, none⟩))])])]) (List.perm_middle (l₁ := []) (l₂ := [(Arr 24 b4 [(Value.int .i64 0), (Value.slice none 0 0), (Value.int .i64 0)]), (Mf b5 fkv (Value.int .i64) (fun _ => none)), (Arr 95 b6 [(Value.slice none 0 0), (Value.map (some b5))]), (Arr 92 b7 [(Value.pointer (some ⟨b6, 0, none⟩))]), (Mf b8 (Value.int .i64) (Value.int .i64) (setF (setF (fun _ => none) 0 0) 1 1)), (Arr 44 b10 [(Value.func (.func 78) #[] #[(Value.pointer (some ⟨b9, 0, none⟩)), (Value.pointer (some ⟨b1, 0, none⟩)), (Value.pointer (some ⟨b2, 0, none⟩)), (Value.pointer (some ⟨b3, 0, none⟩)), (Value.pointer (some ⟨b10, 0, none⟩)), (Value.pointer (some ⟨b7, 0, none⟩))])])])) (fun Vf4 hVf4 hb4 => ?_)
 have hc4 : Cells Vf4 b3 [(.bool (decide (b = true)))] := ⟨_, _, hb4⟩
 have hA := hA.mono hVf4
 have hc1 := hc1.mono hVf4
 have hc2 := hc2.mono hVf4
 have hc3 := hc3.mono hVf4
 refine vc_freeze (b := b10) (o := .cells ([(Value.func (.func 78) #[] #[(Value.pointer (some ⟨b9, 0, none⟩)), (Value.pointer (some ⟨b1, 0, none⟩)), (Value.pointer (some ⟨b2, 0, none⟩)), (Value.pointer (some ⟨b3, 0, none⟩)), (Value.pointer (some ⟨b10, 0, none⟩)), (Value.pointer (some ⟨b7, 0, none⟩))])] : List Value).toArray 44 (0, 0)) (σr := [(Arr 24 b4 [(Value.int .i64 0), (Value.slice none 0 0), (Value.int .i64 0)]), (Mf b5 fkv (Value.int .i64) (fun _ => none)), (Arr 95 b6 [(Value.slice none 0 0), (Value.map (some b5))]), (Arr 92 b7 [(Value.pointer (some ⟨b6, 0, none⟩))]), (Mf b8 (Value.int .i64) (Value.int .i64) (setF (setF (fun _ => none) 0 0) 1 1))]) (List.perm_middle (l₁ := [(Arr 24 b4 [(Value.int .i64 0), (Value.slice none 0 0), (Value.int .i64 0)]), (Mf b5 fkv (Value.int .i64) (fun _ => none)), (Arr 95 b6 [(Value.slice none 0 0), (Value.map (some b5))]), (Arr 92 b7 [(Value.pointer (some ⟨b6, 0, none⟩))]), (Mf b8 (Value.int .i64) (Value.int .i64) (setF (setF (fun _ => none) 0 0) 1 1))]) (l₂ := [])) (fun Vf5 hVf5 hb5 => ?_)
 have hc5 : Cells Vf5 b10 [(Value.func (.func 78) #[] #[(Value.pointer (some ⟨b9, 0, none⟩)), (Value.pointer (some ⟨b1, 0, none⟩)), (Value.pointer (some ⟨b2, 0, none⟩)), (Value.pointer (some ⟨b3, 0, none⟩)), (Value.pointer (some ⟨b10, 0, none⟩)), (Value.pointer (some ⟨b7, 0, none⟩))])] := ⟨_, _, hb5⟩
 have hA := hA.mono hVf5
 have hc1 := hc1.mono hVf5
 have hc2 := hc2.mono hVf5
 have hc3 := hc3.mono hVf5
 have hc4 := hc4.mono hVf5
 refine vc_freeze (b := b7) (o := .cells ([(Value.pointer (some ⟨b6, 0, none⟩))] : List Value).toArray 92 (0, 0)) (σr := [(Arr 24 b4 [(Value.int .i64 0), (Value.slice none 0 0), (Value.int .i64 0)]), (Mf b5 fkv (Value.int .i64) (fun _ => none)), (Arr 95 b6 [(Value.slice none 0 0), (Value.map (some b5))]), (Mf b8 (Value.int .i64) (Value.int .i64) (setF (setF (fun _ => none) 0 0) 1 1))]) (List.perm_middle (l₁ := [(Arr 24 b4 [(Value.int .i64 0), (Value.slice none 0 0), (Value.int .i64 0)]), (Mf b5 fkv (Value.int .i64) (fun _ => none)), (Arr 95 b6 [(Value.slice none 0 0), (Value.map (some b5))])]) (l₂ := [(Mf b8 (Value.int .i64) (Value.int .i64) (setF (setF (fun _ => none) 0 0) 1 1))])) (fun Vf6 hVf6 hb6 => ?_)
 have hc6 : Cells Vf6 b7 [(Value.pointer (some ⟨b6, 0, none⟩))] := ⟨_, _, hb6⟩
 have hA := hA.mono hVf6
 have hc1 := hc1.mono hVf6
 have hc2 := hc2.mono hVf6
 have hc3 := hc3.mono hVf6
 have hc4 := hc4.mono hVf6
 have hc5 := hc5.mono hVf6
 refine vc_nil 42 3 ?_
 refine vc_region ?_
 refine oq (qv_ldp (v := (Value.func (.func 78) #[] #[(Value.pointer (some ⟨b9, 0, none⟩)), (Value.pointer (some ⟨b1, 0, none⟩)), (Value.pointer (some ⟨b2, 0, none⟩)), (Value.pointer (some ⟨b3, 0, none⟩)), (Value.pointer (some ⟨b10, 0, none⟩)), (Value.pointer (some ⟨b7, 0, none⟩))])) Try.plain44 rfl (inVc hc5) rfl) ?_
 refine oq (qv_fa (off := 0) Try.field24_2 rfl) ?_
 refine oq (qv_ldp (v := (.int .i64 A.r)) Try.plain3 rfl (inVc hc2) rfl) ?_
 refine ops_call (σa := [(Arr 95 b6 [(Value.slice none 0 0), (Value.map (some b5))]), (Gr 42 3 ((Value.slice none 0 0)) 0 ([])), (Mf b5 fkv (Value.int .i64) (fun _ => none)), (Mf b8 (Value.int .i64) (Value.int .i64) (setF (setF (fun _ => none) 0 0) 1 1))]) (σr := [(Arr 24 b4 [(Value.int .i64 0), (Value.slice none 0 0), (Value.int .i64 0)])]) (rst_c (bi := b5) (A.r.toNat + 1) _ A.r [] pl0 (Value.slice none 0 0) ⟨hA, hOk.1, hv.2, hc1, hc2, hc3, hc4, hc5, hc6⟩ hOk.rf (by have := hOk.2.1; omega) rinv0 (by show 0 + _ ≤ _; omega)) rfl rfl (perm_idx _ _ [2, 4, 1, 3, 0] rfl rfl) (fun r1 V1 sg1 hV1 hp1 => ?_)
 obtain ⟨M1, D1, p1, u1, rfl, rfl, B⟩ := hp1
 have hBs : M1.length + 1 ≤ 0 + 1099511627776 := B.small hOk.1 hOk.rf hv.1 hv.2
 have hA := hA.mono hV1
 have hc1 := hc1.mono hV1
 have hc2 := hc2.mono hV1
 have hc3 := hc3.mono hV1
 have hc4 := hc4.mono hV1
 have hc5 := hc5.mono hV1
 have hc6 := hc6.mono hV1
 refine ops_perm (σ' := [(Arr 24 b4 [(Value.int .i64 0), (Value.slice none 0 0), (Value.int .i64 0)]), (Mf b5 fkv (Value.int .i64) (idxF M1)), (Arr 95 b6 [u1, (Value.map (some b5))]), (Mf b8 (Value.int .i64) (Value.int .i64) D1), (Gr 42 3 u1 M1.length ((fks M1)))]) (perm_idx _ _ [4, 2, 0, 3, 1] rfl rfl) ?_
 refine oq (qv_as (Value.int .i64 p1) rfl) ?_
 refine ops_nil ?_
 refine vc_seq ?_
 refine vc_res (σ' := [(Arr 24 b4 [(Value.int .i64 0), (Value.slice none 0 0), (Value.int .i64 0)]), (Mf b5 fkv (Value.int .i64) (idxF M1)), (Arr 95 b6 [u1, (Value.map (some b5))]), (Mf b8 (Value.int .i64) (Value.int .i64) D1), (Gr 42 3 u1 M1.length ((fks M1)))]) rfl ?_
 refine vc_freezeS (v := u1) (E := 42) (n := M1.length) (xs := (fks M1)) (σr := [(Arr 24 b4 [(Value.int .i64 0), (Value.slice none 0 0), (Value.int .i64 0)]), (Mf b5 fkv (Value.int .i64) (idxF M1)), (Arr 95 b6 [u1, (Value.map (some b5))]), (Mf b8 (Value.int .i64) (Value.int .i64) D1)]) (List.perm_middle (l₁ := [(Arr 24 b4 [(Value.int .i64 0), (Value.slice none 0 0), (Value.int .i64 0)]), (Mf b5 fkv (Value.int .i64) (idxF M1)), (Arr 95 b6 [u1, (Value.map (some b5))]), (Mf b8 (Value.int .i64) (Value.int .i64) D1)]) (l₂ := [])) (fun Vf7 hVf7 hc7 => ?_)
 have hA := hA.mono hVf7
 have hc1 := hc1.mono hVf7
 have hc2 := hc2.mono hVf7
 have hc3 := hc3.mono hVf7
 have hc4 := hc4.mono hVf7
 have hc5 := hc5.mono hVf7
 have hc6 := hc6.mono hVf7
 refine vc_region_order (τ := []) [(0, false), (1, false), (2, false), (3, false), (4, false), (5, false), (6, false), (7, true), (8, true)] [(Arr 24 b4 [(Value.int .i64 0), (Value.slice none 0 0), (Value.int .i64 0)]), (Mf b5 fkv (Value.int .i64) (idxF M1)), (Arr 95 b6 [u1, (Value.map (some b5))]), (Mf b8 (Value.int .i64) (Value.int .i64) D1)] Try.mixed (perm_nil _) (by kernel_rfl) ?_
 refine rq rfl (qv_fa (off := 0) Try.field24_0 rfl) ?_
 refine rq rfl (qv_ldp (v := (.int .i64 A.v)) Try.plain3 rfl (inVc hc2) rfl) ?_
 refine rq rfl (qv_ldp (v := (Value.pointer (some ⟨b6, 0, none⟩))) Try.plain92 rfl (inVc hc6) rfl) ?_
 refine rq rfl (qv_nilck rfl) ?_
 refine rq rfl (qv_fa (off := 0) Try.field95_0 rfl) ?_
 refine rq rfl (qv_ldp (v := u1) Try.plain22 rfl (inOc (k := 2) rfl) rfl) ?_
 refine rq rfl (qv_mv (Value.int .i64 p1) rfl) ?_
 refine rl rfl ?_
 refine ops_call (σa := []) (σr := [(Arr 24 b4 [(Value.int .i64 0), (Value.slice none 0 0), (Value.int .i64 0)]), (Mf b5 fkv (Value.int .i64) (idxF M1)), (Arr 95 b6 [u1, (Value.map (some b5))]), (Mf b8 (Value.int .i64) (Value.int .i64) D1)]) (lay_c (vars := A.v) hc7 B.inv.fm B.std.rf (by omega)) rfl rfl (.refl _) (fun r2 V2 sg2 hV2 hp2 => ?_)
 obtain ⟨rfl, u9, rfl, hN9⟩ := hp2
 have hA := hA.mono hV2
 have hc1 := hc1.mono hV2
 have hc2 := hc2.mono hV2
 have hc3 := hc3.mono hV2
 have hc4 := hc4.mono hV2
 have hc5 := hc5.mono hV2
 have hc6 := hc6.mono hV2
 have hc7 := hc7.mono hV2
 refine ops_nil ⟨[(Arr 24 b4 [(Value.int .i64 0), (Value.slice none 0 0), (Value.int .i64 0)]), (Mf b5 fkv (Value.int .i64) (idxF M1)), (Arr 95 b6 [u1, (Value.map (some b5))]), (Mf b8 (Value.int .i64) (Value.int .i64) D1)], [], hV2, perm_nil _, ⟨[], (.refl _)⟩, ?_⟩
 refine rl1 (by kernel_rfl) rfl ?_
 refine ops_stw (k := 0) (vs := [(.int .i64 A.v), u9, (.int .i64 ((layF M1 p1).2))]) Try.size24 rfl rfl rfl (allc rfl (allc (SlS.one hN9) (allc rfl rfl))) rfl rfl ?_
 refine ops_nil ⟨[(Arr 24 b4 [(.int .i64 A.v), u9, (.int .i64 ((layF M1 p1).2))]), (Mf b5 fkv (Value.int .i64) (idxF M1)), (Arr 95 b6 [u1, (Value.map (some b5))]), (Mf b8 (Value.int .i64) (Value.int .i64) D1)], [], perm_nil _, ?_⟩
 refine rnil ?_
 refine vc_freeze (b := b4) (o := .cells ([(Value.int .i64 (A.v)), u9, (Value.int .i64 ((layF M1 p1).2))] : List Value).toArray 24 (0, 0)) (σr := [(Mf b5 fkv (Value.int .i64) (idxF M1)), (Arr 95 b6 [u1, (Value.map (some b5))]), (Mf b8 (Value.int .i64) (Value.int .i64) D1)]) (List.perm_middle (l₁ := []) (l₂ := [(Mf b5 fkv (Value.int .i64) (idxF M1)), (Arr 95 b6 [u1, (Value.map (some b5))]), (Mf b8 (Value.int .i64) (Value.int .i64) D1)])) (fun Vf8 hVf8 hb8 => ?_)
 have hc8 : Cells Vf8 b4 [(.int .i64 A.v), u9, (.int .i64 ((layF M1 p1).2))] := ⟨_, _, hb8⟩
 have hA := hA.mono hVf8
 have hc1 := hc1.mono hVf8
 have hc2 := hc2.mono hVf8
 have hc3 := hc3.mono hVf8
 have hc4 := hc4.mono hVf8
 have hc5 := hc5.mono hVf8
 have hc6 := hc6.mono hVf8
 have hc7 := hc7.mono hVf8
 have hN9 := hN9.mono hVf8
 refine vc_drop [] [(Mf b5 fkv (Value.int .i64) (idxF M1)), (Arr 95 b6 [u1, (Value.map (some b5))]), (Mf b8 (Value.int .i64) (Value.int .i64) D1)] (.refl _) ?_
 refine vc_ret ?_
 refine rs1 _ (rv_c (vs := [(.int .i64 A.v), u9, (.int .i64 ((layF M1 p1).2))]) Try.agg24 rfl (inVc hc8) rfl rfl) ?_
 have hcf := rs_lay B.inv.fm B.std hv.1
 refine ⟨rfl, u9, ?_, ?_⟩
 · show Value.agg #[.int .i64 A.v, u9, .int .i64 (layF M1 p1).2] = Value.agg #[.int .i64 A.v, u9, .int .i64 (rsF A.v A.N A.r i b).2]
   rw [hcf]
 · show Fks _ u9 (rsF A.v A.N A.r i b).1
   rw [← hcf]; exact hN9

end Go.Proofs.Ytgehdgeiikjohaa
