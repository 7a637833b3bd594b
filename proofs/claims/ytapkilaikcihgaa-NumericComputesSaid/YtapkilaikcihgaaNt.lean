/- Walks of numeric: what each function returns. Printed by a program out of notes. -/
import Derived.Test.YtapkilaikcihgaaNr
namespace Go.Proofs.Ytapkilaikcihgaa
open Go.Vc
open Classical

set_option maxRecDepth 100000 in
set_option maxHeartbeats 4000000 in
theorem rCorners_c {V : HV} {op : Int} {a b : Nm} (ha : vld a) (hb : vld b) (he : a ≠ nE) (hf : b ≠ nE) (ho : op = 8 ∨ op = 9 ∨ op = 10) :
    FnC Try.prog 71 [(Value.int .i64 op), (.agg #[(.int .i64 a.l), (.int .i64 a.h), (.int .i64 a.s)]), (.agg #[(.int .i64 b.l), (.int .i64 b.h), (.int .i64 b.s)])] V [] (fun v _ _ => v = .tuple #[(.agg #[(.int .i64 ((exN op a b).l)), (.int .i64 ((exN op a b).h)), (.int .i64 ((exN op a b).s))]), (.int .i64 (exE op a b))]) := by
 refine fn_intro (N := 68) Try.func71 (by kernel_rfl) rfl rfl rfl (Nat.le_of_ble_eq_true rfl) ?_
 intro w0 D
 have ba := vld_bd ha
 have bb := vld_bd hb
 unfold fits at ba bb
 have las := step_le ha he
 have lbs := step_le hb hf
 refine vc_seq ?_
 refine vc_region ?_
 refine ops_box (v := (.agg #[(.int .i64 a.l), (.int .i64 a.h), (.int .i64 a.s)])) (cs := [(.int .i64 a.l), (.int .i64 a.h), (.int .i64 a.s)]) rfl rfl (fun b1 => ?_)
 refine ops_box (v := (.agg #[(.int .i64 b.l), (.int .i64 b.h), (.int .i64 b.s)])) (cs := [(.int .i64 b.l), (.int .i64 b.h), (.int .i64 b.s)]) rfl rfl (fun b2 => ?_)
 refine ops_alloc Try.ti23 rfl (fun b3 => ?_)
 refine oq (qv_as (Value.int .i64 0) rfl) ?_
 refine ops_nil ?_
 refine vc_seq ?_
 refine vc_res (σ' := [(Arr 23 b1 [(.int .i64 a.l), (.int .i64 a.h), (.int .i64 a.s)]), (Arr 23 b2 [(.int .i64 b.l), (.int .i64 b.h), (.int .i64 b.s)]), (Arr 23 b3 [(Value.int .i64 0), (Value.int .i64 0), (Value.int .i64 0)])]) rfl ?_
 refine vc_region ?_
 refine ops_lit (n := 0) (s := 1) (cs := []) Try.underlying37 Try.ti3 (Nat.le_of_ble_eq_true rfl) rfl rfl rfl (Nat.le_of_ble_eq_true rfl) rfl (fun b4 => ?_)
 refine oq (qv_as (.slice (some ⟨b4, 0, none⟩) 0 0) rfl) ?_
 refine ops_nil ?_
 refine vc_seq ?_
 refine vc_res (σ' := [(Arr 23 b1 [(.int .i64 a.l), (.int .i64 a.h), (.int .i64 a.s)]), (Arr 23 b2 [(.int .i64 b.l), (.int .i64 b.h), (.int .i64 b.s)]), (Arr 23 b3 [(Value.int .i64 0), (Value.int .i64 0), (Value.int .i64 0)]), (Arr 3 b4 [])]) rfl ?_
 refine vc_region ?_
 refine oq (qv_fa (off := 0) Try.field23_0 rfl) ?_
 refine oq (qv_ldp (v := (.int .i64 a.l)) Try.plain3 rfl (inOc (k := 0) rfl) rfl) ?_
 refine oq (qv_fa (off := 0) Try.field23_0 rfl) ?_
 refine oq (qv_ldp (v := (.int .i64 a.l)) Try.plain3 rfl (inOc (k := 0) rfl) rfl) ?_
 refine oq (qv_fa (off := 0) Try.field23_2 rfl) ?_
 refine oq (qv_ldp (v := (.int .i64 a.s)) Try.plain3 rfl (inOc (k := 0) rfl) rfl) ?_
 refine oq (qv_add rfl rfl (by omega)) ?_
 refine oq (qv_fa (off := 0) Try.field23_1 rfl) ?_
 refine oq (qv_ldp (v := (.int .i64 a.h)) Try.plain3 rfl (inOc (k := 0) rfl) rfl) ?_
 refine ops_to_gr (k := 3) (b := b4) (n := 0) (cap := 0) (cs := #[]) 1 [] rfl rfl (Nat.le_refl _) (Nat.zero_le _) rfl rfl ?_
 refine ops_lit (n := 3) (s := 1) (cs := [(.int .i64 a.l), (.int .i64 (a.l + a.s)), (.int .i64 a.h)]) Try.underlying37 Try.ti3 (Nat.le_of_ble_eq_true rfl) rfl rfl rfl (Nat.le_of_ble_eq_true rfl) rfl (fun b5 => ?_)
 refine oq (qv_as (.slice (some ⟨b5, 0, none⟩) 3 3) rfl) ?_
 refine ops_nil ?_
 refine vc_seq ?_
 refine vc_res (σ' := [(Arr 23 b1 [(.int .i64 a.l), (.int .i64 a.h), (.int .i64 a.s)]), (Arr 23 b2 [(.int .i64 b.l), (.int .i64 b.h), (.int .i64 b.s)]), (Arr 23 b3 [(Value.int .i64 0), (Value.int .i64 0), (Value.int .i64 0)]), (Gr 3 1 ((.slice (some ⟨b4, 0, none⟩) 0 0)) 0 ([])), (Arr 3 b5 [(.int .i64 a.l), (.int .i64 (a.l + a.s)), (.int .i64 a.h)])]) rfl ?_
 refine vc_region ?_
 refine oq (qv_fa (off := 0) Try.field23_0 rfl) ?_
 refine oq (qv_ldp (v := (.int .i64 b.l)) Try.plain3 rfl (inOc (k := 1) rfl) rfl) ?_
 refine oq (qv_fa (off := 0) Try.field23_0 rfl) ?_
 refine oq (qv_ldp (v := (.int .i64 b.l)) Try.plain3 rfl (inOc (k := 1) rfl) rfl) ?_
 refine oq (qv_fa (off := 0) Try.field23_2 rfl) ?_
 refine oq (qv_ldp (v := (.int .i64 b.s)) Try.plain3 rfl (inOc (k := 1) rfl) rfl) ?_
 refine oq (qv_add rfl rfl (by omega)) ?_
 refine oq (qv_fa (off := 0) Try.field23_1 rfl) ?_
 refine oq (qv_ldp (v := (.int .i64 b.h)) Try.plain3 rfl (inOc (k := 1) rfl) rfl) ?_
 refine ops_lit (n := 3) (s := 1) (cs := [(.int .i64 b.l), (.int .i64 (b.l + b.s)), (.int .i64 b.h)]) Try.underlying37 Try.ti3 (Nat.le_of_ble_eq_true rfl) rfl rfl rfl (Nat.le_of_ble_eq_true rfl) rfl (fun b6 => ?_)
 refine oq (qv_as (.slice (some ⟨b6, 0, none⟩) 3 3) rfl) ?_
 refine ops_nil ?_
 refine vc_seq ?_
 refine vc_seq ?_
 refine vc_res (σ' := [(Arr 23 b1 [(.int .i64 a.l), (.int .i64 a.h), (.int .i64 a.s)]), (Arr 23 b2 [(.int .i64 b.l), (.int .i64 b.h), (.int .i64 b.s)]), (Arr 23 b3 [(Value.int .i64 0), (Value.int .i64 0), (Value.int .i64 0)]), (Gr 3 1 ((.slice (some ⟨b4, 0, none⟩) 0 0)) 0 ([])), (Arr 3 b5 [(.int .i64 a.l), (.int .i64 (a.l + a.s)), (.int .i64 a.h)]), (Arr 3 b6 [(.int .i64 b.l), (.int .i64 (b.l + b.s)), (.int .i64 b.h)])]) rfl ?_
 refine vc_region ?_
 refine oq (qv_as (Value.int .i64 0) rfl) ?_
 refine ops_nil ?_
 refine vc_block ?_
 refine vc_loop (α := Int × Value × List Int) (fun (xx : Int × Value × List Int) => [(0, (Value.int .i64 op)), (1, (.agg #[(.int .i64 a.l), (.int .i64 a.h), (.int .i64 a.s)])), (2, (.agg #[(.int .i64 b.l), (.int .i64 b.h), (.int .i64 b.s)])), (4, (Value.pointer (some ⟨b1, 0, none⟩))), (5, (Value.pointer (some ⟨b2, 0, none⟩))), (6, (Value.pointer (some ⟨b3, 0, none⟩))), (9, (.slice (some ⟨b5, 0, none⟩) 3 3)), (10, (.slice (some ⟨b6, 0, none⟩) 3 3)), (8, xx.2.1), (11, (Value.int .i64 xx.1))]) (fun (xx : Int × Value × List Int) V' σ' => V = V' ∧ [(Arr 23 b1 [(.int .i64 a.l), (.int .i64 a.h), (.int .i64 a.s)]), (Arr 23 b2 [(.int .i64 b.l), (.int .i64 b.h), (.int .i64 b.s)]), (Arr 23 b3 [(Value.int .i64 0), (Value.int .i64 0), (Value.int .i64 0)]), (Gr 3 1 xx.2.1 xx.2.2.length ((xx.2.2.map (Value.int .i64)))), (Arr 3 b5 [(.int .i64 a.l), (.int .i64 (a.l + a.s)), (.int .i64 a.h)]), (Arr 3 b6 [(.int .i64 b.l), (.int .i64 (b.l + b.s)), (.int .i64 b.h)])] = σ' ∧ 0 ≤ xx.1 ∧ xx.1 ≤ 3 ∧ xx.2.2 = coL op a b xx.1 0 ∧ (xx.2.2.length : Int) = xx.1 * 3 ∧ ∀ i j : Int, 0 ≤ i → i < xx.1 → 0 ≤ j → j < 3 → valOk op (gi (nx a) i) (gi (nx b) j)) (fun (xx : Int × Value × List Int) => (3 - xx.1).toNat) (0, (.slice (some ⟨b4, 0, none⟩) 0 0), []) ?_ ?_ ?_
 · exact ⟨rfl, rfl, rfl, rfl, rfl, rfl, rfl, rfl, (by first | rfl | (first | omega | simp)), rfl, trivial⟩
 · exact (show V = V ∧ [(Arr 23 b1 [(.int .i64 a.l), (.int .i64 a.h), (.int .i64 a.s)]), (Arr 23 b2 [(.int .i64 b.l), (.int .i64 b.h), (.int .i64 b.s)]), (Arr 23 b3 [(Value.int .i64 0), (Value.int .i64 0), (Value.int .i64 0)]), (Gr 3 1 ((.slice (some ⟨b4, 0, none⟩) 0 0) : Value) ([] : List Int).length ((([] : List Int).map (Value.int .i64)))), (Arr 3 b5 [(.int .i64 a.l), (.int .i64 (a.l + a.s)), (.int .i64 a.h)]), (Arr 3 b6 [(.int .i64 b.l), (.int .i64 (b.l + b.s)), (.int .i64 b.h)])] = [(Arr 23 b1 [(.int .i64 a.l), (.int .i64 a.h), (.int .i64 a.s)]), (Arr 23 b2 [(.int .i64 b.l), (.int .i64 b.h), (.int .i64 b.s)]), (Arr 23 b3 [(Value.int .i64 0), (Value.int .i64 0), (Value.int .i64 0)]), (Gr 3 1 ((.slice (some ⟨b4, 0, none⟩) 0 0)) 0 ([])), (Arr 3 b5 [(.int .i64 a.l), (.int .i64 (a.l + a.s)), (.int .i64 a.h)]), (Arr 3 b6 [(.int .i64 b.l), (.int .i64 (b.l + b.s)), (.int .i64 b.h)])] ∧ 0 ≤ (0 : Int) ∧ (0 : Int) ≤ 3 ∧ ([] : List Int) = coL op a b (0 : Int) 0 ∧ (([] : List Int).length : Int) = (0 : Int) * 3 ∧ ∀ i j : Int, 0 ≤ i → i < (0 : Int) → 0 ≤ j → j < 3 → valOk op (gi (nx a) i) (gi (nx b) j) from ⟨rfl, (show [(Arr 23 b1 [(.int .i64 a.l), (.int .i64 a.h), (.int .i64 a.s)]), (Arr 23 b2 [(.int .i64 b.l), (.int .i64 b.h), (.int .i64 b.s)]), (Arr 23 b3 [(Value.int .i64 0), (Value.int .i64 0), (Value.int .i64 0)]), (Gr 3 1 ((.slice (some ⟨b4, 0, none⟩) 0 0)) ([] : List Int).length ((([] : List Int).map (Value.int .i64)))), (Arr 3 b5 [(.int .i64 a.l), (.int .i64 (a.l + a.s)), (.int .i64 a.h)]), (Arr 3 b6 [(.int .i64 b.l), (.int .i64 (b.l + b.s)), (.int .i64 b.h)])] = [(Arr 23 b1 [(.int .i64 a.l), (.int .i64 a.h), (.int .i64 a.s)]), (Arr 23 b2 [(.int .i64 b.l), (.int .i64 b.h), (.int .i64 b.s)]), (Arr 23 b3 [(Value.int .i64 0), (Value.int .i64 0), (Value.int .i64 0)]), (Gr 3 1 ((.slice (some ⟨b4, 0, none⟩) 0 0)) 0 ([])), (Arr 3 b5 [(.int .i64 a.l), (.int .i64 (a.l + a.s)), (.int .i64 a.h)]), (Arr 3 b6 [(.int .i64 b.l), (.int .i64 (b.l + b.s)), (.int .i64 b.h)])] from by rfl), by omega, by omega, rfl, by simp, fun i j h1 h2 => by omega⟩)
 rintro ⟨p, v, xs⟩ e1 V0l σ0l hI0
 obtain ⟨rfl, rfl, i1, i2, hx, hl, hok⟩ : V = V0l ∧ [(Arr 23 b1 [(.int .i64 a.l), (.int .i64 a.h), (.int .i64 a.s)]), (Arr 23 b2 [(.int .i64 b.l), (.int .i64 b.h), (.int .i64 b.s)]), (Arr 23 b3 [(Value.int .i64 0), (Value.int .i64 0), (Value.int .i64 0)]), (Gr 3 1 v xs.length ((xs.map (Value.int .i64)))), (Arr 3 b5 [(.int .i64 a.l), (.int .i64 (a.l + a.s)), (.int .i64 a.h)]), (Arr 3 b6 [(.int .i64 b.l), (.int .i64 (b.l + b.s)), (.int .i64 b.h)])] = σ0l ∧ 0 ≤ p ∧ p ≤ 3 ∧ xs = coL op a b p 0 ∧ (xs.length : Int) = p * 3 ∧ ∀ i j : Int, 0 ≤ i → i < p → 0 ≤ j → j < 3 → valOk op (gi (nx a) i) (gi (nx b) j) := hI0
 change VC _ _ _ _ _ _ (upds 68 [(0, (Value.int .i64 op)), (1, (.agg #[(.int .i64 a.l), (.int .i64 a.h), (.int .i64 a.s)])), (2, (.agg #[(.int .i64 b.l), (.int .i64 b.h), (.int .i64 b.s)])), (4, (Value.pointer (some ⟨b1, 0, none⟩))), (5, (Value.pointer (some ⟨b2, 0, none⟩))), (6, (Value.pointer (some ⟨b3, 0, none⟩))), (9, (.slice (some ⟨b5, 0, none⟩) 3 3)), (10, (.slice (some ⟨b6, 0, none⟩) 3 3)), (8, v), (11, (Value.int .i64 p))] e1) _ _
 refine vc_seq ?_
 refine vc_seq ?_
 refine vc_res (σ' := [(Arr 23 b1 [(.int .i64 a.l), (.int .i64 a.h), (.int .i64 a.s)]), (Arr 23 b2 [(.int .i64 b.l), (.int .i64 b.h), (.int .i64 b.s)]), (Arr 23 b3 [(Value.int .i64 0), (Value.int .i64 0), (Value.int .i64 0)]), (Gr 3 1 v xs.length ((xs.map (Value.int .i64)))), (Arr 3 b5 [(.int .i64 a.l), (.int .i64 (a.l + a.s)), (.int .i64 a.h)]), (Arr 3 b6 [(.int .i64 b.l), (.int .i64 (b.l + b.s)), (.int .i64 b.h)])]) rfl ?_
 refine vc_region ?_
 refine oq (qv_mv (Value.int .i64 p) rfl) ?_
 refine oq (qv_lss rfl rfl) ?_
 refine ops_nil ?_
 refine vc_if rfl (fun c1 => ?_) (fun c1 => ?_)
 ·
  refine vc_skip ?_
  refine vc_seq ?_
  refine vc_block ?_
  refine vc_seq ?_
  refine vc_region ?_
  refine oq (qv_as (Value.int .i64 0) rfl) ?_
  refine ops_nil ?_
  refine vc_block ?_
  refine vc_loop (α := Int × Value × List Int) (fun (xx : Int × Value × List Int) => [(0, (Value.int .i64 op)), (1, (.agg #[(.int .i64 a.l), (.int .i64 a.h), (.int .i64 a.s)])), (2, (.agg #[(.int .i64 b.l), (.int .i64 b.h), (.int .i64 b.s)])), (4, (Value.pointer (some ⟨b1, 0, none⟩))), (5, (Value.pointer (some ⟨b2, 0, none⟩))), (6, (Value.pointer (some ⟨b3, 0, none⟩))), (9, (.slice (some ⟨b5, 0, none⟩) 3 3)), (10, (.slice (some ⟨b6, 0, none⟩) 3 3)), (11, (Value.int .i64 p)), (37, (.bool (decide (p < 3)))), (8, xx.2.1), (12, (Value.int .i64 xx.1))]) (fun (xx : Int × Value × List Int) V' σ' => V = V' ∧ [(Arr 23 b1 [(.int .i64 a.l), (.int .i64 a.h), (.int .i64 a.s)]), (Arr 23 b2 [(.int .i64 b.l), (.int .i64 b.h), (.int .i64 b.s)]), (Arr 23 b3 [(Value.int .i64 0), (Value.int .i64 0), (Value.int .i64 0)]), (Gr 3 1 xx.2.1 xx.2.2.length ((xx.2.2.map (Value.int .i64)))), (Arr 3 b5 [(.int .i64 a.l), (.int .i64 (a.l + a.s)), (.int .i64 a.h)]), (Arr 3 b6 [(.int .i64 b.l), (.int .i64 (b.l + b.s)), (.int .i64 b.h)])] = σ' ∧ 0 ≤ xx.1 ∧ xx.1 ≤ 3 ∧ xx.2.2 = coL op a b p xx.1 ∧ (xx.2.2.length : Int) = p * 3 + xx.1 ∧ ∀ j : Int, 0 ≤ j → j < xx.1 → valOk op (gi (nx a) p) (gi (nx b) j)) (fun (xx : Int × Value × List Int) => (3 - xx.1).toNat) (0, v, xs) ?_ ?_ ?_
  · exact ⟨rfl, rfl, rfl, rfl, rfl, rfl, rfl, rfl, rfl, rfl, rfl, rfl, trivial⟩
  · exact (show V = V ∧ [(Arr 23 b1 [(.int .i64 a.l), (.int .i64 a.h), (.int .i64 a.s)]), (Arr 23 b2 [(.int .i64 b.l), (.int .i64 b.h), (.int .i64 b.s)]), (Arr 23 b3 [(Value.int .i64 0), (Value.int .i64 0), (Value.int .i64 0)]), (Gr 3 1 v xs.length ((xs.map (Value.int .i64)))), (Arr 3 b5 [(.int .i64 a.l), (.int .i64 (a.l + a.s)), (.int .i64 a.h)]), (Arr 3 b6 [(.int .i64 b.l), (.int .i64 (b.l + b.s)), (.int .i64 b.h)])] = [(Arr 23 b1 [(.int .i64 a.l), (.int .i64 a.h), (.int .i64 a.s)]), (Arr 23 b2 [(.int .i64 b.l), (.int .i64 b.h), (.int .i64 b.s)]), (Arr 23 b3 [(Value.int .i64 0), (Value.int .i64 0), (Value.int .i64 0)]), (Gr 3 1 v xs.length ((xs.map (Value.int .i64)))), (Arr 3 b5 [(.int .i64 a.l), (.int .i64 (a.l + a.s)), (.int .i64 a.h)]), (Arr 3 b6 [(.int .i64 b.l), (.int .i64 (b.l + b.s)), (.int .i64 b.h)])] ∧ 0 ≤ (0 : Int) ∧ (0 : Int) ≤ 3 ∧ xs = coL op a b p (0 : Int) ∧ (xs.length : Int) = p * 3 + (0 : Int) ∧ ∀ j : Int, 0 ≤ j → j < (0 : Int) → valOk op (gi (nx a) p) (gi (nx b) j) from ⟨rfl, (show [(Arr 23 b1 [(.int .i64 a.l), (.int .i64 a.h), (.int .i64 a.s)]), (Arr 23 b2 [(.int .i64 b.l), (.int .i64 b.h), (.int .i64 b.s)]), (Arr 23 b3 [(Value.int .i64 0), (Value.int .i64 0), (Value.int .i64 0)]), (Gr 3 1 v (xs : List Int).length (((xs : List Int).map (Value.int .i64)))), (Arr 3 b5 [(.int .i64 a.l), (.int .i64 (a.l + a.s)), (.int .i64 a.h)]), (Arr 3 b6 [(.int .i64 b.l), (.int .i64 (b.l + b.s)), (.int .i64 b.h)])] = [(Arr 23 b1 [(.int .i64 a.l), (.int .i64 a.h), (.int .i64 a.s)]), (Arr 23 b2 [(.int .i64 b.l), (.int .i64 b.h), (.int .i64 b.s)]), (Arr 23 b3 [(Value.int .i64 0), (Value.int .i64 0), (Value.int .i64 0)]), (Gr 3 1 v xs.length ((xs.map (Value.int .i64)))), (Arr 3 b5 [(.int .i64 a.l), (.int .i64 (a.l + a.s)), (.int .i64 a.h)]), (Arr 3 b6 [(.int .i64 b.l), (.int .i64 (b.l + b.s)), (.int .i64 b.h)])] from by rfl), by omega, by omega, hx, by omega, fun j h1 h2 => by omega⟩)
  rintro ⟨q, w, ys⟩ e2 V1l σ1l hI1
  obtain ⟨rfl, rfl, i3, i4, hy, hm, hok2⟩ : V = V1l ∧ [(Arr 23 b1 [(.int .i64 a.l), (.int .i64 a.h), (.int .i64 a.s)]), (Arr 23 b2 [(.int .i64 b.l), (.int .i64 b.h), (.int .i64 b.s)]), (Arr 23 b3 [(Value.int .i64 0), (Value.int .i64 0), (Value.int .i64 0)]), (Gr 3 1 w ys.length ((ys.map (Value.int .i64)))), (Arr 3 b5 [(.int .i64 a.l), (.int .i64 (a.l + a.s)), (.int .i64 a.h)]), (Arr 3 b6 [(.int .i64 b.l), (.int .i64 (b.l + b.s)), (.int .i64 b.h)])] = σ1l ∧ 0 ≤ q ∧ q ≤ 3 ∧ ys = coL op a b p q ∧ (ys.length : Int) = p * 3 + q ∧ ∀ j : Int, 0 ≤ j → j < q → valOk op (gi (nx a) p) (gi (nx b) j) := hI1
  change VC _ _ _ _ _ _ (upds 68 [(0, (Value.int .i64 op)), (1, (.agg #[(.int .i64 a.l), (.int .i64 a.h), (.int .i64 a.s)])), (2, (.agg #[(.int .i64 b.l), (.int .i64 b.h), (.int .i64 b.s)])), (4, (Value.pointer (some ⟨b1, 0, none⟩))), (5, (Value.pointer (some ⟨b2, 0, none⟩))), (6, (Value.pointer (some ⟨b3, 0, none⟩))), (9, (.slice (some ⟨b5, 0, none⟩) 3 3)), (10, (.slice (some ⟨b6, 0, none⟩) 3 3)), (11, (Value.int .i64 p)), (37, (.bool (decide (p < 3)))), (8, w), (12, (Value.int .i64 q))] e2) _ _
  refine vc_seq ?_
  refine vc_seq ?_
  refine vc_res (σ' := [(Arr 23 b1 [(.int .i64 a.l), (.int .i64 a.h), (.int .i64 a.s)]), (Arr 23 b2 [(.int .i64 b.l), (.int .i64 b.h), (.int .i64 b.s)]), (Arr 23 b3 [(Value.int .i64 0), (Value.int .i64 0), (Value.int .i64 0)]), (Gr 3 1 w ys.length ((ys.map (Value.int .i64)))), (Arr 3 b5 [(.int .i64 a.l), (.int .i64 (a.l + a.s)), (.int .i64 a.h)]), (Arr 3 b6 [(.int .i64 b.l), (.int .i64 (b.l + b.s)), (.int .i64 b.h)])]) rfl ?_
  refine vc_region ?_
  refine oq (qv_mv (Value.int .i64 q) rfl) ?_
  refine oq (qv_lss rfl rfl) ?_
  refine ops_nil ?_
  refine vc_if rfl (fun c2 => ?_) (fun c2 => ?_)
  ·
   refine vc_skip ?_
   refine vc_seq ?_
   refine vc_block ?_
   refine vc_seq ?_
   have fx := mem_fits ha (nx_mem ha he (show 0 ≤ p by omega) (by omega))
   have fy := mem_fits hb (nx_mem hb hf (show 0 ≤ q by omega) (by omega))
   refine vc_region_any Try.mixed (by kernel_rfl) ?_
   refine qq (qv_mv (Value.int .i64 op) rfl) ?_
   refine qq (qv_mv (.slice (some ⟨b5, 0, none⟩) 3 3) rfl) ?_
   refine qq (qv_mv (Value.int .i64 p) rfl) ?_
   refine qq (qv_ia (v := (.slice (some ⟨b5, 0, none⟩) 3 3)) (i := p) Try.underlying37 Try.size3 rfl (inO (k := 4) rfl rfl (Nat.le_refl _) (Nat.le_of_ble_eq_true rfl)) rfl (by omega) (by simp only [List.length]; omega)) ?_
   refine qq (qv_ldv (u := (.int .i64 (gi (nx a) p))) (v := (.slice (some ⟨b5, 0, none⟩) 3 3)) (i := p) Try.plain3 rfl (inO (k := 4) rfl rfl (Nat.le_refl _) (Nat.le_of_ble_eq_true rfl)) (by omega) (by simp only [List.length]; omega) (gv3 (by omega) (by omega))) ?_
   refine qq (qv_mv (.slice (some ⟨b6, 0, none⟩) 3 3) rfl) ?_
   refine qq (qv_mv (Value.int .i64 q) rfl) ?_
   refine qq (qv_ia (v := (.slice (some ⟨b6, 0, none⟩) 3 3)) (i := q) Try.underlying37 Try.size3 rfl (inO (k := 5) rfl rfl (Nat.le_refl _) (Nat.le_of_ble_eq_true rfl)) rfl (by omega) (by simp only [List.length]; omega)) ?_
   refine qq (qv_ldv (u := (.int .i64 (gi (nx b) q))) (v := (.slice (some ⟨b6, 0, none⟩) 3 3)) (i := q) Try.plain3 rfl (inO (k := 5) rfl rfl (Nat.le_refl _) (Nat.le_of_ble_eq_true rfl)) (by omega) (by simp only [List.length]; omega) (gv3 (by omega) (by omega))) ?_
   refine qq (qv_call (v := (.tuple #[(.int .i64 (vN op (gi (nx a) p) (gi (nx b) q))), (.bool (decide (valOk op (gi (nx a) p) (gi (nx b) q))))])) (rValue_c fx fy) rfl rfl) ?_
   refine qq (qv_mv (.tuple #[(.int .i64 (vN op (gi (nx a) p) (gi (nx b) q))), (.bool (decide (valOk op (gi (nx a) p) (gi (nx b) q))))]) rfl) ?_
   refine qq (qv_ext (.int .i64 (vN op (gi (nx a) p) (gi (nx b) q))) rfl rfl) ?_
   refine qq (qv_ext (.bool (decide (valOk op (gi (nx a) p) (gi (nx b) q)))) rfl rfl) ?_
   refine qq (qv_as (.int .i64 (vN op (gi (nx a) p) (gi (nx b) q))) rfl) ?_
   refine qq (qv_as (.bool (decide (valOk op (gi (nx a) p) (gi (nx b) q)))) rfl) ?_
   refine qops_nil ?_
   refine vc_seq ?_
   refine vc_seq ?_
   refine vc_region ?_
   refine oq (qv_mv (.bool (decide (valOk op (gi (nx a) p) (gi (nx b) q)))) rfl) ?_
   refine oq (qv_not rfl) ?_
   refine ops_nil ?_
   refine vc_if rfl (fun c3 => ?_) (fun c3 => ?_)
   ·
    refine vc_seq ?_
    have hno : ¬ exOk op a b := co_no ha hb he hf (show 0 ≤ p by omega) (by omega) (show 0 ≤ q by omega) (by omega) (by assumption)
    refine vc_region ?_
    refine oq (qv_build (out := [(Value.int .i64 0), (Value.int .i64 0), (Value.int .i64 0)]) Try.build23 [] rfl rfl) ?_
    refine ops_stw (k := 2) (vs := [(Value.int .i64 0), (Value.int .i64 0), (Value.int .i64 0)]) Try.size23 rfl rfl rfl rfl rfl rfl ?_
    refine oq (qv_as (Value.int .i64 3) rfl) ?_
    refine ops_nil ?_
    refine vc_ret ?_
    refine blockQ_ret ?_
    refine blockQ_ret ?_
    refine blockQ_ret ?_
    refine blockQ_ret ?_
    refine rs2 _ (Value.int .i64 3) (rv_c (vs := [(Value.int .i64 0), (Value.int .i64 0), (Value.int .i64 0)]) Try.agg23 rfl (inOc (k := 2) rfl) rfl rfl) (rv_t rfl) ?_
    exact tup2 (agg3 (show (⟨0, 0, 0⟩ : Nm) = exN op a b from by rw [exN_0 hno])) (congrArg (Value.int .i64) (show 3 = (exE op a b) from by rw [exE_0 hno]))
   ·
    refine vc_skip ?_
    have hk : valOk op (gi (nx a) p) (gi (nx b) q) := Decidable.not_not.1 (by assumption)
    refine vc_region ?_
    refine oq (qv_mv w rfl) ?_
    refine oq (qv_mv (.int .i64 (vN op (gi (nx a) p) (gi (nx b) q))) rfl) ?_
    refine ops_lit (n := 1) (s := 1) (cs := [(.int .i64 (vN op (gi (nx a) p) (gi (nx b) q)))]) Try.underlying37 Try.ti3 (Nat.le_of_ble_eq_true rfl) rfl rfl rfl (Nat.le_of_ble_eq_true rfl) rfl (fun b7 => ?_)
    refine ops_append (k := 3) (n := ys.length) (s := 1) (m := 1) (v := w) (xs := (ys.map (Value.int .i64))) (news := [(.int .i64 (vN op (gi (nx a) p) (gi (nx b) q)))]) Try.underlying37 Try.ti3 rfl (Nat.le_of_ble_eq_true rfl) rfl rfl rfl rfl (news_own (j := 6) rfl) (by simp [Value.oneCell']) (by omega) (by simp only [maxLen]; omega) (fun v1 hn1 => ?_)
    refine oq (qv_as v1 rfl) ?_
    refine ops_nil ?_
    refine vc_res (σ' := [(Arr 23 b1 [(.int .i64 a.l), (.int .i64 a.h), (.int .i64 a.s)]), (Arr 23 b2 [(.int .i64 b.l), (.int .i64 b.h), (.int .i64 b.s)]), (Arr 23 b3 [(Value.int .i64 0), (Value.int .i64 0), (Value.int .i64 0)]), (Gr 3 1 v1 ((ys.length + 1)) (((ys.map (Value.int .i64)) ++ [(.int .i64 (vN op (gi (nx a) p) (gi (nx b) q)))]))), (Arr 3 b5 [(.int .i64 a.l), (.int .i64 (a.l + a.s)), (.int .i64 a.h)]), (Arr 3 b6 [(.int .i64 b.l), (.int .i64 (b.l + b.s)), (.int .i64 b.h)]), (Arr 3 b7 [(.int .i64 (vN op (gi (nx a) p) (gi (nx b) q)))])]) rfl ?_
    refine vc_drop [(Arr 23 b1 [(Value.int .i64 (a.l)), (Value.int .i64 (a.h)), (Value.int .i64 (a.s))]), (Arr 23 b2 [(Value.int .i64 (b.l)), (Value.int .i64 (b.h)), (Value.int .i64 (b.s))]), (Arr 23 b3 [(Value.int .i64 0), (Value.int .i64 0), (Value.int .i64 0)]), (Gr 3 1 v1 ((ys.length + 1)) (((ys.map (Value.int .i64)) ++ [(Value.int .i64 (vN op (gi (nx a) p) (gi (nx b) q)))]))), (Arr 3 b5 [(Value.int .i64 (a.l)), (Value.int .i64 (a.l + a.s)), (Value.int .i64 (a.h))]), (Arr 3 b6 [(Value.int .i64 (b.l)), (Value.int .i64 (b.l + b.s)), (Value.int .i64 (b.h))])] [(Arr 3 b7 [(Value.int .i64 (vN op (gi (nx a) p) (gi (nx b) q)))])] ((List.perm_middle (l₁ := [(Arr 23 b1 [(Value.int .i64 (a.l)), (Value.int .i64 (a.h)), (Value.int .i64 (a.s))]), (Arr 23 b2 [(Value.int .i64 (b.l)), (Value.int .i64 (b.h)), (Value.int .i64 (b.s))]), (Arr 23 b3 [(Value.int .i64 0), (Value.int .i64 0), (Value.int .i64 0)]), (Gr 3 1 v1 ((ys.length + 1)) (((ys.map (Value.int .i64)) ++ [(Value.int .i64 (vN op (gi (nx a) p) (gi (nx b) q)))]))), (Arr 3 b5 [(Value.int .i64 (a.l)), (Value.int .i64 (a.l + a.s)), (Value.int .i64 (a.h))]), (Arr 3 b6 [(Value.int .i64 (b.l)), (Value.int .i64 (b.l + b.s)), (Value.int .i64 (b.h))])]) (l₂ := [])).trans (List.perm_append_comm (l₁ := [(Arr 3 b7 [(Value.int .i64 (vN op (gi (nx a) p) (gi (nx b) q)))])]))) ?_
    refine vc_region ?_
    refine oq (qv_mv (Value.int .i64 q) rfl) ?_
    refine oq (qv_add rfl rfl (by omega)) ?_
    refine oq (qv_as (.int .i64 (q + 1)) rfl) ?_
    refine ops_nil ?_
    refine ⟨(q + 1, v1, ys ++ [vN op (gi (nx a) p) (gi (nx b) q)]), ⟨rfl, rfl, rfl, rfl, rfl, rfl, rfl, rfl, rfl, rfl, rfl, (congrArg (Value.int .i64) (show (q + 1) = ((q + 1)) from by omega)), trivial⟩, (show V = V ∧ [(Arr 23 b1 [(.int .i64 a.l), (.int .i64 a.h), (.int .i64 a.s)]), (Arr 23 b2 [(.int .i64 b.l), (.int .i64 b.h), (.int .i64 b.s)]), (Arr 23 b3 [(Value.int .i64 0), (Value.int .i64 0), (Value.int .i64 0)]), (Gr 3 1 v1 (ys ++ [vN op (gi (nx a) p) (gi (nx b) q)] : List Int).length (((ys ++ [vN op (gi (nx a) p) (gi (nx b) q)] : List Int).map (Value.int .i64)))), (Arr 3 b5 [(.int .i64 a.l), (.int .i64 (a.l + a.s)), (.int .i64 a.h)]), (Arr 3 b6 [(.int .i64 b.l), (.int .i64 (b.l + b.s)), (.int .i64 b.h)])] = [(Arr 23 b1 [(.int .i64 a.l), (.int .i64 a.h), (.int .i64 a.s)]), (Arr 23 b2 [(.int .i64 b.l), (.int .i64 b.h), (.int .i64 b.s)]), (Arr 23 b3 [(Value.int .i64 0), (Value.int .i64 0), (Value.int .i64 0)]), (Gr 3 1 v1 ((ys.length + 1)) (((ys.map (Value.int .i64)) ++ [(.int .i64 (vN op (gi (nx a) p) (gi (nx b) q)))]))), (Arr 3 b5 [(.int .i64 a.l), (.int .i64 (a.l + a.s)), (.int .i64 a.h)]), (Arr 3 b6 [(.int .i64 b.l), (.int .i64 (b.l + b.s)), (.int .i64 b.h)])] ∧ 0 ≤ (q + 1 : Int) ∧ (q + 1 : Int) ≤ 3 ∧ (ys ++ [vN op (gi (nx a) p) (gi (nx b) q)] : List Int) = coL op a b p (q + 1 : Int) ∧ ((ys ++ [vN op (gi (nx a) p) (gi (nx b) q)] : List Int).length : Int) = p * 3 + (q + 1 : Int) ∧ ∀ j : Int, 0 ≤ j → j < (q + 1 : Int) → valOk op (gi (nx a) p) (gi (nx b) j) from ⟨rfl, (show [(Arr 23 b1 [(.int .i64 a.l), (.int .i64 a.h), (.int .i64 a.s)]), (Arr 23 b2 [(.int .i64 b.l), (.int .i64 b.h), (.int .i64 b.s)]), (Arr 23 b3 [(Value.int .i64 0), (Value.int .i64 0), (Value.int .i64 0)]), (Gr 3 1 v1 (ys ++ [vN op (gi (nx a) p) (gi (nx b) q)] : List Int).length (((ys ++ [vN op (gi (nx a) p) (gi (nx b) q)] : List Int).map (Value.int .i64)))), (Arr 3 b5 [(.int .i64 a.l), (.int .i64 (a.l + a.s)), (.int .i64 a.h)]), (Arr 3 b6 [(.int .i64 b.l), (.int .i64 (b.l + b.s)), (.int .i64 b.h)])] = [(Arr 23 b1 [(.int .i64 a.l), (.int .i64 a.h), (.int .i64 a.s)]), (Arr 23 b2 [(.int .i64 b.l), (.int .i64 b.h), (.int .i64 b.s)]), (Arr 23 b3 [(Value.int .i64 0), (Value.int .i64 0), (Value.int .i64 0)]), (Gr 3 1 v1 ((ys.length + 1)) (((ys.map (Value.int .i64)) ++ [(.int .i64 (vN op (gi (nx a) p) (gi (nx b) q)))]))), (Arr 3 b5 [(.int .i64 a.l), (.int .i64 (a.l + a.s)), (.int .i64 a.h)]), (Arr 3 b6 [(.int .i64 b.l), (.int .i64 (b.l + b.s)), (.int .i64 b.h)])] from by simp), by omega, by omega, by rw [co_step (by omega) (by omega), vN_ok hk, hy], by simp; omega, all_snoc hok2 hk⟩), show (3 - (q + 1)).toNat < (3 - q).toNat from by omega⟩
  ·
   refine vc_exit ?_
   refine blockQ_hit ?_
   refine vc_region ?_
   refine oq (qv_mv (Value.int .i64 p) rfl) ?_
   refine oq (qv_add rfl rfl (by omega)) ?_
   refine oq (qv_as (.int .i64 (p + 1)) rfl) ?_
   refine ops_nil ?_
   have hq : q = 3 := by omega
   refine ⟨(p + 1, w, ys), ⟨rfl, rfl, rfl, rfl, rfl, rfl, rfl, rfl, rfl, (congrArg (Value.int .i64) (show (p + 1) = ((p + 1)) from by omega)), trivial⟩, (show V = V ∧ [(Arr 23 b1 [(.int .i64 a.l), (.int .i64 a.h), (.int .i64 a.s)]), (Arr 23 b2 [(.int .i64 b.l), (.int .i64 b.h), (.int .i64 b.s)]), (Arr 23 b3 [(Value.int .i64 0), (Value.int .i64 0), (Value.int .i64 0)]), (Gr 3 1 w ys.length ((ys.map (Value.int .i64)))), (Arr 3 b5 [(.int .i64 a.l), (.int .i64 (a.l + a.s)), (.int .i64 a.h)]), (Arr 3 b6 [(.int .i64 b.l), (.int .i64 (b.l + b.s)), (.int .i64 b.h)])] = [(Arr 23 b1 [(.int .i64 a.l), (.int .i64 a.h), (.int .i64 a.s)]), (Arr 23 b2 [(.int .i64 b.l), (.int .i64 b.h), (.int .i64 b.s)]), (Arr 23 b3 [(Value.int .i64 0), (Value.int .i64 0), (Value.int .i64 0)]), (Gr 3 1 w ys.length ((ys.map (Value.int .i64)))), (Arr 3 b5 [(.int .i64 a.l), (.int .i64 (a.l + a.s)), (.int .i64 a.h)]), (Arr 3 b6 [(.int .i64 b.l), (.int .i64 (b.l + b.s)), (.int .i64 b.h)])] ∧ 0 ≤ (p + 1 : Int) ∧ (p + 1 : Int) ≤ 3 ∧ ys = coL op a b (p + 1 : Int) 0 ∧ (ys.length : Int) = (p + 1 : Int) * 3 ∧ ∀ i j : Int, 0 ≤ i → i < (p + 1 : Int) → 0 ≤ j → j < 3 → valOk op (gi (nx a) i) (gi (nx b) j) from ⟨rfl, (show [(Arr 23 b1 [(.int .i64 a.l), (.int .i64 a.h), (.int .i64 a.s)]), (Arr 23 b2 [(.int .i64 b.l), (.int .i64 b.h), (.int .i64 b.s)]), (Arr 23 b3 [(Value.int .i64 0), (Value.int .i64 0), (Value.int .i64 0)]), (Gr 3 1 w (ys : List Int).length (((ys : List Int).map (Value.int .i64)))), (Arr 3 b5 [(.int .i64 a.l), (.int .i64 (a.l + a.s)), (.int .i64 a.h)]), (Arr 3 b6 [(.int .i64 b.l), (.int .i64 (b.l + b.s)), (.int .i64 b.h)])] = [(Arr 23 b1 [(.int .i64 a.l), (.int .i64 a.h), (.int .i64 a.s)]), (Arr 23 b2 [(.int .i64 b.l), (.int .i64 b.h), (.int .i64 b.s)]), (Arr 23 b3 [(Value.int .i64 0), (Value.int .i64 0), (Value.int .i64 0)]), (Gr 3 1 w ys.length ((ys.map (Value.int .i64)))), (Arr 3 b5 [(.int .i64 a.l), (.int .i64 (a.l + a.s)), (.int .i64 a.h)]), (Arr 3 b6 [(.int .i64 b.l), (.int .i64 (b.l + b.s)), (.int .i64 b.h)])] from by rfl), by omega, by omega, by rw [co_next (q := q) (by omega) (by omega) hq]; exact hy, by omega, all2_snoc hok (fun j h1 h2 => hok2 j h1 (by omega))⟩), show (3 - (p + 1)).toNat < (3 - p).toNat from by omega⟩
 ·
  refine vc_exit ?_
  refine blockQ_hit ?_
  refine vc_seq ?_
  have hyes : exOk op a b := co_ok ha hb he hf ho (fun i j h1 h2 => hok i j h1 (by omega))
  obtain ⟨hfa, hfe⟩ := co_fin (p := p) ha hb he hf ho hyes (by omega)
  refine vc_freezeG (v := v) (E := 3) (n := xs.length) (xs := (xs.map (Value.int .i64))) (σr := [(Arr 23 b1 [(Value.int .i64 (a.l)), (Value.int .i64 (a.h)), (Value.int .i64 (a.s))]), (Arr 23 b2 [(Value.int .i64 (b.l)), (Value.int .i64 (b.h)), (Value.int .i64 (b.s))]), (Arr 23 b3 [(Value.int .i64 0), (Value.int .i64 0), (Value.int .i64 0)]), (Arr 3 b5 [(Value.int .i64 (a.l)), (Value.int .i64 (a.l + a.s)), (Value.int .i64 (a.h))]), (Arr 3 b6 [(Value.int .i64 (b.l)), (Value.int .i64 (b.l + b.s)), (Value.int .i64 (b.h))])]) (List.perm_middle (l₁ := [(Arr 23 b1 [(Value.int .i64 (a.l)), (Value.int .i64 (a.h)), (Value.int .i64 (a.s))]), (Arr 23 b2 [(Value.int .i64 (b.l)), (Value.int .i64 (b.h)), (Value.int .i64 (b.s))]), (Arr 23 b3 [(Value.int .i64 0), (Value.int .i64 0), (Value.int .i64 0)])]) (l₂ := [(Arr 3 b5 [(Value.int .i64 (a.l)), (Value.int .i64 (a.l + a.s)), (Value.int .i64 (a.h))]), (Arr 3 b6 [(Value.int .i64 (b.l)), (Value.int .i64 (b.l + b.s)), (Value.int .i64 (b.h))])])) (fun Vf1 hVf1 hc1 => ?_)
  refine vc_region ?_
  refine oq (qv_mv v rfl) ?_
  refine oq (qv_call (v := (.tuple #[(.agg #[(.int .i64 ((ofN xs).l)), (.int .i64 ((ofN xs).h)), (.int .i64 ((ofN xs).s))]), (.int .i64 (ofE xs))])) (rOf_c hc1) rfl rfl) ?_
  refine oq (qv_ext (.agg #[(.int .i64 ((ofN xs).l)), (.int .i64 ((ofN xs).h)), (.int .i64 ((ofN xs).s))]) rfl rfl) ?_
  refine oq (qv_ext (.int .i64 (ofE xs)) rfl rfl) ?_
  refine ops_stw (k := 2) (vs := [(.int .i64 ((ofN xs).l)), (.int .i64 ((ofN xs).h)), (.int .i64 ((ofN xs).s))]) Try.size23 rfl rfl rfl rfl rfl rfl ?_
  refine oq (qv_as (.int .i64 (ofE xs)) rfl) ?_
  refine ops_nil ?_
  refine vc_ret ?_
  refine rs2 _ (.int .i64 (ofE xs)) (rv_c (vs := [(.int .i64 ((ofN xs).l)), (.int .i64 ((ofN xs).h)), (.int .i64 ((ofN xs).s))]) Try.agg23 rfl (inOc (k := 2) rfl) rfl rfl) (rv_t rfl) ?_
  exact tup2 (agg3 (show ofN xs = exN op a b from by rw [exN_1 hyes, hx, ofN_1 (hfa)]; exact hfe)) (congrArg (Value.int .i64) (show (ofE xs) = (exE op a b) from by rw [exE_1 hyes, hx, ofE_1 (hfa)]))

end Go.Proofs.Ytapkilaikcihgaa
