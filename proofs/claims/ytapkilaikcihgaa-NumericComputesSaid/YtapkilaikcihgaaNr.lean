/- Walks of numeric: what each function returns. Printed by a program out of notes. -/
import Derived.Test.YtapkilaikcihgaaNq
namespace Go.Proofs.Ytapkilaikcihgaa
open Go.Vc
open Classical

set_option maxRecDepth 100000 in
set_option maxHeartbeats 4000000 in
theorem rListed_c {V : HV} {op : Int} {a b : Nm} (ha : vld a) (hb : vld b) (hs : sml a b) :
    FnC Try.prog 70 [(Value.int .i64 op), (.agg #[(.int .i64 a.l), (.int .i64 a.h), (.int .i64 a.s)]), (.agg #[(.int .i64 b.l), (.int .i64 b.h), (.int .i64 b.s)])] V [] (fun v _ _ => v = .tuple #[(.agg #[(.int .i64 ((exN op a b).l)), (.int .i64 ((exN op a b).h)), (.int .i64 ((exN op a b).s))]), (.int .i64 (exE op a b))]) := by
 refine fn_intro (N := 48) Try.func70 (by kernel_rfl) rfl rfl rfl (Nat.le_of_ble_eq_true rfl) ?_
 intro w0 D
 have za := size_bd ha
 have zb := size_bd hb
 have sa := sizeV_1 ha
 have sb := sizeV_1 hb
 unfold sml at hs
 refine vc_seq ?_
 refine vc_region ?_
 refine ops_box (v := (.agg #[(.int .i64 a.l), (.int .i64 a.h), (.int .i64 a.s)])) (cs := [(.int .i64 a.l), (.int .i64 a.h), (.int .i64 a.s)]) rfl rfl (fun b1 => ?_)
 refine ops_box (v := (.agg #[(.int .i64 b.l), (.int .i64 b.h), (.int .i64 b.s)])) (cs := [(.int .i64 b.l), (.int .i64 b.h), (.int .i64 b.s)]) rfl rfl (fun b2 => ?_)
 refine ops_alloc Try.ti23 rfl (fun b3 => ?_)
 refine oq (qv_as (Value.int .i64 0) rfl) ?_
 refine ops_nil ?_
 refine vc_seq ?_
 refine vc_res (σ' := [(Arr 23 b1 [(.int .i64 a.l), (.int .i64 a.h), (.int .i64 a.s)]), (Arr 23 b2 [(.int .i64 b.l), (.int .i64 b.h), (.int .i64 b.s)]), (Arr 23 b3 [(Value.int .i64 0), (Value.int .i64 0), (Value.int .i64 0)])]) rfl ?_
 refine vc_region ?_
 refine ops_lit (n := 0) (s := 1) (cs := []) Try.underlying37 Try.ti3 (Nat.le_of_ble_eq_true rfl) rfl rfl rfl (Nat.le_of_ble_eq_true rfl) rfl (fun b4 => ?_)
 refine oq (qv_as (.slice (some ⟨b4, 0, none⟩) 0 0) rfl) ?_
 refine ops_nil ?_
 refine vc_seq ?_
 refine vc_seq ?_
 refine vc_res (σ' := [(Arr 23 b1 [(.int .i64 a.l), (.int .i64 a.h), (.int .i64 a.s)]), (Arr 23 b2 [(.int .i64 b.l), (.int .i64 b.h), (.int .i64 b.s)]), (Arr 23 b3 [(Value.int .i64 0), (Value.int .i64 0), (Value.int .i64 0)]), (Arr 3 b4 [])]) rfl ?_
 refine vc_region ?_
 refine ops_to_gr (k := 3) (b := b4) (n := 0) (cap := 0) (cs := #[]) 1 [] rfl rfl (Nat.le_refl _) (Nat.zero_le _) rfl rfl ?_
 refine oq (qv_as (Value.int .i64 0) rfl) ?_
 refine ops_nil ?_
 refine vc_block ?_
 refine vc_loop (α := Int × Value × List Int) (fun (xx : Int × Value × List Int) => [(0, (Value.int .i64 op)), (1, (.agg #[(.int .i64 a.l), (.int .i64 a.h), (.int .i64 a.s)])), (2, (.agg #[(.int .i64 b.l), (.int .i64 b.h), (.int .i64 b.s)])), (4, (Value.pointer (some ⟨b1, 0, none⟩))), (5, (Value.pointer (some ⟨b2, 0, none⟩))), (6, (Value.pointer (some ⟨b3, 0, none⟩))), (8, xx.2.1), (9, (Value.int .i64 xx.1))]) (fun (xx : Int × Value × List Int) V' σ' => V = V' ∧ [(Arr 23 b1 [(.int .i64 a.l), (.int .i64 a.h), (.int .i64 a.s)]), (Arr 23 b2 [(.int .i64 b.l), (.int .i64 b.h), (.int .i64 b.s)]), (Arr 23 b3 [(Value.int .i64 0), (Value.int .i64 0), (Value.int .i64 0)]), (Gr 3 1 xx.2.1 xx.2.2.length ((xx.2.2.map (Value.int .i64))))] = σ' ∧ 0 ≤ xx.1 ∧ xx.1 ≤ sizeF a ∧ xx.2.2 = XS op a b xx.1 ∧ (xx.2.2.length : Int) = xx.1 * sizeF b ∧ ∀ i j : Int, 0 ≤ i → i < xx.1 → 0 ≤ j → j < sizeF b → valOk op (a.l + i * a.s) (b.l + j * b.s)) (fun (xx : Int × Value × List Int) => (sizeF a - xx.1).toNat) (0, (.slice (some ⟨b4, 0, none⟩) 0 0), []) ?_ ?_ ?_
 · exact ⟨rfl, rfl, rfl, rfl, rfl, rfl, (by first | rfl | (first | omega | simp)), rfl, trivial⟩
 · exact (show V = V ∧ [(Arr 23 b1 [(.int .i64 a.l), (.int .i64 a.h), (.int .i64 a.s)]), (Arr 23 b2 [(.int .i64 b.l), (.int .i64 b.h), (.int .i64 b.s)]), (Arr 23 b3 [(Value.int .i64 0), (Value.int .i64 0), (Value.int .i64 0)]), (Gr 3 1 ((.slice (some ⟨b4, 0, none⟩) 0 0) : Value) ([] : List Int).length ((([] : List Int).map (Value.int .i64))))] = [(Arr 23 b1 [(.int .i64 a.l), (.int .i64 a.h), (.int .i64 a.s)]), (Arr 23 b2 [(.int .i64 b.l), (.int .i64 b.h), (.int .i64 b.s)]), (Arr 23 b3 [(Value.int .i64 0), (Value.int .i64 0), (Value.int .i64 0)]), (Gr 3 1 ((.slice (some ⟨b4, 0, none⟩) 0 0)) 0 ([]))] ∧ 0 ≤ (0 : Int) ∧ (0 : Int) ≤ sizeF a ∧ ([] : List Int) = XS op a b (0 : Int) ∧ (([] : List Int).length : Int) = (0 : Int) * sizeF b ∧ ∀ i j : Int, 0 ≤ i → i < (0 : Int) → 0 ≤ j → j < sizeF b → valOk op (a.l + i * a.s) (b.l + j * b.s) from ⟨rfl, (show [(Arr 23 b1 [(.int .i64 a.l), (.int .i64 a.h), (.int .i64 a.s)]), (Arr 23 b2 [(.int .i64 b.l), (.int .i64 b.h), (.int .i64 b.s)]), (Arr 23 b3 [(Value.int .i64 0), (Value.int .i64 0), (Value.int .i64 0)]), (Gr 3 1 ((.slice (some ⟨b4, 0, none⟩) 0 0)) ([] : List Int).length ((([] : List Int).map (Value.int .i64))))] = [(Arr 23 b1 [(.int .i64 a.l), (.int .i64 a.h), (.int .i64 a.s)]), (Arr 23 b2 [(.int .i64 b.l), (.int .i64 b.h), (.int .i64 b.s)]), (Arr 23 b3 [(Value.int .i64 0), (Value.int .i64 0), (Value.int .i64 0)]), (Gr 3 1 ((.slice (some ⟨b4, 0, none⟩) 0 0)) 0 ([]))] from by rfl), by omega, za.1, rfl, by simp, fun i j h1 h2 => by omega⟩)
 rintro ⟨p, v, xs⟩ e1 V0l σ0l hI0
 obtain ⟨rfl, rfl, i1, i2, hx, hl, hok⟩ : V = V0l ∧ [(Arr 23 b1 [(.int .i64 a.l), (.int .i64 a.h), (.int .i64 a.s)]), (Arr 23 b2 [(.int .i64 b.l), (.int .i64 b.h), (.int .i64 b.s)]), (Arr 23 b3 [(Value.int .i64 0), (Value.int .i64 0), (Value.int .i64 0)]), (Gr 3 1 v xs.length ((xs.map (Value.int .i64))))] = σ0l ∧ 0 ≤ p ∧ p ≤ sizeF a ∧ xs = XS op a b p ∧ (xs.length : Int) = p * sizeF b ∧ ∀ i j : Int, 0 ≤ i → i < p → 0 ≤ j → j < sizeF b → valOk op (a.l + i * a.s) (b.l + j * b.s) := hI0
 change VC _ _ _ _ _ _ (upds 48 [(0, (Value.int .i64 op)), (1, (.agg #[(.int .i64 a.l), (.int .i64 a.h), (.int .i64 a.s)])), (2, (.agg #[(.int .i64 b.l), (.int .i64 b.h), (.int .i64 b.s)])), (4, (Value.pointer (some ⟨b1, 0, none⟩))), (5, (Value.pointer (some ⟨b2, 0, none⟩))), (6, (Value.pointer (some ⟨b3, 0, none⟩))), (8, v), (9, (Value.int .i64 p))] e1) _ _
 refine vc_seq ?_
 refine vc_seq ?_
 refine vc_res (σ' := [(Arr 23 b1 [(.int .i64 a.l), (.int .i64 a.h), (.int .i64 a.s)]), (Arr 23 b2 [(.int .i64 b.l), (.int .i64 b.h), (.int .i64 b.s)]), (Arr 23 b3 [(Value.int .i64 0), (Value.int .i64 0), (Value.int .i64 0)]), (Gr 3 1 v xs.length ((xs.map (Value.int .i64))))]) rfl ?_
 refine vc_region ?_
 refine oq (qv_mv (Value.int .i64 p) rfl) ?_
 refine oq (qv_ldm (vs := [(.int .i64 a.l), (.int .i64 a.h), (.int .i64 a.s)]) Try.agg23 rfl (inOc (k := 0) rfl) rfl rfl) ?_
 refine oq (qv_call (v := (.int .i64 (sizeV a))) (rSize_c (a := a)) rfl rfl) ?_
 refine oq (qv_lss rfl rfl) ?_
 refine ops_nil ?_
 refine vc_if rfl (fun c1 => ?_) (fun c1 => ?_)
 ·
  refine vc_skip ?_
  refine vc_seq ?_
  refine vc_block ?_
  refine vc_seq ?_
  refine vc_region ?_
  refine oq (qv_as (Value.int .i64 0) rfl) ?_
  refine ops_nil ?_
  refine vc_block ?_
  refine vc_loop (α := Int × Value × List Int) (fun (xx : Int × Value × List Int) => [(0, (Value.int .i64 op)), (1, (.agg #[(.int .i64 a.l), (.int .i64 a.h), (.int .i64 a.s)])), (2, (.agg #[(.int .i64 b.l), (.int .i64 b.h), (.int .i64 b.s)])), (4, (Value.pointer (some ⟨b1, 0, none⟩))), (5, (Value.pointer (some ⟨b2, 0, none⟩))), (6, (Value.pointer (some ⟨b3, 0, none⟩))), (9, (Value.int .i64 p)), (17, (.bool (decide (p < (sizeV a))))), (8, xx.2.1), (10, (Value.int .i64 xx.1))]) (fun (xx : Int × Value × List Int) V' σ' => V = V' ∧ [(Arr 23 b1 [(.int .i64 a.l), (.int .i64 a.h), (.int .i64 a.s)]), (Arr 23 b2 [(.int .i64 b.l), (.int .i64 b.h), (.int .i64 b.s)]), (Arr 23 b3 [(Value.int .i64 0), (Value.int .i64 0), (Value.int .i64 0)]), (Gr 3 1 xx.2.1 xx.2.2.length ((xx.2.2.map (Value.int .i64))))] = σ' ∧ 0 ≤ xx.1 ∧ xx.1 ≤ sizeF b ∧ xx.2.2 = YS op a b p xx.1 ∧ (xx.2.2.length : Int) = p * sizeF b + xx.1 ∧ ∀ j : Int, 0 ≤ j → j < xx.1 → valOk op (a.l + p * a.s) (b.l + j * b.s)) (fun (xx : Int × Value × List Int) => (sizeF b - xx.1).toNat) (0, v, xs) ?_ ?_ ?_
  · exact ⟨rfl, rfl, rfl, rfl, rfl, rfl, rfl, rfl, rfl, rfl, trivial⟩
  · exact (show V = V ∧ [(Arr 23 b1 [(.int .i64 a.l), (.int .i64 a.h), (.int .i64 a.s)]), (Arr 23 b2 [(.int .i64 b.l), (.int .i64 b.h), (.int .i64 b.s)]), (Arr 23 b3 [(Value.int .i64 0), (Value.int .i64 0), (Value.int .i64 0)]), (Gr 3 1 v xs.length ((xs.map (Value.int .i64))))] = [(Arr 23 b1 [(.int .i64 a.l), (.int .i64 a.h), (.int .i64 a.s)]), (Arr 23 b2 [(.int .i64 b.l), (.int .i64 b.h), (.int .i64 b.s)]), (Arr 23 b3 [(Value.int .i64 0), (Value.int .i64 0), (Value.int .i64 0)]), (Gr 3 1 v xs.length ((xs.map (Value.int .i64))))] ∧ 0 ≤ (0 : Int) ∧ (0 : Int) ≤ sizeF b ∧ xs = YS op a b p (0 : Int) ∧ (xs.length : Int) = p * sizeF b + (0 : Int) ∧ ∀ j : Int, 0 ≤ j → j < (0 : Int) → valOk op (a.l + p * a.s) (b.l + j * b.s) from ⟨rfl, (show [(Arr 23 b1 [(.int .i64 a.l), (.int .i64 a.h), (.int .i64 a.s)]), (Arr 23 b2 [(.int .i64 b.l), (.int .i64 b.h), (.int .i64 b.s)]), (Arr 23 b3 [(Value.int .i64 0), (Value.int .i64 0), (Value.int .i64 0)]), (Gr 3 1 v (xs : List Int).length (((xs : List Int).map (Value.int .i64))))] = [(Arr 23 b1 [(.int .i64 a.l), (.int .i64 a.h), (.int .i64 a.s)]), (Arr 23 b2 [(.int .i64 b.l), (.int .i64 b.h), (.int .i64 b.s)]), (Arr 23 b3 [(Value.int .i64 0), (Value.int .i64 0), (Value.int .i64 0)]), (Gr 3 1 v xs.length ((xs.map (Value.int .i64))))] from by rfl), by omega, zb.1, by rw [YS_0]; exact hx, by omega, fun j h1 h2 => by omega⟩)
  rintro ⟨q, w, ys⟩ e2 V1l σ1l hI1
  obtain ⟨rfl, rfl, i3, i4, hy, hm, hok2⟩ : V = V1l ∧ [(Arr 23 b1 [(.int .i64 a.l), (.int .i64 a.h), (.int .i64 a.s)]), (Arr 23 b2 [(.int .i64 b.l), (.int .i64 b.h), (.int .i64 b.s)]), (Arr 23 b3 [(Value.int .i64 0), (Value.int .i64 0), (Value.int .i64 0)]), (Gr 3 1 w ys.length ((ys.map (Value.int .i64))))] = σ1l ∧ 0 ≤ q ∧ q ≤ sizeF b ∧ ys = YS op a b p q ∧ (ys.length : Int) = p * sizeF b + q ∧ ∀ j : Int, 0 ≤ j → j < q → valOk op (a.l + p * a.s) (b.l + j * b.s) := hI1
  change VC _ _ _ _ _ _ (upds 48 [(0, (Value.int .i64 op)), (1, (.agg #[(.int .i64 a.l), (.int .i64 a.h), (.int .i64 a.s)])), (2, (.agg #[(.int .i64 b.l), (.int .i64 b.h), (.int .i64 b.s)])), (4, (Value.pointer (some ⟨b1, 0, none⟩))), (5, (Value.pointer (some ⟨b2, 0, none⟩))), (6, (Value.pointer (some ⟨b3, 0, none⟩))), (9, (Value.int .i64 p)), (17, (.bool (decide (p < (sizeV a))))), (8, w), (10, (Value.int .i64 q))] e2) _ _
  refine vc_seq ?_
  refine vc_seq ?_
  refine vc_res (σ' := [(Arr 23 b1 [(.int .i64 a.l), (.int .i64 a.h), (.int .i64 a.s)]), (Arr 23 b2 [(.int .i64 b.l), (.int .i64 b.h), (.int .i64 b.s)]), (Arr 23 b3 [(Value.int .i64 0), (Value.int .i64 0), (Value.int .i64 0)]), (Gr 3 1 w ys.length ((ys.map (Value.int .i64))))]) rfl ?_
  refine vc_region ?_
  refine oq (qv_mv (Value.int .i64 q) rfl) ?_
  refine oq (qv_ldm (vs := [(.int .i64 b.l), (.int .i64 b.h), (.int .i64 b.s)]) Try.agg23 rfl (inOc (k := 1) rfl) rfl rfl) ?_
  refine oq (qv_call (v := (.int .i64 (sizeV b))) (rSize_c (a := b)) rfl rfl) ?_
  refine oq (qv_lss rfl rfl) ?_
  refine ops_nil ?_
  refine vc_if rfl (fun c2 => ?_) (fun c2 => ?_)
  ·
   refine vc_skip ?_
   refine vc_seq ?_
   refine vc_block ?_
   refine vc_seq ?_
   have fx := mem_fits ha (at_mem ha (show 0 ≤ p by omega) (by omega))
   have fy := mem_fits hb (at_mem hb (show 0 ≤ q by omega) (by omega))
   have hll := ls_len (show p < sizeF a by omega) zb.1 hs
   refine vc_region_any Try.mixed (by kernel_rfl) ?_
   refine qq (qv_mv (Value.int .i64 op) rfl) ?_
   refine qq (qv_ldm (vs := [(.int .i64 a.l), (.int .i64 a.h), (.int .i64 a.s)]) Try.agg23 rfl (inOc (k := 0) rfl) rfl rfl) ?_
   refine qq (qv_mv (Value.int .i64 p) rfl) ?_
   refine qq (qv_call (v := (.int .i64 (a.l + p * a.s))) (rAt_c (by assumption) (by omega) (by omega)) rfl rfl) ?_
   refine qq (qv_ldm (vs := [(.int .i64 b.l), (.int .i64 b.h), (.int .i64 b.s)]) Try.agg23 rfl (inOc (k := 1) rfl) rfl rfl) ?_
   refine qq (qv_mv (Value.int .i64 q) rfl) ?_
   refine qq (qv_call (v := (.int .i64 (b.l + q * b.s))) (rAt_c (by assumption) (by omega) (by omega)) rfl rfl) ?_
   refine qq (qv_call (v := (.tuple #[(.int .i64 (vN op (a.l + p * a.s) (b.l + q * b.s))), (.bool (decide (valOk op (a.l + p * a.s) (b.l + q * b.s))))])) (rValue_c fx fy) rfl rfl) ?_
   refine qq (qv_mv (.tuple #[(.int .i64 (vN op (a.l + p * a.s) (b.l + q * b.s))), (.bool (decide (valOk op (a.l + p * a.s) (b.l + q * b.s))))]) rfl) ?_
   refine qq (qv_ext (.int .i64 (vN op (a.l + p * a.s) (b.l + q * b.s))) rfl rfl) ?_
   refine qq (qv_ext (.bool (decide (valOk op (a.l + p * a.s) (b.l + q * b.s)))) rfl rfl) ?_
   refine qq (qv_as (.int .i64 (vN op (a.l + p * a.s) (b.l + q * b.s))) rfl) ?_
   refine qq (qv_as (.bool (decide (valOk op (a.l + p * a.s) (b.l + q * b.s)))) rfl) ?_
   refine qops_nil ?_
   refine vc_seq ?_
   refine vc_seq ?_
   refine vc_region ?_
   refine oq (qv_mv (.bool (decide (valOk op (a.l + p * a.s) (b.l + q * b.s)))) rfl) ?_
   refine oq (qv_not rfl) ?_
   refine ops_nil ?_
   refine vc_if rfl (fun c3 => ?_) (fun c3 => ?_)
   ·
    refine vc_seq ?_
    have hno : ¬ exOk op a b := ls_no ha hb (show 0 ≤ p by omega) (by omega) (show 0 ≤ q by omega) (by omega) (by assumption)
    refine vc_region ?_
    refine oq (qv_build (out := [(Value.int .i64 0), (Value.int .i64 0), (Value.int .i64 0)]) Try.build23 [] rfl rfl) ?_
    refine ops_stw (k := 2) (vs := [(Value.int .i64 0), (Value.int .i64 0), (Value.int .i64 0)]) Try.size23 rfl rfl rfl rfl rfl rfl ?_
    refine oq (qv_as (Value.int .i64 3) rfl) ?_
    refine ops_nil ?_
    refine vc_ret ?_
    refine blockQ_ret ?_
    refine blockQ_ret ?_
    refine blockQ_ret ?_
    refine blockQ_ret ?_
    refine rs2 _ (Value.int .i64 3) (rv_c (vs := [(Value.int .i64 0), (Value.int .i64 0), (Value.int .i64 0)]) Try.agg23 rfl (inOc (k := 2) rfl) rfl rfl) (rv_t rfl) ?_
    exact tup2 (agg3 (show (⟨0, 0, 0⟩ : Nm) = exN op a b from by rw [exN_0 hno])) (congrArg (Value.int .i64) (show 3 = (exE op a b) from by rw [exE_0 hno]))
   ·
    refine vc_skip ?_
    have hk : valOk op (a.l + p * a.s) (b.l + q * b.s) := Decidable.not_not.1 (by assumption)
    refine vc_region ?_
    refine oq (qv_mv w rfl) ?_
    refine oq (qv_mv (.int .i64 (vN op (a.l + p * a.s) (b.l + q * b.s))) rfl) ?_
    refine ops_lit (n := 1) (s := 1) (cs := [(.int .i64 (vN op (a.l + p * a.s) (b.l + q * b.s)))]) Try.underlying37 Try.ti3 (Nat.le_of_ble_eq_true rfl) rfl rfl rfl (Nat.le_of_ble_eq_true rfl) rfl (fun b5 => ?_)
    refine ops_append (k := 3) (n := ys.length) (s := 1) (m := 1) (v := w) (xs := (ys.map (Value.int .i64))) (news := [(.int .i64 (vN op (a.l + p * a.s) (b.l + q * b.s)))]) Try.underlying37 Try.ti3 rfl (Nat.le_of_ble_eq_true rfl) rfl rfl rfl rfl (news_own (j := 4) rfl) (by simp [Value.oneCell']) (by omega) (by simp only [maxLen]; omega) (fun v1 hn1 => ?_)
    refine oq (qv_as v1 rfl) ?_
    refine ops_nil ?_
    refine vc_res (σ' := [(Arr 23 b1 [(.int .i64 a.l), (.int .i64 a.h), (.int .i64 a.s)]), (Arr 23 b2 [(.int .i64 b.l), (.int .i64 b.h), (.int .i64 b.s)]), (Arr 23 b3 [(Value.int .i64 0), (Value.int .i64 0), (Value.int .i64 0)]), (Gr 3 1 v1 ((ys.length + 1)) (((ys.map (Value.int .i64)) ++ [(.int .i64 (vN op (a.l + p * a.s) (b.l + q * b.s)))]))), (Arr 3 b5 [(.int .i64 (vN op (a.l + p * a.s) (b.l + q * b.s)))])]) rfl ?_
    refine vc_drop [(Arr 23 b1 [(Value.int .i64 (a.l)), (Value.int .i64 (a.h)), (Value.int .i64 (a.s))]), (Arr 23 b2 [(Value.int .i64 (b.l)), (Value.int .i64 (b.h)), (Value.int .i64 (b.s))]), (Arr 23 b3 [(Value.int .i64 0), (Value.int .i64 0), (Value.int .i64 0)]), (Gr 3 1 v1 ((ys.length + 1)) (((ys.map (Value.int .i64)) ++ [(Value.int .i64 (vN op (a.l + p * a.s) (b.l + q * b.s)))])))] [(Arr 3 b5 [(Value.int .i64 (vN op (a.l + p * a.s) (b.l + q * b.s)))])] ((List.perm_middle (l₁ := [(Arr 23 b1 [(Value.int .i64 (a.l)), (Value.int .i64 (a.h)), (Value.int .i64 (a.s))]), (Arr 23 b2 [(Value.int .i64 (b.l)), (Value.int .i64 (b.h)), (Value.int .i64 (b.s))]), (Arr 23 b3 [(Value.int .i64 0), (Value.int .i64 0), (Value.int .i64 0)]), (Gr 3 1 v1 ((ys.length + 1)) (((ys.map (Value.int .i64)) ++ [(Value.int .i64 (vN op (a.l + p * a.s) (b.l + q * b.s)))])))]) (l₂ := [])).trans (List.perm_append_comm (l₁ := [(Arr 3 b5 [(Value.int .i64 (vN op (a.l + p * a.s) (b.l + q * b.s)))])]))) ?_
    refine vc_region ?_
    refine oq (qv_mv (Value.int .i64 q) rfl) ?_
    refine oq (qv_add rfl rfl (by omega)) ?_
    refine oq (qv_as (.int .i64 (q + 1)) rfl) ?_
    refine ops_nil ?_
    refine ⟨(q + 1, v1, ys ++ [vN op (a.l + p * a.s) (b.l + q * b.s)]), ⟨rfl, rfl, rfl, rfl, rfl, rfl, rfl, rfl, rfl, (congrArg (Value.int .i64) (show (q + 1) = ((q + 1)) from by omega)), trivial⟩, (show V = V ∧ [(Arr 23 b1 [(.int .i64 a.l), (.int .i64 a.h), (.int .i64 a.s)]), (Arr 23 b2 [(.int .i64 b.l), (.int .i64 b.h), (.int .i64 b.s)]), (Arr 23 b3 [(Value.int .i64 0), (Value.int .i64 0), (Value.int .i64 0)]), (Gr 3 1 v1 (ys ++ [vN op (a.l + p * a.s) (b.l + q * b.s)] : List Int).length (((ys ++ [vN op (a.l + p * a.s) (b.l + q * b.s)] : List Int).map (Value.int .i64))))] = [(Arr 23 b1 [(.int .i64 a.l), (.int .i64 a.h), (.int .i64 a.s)]), (Arr 23 b2 [(.int .i64 b.l), (.int .i64 b.h), (.int .i64 b.s)]), (Arr 23 b3 [(Value.int .i64 0), (Value.int .i64 0), (Value.int .i64 0)]), (Gr 3 1 v1 ((ys.length + 1)) (((ys.map (Value.int .i64)) ++ [(.int .i64 (vN op (a.l + p * a.s) (b.l + q * b.s)))])))] ∧ 0 ≤ (q + 1 : Int) ∧ (q + 1 : Int) ≤ sizeF b ∧ (ys ++ [vN op (a.l + p * a.s) (b.l + q * b.s)] : List Int) = YS op a b p (q + 1 : Int) ∧ ((ys ++ [vN op (a.l + p * a.s) (b.l + q * b.s)] : List Int).length : Int) = p * sizeF b + (q + 1 : Int) ∧ ∀ j : Int, 0 ≤ j → j < (q + 1 : Int) → valOk op (a.l + p * a.s) (b.l + j * b.s) from ⟨rfl, (show [(Arr 23 b1 [(.int .i64 a.l), (.int .i64 a.h), (.int .i64 a.s)]), (Arr 23 b2 [(.int .i64 b.l), (.int .i64 b.h), (.int .i64 b.s)]), (Arr 23 b3 [(Value.int .i64 0), (Value.int .i64 0), (Value.int .i64 0)]), (Gr 3 1 v1 (ys ++ [vN op (a.l + p * a.s) (b.l + q * b.s)] : List Int).length (((ys ++ [vN op (a.l + p * a.s) (b.l + q * b.s)] : List Int).map (Value.int .i64))))] = [(Arr 23 b1 [(.int .i64 a.l), (.int .i64 a.h), (.int .i64 a.s)]), (Arr 23 b2 [(.int .i64 b.l), (.int .i64 b.h), (.int .i64 b.s)]), (Arr 23 b3 [(Value.int .i64 0), (Value.int .i64 0), (Value.int .i64 0)]), (Gr 3 1 v1 ((ys.length + 1)) (((ys.map (Value.int .i64)) ++ [(.int .i64 (vN op (a.l + p * a.s) (b.l + q * b.s)))])))] from by simp), by omega, by omega, by rw [ls_step ha hb (by omega) (by omega) (by omega) (by omega) hk, hy], by simp; omega, all_snoc hok2 hk⟩), show (sizeF b - (q + 1)).toNat < (sizeF b - q).toNat from by omega⟩
  ·
   refine vc_exit ?_
   refine blockQ_hit ?_
   refine vc_region ?_
   refine oq (qv_mv (Value.int .i64 p) rfl) ?_
   refine oq (qv_add rfl rfl (by omega)) ?_
   refine oq (qv_as (.int .i64 (p + 1)) rfl) ?_
   refine ops_nil ?_
   have hq : q = sizeF b := by omega
   refine ⟨(p + 1, w, ys), ⟨rfl, rfl, rfl, rfl, rfl, rfl, rfl, (congrArg (Value.int .i64) (show (p + 1) = ((p + 1)) from by omega)), trivial⟩, (show V = V ∧ [(Arr 23 b1 [(.int .i64 a.l), (.int .i64 a.h), (.int .i64 a.s)]), (Arr 23 b2 [(.int .i64 b.l), (.int .i64 b.h), (.int .i64 b.s)]), (Arr 23 b3 [(Value.int .i64 0), (Value.int .i64 0), (Value.int .i64 0)]), (Gr 3 1 w ys.length ((ys.map (Value.int .i64))))] = [(Arr 23 b1 [(.int .i64 a.l), (.int .i64 a.h), (.int .i64 a.s)]), (Arr 23 b2 [(.int .i64 b.l), (.int .i64 b.h), (.int .i64 b.s)]), (Arr 23 b3 [(Value.int .i64 0), (Value.int .i64 0), (Value.int .i64 0)]), (Gr 3 1 w ys.length ((ys.map (Value.int .i64))))] ∧ 0 ≤ (p + 1 : Int) ∧ (p + 1 : Int) ≤ sizeF a ∧ ys = XS op a b (p + 1 : Int) ∧ (ys.length : Int) = (p + 1 : Int) * sizeF b ∧ ∀ i j : Int, 0 ≤ i → i < (p + 1 : Int) → 0 ≤ j → j < sizeF b → valOk op (a.l + i * a.s) (b.l + j * b.s) from ⟨rfl, (show [(Arr 23 b1 [(.int .i64 a.l), (.int .i64 a.h), (.int .i64 a.s)]), (Arr 23 b2 [(.int .i64 b.l), (.int .i64 b.h), (.int .i64 b.s)]), (Arr 23 b3 [(Value.int .i64 0), (Value.int .i64 0), (Value.int .i64 0)]), (Gr 3 1 w (ys : List Int).length (((ys : List Int).map (Value.int .i64))))] = [(Arr 23 b1 [(.int .i64 a.l), (.int .i64 a.h), (.int .i64 a.s)]), (Arr 23 b2 [(.int .i64 b.l), (.int .i64 b.h), (.int .i64 b.s)]), (Arr 23 b3 [(Value.int .i64 0), (Value.int .i64 0), (Value.int .i64 0)]), (Gr 3 1 w ys.length ((ys.map (Value.int .i64))))] from by rfl), by omega, by omega, by rw [ls_next (q := q) ha hb (by omega) (by omega) hq]; exact hy, by rw [hm, Int.add_mul]; omega, all2_snoc hok (fun j h1 h2 => hok2 j h1 (by omega))⟩), show (sizeF a - (p + 1)).toNat < (sizeF a - p).toNat from by omega⟩
 ·
  refine vc_exit ?_
  refine blockQ_hit ?_
  refine vc_seq ?_
  have hyes : exOk op a b := ls_ok ha hb (fun i j h1 h2 => hok i j h1 (by omega))
  have hxl : xs = exL op a b := by rw [hx, XS_all (by rw [memF_len ha]; omega)]
  refine vc_freezeG (v := v) (E := 3) (n := xs.length) (xs := (xs.map (Value.int .i64))) (σr := [(Arr 23 b1 [(Value.int .i64 (a.l)), (Value.int .i64 (a.h)), (Value.int .i64 (a.s))]), (Arr 23 b2 [(Value.int .i64 (b.l)), (Value.int .i64 (b.h)), (Value.int .i64 (b.s))]), (Arr 23 b3 [(Value.int .i64 0), (Value.int .i64 0), (Value.int .i64 0)])]) (List.perm_middle (l₁ := [(Arr 23 b1 [(Value.int .i64 (a.l)), (Value.int .i64 (a.h)), (Value.int .i64 (a.s))]), (Arr 23 b2 [(Value.int .i64 (b.l)), (Value.int .i64 (b.h)), (Value.int .i64 (b.s))]), (Arr 23 b3 [(Value.int .i64 0), (Value.int .i64 0), (Value.int .i64 0)])]) (l₂ := [])) (fun Vf1 hVf1 hc1 => ?_)
  refine vc_region ?_
  refine oq (qv_mv v rfl) ?_
  refine oq (qv_call (v := (.tuple #[(.agg #[(.int .i64 ((ofN xs).l)), (.int .i64 ((ofN xs).h)), (.int .i64 ((ofN xs).s))]), (.int .i64 (ofE xs))])) (rOf_c hc1) rfl rfl) ?_
  refine oq (qv_ext (.agg #[(.int .i64 ((ofN xs).l)), (.int .i64 ((ofN xs).h)), (.int .i64 ((ofN xs).s))]) rfl rfl) ?_
  refine oq (qv_ext (.int .i64 (ofE xs)) rfl rfl) ?_
  refine ops_stw (k := 2) (vs := [(.int .i64 ((ofN xs).l)), (.int .i64 ((ofN xs).h)), (.int .i64 ((ofN xs).s))]) Try.size23 rfl rfl rfl rfl rfl rfl ?_
  refine oq (qv_as (.int .i64 (ofE xs)) rfl) ?_
  refine ops_nil ?_
  refine vc_ret ?_
  refine rs2 _ (.int .i64 (ofE xs)) (rv_c (vs := [(.int .i64 ((ofN xs).l)), (.int .i64 ((ofN xs).h)), (.int .i64 ((ofN xs).s))]) Try.agg23 rfl (inOc (k := 2) rfl) rfl rfl) (rv_t rfl) ?_
  exact tup2 (agg3 (show ofN xs = exN op a b from by rw [exN_1 hyes, hxl, ofN_1 (exL_fit ha hb hyes)]; exact rfl)) (congrArg (Value.int .i64) (show (ofE xs) = (exE op a b) from by rw [exE_1 hyes, hxl, ofE_1 (exL_fit ha hb hyes)]))

end Go.Proofs.Ytapkilaikcihgaa
