/- Walks of numeric: what each function returns. Printed by a program out of notes. -/
import Derived.Test.YtapkilaikcihgaaNe
namespace Go.Proofs.Ytapkilaikcihgaa
open Go.Vc
open Classical

set_option maxRecDepth 100000 in
set_option maxHeartbeats 4000000 in
theorem rAt_c {V : HV} {a : Nm} {i : Int} (ha : vld a) (i0 : 0 ≤ i) (i1 : i < sizeF a) :
    FnC Try.prog 34 [(Value.agg #[(Value.int .i64 (a.l)), (Value.int .i64 (a.h)), (Value.int .i64 (a.s))]), (Value.int .i64 i)] V [] (fun v _ _ => v = (Value.int .i64 (a.l + i * a.s))) := by
  refine fn_intro (N := 12) Try.func34 (by kernel_rfl) rfl rfl rfl (Nat.le_of_ble_eq_true rfl) ?_
  intro w0 D
  have ba := vld_bd ha
  unfold fits at ba
  have hm := size_mul ha i0 i1
  refine vc_seq ?_
  refine vc_region ?_
  refine ops_box (v := (Value.agg #[(Value.int .i64 (a.l)), (Value.int .i64 (a.h)), (Value.int .i64 (a.s))])) (cs := [(Value.int .i64 (a.l)), (Value.int .i64 (a.h)), (Value.int .i64 (a.s))]) rfl rfl (fun b1 => ?_)
  refine oq (qv_as (Value.int .i64 0) rfl) ?_
  refine ops_nil ?_
  refine vc_seq ?_
  refine vc_res (σ' := [(Arr 23 b1 [(Value.int .i64 (a.l)), (Value.int .i64 (a.h)), (Value.int .i64 (a.s))])]) rfl ?_
  refine vc_region ?_
  refine oq (qv_fa (off := 0) Try.field23_0 rfl) ?_
  refine oq (qv_ldp (v := (Value.int .i64 (a.l))) Try.plain3 rfl (inOc (k := 0) rfl) rfl) ?_
  refine oq (qv_mv (Value.int .i64 i) rfl) ?_
  refine oq (qv_fa (off := 0) Try.field23_2 rfl) ?_
  refine oq (qv_ldp (v := (Value.int .i64 (a.s))) Try.plain3 rfl (inOc (k := 0) rfl) rfl) ?_
  refine oq (qv_mul rfl rfl (by omega)) ?_
  refine oq (qv_add rfl rfl (by omega)) ?_
  refine oq (qv_as (Value.int .i64 (a.l + (i * a.s))) rfl) ?_
  refine ops_nil ?_
  refine vc_ret ?_
  exact rq1 (Value.int .i64 (a.l + i * a.s)) (congrArg (Value.int .i64) (show (a.l + (i * a.s)) = (a.l + i * a.s) from by rfl)) rfl

set_option maxRecDepth 100000 in
set_option maxHeartbeats 4000000 in
theorem members_c {V : HV} {a : Nm} (ha : vld a) (hz : sizeF a ≤ 4096) :
    FnC Try.prog 80 [(Value.agg #[(Value.int .i64 (a.l)), (Value.int .i64 (a.h)), (Value.int .i64 (a.s))])] V [] (fun v V' σ' => σ' = [] ∧ Ints .i64 V' v (memF a)) := by
  refine fn_intro (N := 22) Try.func80 (by kernel_rfl) rfl rfl rfl (Nat.le_of_ble_eq_true rfl) ?_
  intro w0 D
  have ba := vld_bd ha
  unfold fits at ba
  have hsz := sizeV_1 ha
  refine vc_seq ?_
  refine vc_region ?_
  refine ops_box (v := (Value.agg #[(Value.int .i64 (a.l)), (Value.int .i64 (a.h)), (Value.int .i64 (a.s))])) (cs := [(Value.int .i64 (a.l)), (Value.int .i64 (a.h)), (Value.int .i64 (a.s))]) rfl rfl (fun b1 => ?_)
  refine oq (qv_as (Value.slice none 0 0) rfl) ?_
  refine ops_nil ?_
  refine vc_seq ?_
  refine vc_res (σ' := [(Arr 23 b1 [(Value.int .i64 (a.l)), (Value.int .i64 (a.h)), (Value.int .i64 (a.s))])]) rfl ?_
  refine vc_region ?_
  refine oq (qv_as (Value.slice none 0 0) rfl) ?_
  refine ops_nil ?_
  refine vc_seq ?_
  refine vc_seq ?_
  refine vc_nil 3 1 ?_
  refine vc_region ?_
  refine oq (qv_ldm (vs := [(Value.int .i64 (a.l)), (Value.int .i64 (a.h)), (Value.int .i64 (a.s))]) Try.agg23 rfl (inOc (k := 0) rfl) rfl rfl) ?_
  refine oq (qv_call (v := (Value.int .i64 (sizeF a))) (size_c (a := a) (by assumption)) rfl rfl) ?_
  refine oq (qv_mv (Value.int .i64 0) rfl) ?_
  refine ops_nil ?_
  refine vc_block ?_
  refine vc_loop (α := Int × Value × List Int) (fun (xx : Int × Value × List Int) => [(0, (Value.agg #[(Value.int .i64 (a.l)), (Value.int .i64 (a.h)), (Value.int .i64 (a.s))])), (1, (Value.pointer (some ⟨b1, 0, none⟩))), (2, (Value.slice none 0 0)), (6, (Value.int .i64 (sizeF a))), (3, xx.2.1), (7, (Value.int .i64 xx.1))]) (fun (xx : Int × Value × List Int) V' σ' => V = V' ∧ [(Arr 23 b1 [(Value.int .i64 (a.l)), (Value.int .i64 (a.h)), (Value.int .i64 (a.s))]), (Gr 3 1 xx.2.1 xx.2.2.length ((xx.2.2.map (Value.int .i64))))] = σ' ∧ 0 ≤ xx.1 ∧ xx.1 ≤ sizeF a ∧ xx.2.2 = memP a xx.1.toNat) (fun (xx : Int × Value × List Int) => (sizeF a - xx.1).toNat) (0, (Value.slice none 0 0), []) ?_ ?_ ?_
  · exact ⟨rfl, rfl, rfl, rfl, (by first | rfl | (first | omega | simp)), rfl, trivial⟩
  · exact (show V = V ∧ [(Arr 23 b1 [(Value.int .i64 (a.l)), (Value.int .i64 (a.h)), (Value.int .i64 (a.s))]), (Gr 3 1 ((Value.slice none 0 0) : Value) ([] : List Int).length ((([] : List Int).map (Value.int .i64))))] = [(Arr 23 b1 [(Value.int .i64 (a.l)), (Value.int .i64 (a.h)), (Value.int .i64 (a.s))]), (Gr 3 1 ((Value.slice none 0 0)) 0 ([]))] ∧ 0 ≤ (0 : Int) ∧ (0 : Int) ≤ sizeF a ∧ ([] : List Int) = memP a (0 : Int).toNat from ⟨rfl, (show [(Arr 23 b1 [(Value.int .i64 (a.l)), (Value.int .i64 (a.h)), (Value.int .i64 (a.s))]), (Gr 3 1 ((Value.slice none 0 0)) ([] : List Int).length ((([] : List Int).map (Value.int .i64))))] = [(Arr 23 b1 [(Value.int .i64 (a.l)), (Value.int .i64 (a.h)), (Value.int .i64 (a.s))]), (Gr 3 1 ((Value.slice none 0 0)) 0 ([]))] from by rfl), by omega, (size_bd ha).1, rfl⟩)
  rintro ⟨i, v, xs⟩ e1 V0l σ0l hI0
  obtain ⟨rfl, rfl, i1, hi, hx⟩ : V = V0l ∧ [(Arr 23 b1 [(Value.int .i64 (a.l)), (Value.int .i64 (a.h)), (Value.int .i64 (a.s))]), (Gr 3 1 v xs.length ((xs.map (Value.int .i64))))] = σ0l ∧ 0 ≤ i ∧ i ≤ sizeF a ∧ xs = memP a i.toNat := hI0
  change VC _ _ _ _ _ _ (upds 22 [(0, (Value.agg #[(Value.int .i64 (a.l)), (Value.int .i64 (a.h)), (Value.int .i64 (a.s))])), (1, (Value.pointer (some ⟨b1, 0, none⟩))), (2, (Value.slice none 0 0)), (6, (Value.int .i64 (sizeF a))), (3, v), (7, (Value.int .i64 i))] e1) _ _
  refine vc_seq ?_
  refine vc_res (σ' := [(Arr 23 b1 [(Value.int .i64 (a.l)), (Value.int .i64 (a.h)), (Value.int .i64 (a.s))]), (Gr 3 1 v xs.length ((xs.map (Value.int .i64))))]) rfl ?_
  refine vc_region ?_
  refine oq (qv_lss rfl rfl) ?_
  refine ops_nil ?_
  refine vc_seq ?_
  refine vc_if rfl (fun c1 => ?_) (fun c1 => ?_)
  ·
    refine vc_skip ?_
    refine vc_seq ?_
    refine vc_block ?_
    refine vc_seq ?_
    refine vc_region ?_
    refine oq (qv_mv (Value.int .i64 i) rfl) ?_
    refine oq (qv_as (Value.int .i64 i) rfl) ?_
    refine ops_nil ?_
    have hm := size_mul ha (show 0 ≤ i by omega) (by omega)
    have hxl : xs.length = i.toNat := by rw [hx, memP_len]
    refine vc_region ?_
    refine oq (qv_mv v rfl) ?_
    refine oq (qv_fa (off := 0) Try.field23_0 rfl) ?_
    refine oq (qv_ldp (v := (Value.int .i64 (a.l))) Try.plain3 rfl (inOc (k := 0) rfl) rfl) ?_
    refine oq (qv_mv (Value.int .i64 i) rfl) ?_
    refine oq (qv_fa (off := 0) Try.field23_2 rfl) ?_
    refine oq (qv_ldp (v := (Value.int .i64 (a.s))) Try.plain3 rfl (inOc (k := 0) rfl) rfl) ?_
    refine oq (qv_mul rfl rfl (by omega)) ?_
    refine oq (qv_add rfl rfl (by omega)) ?_
    refine ops_lit (n := 1) (s := 1) (cs := [(Value.int .i64 (a.l + (i * a.s)))]) Try.underlying37 Try.ti3 (Nat.le_of_ble_eq_true rfl) rfl rfl rfl (Nat.le_of_ble_eq_true rfl) rfl (fun b2 => ?_)
    refine ops_append (k := 1) (n := xs.length) (s := 1) (m := 1) (v := v) (xs := (xs.map (Value.int .i64))) (news := [(Value.int .i64 (a.l + (i * a.s)))]) Try.underlying37 Try.ti3 rfl (Nat.le_of_ble_eq_true rfl) rfl rfl rfl rfl (news_own (j := 2) rfl) (by simp [Value.oneCell']) (by omega) (by simp only [maxLen]; omega) (fun v1 hn1 => ?_)
    refine oq (qv_as v1 rfl) ?_
    refine ops_nil ?_
    refine vc_res (σ' := [(Arr 23 b1 [(Value.int .i64 (a.l)), (Value.int .i64 (a.h)), (Value.int .i64 (a.s))]), (Gr 3 1 v1 ((xs.length + 1)) (((xs.map (Value.int .i64)) ++ [(Value.int .i64 (a.l + (i * a.s)))]))), (Arr 3 b2 [(Value.int .i64 (a.l + (i * a.s)))])]) rfl ?_
    refine vc_drop [(Arr 23 b1 [(Value.int .i64 (a.l)), (Value.int .i64 (a.h)), (Value.int .i64 (a.s))]), (Gr 3 1 v1 ((xs.length + 1)) (((xs.map (Value.int .i64)) ++ [(Value.int .i64 (a.l + (i * a.s)))])))] [(Arr 3 b2 [(Value.int .i64 (a.l + (i * a.s)))])] ((List.perm_middle (l₁ := [(Arr 23 b1 [(Value.int .i64 (a.l)), (Value.int .i64 (a.h)), (Value.int .i64 (a.s))]), (Gr 3 1 v1 ((xs.length + 1)) (((xs.map (Value.int .i64)) ++ [(Value.int .i64 (a.l + (i * a.s)))])))]) (l₂ := [])).trans (List.perm_append_comm (l₁ := [(Arr 3 b2 [(Value.int .i64 (a.l + (i * a.s)))])]))) ?_
    refine vc_region ?_
    refine oq (qv_add rfl rfl (by omega)) ?_
    refine oq (qv_mv (Value.int .i64 (i + 1)) rfl) ?_
    refine ops_nil ?_
    refine ⟨(i + 1, v1, xs ++ [a.l + i * a.s]), ⟨rfl, rfl, rfl, rfl, rfl, (congrArg (Value.int .i64) (show (i + 1) = ((i + 1)) from by omega)), trivial⟩, (show V = V ∧ [(Arr 23 b1 [(Value.int .i64 (a.l)), (Value.int .i64 (a.h)), (Value.int .i64 (a.s))]), (Gr 3 1 v1 (xs ++ [a.l + i * a.s] : List Int).length (((xs ++ [a.l + i * a.s] : List Int).map (Value.int .i64))))] = [(Arr 23 b1 [(Value.int .i64 (a.l)), (Value.int .i64 (a.h)), (Value.int .i64 (a.s))]), (Gr 3 1 v1 ((xs.length + 1)) (((xs.map (Value.int .i64)) ++ [(Value.int .i64 (a.l + (i * a.s)))])))] ∧ 0 ≤ (i + 1 : Int) ∧ (i + 1 : Int) ≤ sizeF a ∧ (xs ++ [a.l + i * a.s] : List Int) = memP a (i + 1 : Int).toNat from ⟨rfl, (show [(Arr 23 b1 [(Value.int .i64 (a.l)), (Value.int .i64 (a.h)), (Value.int .i64 (a.s))]), (Gr 3 1 v1 (xs ++ [a.l + i * a.s] : List Int).length (((xs ++ [a.l + i * a.s] : List Int).map (Value.int .i64))))] = [(Arr 23 b1 [(Value.int .i64 (a.l)), (Value.int .i64 (a.h)), (Value.int .i64 (a.s))]), (Gr 3 1 v1 ((xs.length + 1)) (((xs.map (Value.int .i64)) ++ [(Value.int .i64 (a.l + (i * a.s)))])))] from by simp), by omega, by omega, by rw [memP_succ a (by omega), hx]⟩), show (sizeF a - (i + 1)).toNat < (sizeF a - i).toNat from by omega⟩
  ·
    refine vc_exit ?_
    refine blockQ_hit ?_
    refine vc_seq ?_
    refine vc_freezeG (v := v) (E := 3) (n := xs.length) (xs := (xs.map (Value.int .i64))) (σr := [(Arr 23 b1 [(Value.int .i64 (a.l)), (Value.int .i64 (a.h)), (Value.int .i64 (a.s))])]) (List.perm_middle (l₁ := [(Arr 23 b1 [(Value.int .i64 (a.l)), (Value.int .i64 (a.h)), (Value.int .i64 (a.s))])]) (l₂ := [])) (fun Vf1 hVf1 hc1 => ?_)
    refine vc_drop [] [(Arr 23 b1 [(Value.int .i64 (a.l)), (Value.int .i64 (a.h)), (Value.int .i64 (a.s))])] ((List.perm_middle (l₁ := []) (l₂ := [])).trans (List.perm_append_comm (l₁ := [(Arr 23 b1 [(Value.int .i64 (a.l)), (Value.int .i64 (a.h)), (Value.int .i64 (a.s))])]))) ?_
    refine vc_region ?_
    refine oq (qv_mv v rfl) ?_
    refine oq (qv_as v rfl) ?_
    refine ops_nil ?_
    refine vc_ret ?_
    refine rq1 v rfl ?_
    exact ⟨rfl, by rw [memF, show (sizeF a).toNat = i.toNat by omega, ← hx]; exact hc1⟩

set_option maxRecDepth 100000 in
set_option maxHeartbeats 4000000 in
theorem rMembers_c {V : HV} {a : Nm} (ha : vld a) (hz : sizeF a ≤ 4096) :
    FnC Try.prog 48 [(Value.agg #[(Value.int .i64 (a.l)), (Value.int .i64 (a.h)), (Value.int .i64 (a.s))])] V [] (fun v V' σ' => σ' = [] ∧ Ints .i64 V' v (memF a)) := by
  refine fn_intro (N := 19) Try.func48 (by kernel_rfl) rfl rfl rfl (Nat.le_of_ble_eq_true rfl) ?_
  intro w0 D
  have ba := vld_bd ha
  unfold fits at ba
  have hsz := sizeV_1 ha
  refine vc_seq ?_
  refine vc_region ?_
  refine ops_box (v := (Value.agg #[(Value.int .i64 (a.l)), (Value.int .i64 (a.h)), (Value.int .i64 (a.s))])) (cs := [(Value.int .i64 (a.l)), (Value.int .i64 (a.h)), (Value.int .i64 (a.s))]) rfl rfl (fun b1 => ?_)
  refine oq (qv_as (Value.slice none 0 0) rfl) ?_
  refine ops_nil ?_
  refine vc_seq ?_
  refine vc_res (σ' := [(Arr 23 b1 [(Value.int .i64 (a.l)), (Value.int .i64 (a.h)), (Value.int .i64 (a.s))])]) rfl ?_
  refine vc_region ?_
  refine ops_lit (n := 0) (s := 1) (cs := []) Try.underlying37 Try.ti3 (Nat.le_of_ble_eq_true rfl) rfl rfl rfl (Nat.le_of_ble_eq_true rfl) rfl (fun b2 => ?_)
  refine oq (qv_as (Value.slice (some ⟨b2, 0, none⟩) 0 0) rfl) ?_
  refine ops_nil ?_
  refine vc_seq ?_
  refine vc_seq ?_
  refine vc_res (σ' := [(Arr 23 b1 [(Value.int .i64 (a.l)), (Value.int .i64 (a.h)), (Value.int .i64 (a.s))]), (Arr 3 b2 [])]) rfl ?_
  refine vc_region ?_
  refine ops_to_gr (k := 1) (b := b2) (n := 0) (cap := 0) (cs := #[]) 1 [] rfl rfl (Nat.le_refl _) (Nat.zero_le _) rfl rfl ?_
  refine oq (qv_as (Value.int .i64 0) rfl) ?_
  refine ops_nil ?_
  refine vc_block ?_
  refine vc_loop (α := Int × Value × List Int) (fun (xx : Int × Value × List Int) => [(0, (Value.agg #[(Value.int .i64 (a.l)), (Value.int .i64 (a.h)), (Value.int .i64 (a.s))])), (1, (Value.pointer (some ⟨b1, 0, none⟩))), (2, (Value.slice none 0 0)), (3, xx.2.1), (4, (Value.int .i64 xx.1))]) (fun (xx : Int × Value × List Int) V' σ' => V = V' ∧ [(Arr 23 b1 [(Value.int .i64 (a.l)), (Value.int .i64 (a.h)), (Value.int .i64 (a.s))]), (Gr 3 1 xx.2.1 xx.2.2.length ((xx.2.2.map (Value.int .i64))))] = σ' ∧ 0 ≤ xx.1 ∧ xx.1 ≤ sizeF a ∧ xx.2.2 = memP a xx.1.toNat) (fun (xx : Int × Value × List Int) => (sizeF a - xx.1).toNat) (0, (Value.slice (some ⟨b2, 0, none⟩) 0 0), []) ?_ ?_ ?_
  · exact ⟨rfl, rfl, rfl, (by first | rfl | (first | omega | simp)), rfl, trivial⟩
  · exact (show V = V ∧ [(Arr 23 b1 [(Value.int .i64 (a.l)), (Value.int .i64 (a.h)), (Value.int .i64 (a.s))]), (Gr 3 1 ((Value.slice (some ⟨b2, 0, none⟩) 0 0) : Value) ([] : List Int).length ((([] : List Int).map (Value.int .i64))))] = [(Arr 23 b1 [(Value.int .i64 (a.l)), (Value.int .i64 (a.h)), (Value.int .i64 (a.s))]), (Gr 3 1 ((Value.slice (some ⟨b2, 0, none⟩) 0 0)) 0 ([]))] ∧ 0 ≤ (0 : Int) ∧ (0 : Int) ≤ sizeF a ∧ ([] : List Int) = memP a (0 : Int).toNat from ⟨rfl, (show [(Arr 23 b1 [(Value.int .i64 (a.l)), (Value.int .i64 (a.h)), (Value.int .i64 (a.s))]), (Gr 3 1 ((Value.slice (some ⟨b2, 0, none⟩) 0 0)) ([] : List Int).length ((([] : List Int).map (Value.int .i64))))] = [(Arr 23 b1 [(Value.int .i64 (a.l)), (Value.int .i64 (a.h)), (Value.int .i64 (a.s))]), (Gr 3 1 ((Value.slice (some ⟨b2, 0, none⟩) 0 0)) 0 ([]))] from by rfl), by omega, (size_bd ha).1, rfl⟩)
  rintro ⟨i, v, xs⟩ e1 V0l σ0l hI0
  obtain ⟨rfl, rfl, i1, hi, hx⟩ : V = V0l ∧ [(Arr 23 b1 [(Value.int .i64 (a.l)), (Value.int .i64 (a.h)), (Value.int .i64 (a.s))]), (Gr 3 1 v xs.length ((xs.map (Value.int .i64))))] = σ0l ∧ 0 ≤ i ∧ i ≤ sizeF a ∧ xs = memP a i.toNat := hI0
  change VC _ _ _ _ _ _ (upds 19 [(0, (Value.agg #[(Value.int .i64 (a.l)), (Value.int .i64 (a.h)), (Value.int .i64 (a.s))])), (1, (Value.pointer (some ⟨b1, 0, none⟩))), (2, (Value.slice none 0 0)), (3, v), (4, (Value.int .i64 i))] e1) _ _
  refine vc_seq ?_
  refine vc_seq ?_
  refine vc_res (σ' := [(Arr 23 b1 [(Value.int .i64 (a.l)), (Value.int .i64 (a.h)), (Value.int .i64 (a.s))]), (Gr 3 1 v xs.length ((xs.map (Value.int .i64))))]) rfl ?_
  refine vc_region ?_
  refine oq (qv_mv (Value.int .i64 i) rfl) ?_
  refine oq (qv_ldm (vs := [(Value.int .i64 (a.l)), (Value.int .i64 (a.h)), (Value.int .i64 (a.s))]) Try.agg23 rfl (inOc (k := 0) rfl) rfl rfl) ?_
  refine oq (qv_call (v := (Value.int .i64 (sizeV a))) (rSize_c (a := a)) rfl rfl) ?_
  refine oq (qv_lss rfl rfl) ?_
  refine ops_nil ?_
  refine vc_if rfl (fun c1 => ?_) (fun c1 => ?_)
  ·
    refine vc_skip ?_
    refine vc_seq ?_
    refine vc_block ?_
    have hm := size_mul ha (show 0 ≤ i by omega) (by omega)
    have hxl : xs.length = i.toNat := by rw [hx, memP_len]
    refine vc_region ?_
    refine oq (qv_mv v rfl) ?_
    refine oq (qv_ldm (vs := [(Value.int .i64 (a.l)), (Value.int .i64 (a.h)), (Value.int .i64 (a.s))]) Try.agg23 rfl (inOc (k := 0) rfl) rfl rfl) ?_
    refine oq (qv_mv (Value.int .i64 i) rfl) ?_
    refine oq (qv_call (v := (Value.int .i64 (a.l + i * a.s))) (rAt_c ha (by omega) (by omega)) rfl rfl) ?_
    refine ops_lit (n := 1) (s := 1) (cs := [(Value.int .i64 (a.l + i * a.s))]) Try.underlying37 Try.ti3 (Nat.le_of_ble_eq_true rfl) rfl rfl rfl (Nat.le_of_ble_eq_true rfl) rfl (fun b3 => ?_)
    refine ops_append (k := 1) (n := xs.length) (s := 1) (m := 1) (v := v) (xs := (xs.map (Value.int .i64))) (news := [(Value.int .i64 (a.l + i * a.s))]) Try.underlying37 Try.ti3 rfl (Nat.le_of_ble_eq_true rfl) rfl rfl rfl rfl (news_own (j := 2) rfl) (by simp [Value.oneCell']) (by omega) (by simp only [maxLen]; omega) (fun v1 hn1 => ?_)
    refine oq (qv_as v1 rfl) ?_
    refine ops_nil ?_
    refine vc_res (σ' := [(Arr 23 b1 [(Value.int .i64 (a.l)), (Value.int .i64 (a.h)), (Value.int .i64 (a.s))]), (Gr 3 1 v1 ((xs.length + 1)) (((xs.map (Value.int .i64)) ++ [(Value.int .i64 (a.l + i * a.s))]))), (Arr 3 b3 [(Value.int .i64 (a.l + i * a.s))])]) rfl ?_
    refine vc_drop [(Arr 23 b1 [(Value.int .i64 (a.l)), (Value.int .i64 (a.h)), (Value.int .i64 (a.s))]), (Gr 3 1 v1 ((xs.length + 1)) (((xs.map (Value.int .i64)) ++ [(Value.int .i64 (a.l + i * a.s))])))] [(Arr 3 b3 [(Value.int .i64 (a.l + i * a.s))])] ((List.perm_middle (l₁ := [(Arr 23 b1 [(Value.int .i64 (a.l)), (Value.int .i64 (a.h)), (Value.int .i64 (a.s))]), (Gr 3 1 v1 ((xs.length + 1)) (((xs.map (Value.int .i64)) ++ [(Value.int .i64 (a.l + i * a.s))])))]) (l₂ := [])).trans (List.perm_append_comm (l₁ := [(Arr 3 b3 [(Value.int .i64 (a.l + i * a.s))])]))) ?_
    refine vc_region ?_
    refine oq (qv_mv (Value.int .i64 i) rfl) ?_
    refine oq (qv_add rfl rfl (by omega)) ?_
    refine oq (qv_as (Value.int .i64 (i + 1)) rfl) ?_
    refine ops_nil ?_
    refine ⟨(i + 1, v1, xs ++ [a.l + i * a.s]), ⟨rfl, rfl, rfl, rfl, (congrArg (Value.int .i64) (show (i + 1) = ((i + 1)) from by omega)), trivial⟩, (show V = V ∧ [(Arr 23 b1 [(Value.int .i64 (a.l)), (Value.int .i64 (a.h)), (Value.int .i64 (a.s))]), (Gr 3 1 v1 (xs ++ [a.l + i * a.s] : List Int).length (((xs ++ [a.l + i * a.s] : List Int).map (Value.int .i64))))] = [(Arr 23 b1 [(Value.int .i64 (a.l)), (Value.int .i64 (a.h)), (Value.int .i64 (a.s))]), (Gr 3 1 v1 ((xs.length + 1)) (((xs.map (Value.int .i64)) ++ [(Value.int .i64 (a.l + i * a.s))])))] ∧ 0 ≤ (i + 1 : Int) ∧ (i + 1 : Int) ≤ sizeF a ∧ (xs ++ [a.l + i * a.s] : List Int) = memP a (i + 1 : Int).toNat from ⟨rfl, (show [(Arr 23 b1 [(Value.int .i64 (a.l)), (Value.int .i64 (a.h)), (Value.int .i64 (a.s))]), (Gr 3 1 v1 (xs ++ [a.l + i * a.s] : List Int).length (((xs ++ [a.l + i * a.s] : List Int).map (Value.int .i64))))] = [(Arr 23 b1 [(Value.int .i64 (a.l)), (Value.int .i64 (a.h)), (Value.int .i64 (a.s))]), (Gr 3 1 v1 ((xs.length + 1)) (((xs.map (Value.int .i64)) ++ [(Value.int .i64 (a.l + i * a.s))])))] from by simp), by omega, by omega, by rw [memP_succ a (by omega), hx]⟩), show (sizeF a - (i + 1)).toNat < (sizeF a - i).toNat from by omega⟩
  ·
    refine vc_exit ?_
    refine blockQ_hit ?_
    refine vc_seq ?_
    refine vc_freezeG (v := v) (E := 3) (n := xs.length) (xs := (xs.map (Value.int .i64))) (σr := [(Arr 23 b1 [(Value.int .i64 (a.l)), (Value.int .i64 (a.h)), (Value.int .i64 (a.s))])]) (List.perm_middle (l₁ := [(Arr 23 b1 [(Value.int .i64 (a.l)), (Value.int .i64 (a.h)), (Value.int .i64 (a.s))])]) (l₂ := [])) (fun Vf1 hVf1 hc1 => ?_)
    refine vc_drop [] [(Arr 23 b1 [(Value.int .i64 (a.l)), (Value.int .i64 (a.h)), (Value.int .i64 (a.s))])] ((List.perm_middle (l₁ := []) (l₂ := [])).trans (List.perm_append_comm (l₁ := [(Arr 23 b1 [(Value.int .i64 (a.l)), (Value.int .i64 (a.h)), (Value.int .i64 (a.s))])]))) ?_
    refine vc_region ?_
    refine oq (qv_mv v rfl) ?_
    refine oq (qv_as v rfl) ?_
    refine ops_nil ?_
    refine vc_ret ?_
    refine rq1 v rfl ?_
    exact ⟨rfl, by rw [memF, show (sizeF a).toNat = i.toNat by omega, ← hx]; exact hc1⟩

set_option maxRecDepth 100000 in
set_option maxHeartbeats 4000000 in
theorem Members_c {V : HV} {a : Nm} :
    FnC Try.prog 46 [(Value.agg #[(Value.int .i64 (a.l)), (Value.int .i64 (a.h)), (Value.int .i64 (a.s))])] V [] (fun v V' σ' => σ' = [] ∧ ∃ s, v = .tuple #[s, .int .i64 (mbE a)] ∧ Ints .i64 V' s (mbL a)) := by
  refine fn_intro (N := 12) Try.func46 (by kernel_rfl) rfl rfl rfl (Nat.le_of_ble_eq_true rfl) ?_
  intro w0 D
  refine vc_seq ?_
  refine vc_region ?_
  refine ops_box (v := (Value.agg #[(Value.int .i64 (a.l)), (Value.int .i64 (a.h)), (Value.int .i64 (a.s))])) (cs := [(Value.int .i64 (a.l)), (Value.int .i64 (a.h)), (Value.int .i64 (a.s))]) rfl rfl (fun b1 => ?_)
  refine oq (qv_as (Value.slice none 0 0) rfl) ?_
  refine oq (qv_as (Value.int .i64 0) rfl) ?_
  refine ops_nil ?_
  refine vc_seq ?_
  refine vc_seq ?_
  refine vc_res (σ' := [(Arr 23 b1 [(Value.int .i64 (a.l)), (Value.int .i64 (a.h)), (Value.int .i64 (a.s))])]) rfl ?_
  refine vc_region ?_
  refine oq (qv_ldm (vs := [(Value.int .i64 (a.l)), (Value.int .i64 (a.h)), (Value.int .i64 (a.s))]) Try.agg23 rfl (inOc (k := 0) rfl) rfl rfl) ?_
  refine oq (qv_call (v := (Value.bool (decide (vld a)))) (Valid_c (a := a)) rfl rfl) ?_
  refine oq (qv_not rfl) ?_
  refine ops_nil ?_
  refine vc_if rfl (fun c1 => ?_) (fun c1 => ?_)
  ·
    refine vc_seq ?_
    refine vc_region ?_
    refine oq (qv_as (Value.slice none 0 0) rfl) ?_
    refine oq (qv_as (Value.int .i64 1) rfl) ?_
    refine ops_nil ?_
    refine vc_drop [] [(Arr 23 b1 [(Value.int .i64 (a.l)), (Value.int .i64 (a.h)), (Value.int .i64 (a.s))])] (.refl _) ?_
    refine vc_ret ?_
    refine rq2 (Value.slice none 0 0) (Value.int .i64 1) rfl rfl ?_
    exact ⟨rfl, _, by rw [mbE_1 (by assumption)], by rw [mbL_1 (by rw [mbE_1 (by assumption)]; omega)]; exact Ints.nil⟩
  ·
    refine vc_skip ?_
    refine vc_seq ?_
    refine vc_seq ?_
    have hv : vld a := Decidable.not_not.1 (by assumption)
    refine vc_region ?_
    refine oq (qv_ldm (vs := [(Value.int .i64 (a.l)), (Value.int .i64 (a.h)), (Value.int .i64 (a.s))]) Try.agg23 rfl (inOc (k := 0) rfl) rfl rfl) ?_
    refine oq (qv_call (v := (Value.int .i64 (sizeF a))) (size_c (a := a) (by assumption)) rfl rfl) ?_
    refine oq (qv_gtr rfl rfl) ?_
    refine ops_nil ?_
    refine vc_if rfl (fun c2 => ?_) (fun c2 => ?_)
    ·
      refine vc_seq ?_
      refine vc_region ?_
      refine oq (qv_as (Value.slice none 0 0) rfl) ?_
      refine oq (qv_as (Value.int .i64 4) rfl) ?_
      refine ops_nil ?_
      refine vc_drop [] [(Arr 23 b1 [(Value.int .i64 (a.l)), (Value.int .i64 (a.h)), (Value.int .i64 (a.s))])] (.refl _) ?_
      refine vc_ret ?_
      refine rq2 (Value.slice none 0 0) (Value.int .i64 4) rfl rfl ?_
      exact ⟨rfl, _, by rw [mbE_4 hv (by omega)], by rw [mbL_1 (by rw [mbE_4 hv (by omega)]; omega)]; exact Ints.nil⟩
    ·
      refine vc_skip ?_
      refine vc_seq ?_
      refine vc_region ?_
      refine oq (qv_ldm (vs := [(Value.int .i64 (a.l)), (Value.int .i64 (a.h)), (Value.int .i64 (a.s))]) Try.agg23 rfl (inOc (k := 0) rfl) rfl rfl) ?_
      refine ops_call (σa := []) (σr := [(Arr 23 b1 [(Value.int .i64 (a.l)), (Value.int .i64 (a.h)), (Value.int .i64 (a.s))])]) (members_c hv (by omega)) rfl rfl (.refl _) (fun r1 V1 sg1 hV1 hp1 => ?_)
      obtain ⟨rfl, hm⟩ := hp1
      refine oq (qv_as r1 rfl) ?_
      refine oq (qv_as (Value.int .i64 0) rfl) ?_
      refine ops_nil ?_
      refine vc_drop [] [(Arr 23 b1 [(Value.int .i64 (a.l)), (Value.int .i64 (a.h)), (Value.int .i64 (a.s))])] (.refl _) ?_
      refine vc_ret ?_
      refine rq2 r1 (Value.int .i64 0) rfl rfl ?_
      exact ⟨rfl, _, by rw [mbE_0 hv (by omega)], by rw [mbL_0 (mbE_0 hv (by omega))]; exact hm⟩

set_option maxRecDepth 100000 in
set_option maxHeartbeats 4000000 in
theorem Equal_c {V : HV} {a b : Value} {A B : List Int} (ha : Ints .i64 V a A) (hb : Ints .i64 V b B) :
    FnC Try.prog 47 [a, b] V [] (fun v _ _ => v = (Value.bool (decide (A = B)))) := by
  refine fn_intro (N := 26) Try.func47 (by kernel_rfl) rfl rfl rfl (Nat.le_of_ble_eq_true rfl) ?_
  intro w0 D
  have h1 := ha.bound
  have h2 := hb.bound
  refine vc_seq ?_
  refine vc_region ?_
  refine oq (qv_as (Value.bool false) rfl) ?_
  refine ops_nil ?_
  refine vc_seq ?_
  refine vc_seq ?_
  refine vc_region ?_
  refine oq (qv_mv a rfl) ?_
  refine oq (qv_lenI Try.underlying37 rfl ha) ?_
  refine oq (qv_mv b rfl) ?_
  refine oq (qv_lenI Try.underlying37 rfl hb) ?_
  refine oq (qv_neq rfl rfl) ?_
  refine ops_nil ?_
  refine vc_if rfl (fun c1 => ?_) (fun c1 => ?_)
  ·
    refine vc_seq ?_
    refine vc_region ?_
    refine oq (qv_as (Value.bool false) rfl) ?_
    refine ops_nil ?_
    refine vc_ret ?_
    exact rq1 (Value.bool (decide (A = B))) (congrArg Value.bool (decide_eq_false (show ¬ (A = B) from by intro hx; subst hx; omega)).symm) rfl
  ·
    refine vc_skip ?_
    refine vc_seq ?_
    refine vc_seq ?_
    refine vc_region ?_
    refine oq (qv_mv a rfl) ?_
    refine oq (qv_lenI Try.underlying37 rfl ha) ?_
    refine oq (qv_mv (Value.int .i64 0) rfl) ?_
    refine ops_nil ?_
    refine vc_block ?_
    refine vc_loop (α := Int) (fun (xx : Int) => [(0, a), (1, b), (10, (Value.bool (decide (((A.length : Int)) ≠ ((B.length : Int)))))), (12, (Value.int .i64 ((A.length : Int)))), (13, (Value.int .i64 xx))]) (fun (xx : Int) V' σ' => V = V' ∧ [] = σ' ∧ 0 ≤ xx ∧ xx ≤ A.length ∧ ∀ x : Int, 0 ≤ x → x < xx → gi A x = gi B x) (fun (xx : Int) => (A.length - xx).toNat) (0) ?_ ?_ ?_
    · exact ⟨rfl, rfl, rfl, rfl, rfl, trivial⟩
    · exact ⟨rfl, rfl, by omega, by omega, fun x a b => by omega⟩
    rintro p e1 V0l σ0l hI0
    obtain ⟨rfl, rfl, i1, i2, hp⟩ : V = V0l ∧ [] = σ0l ∧ 0 ≤ p ∧ p ≤ A.length ∧ ∀ x : Int, 0 ≤ x → x < p → gi A x = gi B x := hI0
    refine vc_seq ?_
    refine vc_region ?_
    refine oq (qv_lss rfl rfl) ?_
    refine ops_nil ?_
    refine vc_seq ?_
    refine vc_if rfl (fun c2 => ?_) (fun c2 => ?_)
    ·
      refine vc_skip ?_
      refine vc_seq ?_
      refine vc_block ?_
      refine vc_seq ?_
      refine vc_region ?_
      refine oq (qv_mv (Value.int .i64 p) rfl) ?_
      refine oq (qv_as (Value.int .i64 p) rfl) ?_
      refine ops_nil ?_
      refine vc_seq ?_
      refine vc_region_any Try.mixed (by kernel_rfl) ?_
      refine qq (qv_mv a rfl) ?_
      refine qq (qv_mv (Value.int .i64 p) rfl) ?_
      refine qq (qv_iai (v := a) (i := p) Try.underlying37 Try.size3 rfl (inVi ha) rfl (by omega) (by omega)) ?_
      refine qq (qv_ldi (v := a) (i := p) Try.plain3 rfl (inVi ha) (by omega) (by omega)) ?_
      refine qq (qv_mv b rfl) ?_
      refine qq (qv_mv (Value.int .i64 p) rfl) ?_
      refine qq (qv_iai (v := b) (i := p) Try.underlying37 Try.size3 rfl (inVi hb) rfl (by omega) (by omega)) ?_
      refine qq (qv_ldi (v := b) (i := p) Try.plain3 rfl (inVi hb) (by omega) (by omega)) ?_
      refine qq (qv_neq rfl rfl) ?_
      refine qops_nil ?_
      refine vc_if rfl (fun c3 => ?_) (fun c3 => ?_)
      ·
        refine vc_seq ?_
        refine vc_region ?_
        refine oq (qv_as (Value.bool false) rfl) ?_
        refine ops_nil ?_
        refine vc_ret ?_
        refine blockQ_ret ?_
        refine blockQ_ret ?_
        exact rq1 (Value.bool (decide (A = B))) (congrArg Value.bool (decide_eq_false (show ¬ (A = B) from by intro hx; subst hx; omega)).symm) rfl
      ·
        refine vc_skip ?_
        refine vc_region ?_
        refine oq (qv_add rfl rfl (by omega)) ?_
        refine oq (qv_mv (Value.int .i64 (p + 1)) rfl) ?_
        refine ops_nil ?_
        refine ⟨(p + 1), ⟨rfl, rfl, rfl, rfl, (congrArg (Value.int .i64) (show (p + 1) = ((p + 1)) from by omega)), trivial⟩, ⟨rfl, rfl, by omega, by omega, all_snoc hp (by omega)⟩, by omega⟩
    ·
      refine vc_exit ?_
      refine blockQ_hit ?_
      refine vc_seq ?_
      refine vc_region ?_
      refine oq (qv_as (Value.bool true) rfl) ?_
      refine ops_nil ?_
      refine vc_ret ?_
      exact rq1 (Value.bool (decide (A = B))) (congrArg Value.bool (decide_eq_true (show (A = B) from by exact ext_gi (by omega) (fun x a b => hp x a (by omega)))).symm) rfl

set_option maxRecDepth 100000 in
set_option maxHeartbeats 4000000 in
theorem NumericReads_n {V : HV} {a : Nm} {n : Int} :
    FnC Try.prog 9 [(Value.agg #[(Value.int .i64 (a.l)), (Value.int .i64 (a.h)), (Value.int .i64 (a.s))]), (Value.int .i64 n)] V [] (fun v _ _ => v = (Value.bool true)) := by
  refine fn_intro (N := 81) Try.func9 (by kernel_rfl) rfl rfl rfl (Nat.le_of_ble_eq_true rfl) ?_
  intro w0 D
  refine vc_seq ?_
  refine vc_region ?_
  refine ops_box (v := (Value.agg #[(Value.int .i64 (a.l)), (Value.int .i64 (a.h)), (Value.int .i64 (a.s))])) (cs := [(Value.int .i64 (a.l)), (Value.int .i64 (a.h)), (Value.int .i64 (a.s))]) rfl rfl (fun b1 => ?_)
  refine oq (qv_as (Value.bool false) rfl) ?_
  refine ops_nil ?_
  refine vc_seq ?_
  refine vc_seq ?_
  refine vc_res (σ' := [(Arr 23 b1 [(Value.int .i64 (a.l)), (Value.int .i64 (a.h)), (Value.int .i64 (a.s))])]) rfl ?_
  refine vc_region ?_
  refine oq (qv_call (v := (Value.bool true)) (known_c) rfl rfl) ?_
  refine oq (qv_notc rfl) ?_
  refine ops_nil ?_
  refine vc_ff rfl ?_
  refine vc_skip ?_
  refine vc_seq ?_
  refine vc_region ?_
  refine oq (qv_ldm (vs := [(Value.int .i64 (a.l)), (Value.int .i64 (a.h)), (Value.int .i64 (a.s))]) Try.agg23 rfl (inOc (k := 0) rfl) rfl rfl) ?_
  refine oq (qv_call (v := (Value.int .i64 (sizeV a))) (rSize_c (a := a)) rfl rfl) ?_
  refine oq (qv_as (Value.int .i64 (sizeV a)) rfl) ?_
  refine ops_nil ?_
  refine vc_seq ?_
  refine vc_region ?_
  refine oq (qv_ldm (vs := [(Value.int .i64 (a.l)), (Value.int .i64 (a.h)), (Value.int .i64 (a.s))]) Try.agg23 rfl (inOc (k := 0) rfl) rfl rfl) ?_
  refine oq (qv_call (v := (Value.tuple #[(Value.bool (decide (vld a ∧ mem a 0))), (Value.bool (decide (vld a ∧ oth a)))])) (Truth_c (a := a)) rfl rfl) ?_
  refine oq (qv_mv (Value.tuple #[(Value.bool (decide (vld a ∧ mem a 0))), (Value.bool (decide (vld a ∧ oth a)))]) rfl) ?_
  refine oq (qv_ext (Value.bool (decide (vld a ∧ mem a 0))) rfl rfl) ?_
  refine oq (qv_ext (Value.bool (decide (vld a ∧ oth a))) rfl rfl) ?_
  refine oq (qv_as (Value.bool (decide (vld a ∧ mem a 0))) rfl) ?_
  refine oq (qv_as (Value.bool (decide (vld a ∧ oth a))) rfl) ?_
  refine ops_nil ?_
  refine vc_seq ?_
  refine vc_region ?_
  refine oq (qv_ldm (vs := [(Value.int .i64 (a.l)), (Value.int .i64 (a.h)), (Value.int .i64 (a.s))]) Try.agg23 rfl (inOc (k := 0) rfl) rfl rfl) ?_
  refine oq (qv_call (v := (Value.tuple #[(Value.bool (decide (vld a ∧ mem a 0))), (Value.bool (decide (vld a ∧ oth a)))])) (rTruth_c (a := a)) rfl rfl) ?_
  refine oq (qv_mv (Value.tuple #[(Value.bool (decide (vld a ∧ mem a 0))), (Value.bool (decide (vld a ∧ oth a)))]) rfl) ?_
  refine oq (qv_ext (Value.bool (decide (vld a ∧ mem a 0))) rfl rfl) ?_
  refine oq (qv_ext (Value.bool (decide (vld a ∧ oth a))) rfl rfl) ?_
  refine oq (qv_as (Value.bool (decide (vld a ∧ mem a 0))) rfl) ?_
  refine oq (qv_as (Value.bool (decide (vld a ∧ oth a))) rfl) ?_
  refine ops_nil ?_
  refine vc_seq ?_
  refine vc_seq ?_
  refine vc_region_any Try.mixed (by kernel_rfl) ?_
  refine qq (qv_ldm (vs := [(Value.int .i64 (a.l)), (Value.int .i64 (a.h)), (Value.int .i64 (a.s))]) Try.agg23 rfl (inOc (k := 0) rfl) rfl rfl) ?_
  refine qq (qv_mv (Value.int .i64 n) rfl) ?_
  refine qq (qv_call (v := (Value.bool (decide (vld a ∧ mem a n)))) (Has_c (a := a)) rfl rfl) ?_
  refine qq (qv_ldm (vs := [(Value.int .i64 (a.l)), (Value.int .i64 (a.h)), (Value.int .i64 (a.s))]) Try.agg23 rfl (inOc (k := 0) rfl) rfl rfl) ?_
  refine qq (qv_mv (Value.int .i64 n) rfl) ?_
  refine qq (qv_call (v := (Value.bool (decide (vld a ∧ mem a n)))) (rHas_c (a := a)) rfl rfl) ?_
  refine qq (qv_niffb Try.underlying4 rfl rfl) ?_
  refine qq (qv_mv (Value.bool (decide (¬ ((vld a ∧ mem a n) ↔ (vld a ∧ mem a n))))) rfl) ?_
  by_cases g1 : ¬ ((vld a ∧ mem a n) ↔ (vld a ∧ mem a n))
  ·
    exact absurd Iff.rfl g1
  ·
    refine qg (qv_ldm (vs := [(Value.int .i64 (a.l)), (Value.int .i64 (a.h)), (Value.int .i64 (a.s))]) Try.agg23 rfl (inOc (k := 0) rfl) rfl rfl) (want_f g1 rfl rfl rfl) ?_
    refine qg (qv_call (v := (Value.int .i64 (sizeV a))) (Size_c (a := a)) rfl rfl) (want_f g1 rfl rfl rfl) ?_
    refine qg (qv_mv (Value.int .i64 (sizeV a)) rfl) (want_f g1 rfl rfl rfl) ?_
    refine qg (qv_neq rfl rfl) (want_f g1 rfl rfl rfl) ?_
    refine qq (qv_pick_f g1 rfl (rfl : ev _ _ = (Value.bool (decide ((sizeV a) ≠ (sizeV a)))))) ?_
    refine qq (qv_mv (Value.bool (decide ((sizeV a) ≠ (sizeV a)))) rfl) ?_
    by_cases g2 : (sizeV a) ≠ (sizeV a)
    ·
      exact absurd rfl g2
    ·
      refine qg (qv_mv (Value.bool (decide (vld a ∧ mem a 0))) rfl) (want_f g2 rfl rfl rfl) ?_
      refine qg (qv_mv (Value.bool (decide (vld a ∧ mem a 0))) rfl) (want_f g2 rfl rfl rfl) ?_
      refine qg (qv_niffb Try.underlying4 rfl rfl) (want_f g2 rfl rfl rfl) ?_
      refine qq (qv_pick_f g2 rfl (rfl : ev _ _ = (Value.bool (decide (¬ ((vld a ∧ mem a 0) ↔ (vld a ∧ mem a 0))))))) ?_
      refine qq (qv_mv (Value.bool (decide (¬ ((vld a ∧ mem a 0) ↔ (vld a ∧ mem a 0))))) rfl) ?_
      by_cases g3 : ¬ ((vld a ∧ mem a 0) ↔ (vld a ∧ mem a 0))
      ·
        exact absurd Iff.rfl g3
      ·
        refine qg (qv_mv (Value.bool (decide (vld a ∧ oth a))) rfl) (want_f g3 rfl rfl rfl) ?_
        refine qg (qv_mv (Value.bool (decide (vld a ∧ oth a))) rfl) (want_f g3 rfl rfl rfl) ?_
        refine qg (qv_niffb Try.underlying4 rfl rfl) (want_f g3 rfl rfl rfl) ?_
        refine qq (qv_pick_f g3 rfl (rfl : ev _ _ = (Value.bool (decide (¬ ((vld a ∧ oth a) ↔ (vld a ∧ oth a))))))) ?_
        refine qops_nil ?_
        refine vc_if rfl (fun c1 => ?_) (fun c1 => ?_)
        ·
          exact absurd Iff.rfl c1
        ·
          refine vc_skip ?_
          refine vc_seq ?_
          refine vc_region ?_
          refine oq (qv_ldm (vs := [(Value.int .i64 (a.l)), (Value.int .i64 (a.h)), (Value.int .i64 (a.s))]) Try.agg23 rfl (inOc (k := 0) rfl) rfl rfl) ?_
          refine ops_call (σa := []) (σr := [(Arr 23 b1 [(Value.int .i64 (a.l)), (Value.int .i64 (a.h)), (Value.int .i64 (a.s))])]) (Members_c (a := a)) rfl rfl (.refl _) (fun r1 V1 sg1 hV1 hp1 => ?_)
          obtain ⟨rfl, s1, rfl, hm⟩ := hp1
          refine oq (qv_mv (Value.tuple #[s1, (Value.int .i64 (mbE a))]) rfl) ?_
          refine oq (qv_ext s1 rfl rfl) ?_
          refine oq (qv_ext (Value.int .i64 (mbE a)) rfl rfl) ?_
          refine oq (qv_as s1 rfl) ?_
          refine oq (qv_as (Value.int .i64 (mbE a)) rfl) ?_
          refine ops_nil ?_
          refine vc_seq ?_
          refine vc_seq ?_
          refine vc_region ?_
          refine oq (qv_ldm (vs := [(Value.int .i64 (a.l)), (Value.int .i64 (a.h)), (Value.int .i64 (a.s))]) Try.agg23 rfl (inOc (k := 0) rfl) rfl rfl) ?_
          refine oq (qv_call (v := (Value.bool (decide (vld a)))) (rValid_c (a := a)) rfl rfl) ?_
          refine oq (qv_not rfl) ?_
          refine ops_nil ?_
          refine vc_if rfl (fun c2 => ?_) (fun c2 => ?_)
          ·
            refine vc_seq ?_
            have hl : (mbL a).length = 0 := by rw [mbL_1 (by rw [mbE_1 (by assumption)]; omega)]; rfl
            refine vc_region ?_
            refine oq (qv_mv (Value.int .i64 (mbE a)) rfl) ?_
            refine oq (qv_eql rfl rfl) ?_
            refine oq (qv_mv (Value.bool (decide ((mbE a) = 1))) rfl) ?_
            by_cases g4 : (mbE a) = 1
            ·
              refine og (qv_mv s1 rfl) (want_t g4 rfl rfl rfl) ?_
              refine og (qv_lenI Try.underlying37 rfl hm) (want_t g4 rfl rfl rfl) ?_
              refine og (qv_eql rfl rfl) (want_t g4 rfl rfl rfl) ?_
              refine oq (qv_pick_t g4 rfl (rfl : ev _ _ = (Value.bool (decide (((((mbL a)).length : Int)) = 0))))) ?_
              refine oq (qv_as (Value.bool (decide (((((mbL a)).length : Int)) = 0))) rfl) ?_
              refine ops_nil ?_
              refine vc_ret ?_
              exact rq1 (Value.bool true) (congrArg Value.bool (decide_eq_true (show (((((mbL a)).length : Int)) = 0) from by first | omega | exact mbL_0 (by assumption)))) rfl
            ·
              exact absurd (mbE_1 (by assumption)) g4
          ·
            refine vc_skip ?_
            refine vc_seq ?_
            refine vc_seq ?_
            have hv : vld a := Decidable.not_not.1 (by assumption)
            have hsz := sizeV_1 hv
            refine vc_region ?_
            refine oq (qv_mv (Value.int .i64 (sizeV a)) rfl) ?_
            refine oq (qv_gtr rfl rfl) ?_
            refine ops_nil ?_
            refine vc_if rfl (fun c3 => ?_) (fun c3 => ?_)
            ·
              refine vc_seq ?_
              have hl : (mbL a).length = 0 := by rw [mbL_1 (by rw [mbE_4 hv (by omega)]; omega)]; rfl
              refine vc_region ?_
              refine oq (qv_mv (Value.int .i64 (mbE a)) rfl) ?_
              refine oq (qv_eql rfl rfl) ?_
              refine oq (qv_mv (Value.bool (decide ((mbE a) = 4))) rfl) ?_
              by_cases g5 : (mbE a) = 4
              ·
                refine og (qv_mv s1 rfl) (want_t g5 rfl rfl rfl) ?_
                refine og (qv_lenI Try.underlying37 rfl hm) (want_t g5 rfl rfl rfl) ?_
                refine og (qv_eql rfl rfl) (want_t g5 rfl rfl rfl) ?_
                refine oq (qv_pick_t g5 rfl (rfl : ev _ _ = (Value.bool (decide (((((mbL a)).length : Int)) = 0))))) ?_
                refine oq (qv_as (Value.bool (decide (((((mbL a)).length : Int)) = 0))) rfl) ?_
                refine ops_nil ?_
                refine vc_ret ?_
                exact rq1 (Value.bool true) (congrArg Value.bool (decide_eq_true (show (((((mbL a)).length : Int)) = 0) from by first | omega | exact mbL_0 (by assumption)))) rfl
              ·
                exact absurd (mbE_4 hv (by omega)) g5
            ·
              refine vc_skip ?_
              refine vc_seq ?_
              have hz : sizeF a ≤ 4096 := by omega
              refine vc_region ?_
              refine oq (qv_mv (Value.int .i64 (mbE a)) rfl) ?_
              refine oq (qv_eql rfl rfl) ?_
              refine oq (qv_mv (Value.bool (decide ((mbE a) = 0))) rfl) ?_
              by_cases g6 : (mbE a) = 0
              ·
                refine og (qv_mv s1 rfl) (want_t g6 rfl rfl rfl) ?_
                refine og (qv_ldm (vs := [(Value.int .i64 (a.l)), (Value.int .i64 (a.h)), (Value.int .i64 (a.s))]) Try.agg23 rfl (inOc (k := 0) rfl) rfl rfl) (want_t g6 rfl rfl rfl) ?_
                refine ops_want (want_t g6 rfl rfl rfl) ?_
                refine ops_call (σa := []) (σr := [(Arr 23 b1 [(Value.int .i64 (a.l)), (Value.int .i64 (a.h)), (Value.int .i64 (a.s))])]) (rMembers_c hv hz) rfl rfl (.refl _) (fun r2 V2 sg2 hV2 hp2 => ?_)
                obtain ⟨rfl, hm2⟩ := hp2
                have hm := hm.mono hV2
                refine og (qv_call (v := (Value.bool (decide (mbL a = memF a)))) (Equal_c hm hm2) rfl rfl) (want_t g6 rfl rfl rfl) ?_
                refine oq (qv_pick_t g6 rfl (rfl : ev _ _ = (Value.bool (decide (mbL a = memF a))))) ?_
                refine oq (qv_as (Value.bool (decide (mbL a = memF a))) rfl) ?_
                refine ops_nil ?_
                refine vc_ret ?_
                exact rq1 (Value.bool true) (congrArg Value.bool (decide_eq_true (show (mbL a = memF a) from by first | omega | exact mbL_0 (by assumption)))) rfl
              ·
                exact absurd (mbE_0 hv (by omega)) g6

theorem NumericReads_c {V : HV} {al ah ax n : Int} : FnC Try.prog 9 [Value.agg #[.int .i64 al, .int .i64 ah, .int .i64 ax], .int .i64 n] V [] (fun v _ _ => v = .bool true) := NumericReads_n (a := ⟨al, ah, ax⟩)
end Go.Proofs.Ytapkilaikcihgaa
