/- Walks of numeric: what each function returns. Printed by a program out of notes. -/
import Derived.Test.YtapkilaikcihgaaNe
namespace Go.Proofs.Ytapkilaikcihgaa
open Go.Vc
open Classical

set_option maxRecDepth 100000 in
set_option maxHeartbeats 4000000 in
theorem rAt_c {V : HV} {a : Nm} {i : Int} (ha : vld a) (i0 : 0 ≤ i) (i1 : i < sizeF a) :
    FnC Try.prog 34 [(.agg #[(.int .i64 a.l), (.int .i64 a.h), (.int .i64 a.s)]), (Value.int .i64 i)] V [] (fun v _ _ => v = (.int .i64 (a.l + i * a.s))) := by
 refine fn_intro (N := 12) Try.func34 (by kernel_rfl) rfl rfl rfl (Nat.le_of_ble_eq_true rfl) ?_
 intro w0 D
 have ba := vld_bd ha
 unfold fits at ba
 have hm := size_mul ha i0 i1
 refine vc_seq ?_
 refine vc_region ?_
 refine ops_box (v := (.agg #[(.int .i64 a.l), (.int .i64 a.h), (.int .i64 a.s)])) (cs := [(.int .i64 a.l), (.int .i64 a.h), (.int .i64 a.s)]) rfl rfl (fun b1 => ?_)
 refine oq (qv_as (Value.int .i64 0) rfl) ?_
 refine ops_nil ?_
 refine vc_seq ?_
 refine vc_res (σ' := [(Arr 23 b1 [(.int .i64 a.l), (.int .i64 a.h), (.int .i64 a.s)])]) rfl ?_
 refine vc_region ?_
 refine oq (qv_fa (off := 0) Try.field23_0 rfl) ?_
 refine oq (qv_ldp (v := (.int .i64 a.l)) Try.plain3 rfl (inOc (k := 0) rfl) rfl) ?_
 refine oq (qv_mv (Value.int .i64 i) rfl) ?_
 refine oq (qv_fa (off := 0) Try.field23_2 rfl) ?_
 refine oq (qv_ldp (v := (.int .i64 a.s)) Try.plain3 rfl (inOc (k := 0) rfl) rfl) ?_
 refine oq (qv_mul rfl rfl (by omega)) ?_
 refine oq (qv_add rfl rfl (by omega)) ?_
 refine oq (qv_as (.int .i64 (a.l + (i * a.s))) rfl) ?_
 refine ops_nil ?_
 refine vc_ret ?_
 exact rq1 (.int .i64 (a.l + i * a.s)) (congrArg (Value.int .i64) (show (a.l + (i * a.s)) = (a.l + i * a.s) from by rfl)) rfl

set_option maxRecDepth 100000 in
set_option maxHeartbeats 4000000 in
theorem members_c {V : HV} {a : Nm} (ha : vld a) (hz : sizeF a ≤ 4096) :
    FnC Try.prog 80 [(.agg #[(.int .i64 a.l), (.int .i64 a.h), (.int .i64 a.s)])] V [] (fun v V' σ' => σ' = [] ∧ Ints .i64 V' v (memF a)) := by
 refine fn_intro (N := 22) Try.func80 (by kernel_rfl) rfl rfl rfl (Nat.le_of_ble_eq_true rfl) ?_
 intro w0 D
 have ba := vld_bd ha
 unfold fits at ba
 have hsz := sizeV_1 ha
 refine vc_seq ?_
 refine vc_region ?_
 refine ops_box (v := (.agg #[(.int .i64 a.l), (.int .i64 a.h), (.int .i64 a.s)])) (cs := [(.int .i64 a.l), (.int .i64 a.h), (.int .i64 a.s)]) rfl rfl (fun b1 => ?_)
 refine oq (qv_as (Value.slice none 0 0) rfl) ?_
 refine ops_nil ?_
 refine vc_seq ?_
 refine vc_res (σ' := [(Arr 23 b1 [(.int .i64 a.l), (.int .i64 a.h), (.int .i64 a.s)])]) rfl ?_
 refine vc_region ?_
 refine oq (qv_as (Value.slice none 0 0) rfl) ?_
 refine ops_nil ?_
 refine vc_seq ?_
 refine vc_seq ?_
 refine vc_nil 3 1 ?_
 refine vc_region ?_
 refine oq (qv_ldm (vs := [(.int .i64 a.l), (.int .i64 a.h), (.int .i64 a.s)]) Try.agg23 rfl (inOc (k := 0) rfl) rfl rfl) ?_
 refine oq (qv_call (v := (.int .i64 (sizeF a))) (size_c (a := a) (by assumption)) rfl rfl) ?_
 refine oq (qv_mv (Value.int .i64 0) rfl) ?_
 refine ops_nil ?_
 refine vc_block ?_
 refine vc_loop (α := Int × Value × List Int) (fun (xx : Int × Value × List Int) => [(0, (.agg #[(.int .i64 a.l), (.int .i64 a.h), (.int .i64 a.s)])), (1, (Value.pointer (some ⟨b1, 0, none⟩))), (2, (Value.slice none 0 0)), (6, (.int .i64 (sizeF a))), (3, xx.2.1), (7, (Value.int .i64 xx.1))]) (fun (xx : Int × Value × List Int) V' σ' => V = V' ∧ [(Arr 23 b1 [(.int .i64 a.l), (.int .i64 a.h), (.int .i64 a.s)]), (Gr 3 1 xx.2.1 xx.2.2.length ((xx.2.2.map (Value.int .i64))))] = σ' ∧ 0 ≤ xx.1 ∧ xx.1 ≤ sizeF a ∧ xx.2.2 = memP a xx.1.toNat) (fun (xx : Int × Value × List Int) => (sizeF a - xx.1).toNat) (0, (Value.slice none 0 0), []) ?_ ?_ ?_
 · exact ⟨rfl, rfl, rfl, rfl, (by first | rfl | (first | omega | simp)), rfl, trivial⟩
 · exact (show V = V ∧ [(Arr 23 b1 [(.int .i64 a.l), (.int .i64 a.h), (.int .i64 a.s)]), (Gr 3 1 ((Value.slice none 0 0) : Value) ([] : List Int).length ((([] : List Int).map (Value.int .i64))))] = [(Arr 23 b1 [(.int .i64 a.l), (.int .i64 a.h), (.int .i64 a.s)]), (Gr 3 1 ((Value.slice none 0 0)) 0 ([]))] ∧ 0 ≤ (0 : Int) ∧ (0 : Int) ≤ sizeF a ∧ ([] : List Int) = memP a (0 : Int).toNat from ⟨rfl, (show [(Arr 23 b1 [(.int .i64 a.l), (.int .i64 a.h), (.int .i64 a.s)]), (Gr 3 1 ((Value.slice none 0 0)) ([] : List Int).length ((([] : List Int).map (Value.int .i64))))] = [(Arr 23 b1 [(.int .i64 a.l), (.int .i64 a.h), (.int .i64 a.s)]), (Gr 3 1 ((Value.slice none 0 0)) 0 ([]))] from by rfl), by omega, (size_bd ha).1, rfl⟩)
 rintro ⟨i, v, xs⟩ e1 V0l σ0l hI0
 obtain ⟨rfl, rfl, i1, hi, hx⟩ : V = V0l ∧ [(Arr 23 b1 [(.int .i64 a.l), (.int .i64 a.h), (.int .i64 a.s)]), (Gr 3 1 v xs.length ((xs.map (Value.int .i64))))] = σ0l ∧ 0 ≤ i ∧ i ≤ sizeF a ∧ xs = memP a i.toNat := hI0
 change VC _ _ _ _ _ _ (upds 22 [(0, (.agg #[(.int .i64 a.l), (.int .i64 a.h), (.int .i64 a.s)])), (1, (Value.pointer (some ⟨b1, 0, none⟩))), (2, (Value.slice none 0 0)), (6, (.int .i64 (sizeF a))), (3, v), (7, (Value.int .i64 i))] e1) _ _
 refine vc_seq ?_
 refine vc_res (σ' := [(Arr 23 b1 [(.int .i64 a.l), (.int .i64 a.h), (.int .i64 a.s)]), (Gr 3 1 v xs.length ((xs.map (Value.int .i64))))]) rfl ?_
 refine vc_region ?_
 refine oq (qv_lss rfl rfl) ?_
 refine ops_nil ?_
 refine vc_seq ?_
 refine vc_if rfl (fun c1 => ?_) (fun c1 => ?_)
 ·
  refine vc_skip ?_
  refine vc_seq ?_
  refine vc_block ?_
  refine vc_seq ?_
  refine vc_region ?_
  refine oq (qv_mv (Value.int .i64 i) rfl) ?_
  refine oq (qv_as (Value.int .i64 i) rfl) ?_
  refine ops_nil ?_
  have hm := size_mul ha (show 0 ≤ i by omega) (by omega)
  have hxl : xs.length = i.toNat := by rw [hx, memP_len]
  refine vc_region ?_
  refine oq (qv_mv v rfl) ?_
  refine oq (qv_fa (off := 0) Try.field23_0 rfl) ?_
  refine oq (qv_ldp (v := (.int .i64 a.l)) Try.plain3 rfl (inOc (k := 0) rfl) rfl) ?_
  refine oq (qv_mv (Value.int .i64 i) rfl) ?_
  refine oq (qv_fa (off := 0) Try.field23_2 rfl) ?_
  refine oq (qv_ldp (v := (.int .i64 a.s)) Try.plain3 rfl (inOc (k := 0) rfl) rfl) ?_
  refine oq (qv_mul rfl rfl (by omega)) ?_
  refine oq (qv_add rfl rfl (by omega)) ?_
  refine ops_lit (n := 1) (s := 1) (cs := [(.int .i64 (a.l + (i * a.s)))]) Try.underlying37 Try.ti3 (Nat.le_of_ble_eq_true rfl) rfl rfl rfl (Nat.le_of_ble_eq_true rfl) rfl (fun b2 => ?_)
  refine ops_append (k := 1) (n := xs.length) (s := 1) (m := 1) (v := v) (xs := (xs.map (Value.int .i64))) (news := [(.int .i64 (a.l + (i * a.s)))]) Try.underlying37 Try.ti3 rfl (Nat.le_of_ble_eq_true rfl) rfl rfl rfl rfl (news_own (j := 2) rfl) (by simp [Value.oneCell']) (by omega) (by simp only [maxLen]; omega) (fun v1 hn1 => ?_)
  refine oq (qv_as v1 rfl) ?_
  refine ops_nil ?_
  refine vc_res (σ' := [(Arr 23 b1 [(.int .i64 a.l), (.int .i64 a.h), (.int .i64 a.s)]), (Gr 3 1 v1 ((xs.length + 1)) (((xs.map (Value.int .i64)) ++ [(.int .i64 (a.l + (i * a.s)))]))), (Arr 3 b2 [(.int .i64 (a.l + (i * a.s)))])]) rfl ?_
  refine vc_drop [(Arr 23 b1 [(Value.int .i64 (a.l)), (Value.int .i64 (a.h)), (Value.int .i64 (a.s))]), (Gr 3 1 v1 ((xs.length + 1)) (((xs.map (Value.int .i64)) ++ [(Value.int .i64 (a.l + (i * a.s)))])))] [(Arr 3 b2 [(Value.int .i64 (a.l + (i * a.s)))])] ((List.perm_middle (l₁ := [(Arr 23 b1 [(Value.int .i64 (a.l)), (Value.int .i64 (a.h)), (Value.int .i64 (a.s))]), (Gr 3 1 v1 ((xs.length + 1)) (((xs.map (Value.int .i64)) ++ [(Value.int .i64 (a.l + (i * a.s)))])))]) (l₂ := [])).trans (List.perm_append_comm (l₁ := [(Arr 3 b2 [(Value.int .i64 (a.l + (i * a.s)))])]))) ?_
  refine vc_region ?_
  refine oq (qv_add rfl rfl (by omega)) ?_
  refine oq (qv_mv (.int .i64 (i + 1)) rfl) ?_
  refine ops_nil ?_
  refine ⟨(i + 1, v1, xs ++ [a.l + i * a.s]), ⟨rfl, rfl, rfl, rfl, rfl, (congrArg (Value.int .i64) (show (i + 1) = ((i + 1)) from by omega)), trivial⟩, (show V = V ∧ [(Arr 23 b1 [(.int .i64 a.l), (.int .i64 a.h), (.int .i64 a.s)]), (Gr 3 1 v1 (xs ++ [a.l + i * a.s] : List Int).length (((xs ++ [a.l + i * a.s] : List Int).map (Value.int .i64))))] = [(Arr 23 b1 [(.int .i64 a.l), (.int .i64 a.h), (.int .i64 a.s)]), (Gr 3 1 v1 ((xs.length + 1)) (((xs.map (Value.int .i64)) ++ [(.int .i64 (a.l + (i * a.s)))])))] ∧ 0 ≤ (i + 1 : Int) ∧ (i + 1 : Int) ≤ sizeF a ∧ (xs ++ [a.l + i * a.s] : List Int) = memP a (i + 1 : Int).toNat from ⟨rfl, (show [(Arr 23 b1 [(.int .i64 a.l), (.int .i64 a.h), (.int .i64 a.s)]), (Gr 3 1 v1 (xs ++ [a.l + i * a.s] : List Int).length (((xs ++ [a.l + i * a.s] : List Int).map (Value.int .i64))))] = [(Arr 23 b1 [(.int .i64 a.l), (.int .i64 a.h), (.int .i64 a.s)]), (Gr 3 1 v1 ((xs.length + 1)) (((xs.map (Value.int .i64)) ++ [(.int .i64 (a.l + (i * a.s)))])))] from by simp), by omega, by omega, by rw [memP_succ a (by omega), hx]⟩), show (sizeF a - (i + 1)).toNat < (sizeF a - i).toNat from by omega⟩
 ·
  refine vc_exit ?_
  refine blockQ_hit ?_
  refine vc_seq ?_
  refine vc_freezeG (v := v) (E := 3) (n := xs.length) (xs := (xs.map (Value.int .i64))) (σr := [(Arr 23 b1 [(Value.int .i64 (a.l)), (Value.int .i64 (a.h)), (Value.int .i64 (a.s))])]) (List.perm_middle (l₁ := [(Arr 23 b1 [(Value.int .i64 (a.l)), (Value.int .i64 (a.h)), (Value.int .i64 (a.s))])]) (l₂ := [])) (fun Vf1 hVf1 hc1 => ?_)
  refine vc_drop [] [(Arr 23 b1 [(Value.int .i64 (a.l)), (Value.int .i64 (a.h)), (Value.int .i64 (a.s))])] ((List.perm_middle (l₁ := []) (l₂ := [])).trans (List.perm_append_comm (l₁ := [(Arr 23 b1 [(Value.int .i64 (a.l)), (Value.int .i64 (a.h)), (Value.int .i64 (a.s))])]))) ?_
  refine vc_region ?_
  refine oq (qv_mv v rfl) ?_
  refine oq (qv_as v rfl) ?_
  refine ops_nil ?_
  refine vc_ret ?_
  refine rq1 v rfl ?_
  exact ⟨rfl, by rw [memF, show (sizeF a).toNat = i.toNat by omega, ← hx]; exact hc1⟩

end Go.Proofs.Ytapkilaikcihgaa
