/- Walks of bdd: what each function returns. Printed by a program out of notes. -/
import Derived.Test.YtgehdgeiikjohaaBd
import Derived.Test.YtgehdgeiikjohaaWd
namespace Go.Proofs.Ytgehdgeiikjohaa
open Go.Vc
open Classical

set_option maxRecDepth 100000 in
set_option maxHeartbeats 4000000 in
theorem node_c {V : HV} {M : List Fk} {v l h : Int} {bb bi : Nat} {u : Value} (hM : M.length ≤ 4398046511104) :
    FnC Try.prog 66 [(Value.pointer (some ⟨bb, 0, none⟩)), (Value.int .i64 v), (Value.int .i64 l), (Value.int .i64 h)] V [(Arr 95 bb [u, (Value.map (some bi))]), (Gr 42 3 u M.length ((fks M))), (Mf bi fkv (Value.int .i64) (idxF M))] (fun w _ σ' => w = .int .i64 (nodeR M v l h).2 ∧ ∃ u', σ' = [Arr 95 bb [u', .map (some bi)], Gr 42 3 u' (nodeR M v l h).1.length (fks (nodeR M v l h).1), Mf bi fkv (Value.int .i64) (idxF (nodeR M v l h).1)]) := by
 refine fn_intro (N := 59) Try.func66 (by kernel_rfl) rfl rfl rfl (Nat.le_of_ble_eq_true rfl) ?_
 intro w0 D
 refine vc_seq ?_
 refine vc_res (σ' := [(Arr 95 bb [u, (Value.map (some bi))]), (Gr 42 3 u M.length ((fks M))), (Mf bi fkv (Value.int .i64) (idxF M))]) rfl ?_
 refine vc_region ?_
 refine oq (qv_as (Value.int .i64 0) rfl) ?_
 refine ops_nil ?_
 refine vc_seq ?_
 refine vc_seq ?_
 refine vc_region ?_
 refine oq (qv_mv (Value.int .i64 l) rfl) ?_
 refine oq (qv_mv (Value.int .i64 h) rfl) ?_
 refine oq (qv_eql rfl rfl) ?_
 refine ops_nil ?_
 refine vc_if rfl (fun c1 => ?_) (fun c1 => ?_)
 ·
  refine vc_seq ?_
  refine vc_region ?_
  refine oq (qv_mv (Value.int .i64 l) rfl) ?_
  refine oq (qv_as (Value.int .i64 l) rfl) ?_
  refine ops_nil ?_
  refine vc_ret ?_
  refine rq1 (Value.int .i64 l) rfl ?_
  rw [node_eq (by assumption)]; exact ⟨rfl, u, rfl⟩
 ·
  refine vc_skip ?_
  refine vc_seq ?_
  refine vc_region ?_
  refine oq (qv_mv (Value.int .i64 v) rfl) ?_
  refine oq (qv_mv (Value.int .i64 l) rfl) ?_
  refine oq (qv_mv (Value.int .i64 h) rfl) ?_
  refine oq (qv_build (out := [(Value.int .i64 v), (Value.int .i64 l), (Value.int .i64 h)]) Try.build42 [(0, [(Value.int .i64 v)]), (1, [(Value.int .i64 l)]), (2, [(Value.int .i64 h)])] rfl rfl) ?_
  refine ops_alloc Try.ti42 rfl (fun b1 => ?_)
  refine ops_stw (k := 3) (vs := [(Value.int .i64 v), (Value.int .i64 l), (Value.int .i64 h)]) Try.size42 rfl rfl rfl rfl rfl rfl ?_
  refine ops_nil ?_
  refine vc_seq ?_
  refine vc_seq ?_
  refine vc_res (σ' := [(Arr 95 bb [u, (Value.map (some bi))]), (Gr 42 3 u M.length ((fks M))), (Mf bi fkv (Value.int .i64) (idxF M)), (Arr 42 b1 [(Value.int .i64 v), (Value.int .i64 l), (Value.int .i64 h)])]) rfl ?_
  refine vc_region_any Try.mixed (by kernel_rfl) ?_
  refine qq (qv_mv (Value.pointer (some ⟨bb, 0, none⟩)) rfl) ?_
  refine qq (qv_nilck rfl) ?_
  refine qq (qv_fa (off := 0) Try.field95_1 rfl) ?_
  refine qq (qv_ldp (v := (Value.map (some bi))) Try.plain93 rfl (inOc (k := 0) rfl) rfl) ?_
  refine qq (qv_ldm (vs := [(Value.int .i64 v), (Value.int .i64 l), (Value.int .i64 h)]) Try.agg42 rfl (inOc (k := 3) rfl) rfl rfl) ?_
  refine qq (qv_look (a0 := 0) (key := (⟨v, l, h⟩ : Fk)) (k := 2) Try.underlying93 fk_key Try.ti3 rfl rfl rfl) ?_
  refine qq (qv_mv (.tuple #[(.int .i64 (((idxF M) ((⟨v, l, h⟩ : Fk))).getD 0)), (.bool (decide (((idxF M) ((⟨v, l, h⟩ : Fk))).isSome = true)))]) rfl) ?_
  refine qq (qv_ext (.int .i64 (((idxF M) ((⟨v, l, h⟩ : Fk))).getD 0)) rfl rfl) ?_
  refine qq (qv_ext (.bool (decide (((idxF M) ((⟨v, l, h⟩ : Fk))).isSome = true))) rfl rfl) ?_
  refine qq (qv_as (.int .i64 (((idxF M) ((⟨v, l, h⟩ : Fk))).getD 0)) rfl) ?_
  refine qq (qv_as (.bool (decide (((idxF M) ((⟨v, l, h⟩ : Fk))).isSome = true))) rfl) ?_
  refine qops_nil ?_
  refine vc_seq ?_
  refine vc_region ?_
  refine oq (qv_mv (.bool (decide (((idxF M) ((⟨v, l, h⟩ : Fk))).isSome = true))) rfl) ?_
  refine ops_nil ?_
  refine vc_if rfl (fun c2 => ?_) (fun c2 => ?_)
  ·
   refine vc_seq ?_
   refine vc_region ?_
   refine oq (qv_mv (.int .i64 (((idxF M) ((⟨v, l, h⟩ : Fk))).getD 0)) rfl) ?_
   refine oq (qv_as (.int .i64 (((idxF M) ((⟨v, l, h⟩ : Fk))).getD 0)) rfl) ?_
   refine ops_nil ?_
   refine vc_drop [(Arr 95 bb [u, (Value.map (some bi))]), (Gr 42 3 u M.length ((fks M))), (Mf bi fkv (Value.int .i64) (idxF M))] [(Arr 42 b1 [(Value.int .i64 v), (Value.int .i64 l), (Value.int .i64 h)])] ((List.perm_middle (l₁ := [(Arr 95 bb [u, (Value.map (some bi))]), (Gr 42 3 u M.length ((fks M))), (Mf bi fkv (Value.int .i64) (idxF M))]) (l₂ := [])).trans (List.perm_append_comm (l₁ := [(Arr 42 b1 [(Value.int .i64 v), (Value.int .i64 l), (Value.int .i64 h)])]))) ?_
   refine vc_ret ?_
   refine rq1 (.int .i64 (((idxF M) ((⟨v, l, h⟩ : Fk))).getD 0)) rfl ?_
   rw [node_hit (by assumption) (by assumption)]; exact ⟨rfl, u, rfl⟩
  ·
   refine vc_skip ?_
   refine vc_seq ?_
   refine vc_join (α := Nat × Value) (fun xx => [(0, (Value.pointer (some ⟨bb, 0, none⟩))), (1, (Value.int .i64 v)), (2, (Value.int .i64 l)), (3, (Value.int .i64 h)), (8, (Value.int .i64 0)), (9, (Value.pointer (some ⟨b1, 0, none⟩))), (10, (.int .i64 (((idxF M) ((⟨v, l, h⟩ : Fk))).getD 0))), (11, (.bool (decide (((idxF M) ((⟨v, l, h⟩ : Fk))).isSome = true)))), (14, (.bool (decide (l = h)))), (29, (.bool (decide (((idxF M) ((⟨v, l, h⟩ : Fk))).isSome = true))))]) (fun xx V' σ' => V = V' ∧ [(Arr 95 bb [xx.2, (Value.map (some bi))]), (Gr 42 3 xx.2 ((M.length + 1)) (((fks M) ++ [(Value.int .i64 v), (Value.int .i64 l), (Value.int .i64 h)]))), (Mf bi fkv (Value.int .i64) (idxF M)), (Arr 42 b1 [(Value.int .i64 v), (Value.int .i64 l), (Value.int .i64 h)]), (Arr 42 xx.1 [(Value.int .i64 v), (Value.int .i64 l), (Value.int .i64 h)])] = σ') ?_ ?_
   ·
    refine vc_region_E (τ := [(Arr 95 bb [u, (Value.map (some bi))]), (Gr 42 3 u M.length ((fks M)))]) (n := 11) [(Mf bi fkv (Value.int .i64) (idxF M)), (Arr 42 b1 [(Value.int .i64 v), (Value.int .i64 l), (Value.int .i64 h)])] Try.mixed (perm_idx _ _ [2, 3, 0, 1] rfl rfl) rfl ?_
    refine eq_ (i := 0) (by kernel_rfl) rfl (qv_mv (Value.pointer (some ⟨bb, 0, none⟩)) rfl) ?_
    refine eq_ (i := 1) (by kernel_rfl) rfl (qv_mv (Value.pointer (some ⟨bb, 0, none⟩)) rfl) ?_
    refine eq_ (i := 2) (by kernel_rfl) rfl (qv_nilck rfl) ?_
    refine eq_ (i := 3) (by kernel_rfl) rfl (qv_fa (off := 0) Try.field95_0 rfl) ?_
    refine eq_ (i := 5) (by kernel_rfl) rfl (qv_ldm (vs := [(Value.int .i64 v), (Value.int .i64 l), (Value.int .i64 h)]) Try.agg42 rfl (inOc (k := 1) rfl) rfl rfl) ?_
    refine el2 (i := 4) (j := 6) (by kernel_rfl) ?_ ?_
    ·
     refine ⟨_, rfl, ?_⟩
     refine oq (qv_ldp (v := u) Try.plain22 rfl (inOc (k := 0) rfl) rfl) ?_
     refine ops_nil ⟨[(Mf bi fkv (Value.int .i64) (idxF M)), (Arr 42 b1 [(Value.int .i64 v), (Value.int .i64 l), (Value.int .i64 h)])], [(Arr 95 bb [u, (Value.map (some bi))]), (Gr 42 3 u M.length ((fks M)))], (perm_idx _ _ [2, 3, 0, 1] rfl rfl), .inl ⟨(Sub.refl _), [], .refl _⟩, ?_⟩
     refine el1 (i := 6) (by kernel_rfl) ?_
     refine ⟨_, rfl, ?_⟩
     refine ops_lit (n := 1) (s := 3) (cs := [(Value.int .i64 v), (Value.int .i64 l), (Value.int .i64 h)]) Try.underlying22 Try.ti42 (Nat.le_of_ble_eq_true rfl) rfl rfl rfl (Nat.le_of_ble_eq_true rfl) rfl (fun b2 => ?_)
     refine ops_nil ⟨[(Mf bi fkv (Value.int .i64) (idxF M)), (Arr 42 b1 [(Value.int .i64 v), (Value.int .i64 l), (Value.int .i64 h)]), (Arr 42 b2 [(Value.int .i64 v), (Value.int .i64 l), (Value.int .i64 h)])], [(Arr 95 bb [u, (Value.map (some bi))]), (Gr 42 3 u M.length ((fks M)))], (perm_idx _ _ [2, 3, 4, 0, 1] rfl rfl), .inl ⟨(Sub.refl _), [(Arr 42 b2 [(Value.int .i64 v), (Value.int .i64 l), (Value.int .i64 h)])], .refl _⟩, ?_⟩
     refine el1 (i := 7) (by kernel_rfl) ?_
     refine ⟨_, rfl, ?_⟩
     refine ops_append (k := 1) (n := M.length) (s := 3) (m := 1) (v := u) (xs := (fks M)) (news := [(Value.int .i64 v), (Value.int .i64 l), (Value.int .i64 h)]) Try.underlying22 Try.ti42 rfl (Nat.le_of_ble_eq_true rfl) rfl rfl rfl rfl (news_own (j := 4) rfl) (by simp [Value.oneCell']) (by omega) (by simp only [maxLen]; omega) (fun v1 hn1 => ?_)
     refine ops_nil ⟨[(Mf bi fkv (Value.int .i64) (idxF M)), (Arr 42 b1 [(Value.int .i64 v), (Value.int .i64 l), (Value.int .i64 h)]), (Arr 42 b2 [(Value.int .i64 v), (Value.int .i64 l), (Value.int .i64 h)])], [(Arr 95 bb [u, (Value.map (some bi))]), (Gr 42 3 v1 ((M.length + 1)) (((fks M) ++ [(Value.int .i64 v), (Value.int .i64 l), (Value.int .i64 h)])))], (perm_idx _ _ [2, 3, 4, 0, 1] rfl rfl), .inl ⟨(Sub.refl _), [], .refl _⟩, ?_⟩
     refine eq_ (i := 8) (by kernel_rfl) rfl (qv_nilck rfl) ?_
     refine eq_ (i := 9) (by kernel_rfl) rfl (qv_fa (off := 0) Try.field95_0 rfl) ?_
     refine el1 (i := 10) (by kernel_rfl) ?_
     refine ⟨_, rfl, ?_⟩
     refine ops_gr1 (k := 1) rfl (fun ho1 => ?_)
     refine ops_stp (k := 0) (off := 0) (cs := [u, (Value.map (some bi))]) Try.size22 rfl (rfl : ev _ _ = v1) ho1 rfl (Nat.le_of_ble_eq_true rfl) ?_
     refine ops_nil ⟨[(Mf bi fkv (Value.int .i64) (idxF M)), (Arr 42 b1 [(Value.int .i64 v), (Value.int .i64 l), (Value.int .i64 h)]), (Arr 42 b2 [(Value.int .i64 v), (Value.int .i64 l), (Value.int .i64 h)])], [(Arr 95 bb [v1, (Value.map (some bi))]), (Gr 42 3 v1 ((M.length + 1)) (((fks M) ++ [(Value.int .i64 v), (Value.int .i64 l), (Value.int .i64 h)])))], (perm_idx _ _ [2, 3, 4, 0, 1] rfl rfl), .inl ⟨(Sub.refl _), [], .refl _⟩, ?_⟩
     refine enil (σ' := [(Arr 95 bb [v1, (Value.map (some bi))]), (Gr 42 3 v1 ((M.length + 1)) (((fks M) ++ [(Value.int .i64 v), (Value.int .i64 l), (Value.int .i64 h)]))), (Mf bi fkv (Value.int .i64) (idxF M)), (Arr 42 b1 [(Value.int .i64 v), (Value.int .i64 l), (Value.int .i64 h)]), (Arr 42 b2 [(Value.int .i64 v), (Value.int .i64 l), (Value.int .i64 h)])]) (by kernel_rfl) (perm_idx _ _ [0, 1, 2, 3, 4] rfl rfl) ⟨(b2, v1), ⟨rfl, rfl, rfl, rfl, rfl, rfl, rfl, rfl, rfl, rfl, trivial⟩, rfl, rfl⟩
    ·
     refine ⟨_, rfl, ?_⟩
     refine ops_lit (n := 1) (s := 3) (cs := [(Value.int .i64 v), (Value.int .i64 l), (Value.int .i64 h)]) Try.underlying22 Try.ti42 (Nat.le_of_ble_eq_true rfl) rfl rfl rfl (Nat.le_of_ble_eq_true rfl) rfl (fun b3 => ?_)
     refine ops_nil ⟨[(Mf bi fkv (Value.int .i64) (idxF M)), (Arr 42 b1 [(Value.int .i64 v), (Value.int .i64 l), (Value.int .i64 h)]), (Arr 42 b3 [(Value.int .i64 v), (Value.int .i64 l), (Value.int .i64 h)])], [(Arr 95 bb [u, (Value.map (some bi))]), (Gr 42 3 u M.length ((fks M)))], (perm_idx _ _ [2, 3, 4, 0, 1] rfl rfl), .inl ⟨(Sub.refl _), [(Arr 42 b3 [(Value.int .i64 v), (Value.int .i64 l), (Value.int .i64 h)])], .refl _⟩, ?_⟩
     refine el1 (i := 4) (by kernel_rfl) ?_
     refine ⟨_, rfl, ?_⟩
     refine oq (qv_ldp (v := u) Try.plain22 rfl (inOc (k := 0) rfl) rfl) ?_
     refine ops_nil ⟨[(Mf bi fkv (Value.int .i64) (idxF M)), (Arr 42 b1 [(Value.int .i64 v), (Value.int .i64 l), (Value.int .i64 h)]), (Arr 42 b3 [(Value.int .i64 v), (Value.int .i64 l), (Value.int .i64 h)])], [(Arr 95 bb [u, (Value.map (some bi))]), (Gr 42 3 u M.length ((fks M)))], (perm_idx _ _ [2, 3, 4, 0, 1] rfl rfl), .inl ⟨(Sub.refl _), [], .refl _⟩, ?_⟩
     refine el1 (i := 7) (by kernel_rfl) ?_
     refine ⟨_, rfl, ?_⟩
     refine ops_append (k := 1) (n := M.length) (s := 3) (m := 1) (v := u) (xs := (fks M)) (news := [(Value.int .i64 v), (Value.int .i64 l), (Value.int .i64 h)]) Try.underlying22 Try.ti42 rfl (Nat.le_of_ble_eq_true rfl) rfl rfl rfl rfl (news_own (j := 4) rfl) (by simp [Value.oneCell']) (by omega) (by simp only [maxLen]; omega) (fun v2 hn2 => ?_)
     refine ops_nil ⟨[(Mf bi fkv (Value.int .i64) (idxF M)), (Arr 42 b1 [(Value.int .i64 v), (Value.int .i64 l), (Value.int .i64 h)]), (Arr 42 b3 [(Value.int .i64 v), (Value.int .i64 l), (Value.int .i64 h)])], [(Arr 95 bb [u, (Value.map (some bi))]), (Gr 42 3 v2 ((M.length + 1)) (((fks M) ++ [(Value.int .i64 v), (Value.int .i64 l), (Value.int .i64 h)])))], (perm_idx _ _ [2, 3, 4, 0, 1] rfl rfl), .inl ⟨(Sub.refl _), [], .refl _⟩, ?_⟩
     refine eq_ (i := 8) (by kernel_rfl) rfl (qv_nilck rfl) ?_
     refine eq_ (i := 9) (by kernel_rfl) rfl (qv_fa (off := 0) Try.field95_0 rfl) ?_
     refine el1 (i := 10) (by kernel_rfl) ?_
     refine ⟨_, rfl, ?_⟩
     refine ops_gr1 (k := 1) rfl (fun ho2 => ?_)
     refine ops_stp (k := 0) (off := 0) (cs := [u, (Value.map (some bi))]) Try.size22 rfl (rfl : ev _ _ = v2) ho2 rfl (Nat.le_of_ble_eq_true rfl) ?_
     refine ops_nil ⟨[(Mf bi fkv (Value.int .i64) (idxF M)), (Arr 42 b1 [(Value.int .i64 v), (Value.int .i64 l), (Value.int .i64 h)]), (Arr 42 b3 [(Value.int .i64 v), (Value.int .i64 l), (Value.int .i64 h)])], [(Arr 95 bb [v2, (Value.map (some bi))]), (Gr 42 3 v2 ((M.length + 1)) (((fks M) ++ [(Value.int .i64 v), (Value.int .i64 l), (Value.int .i64 h)])))], (perm_idx _ _ [2, 3, 4, 0, 1] rfl rfl), .inl ⟨(Sub.refl _), [], .refl _⟩, ?_⟩
     refine enil (σ' := [(Arr 95 bb [v2, (Value.map (some bi))]), (Gr 42 3 v2 ((M.length + 1)) (((fks M) ++ [(Value.int .i64 v), (Value.int .i64 l), (Value.int .i64 h)]))), (Mf bi fkv (Value.int .i64) (idxF M)), (Arr 42 b1 [(Value.int .i64 v), (Value.int .i64 l), (Value.int .i64 h)]), (Arr 42 b3 [(Value.int .i64 v), (Value.int .i64 l), (Value.int .i64 h)])]) (by kernel_rfl) (perm_idx _ _ [0, 1, 2, 3, 4] rfl rfl) ⟨(b3, v2), ⟨rfl, rfl, rfl, rfl, rfl, rfl, rfl, rfl, rfl, rfl, trivial⟩, rfl, rfl⟩
   rintro ⟨z37, zg38⟩ e1 Vj1 σj1 hJ1
   obtain ⟨rfl, rfl⟩ : V = Vj1 ∧ [(Arr 95 bb [zg38, (Value.map (some bi))]), (Gr 42 3 zg38 ((M.length + 1)) (((fks M) ++ [(Value.int .i64 v), (Value.int .i64 l), (Value.int .i64 h)]))), (Mf bi fkv (Value.int .i64) (idxF M)), (Arr 42 b1 [(Value.int .i64 v), (Value.int .i64 l), (Value.int .i64 h)]), (Arr 42 z37 [(Value.int .i64 v), (Value.int .i64 l), (Value.int .i64 h)])] = σj1 := hJ1
   change VC _ _ _ _ _ _ (upds 59 [(0, (Value.pointer (some ⟨bb, 0, none⟩))), (1, (Value.int .i64 v)), (2, (Value.int .i64 l)), (3, (Value.int .i64 h)), (8, (Value.int .i64 0)), (9, (Value.pointer (some ⟨b1, 0, none⟩))), (10, (.int .i64 (((idxF M) ((⟨v, l, h⟩ : Fk))).getD 0))), (11, (.bool (decide (((idxF M) ((⟨v, l, h⟩ : Fk))).isSome = true)))), (14, (.bool (decide (l = h)))), (29, (.bool (decide (((idxF M) ((⟨v, l, h⟩ : Fk))).isSome = true))))] e1) _ _
   refine vc_seq ?_
   refine vc_region_order (τ := []) [(0, false), (1, false), (2, false), (3, false), (4, false), (5, false), (6, false), (7, false), (8, false), (9, false), (10, false), (11, false), (12, true)] [(Arr 95 bb [zg38, (Value.map (some bi))]), (Gr 42 3 zg38 ((M.length + 1)) (((fks M) ++ [(Value.int .i64 v), (Value.int .i64 l), (Value.int .i64 h)]))), (Mf bi fkv (Value.int .i64) (idxF M)), (Arr 42 b1 [(Value.int .i64 v), (Value.int .i64 l), (Value.int .i64 h)]), (Arr 42 z37 [(Value.int .i64 v), (Value.int .i64 l), (Value.int .i64 h)])] Try.mixed (perm_nil _) (by kernel_rfl) ?_
   refine rq rfl (qv_mv (Value.pointer (some ⟨bb, 0, none⟩)) rfl) ?_
   refine rq rfl (qv_nilck rfl) ?_
   refine rq rfl (qv_fa (off := 0) Try.field95_1 rfl) ?_
   refine rq rfl (qv_ldp (v := (Value.map (some bi))) Try.plain93 rfl (inOc (k := 0) rfl) rfl) ?_
   refine rq rfl (qv_ldm (vs := [(Value.int .i64 v), (Value.int .i64 l), (Value.int .i64 h)]) Try.agg42 rfl (inOc (k := 3) rfl) rfl rfl) ?_
   refine rq rfl (qv_mv (Value.pointer (some ⟨bb, 0, none⟩)) rfl) ?_
   refine rq rfl (qv_nilck rfl) ?_
   refine rq rfl (qv_fa (off := 0) Try.field95_0 rfl) ?_
   refine rq rfl (qv_ldp (v := zg38) Try.plain22 rfl (inOc (k := 0) rfl) rfl) ?_
   refine rq rfl (qv_lenGr (k := 1) Try.underlying22 rfl rfl) ?_
   refine rq rfl (qv_add rfl rfl (by omega)) ?_
   refine rq rfl (qv_sub rfl rfl (by omega)) ?_
   refine rl1 (by kernel_rfl) rfl ?_
   refine ops_mapset (k := 2) (key := (⟨v, l, h⟩ : Fk)) (v := (2 + ((((M.length + 1) : Nat) : Int))) - 1) Try.underlying93 fk_key rfl rfl rfl rfl ?_
   refine ops_nil ⟨[(Arr 95 bb [zg38, (Value.map (some bi))]), (Gr 42 3 zg38 ((M.length + 1)) (((fks M) ++ [(Value.int .i64 v), (Value.int .i64 l), (Value.int .i64 h)]))), (Mf bi fkv (Value.int .i64) (setF (idxF M) ((⟨v, l, h⟩ : Fk)) ((2 + ((((M.length + 1) : Nat) : Int))) - 1))), (Arr 42 b1 [(Value.int .i64 v), (Value.int .i64 l), (Value.int .i64 h)]), (Arr 42 z37 [(Value.int .i64 v), (Value.int .i64 l), (Value.int .i64 h)])], [], perm_nil _, ?_⟩
   refine rnil ?_
   refine vc_seq ?_
   refine vc_res (σ' := [(Arr 95 bb [zg38, (Value.map (some bi))]), (Gr 42 3 zg38 ((M.length + 1)) (((fks M) ++ [(Value.int .i64 v), (Value.int .i64 l), (Value.int .i64 h)]))), (Mf bi fkv (Value.int .i64) (setF (idxF M) ((⟨v, l, h⟩ : Fk)) ((2 + ((((M.length + 1) : Nat) : Int))) - 1))), (Arr 42 b1 [(Value.int .i64 v), (Value.int .i64 l), (Value.int .i64 h)]), (Arr 42 z37 [(Value.int .i64 v), (Value.int .i64 l), (Value.int .i64 h)])]) rfl ?_
   refine vc_region_any Try.mixed (by kernel_rfl) ?_
   refine qq (qv_mv (Value.pointer (some ⟨bb, 0, none⟩)) rfl) ?_
   refine qq (qv_nilck rfl) ?_
   refine qq (qv_fa (off := 0) Try.field95_1 rfl) ?_
   refine qq (qv_ldp (v := (Value.map (some bi))) Try.plain93 rfl (inOc (k := 0) rfl) rfl) ?_
   refine qq (qv_ldm (vs := [(Value.int .i64 v), (Value.int .i64 l), (Value.int .i64 h)]) Try.agg42 rfl (inOc (k := 3) rfl) rfl rfl) ?_
   refine qq (qv_look1 (a0 := 0) (key := (⟨v, l, h⟩ : Fk)) (k := 2) Try.underlying93 fk_key Try.ti3 rfl rfl rfl) ?_
   refine qq (qv_as (.int .i64 (((setF (idxF M) ((⟨v, l, h⟩ : Fk)) ((2 + ((((M.length + 1) : Nat) : Int))) - 1)) ((⟨v, l, h⟩ : Fk))).getD 0)) rfl) ?_
   refine qops_nil ?_
   refine vc_drop [(Arr 95 bb [zg38, (Value.map (some bi))]), (Gr 42 3 zg38 ((M.length + 1)) (((fks M) ++ [(Value.int .i64 v), (Value.int .i64 l), (Value.int .i64 h)]))), (Mf bi fkv (Value.int .i64) (setF (idxF M) ((⟨v, l, h⟩ : Fk)) ((2 + ((((M.length + 1) : Nat) : Int))) - 1))), (Arr 42 b1 [(Value.int .i64 v), (Value.int .i64 l), (Value.int .i64 h)])] [(Arr 42 z37 [(Value.int .i64 v), (Value.int .i64 l), (Value.int .i64 h)])] ((List.perm_middle (l₁ := [(Arr 95 bb [zg38, (Value.map (some bi))]), (Gr 42 3 zg38 ((M.length + 1)) (((fks M) ++ [(Value.int .i64 v), (Value.int .i64 l), (Value.int .i64 h)]))), (Mf bi fkv (Value.int .i64) (setF (idxF M) ((⟨v, l, h⟩ : Fk)) ((2 + ((((M.length + 1) : Nat) : Int))) - 1))), (Arr 42 b1 [(Value.int .i64 v), (Value.int .i64 l), (Value.int .i64 h)])]) (l₂ := [])).trans (List.perm_append_comm (l₁ := [(Arr 42 z37 [(Value.int .i64 v), (Value.int .i64 l), (Value.int .i64 h)])]))) ?_
   refine vc_drop [(Arr 95 bb [zg38, (Value.map (some bi))]), (Gr 42 3 zg38 ((M.length + 1)) (((fks M) ++ [(Value.int .i64 v), (Value.int .i64 l), (Value.int .i64 h)]))), (Mf bi fkv (Value.int .i64) (setF (idxF M) ((⟨v, l, h⟩ : Fk)) ((2 + ((((M.length + 1) : Nat) : Int))) - 1)))] [(Arr 42 b1 [(Value.int .i64 v), (Value.int .i64 l), (Value.int .i64 h)])] ((List.perm_middle (l₁ := [(Arr 95 bb [zg38, (Value.map (some bi))]), (Gr 42 3 zg38 ((M.length + 1)) (((fks M) ++ [(Value.int .i64 v), (Value.int .i64 l), (Value.int .i64 h)]))), (Mf bi fkv (Value.int .i64) (setF (idxF M) ((⟨v, l, h⟩ : Fk)) ((2 + ((((M.length + 1) : Nat) : Int))) - 1)))]) (l₂ := [])).trans (List.perm_append_comm (l₁ := [(Arr 42 b1 [(Value.int .i64 v), (Value.int .i64 l), (Value.int .i64 h)])]))) ?_
   refine vc_ret ?_
   refine rq1 (.int .i64 (((setF (idxF M) ((⟨v, l, h⟩ : Fk)) ((2 + ((((M.length + 1) : Nat) : Int))) - 1)) ((⟨v, l, h⟩ : Fk))).getD 0)) rfl ?_
   obtain ⟨hn, e⟩ := node_new (M := M) (v := v) (l := l) (h := h) (by assumption) (by assumption)
   rw [e]
   refine ⟨by rw [setF_same]; exact congrArg (Value.int .i64) (show (2 : Int) + ((M.length + 1 : Nat) : Int) - 1 = 2 + (M.length : Int) by omega), zg38, ?_⟩
   rw [show (2 : Int) + ((M.length + 1 : Nat) : Int) - 1 = 2 + (M.length : Int) by omega, idxF_step hn, fks_snoc, List.length_append]
   rfl

end Go.Proofs.Ytgehdgeiikjohaa
