/- Walks of bdd: what each function returns. Printed by a program out of notes. -/
import Derived.Test.YtgehdgeiikjohaaBm
import Derived.Test.YtgehdgeiikjohaaBdI
namespace Go.Proofs.Ytgehdgeiikjohaa
open Go.Vc
open Classical

/-- What the building of a part does. -/
def FtC (pr pm bb bi : Nat) (k : Nat) : Prop := ∀ (V : HV) (v : Int) (M : List Fk) (t : List Bool) (tv u : Value), Bls V tv t → t.length = 2 ^ k → 0 ≤ v → v + k ≤ 1000 → k ≤ 20 → M.length + 2 ^ k ≤ 2199023255552 → Cells V pr [.func (.func 65) #[] #[pt pr, pt pm]] → Cells V pm [.pointer (some ⟨bb, 0, none⟩)] →
  FnC Try.prog 65 [.int .i64 v, tv, pt pr, pt pm] V [Arr 95 bb [u, .map (some bi)], Gr 42 3 u M.length (fks M), Mf bi fkv (Value.int .i64) (idxF M)] (fun w _ σ' => w = .int .i64 (prt k M v t).2 ∧ ∃ u', σ' = [Arr 95 bb [u', .map (some bi)], Gr 42 3 u' (prt k M v t).1.length (fks (prt k M v t).1), Mf bi fkv (Value.int .i64) (idxF (prt k M v t).1)])

set_option maxRecDepth 100000 in
set_option maxHeartbeats 4000000 in
theorem ft_step {V : HV} {pr pm bb bi k0 k : Nat} {v : Int} {M : List Fk} {t : List Bool} {tv u : Value} (IH : k0 = k + 1 → FtC pr pm bb bi k) (htv : Bls V tv t) (ht0 : t.length = 2 ^ k0) (hk1 : k0 = 0 ∨ k0 = k + 1) (v0 : 0 ≤ v) (v1 : v + k0 ≤ 1000) (hk20 : k0 ≤ 20) (hM : M.length + 2 ^ k0 ≤ 2199023255552) (hpr : Cells V pr [.func (.func 65) #[] #[pt pr, pt pm]]) (hpm : Cells V pm [.pointer (some ⟨bb, 0, none⟩)]) :
    FnC Try.prog 65 [(Value.int .i64 v), tv, (Value.pointer (some ⟨pr, 0, none⟩)), (Value.pointer (some ⟨pm, 0, none⟩))] V [(Arr 95 bb [u, (Value.map (some bi))]), (Gr 42 3 u M.length ((fks M))), (Mf bi fkv (Value.int .i64) (idxF M))] (fun w _ σ' => w = .int .i64 (prt k0 M v t).2 ∧ ∃ u', σ' = [Arr 95 bb [u', .map (some bi)], Gr 42 3 u' (prt k0 M v t).1.length (fks (prt k0 M v t).1), Mf bi fkv (Value.int .i64) (idxF (prt k0 M v t).1)]) := by
 refine fn_intro (N := 38) Try.func65 (by kernel_rfl) rfl rfl rfl (Nat.le_of_ble_eq_true rfl) ?_
 intro w0 D
 have hb := htv.bound
 refine vc_seq ?_
 refine vc_res (σ' := [(Arr 95 bb [u, (Value.map (some bi))]), (Gr 42 3 u M.length ((fks M))), (Mf bi fkv (Value.int .i64) (idxF M))]) rfl ?_
 refine vc_region ?_
 refine oq (qv_as (Value.int .i64 0) rfl) ?_
 refine ops_nil ?_
 refine vc_seq ?_
 refine vc_seq ?_
 refine vc_region ?_
 refine oq (qv_mv tv rfl) ?_
 refine oq (qv_lenB Try.underlying34 rfl htv) ?_
 refine oq (qv_eql rfl rfl) ?_
 refine ops_nil ?_
 refine vc_if rfl (fun c1 => ?_) (fun c1 => ?_)
 ·
  refine vc_seq ?_
  refine vc_seq ?_
  have hk0 : k0 = 0 := by
    rcases hk1 with e | e
    · exact e
    · have q : 2 ^ (k + 1) = 2 ^ k + 2 ^ k := by rw [Nat.pow_succ]; omega
      have := one_le_two_pow' k
      rw [e, q] at ht0; omega
  subst hk0
  refine vc_region ?_
  refine oq (qv_mv tv rfl) ?_
  refine oq (qv_iab (v := tv) (i := 0) Try.underlying34 Try.size4 rfl (inVb htv) rfl (by omega) (by omega)) ?_
  refine oq (qv_ldb (v := tv) (i := 0) Try.plain4 rfl (inVb htv) (by omega) (by omega)) ?_
  refine ops_nil ?_
  refine vc_if rfl (fun c2 => ?_) (fun c2 => ?_)
  ·
   refine vc_seq ?_
   refine vc_region ?_
   refine oq (qv_as (Value.int .i64 1) rfl) ?_
   refine ops_nil ?_
   refine vc_ret ?_
   refine rq1 (Value.int .i64 1) rfl ?_
   have e0 : (if t.getD 0 false = true then (1 : Int) else 0) = 1 := if_pos c2
   rw [prt_0, e0]
   exact ⟨rfl, u, rfl⟩
  ·
   refine vc_skip ?_
   refine vc_seq ?_
   refine vc_region ?_
   refine oq (qv_as (Value.int .i64 0) rfl) ?_
   refine ops_nil ?_
   refine vc_ret ?_
   refine rq1 (Value.int .i64 0) rfl ?_
   have e0 : (if t.getD 0 false = true then (1 : Int) else 0) = 0 := if_neg c2
   rw [prt_0, e0]
   exact ⟨rfl, u, rfl⟩
 ·
  refine vc_skip ?_
  refine vc_seq ?_
  have hk0 : k0 = k + 1 := by
    rcases hk1 with e | e
    · rw [e] at ht0; have q : (2 : Nat) ^ 0 = 1 := rfl; omega
    · exact e
  subst hk0
  have IH := IH rfl
  have ht : t.length = 2 ^ (k + 1) := ht0
  have hpk : 2 ^ (k + 1) = 2 ^ k + 2 ^ k := by rw [Nat.pow_succ]; omega
  have hpk1 := one_le_two_pow' k
  have hhalf : ((t.length : Int) / 2).toNat = 2 ^ k := by omega
  have hl1 : (t.take (2 ^ k)).length = 2 ^ k := by rw [List.length_take]; omega
  have hl2 : (t.drop (2 ^ k)).length = 2 ^ k := by rw [List.length_drop]; omega
  obtain ⟨x, hx⟩ : ∃ x, x = prt k M (v + 1) (t.take (2 ^ k)) := ⟨_, rfl⟩
  obtain ⟨y, hy⟩ : ∃ y, y = prt k x.1 (v + 1) (t.drop (2 ^ k)) := ⟨_, rfl⟩
  have px := prt_len k M (v + 1) (t.take (2 ^ k))
  have py := prt_len k x.1 (v + 1) (t.drop (2 ^ k))
  rw [← hx] at px
  rw [← hy] at py
  refine vc_region_order (τ := [(Arr 95 bb [u, (Value.map (some bi))]), (Gr 42 3 u M.length ((fks M))), (Mf bi fkv (Value.int .i64) (idxF M))]) [(0, false), (1, false), (2, false), (3, false), (4, false), (5, false), (6, false), (7, false), (8, true), (9, false)] [] Try.mixed (perm_idx _ _ [0, 1, 2] rfl rfl) (by kernel_rfl) ?_
  refine rq rfl (qv_ldp (v := (Value.func (.func 65) #[] #[(Value.pointer (some ⟨pr, 0, none⟩)), (Value.pointer (some ⟨pm, 0, none⟩))])) Try.plain96 rfl (inVc hpr) rfl) ?_
  refine rq rfl (qv_mv (Value.int .i64 v) rfl) ?_
  refine rq rfl (qv_add rfl rfl (by omega)) ?_
  refine rq rfl (qv_mv tv rfl) ?_
  refine rq rfl (qv_mv tv rfl) ?_
  refine rq rfl (qv_lenB Try.underlying34 rfl htv) ?_
  refine rq rfl (qv_quo rfl rfl (by omega) (by omega)) ?_
  refine rq rfl (qv_sliceHi Try.underlying34 Try.size4 rfl htv rfl (by omega) (by rw [List.length_map]; omega)) ?_
  refine rl rfl ?_
  refine ops_call (σa := [(Arr 95 bb [u, (Value.map (some bi))]), (Gr 42 3 u M.length ((fks M))), (Mf bi fkv (Value.int .i64) (idxF M))]) (σr := []) (by have h := IH _ (v + 1) M (t.take (2 ^ k)) (takeS tv (((t.length : Int)) / 2).toNat) u (by have q := htv.take (n := 2 ^ k) (by omega); rw [hhalf]; exact q) (by omega) (by omega) (by omega) (by omega) (by omega) hpr hpm; rw [← hx] at h; exact h) rfl rfl (.refl _) (fun r1 V1 sg1 hV1 hp1 => ?_)
  obtain ⟨rfl, ux, rfl⟩ := hp1
  have htv := htv.mono hV1
  have hpr := hpr.mono hV1
  have hpm := hpm.mono hV1
  refine ops_nil ⟨[], [(Arr 95 bb [ux, (Value.map (some bi))]), (Gr 42 3 ux x.1.length ((fks x.1))), (Mf bi fkv (Value.int .i64) (idxF x.1))], hV1, (perm_idx _ _ [0, 1, 2] rfl rfl), ⟨[], .refl _⟩, ?_⟩
  refine rq rfl (qv_as (.int .i64 x.2) rfl) ?_
  refine rnil ?_
  refine vc_seq ?_
  refine vc_res (σ' := [(Arr 95 bb [ux, (Value.map (some bi))]), (Gr 42 3 ux x.1.length ((fks x.1))), (Mf bi fkv (Value.int .i64) (idxF x.1))]) rfl ?_
  refine vc_region_order (τ := [(Arr 95 bb [ux, (Value.map (some bi))]), (Gr 42 3 ux x.1.length ((fks x.1))), (Mf bi fkv (Value.int .i64) (idxF x.1))]) [(0, false), (1, false), (2, false), (3, false), (4, false), (5, false), (6, false), (7, false), (8, true), (9, false)] [] Try.mixed (perm_idx _ _ [0, 1, 2] rfl rfl) (by kernel_rfl) ?_
  refine rq rfl (qv_ldp (v := (Value.func (.func 65) #[] #[(Value.pointer (some ⟨pr, 0, none⟩)), (Value.pointer (some ⟨pm, 0, none⟩))])) Try.plain96 rfl (inVc hpr) rfl) ?_
  refine rq rfl (qv_mv (Value.int .i64 v) rfl) ?_
  refine rq rfl (qv_add rfl rfl (by omega)) ?_
  refine rq rfl (qv_mv tv rfl) ?_
  refine rq rfl (qv_mv tv rfl) ?_
  refine rq rfl (qv_lenB Try.underlying34 rfl htv) ?_
  refine rq rfl (qv_quo rfl rfl (by omega) (by omega)) ?_
  refine rq rfl (qv_sliceLoS Try.underlying34 Try.size4 rfl htv rfl (by omega) (by rw [List.length_map]; omega)) ?_
  refine rl rfl ?_
  refine ops_call (σa := [(Arr 95 bb [ux, (Value.map (some bi))]), (Gr 42 3 ux x.1.length ((fks x.1))), (Mf bi fkv (Value.int .i64) (idxF x.1))]) (σr := []) (by have h := IH _ (v + 1) x.1 (t.drop (2 ^ k)) (dropS tv (((t.length : Int)) / 2).toNat) ux (by have q := htv.drop (n := 2 ^ k) (by omega); rw [hhalf]; exact q) (by omega) (by omega) (by omega) (by omega) (by omega) hpr hpm; rw [← hy] at h; exact h) rfl rfl (.refl _) (fun r2 V2 sg2 hV2 hp2 => ?_)
  obtain ⟨rfl, uy, rfl⟩ := hp2
  have htv := htv.mono hV2
  have hpr := hpr.mono hV2
  have hpm := hpm.mono hV2
  refine ops_nil ⟨[], [(Arr 95 bb [uy, (Value.map (some bi))]), (Gr 42 3 uy y.1.length ((fks y.1))), (Mf bi fkv (Value.int .i64) (idxF y.1))], hV2, (perm_idx _ _ [0, 1, 2] rfl rfl), ⟨[], .refl _⟩, ?_⟩
  refine rq rfl (qv_as (.int .i64 y.2) rfl) ?_
  refine rnil ?_
  refine vc_seq ?_
  refine vc_res (σ' := [(Arr 95 bb [uy, (Value.map (some bi))]), (Gr 42 3 uy y.1.length ((fks y.1))), (Mf bi fkv (Value.int .i64) (idxF y.1))]) rfl ?_
  refine vc_region ?_
  refine oq (qv_ldp (v := (Value.pointer (some ⟨bb, 0, none⟩))) Try.plain92 rfl (inVc hpm) rfl) ?_
  refine oq (qv_mv (Value.int .i64 v) rfl) ?_
  refine oq (qv_mv (.int .i64 x.2) rfl) ?_
  refine oq (qv_mv (.int .i64 y.2) rfl) ?_
  refine ops_call (σa := [(Arr 95 bb [uy, (Value.map (some bi))]), (Gr 42 3 uy y.1.length ((fks y.1))), (Mf bi fkv (Value.int .i64) (idxF y.1))]) (σr := []) (node_c (M := y.1) (v := v) (l := x.2) (h := y.2) (u := uy) (by omega)) rfl rfl (.refl _) (fun r3 V3 sg3 hV3 hp3 => ?_)
  obtain ⟨rfl, u3, rfl⟩ := hp3
  have htv := htv.mono hV3
  have hpr := hpr.mono hV3
  have hpm := hpm.mono hV3
  refine oq (qv_as (.int .i64 ((nodeR y.1 v x.2 y.2).2)) rfl) ?_
  refine ops_nil ?_
  refine vc_ret ?_
  refine rq1 (.int .i64 ((nodeR y.1 v x.2 y.2).2)) rfl ?_
  rw [prt_half ht]
  rw [← hx, ← hy]
  exact ⟨rfl, u3, rfl⟩

theorem ft_c {pr pm bb bi : Nat} : ∀ k, FtC pr pm bb bi k
  | 0 => fun V v M t tv u h1 h2 h3 h4 h5 h6 h7 h8 => ft_step (k := 0) (fun q => by omega) h1 h2 (.inl rfl) h3 h4 h5 h6 h7 h8
  | k + 1 => fun V v M t tv u h1 h2 h3 h4 h5 h6 h7 h8 => ft_step (k := k) (fun _ => ft_c k) h1 h2 (.inr rfl) h3 h4 h5 h6 h7 h8
set_option maxRecDepth 100000 in
set_option maxHeartbeats 4000000 in
theorem FromTable_c {V : HV} {vars : Int} {t : List Bool} {tv : Value} (ht : Bls V tv t) :
    FnC Try.prog 33 [(Value.int .i64 vars), tv] V [] (RD (ftD vars t) (ftE vars t)) := by
 refine fn_intro (N := 36) Try.func33 (by kernel_rfl) rfl rfl rfl (Nat.le_of_ble_eq_true rfl) ?_
 intro w0 D
 have hb := ht.bound
 refine vc_seq ?_
 refine vc_region ?_
 refine ops_alloc Try.ti24 rfl (fun b1 => ?_)
 refine oq (qv_as (Value.int .i64 0) rfl) ?_
 refine ops_nil ?_
 refine vc_seq ?_
 refine vc_seq ?_
 refine vc_res (σ' := [(Arr 24 b1 [(Value.int .i64 0), (Value.slice none 0 0), (Value.int .i64 0)])]) rfl ?_
 refine vc_region ?_
 refine oq (qv_mv (Value.int .i64 vars) rfl) ?_
 refine oq (qv_lss rfl rfl) ?_
 refine oq (qv_mv (.bool (decide (vars < 0))) rfl) ?_
 by_cases g1 : vars < 0
 ·
  refine os (want_fn g1 rfl rfl rfl) ?_
  refine os (want_fn g1 rfl rfl rfl) ?_
  refine oq (qv_pick_t g1 rfl (rfl : ev _ _ = (Value.bool true))) ?_
  refine ops_nil ?_
  refine vc_tt rfl ?_
  refine vc_seq ?_
  refine vc_region ?_
  refine oq (qv_build (out := [(Value.int .i64 0), (Value.slice none 0 0), (Value.int .i64 0)]) Try.build24 [] rfl rfl) ?_
  refine ops_stw (k := 0) (vs := [(Value.int .i64 0), (Value.slice none 0 0), (Value.int .i64 0)]) Try.size24 rfl rfl rfl rfl rfl rfl ?_
  refine oq (qv_as (Value.int .i64 3) rfl) ?_
  refine ops_nil ?_
  refine vc_freeze (b := b1) (o := .cells ([(Value.int .i64 0), (Value.slice none 0 0), (Value.int .i64 0)] : List Value).toArray 24 (0, 0)) (σr := []) (List.perm_middle (l₁ := []) (l₂ := [])) (fun Vf1 hVf1 hb1 => ?_)
  have hc1 : Cells Vf1 b1 [(Value.int .i64 0), (Value.slice none 0 0), (Value.int .i64 0)] := ⟨_, _, hb1⟩
  have ht := ht.mono hVf1
  refine vc_ret ?_
  refine rs2 _ (Value.int .i64 3) (rv_c (vs := [(Value.int .i64 0), (Value.slice none 0 0), (Value.int .i64 0)]) Try.agg24 rfl (inVc hc1) rfl rfl) (rv_t rfl) ?_
  obtain ⟨e1, e2⟩ := ft_3 (vars := vars) (t := t) (by omega)
  rw [e1, e2]
  exact ⟨rfl, _, rfl, Fks.nil⟩
 ·
  refine og (qv_mv (Value.int .i64 vars) rfl) (want_f g1 rfl rfl rfl) ?_
  refine og (qv_gtr rfl rfl) (want_f g1 rfl rfl rfl) ?_
  refine oq (qv_pick_f g1 rfl (rfl : ev _ _ = (.bool (decide (12 < vars))))) ?_
  refine ops_nil ?_
  refine vc_if rfl (fun c1 => ?_) (fun c1 => ?_)
  ·
   refine vc_seq ?_
   refine vc_region ?_
   refine oq (qv_build (out := [(Value.int .i64 0), (Value.slice none 0 0), (Value.int .i64 0)]) Try.build24 [] rfl rfl) ?_
   refine ops_stw (k := 0) (vs := [(Value.int .i64 0), (Value.slice none 0 0), (Value.int .i64 0)]) Try.size24 rfl rfl rfl rfl rfl rfl ?_
   refine oq (qv_as (Value.int .i64 3) rfl) ?_
   refine ops_nil ?_
   refine vc_freeze (b := b1) (o := .cells ([(Value.int .i64 0), (Value.slice none 0 0), (Value.int .i64 0)] : List Value).toArray 24 (0, 0)) (σr := []) (List.perm_middle (l₁ := []) (l₂ := [])) (fun Vf2 hVf2 hb2 => ?_)
   have hc2 : Cells Vf2 b1 [(Value.int .i64 0), (Value.slice none 0 0), (Value.int .i64 0)] := ⟨_, _, hb2⟩
   have ht := ht.mono hVf2
   refine vc_ret ?_
   refine rs2 _ (Value.int .i64 3) (rv_c (vs := [(Value.int .i64 0), (Value.slice none 0 0), (Value.int .i64 0)]) Try.agg24 rfl (inVc hc2) rfl rfl) (rv_t rfl) ?_
   obtain ⟨e1, e2⟩ := ft_3 (vars := vars) (t := t) (by omega)
   rw [e1, e2]
   exact ⟨rfl, _, rfl, Fks.nil⟩
  ·
   refine vc_skip ?_
   refine vc_seq ?_
   refine vc_seq ?_
   have hpw := pow2_12 (n := vars.toNat) (by omega)
   refine vc_region ?_
   refine oq (qv_mv tv rfl) ?_
   refine oq (qv_lenB Try.underlying34 rfl ht) ?_
   refine oq (qv_mv (Value.int .i64 vars) rfl) ?_
   refine oq (qv_shli rfl rfl (by omega) (by omega) (by omega)) ?_
   refine oq (qv_neq rfl rfl) ?_
   refine ops_nil ?_
   refine vc_if rfl (fun c2 => ?_) (fun c2 => ?_)
   ·
    refine vc_seq ?_
    refine vc_region ?_
    refine oq (qv_build (out := [(Value.int .i64 0), (Value.slice none 0 0), (Value.int .i64 0)]) Try.build24 [] rfl rfl) ?_
    refine ops_stw (k := 0) (vs := [(Value.int .i64 0), (Value.slice none 0 0), (Value.int .i64 0)]) Try.size24 rfl rfl rfl rfl rfl rfl ?_
    refine oq (qv_as (Value.int .i64 2) rfl) ?_
    refine ops_nil ?_
    refine vc_freeze (b := b1) (o := .cells ([(Value.int .i64 0), (Value.slice none 0 0), (Value.int .i64 0)] : List Value).toArray 24 (0, 0)) (σr := []) (List.perm_middle (l₁ := []) (l₂ := [])) (fun Vf3 hVf3 hb3 => ?_)
    have hc3 : Cells Vf3 b1 [(Value.int .i64 0), (Value.slice none 0 0), (Value.int .i64 0)] := ⟨_, _, hb3⟩
    have ht := ht.mono hVf3
    refine vc_ret ?_
    refine rs2 _ (Value.int .i64 2) (rv_c (vs := [(Value.int .i64 0), (Value.slice none 0 0), (Value.int .i64 0)]) Try.agg24 rfl (inVc hc3) rfl rfl) (rv_t rfl) ?_
    obtain ⟨e1, e2⟩ := ft_2 (vars := vars) (t := t) (by omega) (by omega)
    rw [e1, e2]
    exact ⟨rfl, _, rfl, Fks.nil⟩
   ·
    refine vc_skip ?_
    refine vc_seq ?_
    have hp2 : 2 ^ vars.toNat ≤ 2 ^ 20 := Nat.pow_le_pow_right (by omega) (by omega)
    have hlq : (t.length : Int) = 2 ^ vars.toNat := by omega
    have hl := ft_len hlq
    have hpo := prt_okT (vars := vars) (t := t) (by omega) hl
    have hpl := prt_len vars.toNat [] 0 t
    refine vc_region ?_
    refine ops_mkmap0 fkv (Value.int .i64) (fun b2 => ?_)
    refine oq (qv_build (out := [(Value.slice none 0 0), (Value.map (some b2))]) Try.build95 [(1, [(Value.map (some b2))])] rfl rfl) ?_
    refine ops_box (v := (.agg #[(Value.slice none 0 0), (Value.map (some b2))])) (cs := [(Value.slice none 0 0), (Value.map (some b2))]) rfl rfl (fun b3 => ?_)
    refine ops_alloc Try.ti92 rfl (fun b4 => ?_)
    refine ops_stp (k := 3) (off := 0) (cs := [(Value.pointer none)]) Try.size92 rfl (rfl : ev _ _ = (Value.pointer (some ⟨b3, 0, none⟩))) rfl rfl (Nat.le_of_ble_eq_true rfl) ?_
    refine ops_nil ?_
    refine vc_seq ?_
    refine vc_res (σ' := [(Arr 24 b1 [(Value.int .i64 0), (Value.slice none 0 0), (Value.int .i64 0)]), (Mf b2 fkv (Value.int .i64) (fun _ => none)), (Arr 95 b3 [(Value.slice none 0 0), (Value.map (some b2))]), (Arr 92 b4 [(Value.pointer (some ⟨b3, 0, none⟩))])]) rfl ?_
    refine vc_region ?_
    refine ops_alloc Try.ti96 rfl (fun b5 => ?_)
    refine ops_nil ?_
    refine vc_seq ?_
    refine vc_res (σ' := [(Arr 24 b1 [(Value.int .i64 0), (Value.slice none 0 0), (Value.int .i64 0)]), (Mf b2 fkv (Value.int .i64) (fun _ => none)), (Arr 95 b3 [(Value.slice none 0 0), (Value.map (some b2))]), (Arr 92 b4 [(Value.pointer (some ⟨b3, 0, none⟩))]), (Arr 96 b5 [Value.nilFunc])]) rfl ?_
    refine vc_region ?_
    refine oq (qv_func (cs := [(Value.pointer (some ⟨b5, 0, none⟩)), (Value.pointer (some ⟨b4, 0, none⟩))]) rfl) ?_
    refine ops_stp (k := 4) (off := 0) (cs := [Value.nilFunc]) Try.size96 rfl (rfl : ev _ _ = (Value.func (.func 65) #[] #[(Value.pointer (some ⟨b5, 0, none⟩)), (Value.pointer (some ⟨b4, 0, none⟩))])) rfl rfl (Nat.le_of_ble_eq_true rfl) ?_
    refine ops_nil ?_
    refine vc_seq ?_
    refine vc_res (σ' := [(Arr 24 b1 [(Value.int .i64 0), (Value.slice none 0 0), (Value.int .i64 0)]), (Mf b2 fkv (Value.int .i64) (fun _ => none)), (Arr 95 b3 [(Value.slice none 0 0), (Value.map (some b2))]), (Arr 92 b4 [(Value.pointer (some ⟨b3, 0, none⟩))]), (Arr 96 b5 [(Value.func (.func 65) #[] #[(Value.pointer (some ⟨b5, 0, none⟩)), (Value.pointer (some ⟨b4, 0, none⟩))])])]) rfl ?_
    refine vc_freeze (b := b5) (o := .cells ([(Value.func (.func 65) #[] #[(Value.pointer (some ⟨b5, 0, none⟩)), (Value.pointer (some ⟨b4, 0, none⟩))])] : List Value).toArray 96 (0, 0)) (σr := [(Arr 24 b1 [(Value.int .i64 0), (Value.slice none 0 0), (Value.int .i64 0)]), (Mf b2 fkv (Value.int .i64) (fun _ => none)), (Arr 95 b3 [(Value.slice none 0 0), (Value.map (some b2))]), (Arr 92 b4 [(Value.pointer (some ⟨b3, 0, none⟩))])]) (List.perm_middle (l₁ := [(Arr 24 b1 [(Value.int .i64 0), (Value.slice none 0 0), (Value.int .i64 0)]), (Mf b2 fkv (Value.int .i64) (fun _ => none)), (Arr 95 b3 [(Value.slice none 0 0), (Value.map (some b2))]), (Arr 92 b4 [(Value.pointer (some ⟨b3, 0, none⟩))])]) (l₂ := [])) (fun Vf4 hVf4 hb4 => ?_)
    have hc4 : Cells Vf4 b5 [(Value.func (.func 65) #[] #[(Value.pointer (some ⟨b5, 0, none⟩)), (Value.pointer (some ⟨b4, 0, none⟩))])] := ⟨_, _, hb4⟩
    have ht := ht.mono hVf4
    refine vc_freeze (b := b4) (o := .cells ([(Value.pointer (some ⟨b3, 0, none⟩))] : List Value).toArray 92 (0, 0)) (σr := [(Arr 24 b1 [(Value.int .i64 0), (Value.slice none 0 0), (Value.int .i64 0)]), (Mf b2 fkv (Value.int .i64) (fun _ => none)), (Arr 95 b3 [(Value.slice none 0 0), (Value.map (some b2))])]) (List.perm_middle (l₁ := [(Arr 24 b1 [(Value.int .i64 0), (Value.slice none 0 0), (Value.int .i64 0)]), (Mf b2 fkv (Value.int .i64) (fun _ => none)), (Arr 95 b3 [(Value.slice none 0 0), (Value.map (some b2))])]) (l₂ := [])) (fun Vf5 hVf5 hb5 => ?_)
    have hc5 : Cells Vf5 b4 [(Value.pointer (some ⟨b3, 0, none⟩))] := ⟨_, _, hb5⟩
    have ht := ht.mono hVf5
    have hc4 := hc4.mono hVf5
    refine vc_nil 42 3 ?_
    refine vc_region ?_
    refine oq (qv_ldp (v := (Value.func (.func 65) #[] #[(Value.pointer (some ⟨b5, 0, none⟩)), (Value.pointer (some ⟨b4, 0, none⟩))])) Try.plain96 rfl (inVc hc4) rfl) ?_
    refine oq (qv_mv tv rfl) ?_
    refine ops_call (σa := [(Arr 95 b3 [(Value.slice none 0 0), (Value.map (some b2))]), (Gr 42 3 ((Value.slice none 0 0)) 0 ([])), (Mf b2 fkv (Value.int .i64) (fun _ => none))]) (σr := [(Arr 24 b1 [(Value.int .i64 0), (Value.slice none 0 0), (Value.int .i64 0)])]) (ft_c (bi := b2) vars.toNat _ 0 [] t _ (Value.slice none 0 0) ht hl (by omega) (by omega) (by omega) (by show 0 + _ ≤ _; omega) hc4 hc5) rfl rfl (perm_idx _ _ [2, 3, 1, 0] rfl rfl) (fun r1 V1 sg1 hV1 hp1 => ?_)
    obtain ⟨rfl, u1, rfl⟩ := hp1
    have ht := ht.mono hV1
    have hc4 := hc4.mono hV1
    have hc5 := hc5.mono hV1
    refine ops_perm (σ' := [(Arr 24 b1 [(Value.int .i64 0), (Value.slice none 0 0), (Value.int .i64 0)]), (Mf b2 fkv (Value.int .i64) (idxF (bldD vars t).N)), (Arr 95 b3 [u1, (Value.map (some b2))]), (Gr 42 3 u1 ((bldD vars t).N.length) ((fks (bldD vars t).N)))]) (perm_idx _ _ [3, 2, 0, 1] rfl rfl) ?_
    refine oq (qv_as (.int .i64 ((bldD vars t).r)) rfl) ?_
    refine ops_nil ?_
    refine vc_seq ?_
    refine vc_res (σ' := [(Arr 24 b1 [(Value.int .i64 0), (Value.slice none 0 0), (Value.int .i64 0)]), (Mf b2 fkv (Value.int .i64) (idxF (bldD vars t).N)), (Arr 95 b3 [u1, (Value.map (some b2))]), (Gr 42 3 u1 ((bldD vars t).N.length) ((fks (bldD vars t).N)))]) rfl ?_
    refine vc_freezeS (v := u1) (E := 42) (n := (bldD vars t).N.length) (xs := (fks (bldD vars t).N)) (σr := [(Arr 24 b1 [(Value.int .i64 0), (Value.slice none 0 0), (Value.int .i64 0)]), (Mf b2 fkv (Value.int .i64) (idxF (bldD vars t).N)), (Arr 95 b3 [u1, (Value.map (some b2))])]) (List.perm_middle (l₁ := [(Arr 24 b1 [(Value.int .i64 0), (Value.slice none 0 0), (Value.int .i64 0)]), (Mf b2 fkv (Value.int .i64) (idxF (bldD vars t).N)), (Arr 95 b3 [u1, (Value.map (some b2))])]) (l₂ := [])) (fun Vf6 hVf6 hc6 => ?_)
    have ht := ht.mono hVf6
    have hc4 := hc4.mono hVf6
    have hc5 := hc5.mono hVf6
    refine vc_region ?_
    refine oq (qv_mv (Value.int .i64 vars) rfl) ?_
    refine oq (qv_ldp (v := (Value.pointer (some ⟨b3, 0, none⟩))) Try.plain92 rfl (inVc hc5) rfl) ?_
    refine oq (qv_nilck rfl) ?_
    refine oq (qv_fa (off := 0) Try.field95_0 rfl) ?_
    refine oq (qv_ldp (v := u1) Try.plain22 rfl (inOc (k := 2) rfl) rfl) ?_
    refine oq (qv_mv (.int .i64 ((bldD vars t).r)) rfl) ?_
    refine ops_call (σa := []) (σr := [(Arr 24 b1 [(Value.int .i64 0), (Value.slice none 0 0), (Value.int .i64 0)]), (Mf b2 fkv (Value.int .i64) (idxF (bldD vars t).N)), (Arr 95 b3 [u1, (Value.map (some b2))])]) (by have h := lay_c (vars := vars) (N := (prt vars.toNat [] 0 t).1) (root := (prt vars.toNat [] 0 t).2) hc6 hpo.fm hpo.rf (by have q := hpl.2; have q2 : (prt vars.toNat [] 0 t).1.length + 1 ≤ 0 + 2 ^ vars.toNat := q; omega); rw [lay_prt (by omega) hl] at h; exact h) rfl rfl (.refl _) (fun r2 V2 sg2 hV2 hp2 => ?_)
    obtain ⟨rfl, u9, rfl, hN9⟩ := hp2
    have ht := ht.mono hV2
    have hc4 := hc4.mono hV2
    have hc5 := hc5.mono hV2
    have hc6 := hc6.mono hV2
    refine ops_stw (k := 0) (vs := [(Value.int .i64 vars), u9, (.int .i64 ((bldD vars t).r))]) Try.size24 rfl rfl rfl (allc rfl (allc (SlS.one hN9) (allc rfl rfl))) rfl rfl ?_
    refine oq (qv_as (Value.int .i64 0) rfl) ?_
    refine ops_nil ?_
    refine vc_freeze (b := b1) (o := .cells ([(Value.int .i64 vars), u9, (Value.int .i64 ((bldD vars t).r))] : List Value).toArray 24 (0, 0)) (σr := [(Mf b2 fkv (Value.int .i64) (idxF (bldD vars t).N)), (Arr 95 b3 [u1, (Value.map (some b2))])]) (List.perm_middle (l₁ := []) (l₂ := [(Mf b2 fkv (Value.int .i64) (idxF (bldD vars t).N)), (Arr 95 b3 [u1, (Value.map (some b2))])])) (fun Vf7 hVf7 hb7 => ?_)
    have hc7 : Cells Vf7 b1 [(Value.int .i64 vars), u9, (.int .i64 ((bldD vars t).r))] := ⟨_, _, hb7⟩
    have ht := ht.mono hVf7
    have hc4 := hc4.mono hVf7
    have hc5 := hc5.mono hVf7
    have hc6 := hc6.mono hVf7
    have hN9 := hN9.mono hVf7
    refine vc_drop [] [(Mf b2 fkv (Value.int .i64) (idxF (bldD vars t).N)), (Arr 95 b3 [u1, (Value.map (some b2))])] (.refl _) ?_
    refine vc_ret ?_
    refine rs2 _ (Value.int .i64 0) (rv_c (vs := [(Value.int .i64 vars), u9, (.int .i64 ((bldD vars t).r))]) Try.agg24 rfl (inVc hc7) rfl rfl) (rv_t rfl) ?_
    obtain ⟨e1, e2⟩ := ft_0 (vars := vars) (t := t) (by omega) (by omega)
    rw [e1, e2]
    exact ⟨rfl, u9, rfl, hN9⟩

end Go.Proofs.Ytgehdgeiikjohaa
