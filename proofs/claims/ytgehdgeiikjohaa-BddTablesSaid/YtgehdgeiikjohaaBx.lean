/- Walks of bdd: what each function returns. Printed by a program out of notes. -/
import Derived.Test.YtgehdgeiikjohaaBw
namespace Go.Proofs.Ytgehdgeiikjohaa
open Go.Vc
open Classical

/-- What the listing of a table does. -/
def TlC (N : List Fk) (vars : Int) (nv : Value) (root : Int) (pb bo pl : Nat) (k : Nat) : Prop := ∀ (V : HV) (v r : Int) (e : Int → Bool) (L : List Bool) (u : Value), Fks V nv N → Cells V pb [.int .i64 vars, nv, .int .i64 root] → Cells V pl [.func (.func 67) #[] #[pt pb, pt bo, pt pl]] → Rf N r → v = vars - k → 0 ≤ v → v ≤ lev vars N r → L.length + 2 ^ k ≤ 4398046511104 →
  FnC Try.prog 67 [.int .i64 v, .int .i64 r, pt pb, pt bo, pt pl] V [Arr 34 bo [u], Gr 4 1 u L.length (bvs L)] (fun _ _ σ' => ∃ u', σ' = [Arr 34 bo [u'], Gr 4 1 u' (L ++ tab (fun e => vl N e r) k v e).length (bvs (L ++ tab (fun e => vl N e r) k v e))])

set_option maxRecDepth 100000 in
set_option maxHeartbeats 4000000 in
theorem tl_step {V : HV} {N : List Fk} {vars : Int} {nv : Value} {root : Int} {pb bo pl k0 k : Nat} {v r : Int} {e : Int → Bool} {L : List Bool} {u : Value} (hF : Fm vars N) (hv40 : vars ≤ 40) (IH : k0 = k + 1 → TlC N vars nv root pb bo pl k) (hk1 : k0 = 0 ∨ k0 = k + 1) (hN : Fks V nv N) (hpb : Cells V pb [.int .i64 vars, nv, .int .i64 root]) (hpl : Cells V pl [.func (.func 67) #[] #[pt pb, pt bo, pt pl]]) (hr : Rf N r) (hv : v = vars - k0) (v0 : 0 ≤ v) (hle : v ≤ lev vars N r) (hL : L.length + 2 ^ k0 ≤ 4398046511104) :
    FnC Try.prog 67 [(Value.int .i64 v), (Value.int .i64 r), (Value.pointer (some ⟨pb, 0, none⟩)), (Value.pointer (some ⟨bo, 0, none⟩)), (Value.pointer (some ⟨pl, 0, none⟩))] V [(Arr 34 bo [u]), (Gr 4 1 u L.length ((bvs L)))] (fun _ _ σ' => ∃ u', σ' = [Arr 34 bo [u'], Gr 4 1 u' (L ++ tab (fun e => vl N e r) k0 v e).length (bvs (L ++ tab (fun e => vl N e r) k0 v e))]) := by
 refine fn_intro (N := 32) Try.func67 (by kernel_rfl) rfl rfl rfl (Nat.le_of_ble_eq_true rfl) ?_
 intro w0 D
 have hb := SlS.bound hN
 have hpk := one_le_two_pow' k0
 have hr1 := hr.1
 have hr2 := hr.2
 refine vc_seq ?_
 refine vc_seq ?_
 refine vc_res (σ' := [(Arr 34 bo [u]), (Gr 4 1 u L.length ((bvs L)))]) rfl ?_
 refine vc_region ?_
 refine oq (qv_mv (Value.int .i64 v) rfl) ?_
 refine oq (qv_fa (off := 0) Try.field24_0 rfl) ?_
 refine oq (qv_ldp (v := (Value.int .i64 vars)) Try.plain3 rfl (inVc hpb) rfl) ?_
 refine oq (qv_eql rfl rfl) ?_
 refine ops_nil ?_
 refine vc_if rfl (fun c1 => ?_) (fun c1 => ?_)
 ·
  refine vc_seq ?_
  have hk0 : k0 = 0 := by omega
  subst hk0
  refine vc_region ?_
  refine oq (qv_ldp (v := u) Try.plain34 rfl (inOc (k := 0) rfl) rfl) ?_
  refine oq (qv_mv (Value.int .i64 r) rfl) ?_
  refine oq (qv_eql rfl rfl) ?_
  refine ops_lit (n := 1) (s := 1) (cs := [(.bool (decide (r = 1)))]) Try.underlying34 Try.ti4 (Nat.le_of_ble_eq_true rfl) rfl rfl rfl (Nat.le_of_ble_eq_true rfl) rfl (fun b1 => ?_)
  refine ops_append (k := 1) (n := L.length) (s := 1) (m := 1) (v := u) (xs := (bvs L)) (news := [(.bool (decide (r = 1)))]) Try.underlying34 Try.ti4 rfl (Nat.le_of_ble_eq_true rfl) rfl rfl rfl rfl (news_own (j := 2) rfl) (by simp [Value.oneCell']) (by omega) (by simp only [maxLen]; omega) (fun v1 hn1 => ?_)
  refine ops_gr1 (k := 1) rfl (fun ho1 => ?_)
  refine ops_stp (k := 0) (off := 0) (cs := [u]) Try.size34 rfl (rfl : ev _ _ = v1) ho1 rfl (Nat.le_of_ble_eq_true rfl) ?_
  refine ops_nil ?_
  refine vc_drop [(Arr 34 bo [v1]), (Gr 4 1 v1 ((L.length + 1)) (((bvs L) ++ [(Value.bool (decide (r = 1)))])))] [(Arr 4 b1 [(Value.bool (decide (r = 1)))])] ((List.perm_middle (l₁ := [(Arr 34 bo [v1]), (Gr 4 1 v1 ((L.length + 1)) (((bvs L) ++ [(Value.bool (decide (r = 1)))])))]) (l₂ := [])).trans (List.perm_append_comm (l₁ := [(Arr 4 b1 [(Value.bool (decide (r = 1)))])]))) ?_
  refine vc_ret ?_
  refine rq0 ?_
  rw [tab_leaf (hF.lev_node_lt hr (by have := hF.lev_le hr; omega))]
  exact ⟨v1, by simp [bvs]⟩
 ·
  refine vc_skip ?_
  refine vc_seq ?_
  have hk0 : k0 = k + 1 := by omega
  subst hk0
  have IH := IH rfl
  have hpk2 : 2 ^ (k + 1) = 2 ^ k + 2 ^ k := by rw [Nat.pow_succ]; omega
  have hfx := fol_rf (hi := False) hF hr (show v < vars by omega) hle
  have hfy := fol_rf (hi := True) hF hr (show v < vars by omega) hle
  obtain ⟨x, hx⟩ : ∃ x, x = L ++ tab (fun e => vl N e (fol vars N r v False)) k (v + 1) (up e v false) := ⟨_, rfl⟩
  obtain ⟨y, hy⟩ : ∃ y, y = x ++ tab (fun e => vl N e (fol vars N r v True)) k (v + 1) (up e v true) := ⟨_, rfl⟩
  have hxl : x.length = L.length + 2 ^ k := by rw [hx, List.length_append, tab_len]
  refine vc_region_order (τ := [(Arr 34 bo [u]), (Gr 4 1 u L.length ((bvs L)))]) [(0, false), (1, false), (2, false), (3, false), (4, false), (5, false), (6, false), (7, true)] [] Try.mixed (perm_idx _ _ [0, 1] rfl rfl) (by kernel_rfl) ?_
  refine rq rfl (qv_ldp (v := (Value.func (.func 67) #[] #[(Value.pointer (some ⟨pb, 0, none⟩)), (Value.pointer (some ⟨bo, 0, none⟩)), (Value.pointer (some ⟨pl, 0, none⟩))])) Try.plain98 rfl (inVc hpl) rfl) ?_
  refine rq rfl (qv_mv (Value.int .i64 v) rfl) ?_
  refine rq rfl (qv_add rfl rfl (by omega)) ?_
  refine rq rfl (qv_ldm (vs := [(Value.int .i64 vars), nv, (Value.int .i64 root)]) Try.agg24 rfl (inVc hpb) rfl rfl) ?_
  refine rq rfl (qv_mv (Value.int .i64 r) rfl) ?_
  refine rq rfl (qv_mv (Value.int .i64 v) rfl) ?_
  refine rq rfl (qv_call (v := (.int .i64 (fol vars N r v False))) (follow_c hN (r := r) (x := v) (hi := False) (by omega) (by omega) (by omega)) rfl rfl) ?_
  refine rl rfl ?_
  refine ops_call (σa := [(Arr 34 bo [u]), (Gr 4 1 u L.length ((bvs L)))]) (σr := []) (by have h := IH _ (v + 1) (fol vars N r v False) (up e v false) L u hN hpb hpl hfx.1 (by omega) (by omega) (by have := hfx.2; omega) (by omega); rw [← hx] at h; exact h) rfl rfl (.refl _) (fun r1 V1 sg1 hV1 hp1 => ?_)
  obtain ⟨ux, rfl⟩ := hp1
  have hN := hN.mono hV1
  have hpb := hpb.mono hV1
  have hpl := hpl.mono hV1
  refine ops_nil ⟨[], [(Arr 34 bo [ux]), (Gr 4 1 ux x.length ((bvs x)))], hV1, (perm_idx _ _ [0, 1] rfl rfl), ⟨[], .refl _⟩, ?_⟩
  refine rnil ?_
  refine vc_res (σ' := [(Arr 34 bo [ux]), (Gr 4 1 ux x.length ((bvs x)))]) rfl ?_
  refine vc_region_order (τ := [(Arr 34 bo [ux]), (Gr 4 1 ux x.length ((bvs x)))]) [(0, false), (1, false), (2, false), (3, false), (4, false), (5, false), (6, false), (7, true)] [] Try.mixed (perm_idx _ _ [0, 1] rfl rfl) (by kernel_rfl) ?_
  refine rq rfl (qv_ldp (v := (Value.func (.func 67) #[] #[(Value.pointer (some ⟨pb, 0, none⟩)), (Value.pointer (some ⟨bo, 0, none⟩)), (Value.pointer (some ⟨pl, 0, none⟩))])) Try.plain98 rfl (inVc hpl) rfl) ?_
  refine rq rfl (qv_mv (Value.int .i64 v) rfl) ?_
  refine rq rfl (qv_add rfl rfl (by omega)) ?_
  refine rq rfl (qv_ldm (vs := [(Value.int .i64 vars), nv, (Value.int .i64 root)]) Try.agg24 rfl (inVc hpb) rfl rfl) ?_
  refine rq rfl (qv_mv (Value.int .i64 r) rfl) ?_
  refine rq rfl (qv_mv (Value.int .i64 v) rfl) ?_
  refine rq rfl (qv_call (v := (.int .i64 (fol vars N r v True))) (follow_c hN (r := r) (x := v) (hi := True) (by omega) (by omega) (by omega)) rfl rfl) ?_
  refine rl rfl ?_
  refine ops_call (σa := [(Arr 34 bo [ux]), (Gr 4 1 ux x.length ((bvs x)))]) (σr := []) (by have h := IH _ (v + 1) (fol vars N r v True) (up e v true) x ux hN hpb hpl hfy.1 (by omega) (by omega) (by have := hfy.2; omega) (by omega); rw [← hy] at h; exact h) rfl rfl (.refl _) (fun r2 V2 sg2 hV2 hp2 => ?_)
  obtain ⟨uy, rfl⟩ := hp2
  have hN := hN.mono hV2
  have hpb := hpb.mono hV2
  have hpl := hpl.mono hV2
  refine ops_nil ⟨[], [(Arr 34 bo [uy]), (Gr 4 1 uy y.length ((bvs y)))], hV2, (perm_idx _ _ [0, 1] rfl rfl), ⟨[], .refl _⟩, ?_⟩
  refine rnil ?_
  refine ret0 ?_
  rw [tab_fol hF hr (show v < vars by omega), ← List.append_assoc, ← hx, ← hy]
  exact ⟨uy, rfl⟩

theorem tl_c {N : List Fk} {vars : Int} {nv : Value} {root : Int} {pb bo pl : Nat} (hF : Fm vars N) (hv40 : vars ≤ 40) : ∀ k, TlC N vars nv root pb bo pl k
  | 0 => fun V v r e L u h1 h2 h3 h4 h5 h6 h7 h8 => tl_step (k := 0) hF hv40 (fun q => by omega) (.inl rfl) h1 h2 h3 h4 h5 h6 h7 h8
  | k + 1 => fun V v r e L u h1 h2 h3 h4 h5 h6 h7 h8 => tl_step (k := k) hF hv40 (fun _ => tl_c hF hv40 k) (.inr rfl) h1 h2 h3 h4 h5 h6 h7 h8
set_option maxRecDepth 100000 in
set_option maxHeartbeats 4000000 in
theorem Table_c {V : HV} {na : Value} {A : Dg} (hA : Fks V na A.N) :
    FnC Try.prog 34 [(.agg #[(.int .i64 A.v), na, (.int .i64 A.r)])] V [] (fun v V' σ' => σ' = [] ∧ ∃ u, v = .tuple #[u, .int .i64 (tbE A)] ∧ Bls V' u (tbT A)) := by
 refine fn_intro (N := 22) Try.func34 (by kernel_rfl) rfl rfl rfl (Nat.le_of_ble_eq_true rfl) ?_
 intro w0 D
 have hb := SlS.bound hA
 refine vc_seq ?_
 refine vc_region ?_
 refine ops_box (v := (.agg #[(.int .i64 A.v), na, (.int .i64 A.r)])) (cs := [(.int .i64 A.v), na, (.int .i64 A.r)]) rfl rfl (fun b1 => ?_)
 refine oq (qv_as (Value.slice none 0 0) rfl) ?_
 refine oq (qv_as (Value.int .i64 0) rfl) ?_
 refine ops_nil ?_
 refine vc_seq ?_
 refine vc_seq ?_
 refine vc_res (σ' := [(Arr 24 b1 [(.int .i64 A.v), na, (.int .i64 A.r)])]) rfl ?_
 refine vc_region ?_
 refine oq (qv_ldm (vs := [(.int .i64 A.v), na, (.int .i64 A.r)]) Try.agg24 rfl (inOc (k := 0) rfl) rfl rfl) ?_
 refine oq (qv_call (v := (.int .i64 (chkC A.v A.N A.r))) (Check_c hA) rfl rfl) ?_
 refine oq (qv_neq rfl rfl) ?_
 refine ops_nil ?_
 refine vc_if rfl (fun c1 => ?_) (fun c1 => ?_)
 ·
  refine vc_seq ?_
  refine vc_region ?_
  refine oq (qv_as (Value.slice none 0 0) rfl) ?_
  refine oq (qv_as (Value.int .i64 1) rfl) ?_
  refine ops_nil ?_
  refine vc_drop [] [(Arr 24 b1 [(.int .i64 A.v), na, (.int .i64 A.r)])] (.refl _) ?_
  refine vc_ret ?_
  refine rq2 (Value.slice none 0 0) (Value.int .i64 1) rfl rfl ?_
  obtain ⟨e1, e2⟩ := tb_1 (A := A) (by omega)
  rw [e1, e2]
  exact ⟨rfl, _, rfl, Bls.nil⟩
 ·
  refine vc_skip ?_
  refine vc_seq ?_
  refine vc_seq ?_
  have hok : dOk A := chk_ok.1 (by omega)
  have hv0 := hok.1.1
  refine vc_region ?_
  refine oq (qv_fa (off := 0) Try.field24_0 rfl) ?_
  refine oq (qv_ldp (v := (.int .i64 A.v)) Try.plain3 rfl (inOc (k := 0) rfl) rfl) ?_
  refine oq (qv_gtr rfl rfl) ?_
  refine ops_nil ?_
  refine vc_if rfl (fun c2 => ?_) (fun c2 => ?_)
  ·
   refine vc_seq ?_
   refine vc_region ?_
   refine oq (qv_as (Value.slice none 0 0) rfl) ?_
   refine oq (qv_as (Value.int .i64 4) rfl) ?_
   refine ops_nil ?_
   refine vc_drop [] [(Arr 24 b1 [(.int .i64 A.v), na, (.int .i64 A.r)])] (.refl _) ?_
   refine vc_ret ?_
   refine rq2 (Value.slice none 0 0) (Value.int .i64 4) rfl rfl ?_
   obtain ⟨e1, e2⟩ := tb_4 (A := A) (by omega) (by omega)
   rw [e1, e2]
   exact ⟨rfl, _, rfl, Bls.nil⟩
  ·
   refine vc_skip ?_
   refine vc_seq ?_
   have hpw := pow2_12 (n := A.v.toNat) (by omega)
   have hp2 : 2 ^ A.v.toNat ≤ 2 ^ 12 := Nat.pow_le_pow_right (by omega) (by omega)
   refine vc_region ?_
   refine oq (qv_fa (off := 0) Try.field24_0 rfl) ?_
   refine oq (qv_ldp (v := (.int .i64 A.v)) Try.plain3 rfl (inOc (k := 0) rfl) rfl) ?_
   refine oq (qv_shli rfl rfl (by omega) (by omega) (by omega)) ?_
   refine ops_make_gr (n := 1 * 2 ^ (A.v : Int).toNat) Try.underlying34 Try.ti4 rfl rfl (by omega) (by omega) (by omega) (fun b2 => ?_)
   refine ops_alloc Try.ti34 rfl (fun b3 => ?_)
   refine ops_gr1 (k := 1) rfl (fun ho1 => ?_)
   refine ops_stp (k := 2) (off := 0) (cs := [(Value.slice none 0 0)]) Try.size34 rfl (rfl : ev _ _ = (.slice (some ⟨b2, 0, none⟩) 0 (1 * 2 ^ (A.v : Int).toNat : Int).toNat)) ho1 rfl (Nat.le_of_ble_eq_true rfl) ?_
   refine ops_nil ?_
   refine vc_seq ?_
   refine vc_res (σ' := [(Arr 24 b1 [(.int .i64 A.v), na, (.int .i64 A.r)]), (Gr 4 1 ((.slice (some ⟨b2, 0, none⟩) 0 (1 * 2 ^ (A.v : Int).toNat : Int).toNat)) 0 ([])), (Arr 34 b3 [(.slice (some ⟨b2, 0, none⟩) 0 (1 * 2 ^ (A.v : Int).toNat : Int).toNat)])]) rfl ?_
   refine vc_region ?_
   refine ops_alloc Try.ti98 rfl (fun b4 => ?_)
   refine ops_nil ?_
   refine vc_seq ?_
   refine vc_res (σ' := [(Arr 24 b1 [(.int .i64 A.v), na, (.int .i64 A.r)]), (Gr 4 1 ((.slice (some ⟨b2, 0, none⟩) 0 (1 * 2 ^ (A.v : Int).toNat : Int).toNat)) 0 ([])), (Arr 34 b3 [(.slice (some ⟨b2, 0, none⟩) 0 (1 * 2 ^ (A.v : Int).toNat : Int).toNat)]), (Arr 98 b4 [Value.nilFunc])]) rfl ?_
   refine vc_region ?_
   refine oq (qv_func (cs := [(Value.pointer (some ⟨b1, 0, none⟩)), (Value.pointer (some ⟨b3, 0, none⟩)), (Value.pointer (some ⟨b4, 0, none⟩))]) rfl) ?_
   refine ops_stp (k := 3) (off := 0) (cs := [Value.nilFunc]) Try.size98 rfl (rfl : ev _ _ = (Value.func (.func 67) #[] #[(Value.pointer (some ⟨b1, 0, none⟩)), (Value.pointer (some ⟨b3, 0, none⟩)), (Value.pointer (some ⟨b4, 0, none⟩))])) rfl rfl (Nat.le_of_ble_eq_true rfl) ?_
   refine ops_nil ?_
   refine vc_seq ?_
   refine vc_res (σ' := [(Arr 24 b1 [(.int .i64 A.v), na, (.int .i64 A.r)]), (Gr 4 1 ((.slice (some ⟨b2, 0, none⟩) 0 (1 * 2 ^ (A.v : Int).toNat : Int).toNat)) 0 ([])), (Arr 34 b3 [(.slice (some ⟨b2, 0, none⟩) 0 (1 * 2 ^ (A.v : Int).toNat : Int).toNat)]), (Arr 98 b4 [(Value.func (.func 67) #[] #[(Value.pointer (some ⟨b1, 0, none⟩)), (Value.pointer (some ⟨b3, 0, none⟩)), (Value.pointer (some ⟨b4, 0, none⟩))])])]) rfl ?_
   refine vc_freeze (b := b1) (o := .cells ([(Value.int .i64 (A.v)), na, (Value.int .i64 (A.r))] : List Value).toArray 24 (0, 0)) (σr := [(Gr 4 1 ((Value.slice (some ⟨b2, 0, none⟩) 0 (1 * 2 ^ (A.v : Int).toNat : Int).toNat)) 0 ([])), (Arr 34 b3 [(Value.slice (some ⟨b2, 0, none⟩) 0 (1 * 2 ^ (A.v : Int).toNat : Int).toNat)]), (Arr 98 b4 [(Value.func (.func 67) #[] #[(Value.pointer (some ⟨b1, 0, none⟩)), (Value.pointer (some ⟨b3, 0, none⟩)), (Value.pointer (some ⟨b4, 0, none⟩))])])]) (List.perm_middle (l₁ := []) (l₂ := [(Gr 4 1 ((Value.slice (some ⟨b2, 0, none⟩) 0 (1 * 2 ^ (A.v : Int).toNat : Int).toNat)) 0 ([])), (Arr 34 b3 [(Value.slice (some ⟨b2, 0, none⟩) 0 (1 * 2 ^ (A.v : Int).toNat : Int).toNat)]), (Arr 98 b4 [(Value.func (.func 67) #[] #[(Value.pointer (some ⟨b1, 0, none⟩)), (Value.pointer (some ⟨b3, 0, none⟩)), (Value.pointer (some ⟨b4, 0, none⟩))])])])) (fun Vf1 hVf1 hb1 => ?_)
   have hc1 : Cells Vf1 b1 [(.int .i64 A.v), na, (.int .i64 A.r)] := ⟨_, _, hb1⟩
   have hA := hA.mono hVf1
   refine vc_freeze (b := b4) (o := .cells ([(Value.func (.func 67) #[] #[(Value.pointer (some ⟨b1, 0, none⟩)), (Value.pointer (some ⟨b3, 0, none⟩)), (Value.pointer (some ⟨b4, 0, none⟩))])] : List Value).toArray 98 (0, 0)) (σr := [(Gr 4 1 ((Value.slice (some ⟨b2, 0, none⟩) 0 (1 * 2 ^ (A.v : Int).toNat : Int).toNat)) 0 ([])), (Arr 34 b3 [(Value.slice (some ⟨b2, 0, none⟩) 0 (1 * 2 ^ (A.v : Int).toNat : Int).toNat)])]) (List.perm_middle (l₁ := [(Gr 4 1 ((Value.slice (some ⟨b2, 0, none⟩) 0 (1 * 2 ^ (A.v : Int).toNat : Int).toNat)) 0 ([])), (Arr 34 b3 [(Value.slice (some ⟨b2, 0, none⟩) 0 (1 * 2 ^ (A.v : Int).toNat : Int).toNat)])]) (l₂ := [])) (fun Vf2 hVf2 hb2 => ?_)
   have hc2 : Cells Vf2 b4 [(Value.func (.func 67) #[] #[(Value.pointer (some ⟨b1, 0, none⟩)), (Value.pointer (some ⟨b3, 0, none⟩)), (Value.pointer (some ⟨b4, 0, none⟩))])] := ⟨_, _, hb2⟩
   have hA := hA.mono hVf2
   have hc1 := hc1.mono hVf2
   refine vc_region ?_
   refine oq (qv_ldp (v := (Value.func (.func 67) #[] #[(Value.pointer (some ⟨b1, 0, none⟩)), (Value.pointer (some ⟨b3, 0, none⟩)), (Value.pointer (some ⟨b4, 0, none⟩))])) Try.plain98 rfl (inVc hc2) rfl) ?_
   refine oq (qv_fa (off := 0) Try.field24_2 rfl) ?_
   refine oq (qv_ldp (v := (.int .i64 A.r)) Try.plain3 rfl (inVc hc1) rfl) ?_
   refine ops_call (σa := [(Arr 34 b3 [(.slice (some ⟨b2, 0, none⟩) 0 (1 * 2 ^ (A.v : Int).toNat : Int).toNat)]), (Gr 4 1 ((.slice (some ⟨b2, 0, none⟩) 0 (1 * 2 ^ (A.v : Int).toNat : Int).toNat)) 0 ([]))]) (σr := []) (by have h := tl_c hok.2.2.1.1 (by omega) A.v.toNat _ 0 A.r (fun _ => false) [] ((.slice (some ⟨b2, 0, none⟩) 0 (1 * 2 ^ (A.v : Int).toNat : Int).toNat)) hA hc1 hc2 hok.2.2.1.rf (by omega) (by omega) (hok.2.2.1.1.lev_nn (by omega) hok.2.2.1.rf) (by show 0 + _ ≤ _; omega); rw [List.nil_append, tab_tbl (by omega)] at h; exact h) rfl rfl (perm_idx _ _ [1, 0] rfl rfl) (fun r1 V1 sg1 hV1 hp1 => ?_)
   obtain ⟨u1, rfl⟩ := hp1
   have hA := hA.mono hV1
   have hc1 := hc1.mono hV1
   have hc2 := hc2.mono hV1
   refine ops_perm (σ' := [(Gr 4 1 u1 ((tbD A).length) ((bvs (tbD A)))), (Arr 34 b3 [u1])]) (perm_idx _ _ [1, 0] rfl rfl) ?_
   refine ops_nil ?_
   refine vc_seq ?_
   refine vc_res (σ' := [(Gr 4 1 u1 ((tbD A).length) ((bvs (tbD A)))), (Arr 34 b3 [u1])]) rfl ?_
   refine vc_region ?_
   refine oq (qv_ldp (v := u1) Try.plain34 rfl (inOc (k := 1) rfl) rfl) ?_
   refine oq (qv_as u1 rfl) ?_
   refine oq (qv_as (Value.int .i64 0) rfl) ?_
   refine ops_nil ?_
   refine vc_freezeG (v := u1) (E := 4) (n := (tbD A).length) (xs := (bvs (tbD A))) (σr := [(Arr 34 b3 [u1])]) (List.perm_middle (l₁ := []) (l₂ := [(Arr 34 b3 [u1])])) (fun Vf3 hVf3 hc3 => ?_)
   have hA := hA.mono hVf3
   have hc1 := hc1.mono hVf3
   have hc2 := hc2.mono hVf3
   refine vc_drop [] [(Arr 34 b3 [u1])] (.refl _) ?_
   refine vc_ret ?_
   refine rq2 u1 (Value.int .i64 0) rfl rfl ?_
   obtain ⟨e1, e2⟩ := tb_0 (A := A) (by omega) (by omega)
   rw [e1, e2]
   exact ⟨rfl, u1, rfl, hc3⟩

end Go.Proofs.Ytgehdgeiikjohaa
