/- Restrictions, sums, constants, tables. No program in sight. -/
import Derived.Test.YtkmhjcjpohpiaaaMtC
namespace Go.Proofs.Ytkmhjcjpohpiaaa
open Go Go.Vc
open Classical
/- one diagram, checked -/
theorem vE1_0 {A : Mg} (h : Ok A) : vE [A] = 0 := vE_0 (vld1.2 h) sam1
theorem vE1_1 {A : Mg} (h : ¬ Ok A) : vE [A] = 1 := vE_1 fun q => h (vld1.1 q)
theorem vE1_ok {A : Mg} : vE [A] = 0 ↔ Ok A := ⟨fun h => vld1.1 (vE_ok.1 h).1, vE1_0⟩
theorem vE1_n {A : Mg} (h : vE [A] ≠ 0) : ¬ Ok A ∧ vE [A] = 1 := by
  by_cases q : Ok A
  · exact absurd (vE1_0 q) h
  · exact ⟨q, vE1_1 q⟩
theorem vE2_ok {A B : Mg} : vE [A, B] = 0 ↔ (Ok A ∧ Ok B) ∧ A.v = B.v := by rw [vE_ok, vld2, sam2]
/- restrictions -/
theorem Loc.bd {A : Mg} (h : Loc A) : ∀ j : Int, 0 ≤ j → j < A.N.length → (0 ≤ (fk A.N j).l ∧ (fk A.N j).l < A.L.length + j) ∧ (0 ≤ (fk A.N j).h ∧ (fk A.N j).h < A.L.length + j) := fun j h0 h1 => by
  obtain ⟨_, _, _, ⟨a, b, _⟩, ⟨c, d, _⟩⟩ := h.nd j h0 h1
  exact ⟨⟨a, b⟩, ⟨c, d⟩⟩
theorem Ok.loc {A : Mg} (h : Ok A) : Loc A := h.2.2.1
theorem Ok.inr {A : Mg} (h : Ok A) {k : Int} (h0 : 0 ≤ k) (h1 : k < A.L.length) : inR (gi A.L k) := (h.loc.lf k h0 h1).1
theorem rinv_lv {A : Mg} (h : Ok A) (i : Int) (b : Bool) : ∀ n : Nat, n ≤ A.L.length → ∃ L R, RInv A i b L [] R ∧ R.length = n
  | 0, _ => ⟨[], [], rinv0, rfl⟩
  | n + 1, hn => by
    obtain ⟨L, R, c, hl⟩ := rinv_lv h i b n (by omega)
    exact ⟨_, _, rinv_leaf (k := (n : Int)) c (by omega) (by omega) (h.inr (by omega) (by omega)), by rw [List.length_append, hl]; rfl⟩
theorem rinv_nd {A : Mg} (h : Ok A) (i : Int) (b : Bool) : ∀ n : Nat, n ≤ A.N.length → ∃ L M R, RInv A i b L M R ∧ R.length = A.L.length + n
  | 0, _ => by
    obtain ⟨L, R, c, hl⟩ := rinv_lv h i b A.L.length (Nat.le_refl _)
    exact ⟨L, [], R, c, by omega⟩
  | n + 1, hn => by
    obtain ⟨L, M, R, c, hl⟩ := rinv_nd h i b n (by omega)
    exact ⟨_, _, _, rinv_node (j := (n : Int)) h.red h.loc.bd c (by omega) (by omega) (by omega), by rw [List.length_append, hl]; rfl⟩
noncomputable abbrev rsT (A : Mg) (i : Int) (b : Bool) : List Int := tabv A.v fun e => vl A (up e i b)
theorem rs_E0 {A : Mg} (h : Ok A) (i : Int) (b : Bool) : mkE A.v (rsT A i b) = 0 := by
  obtain ⟨L, M, R, c, hl⟩ := rinv_nd h i b A.N.length (Nat.le_refl _)
  exact (c.fin h.1.1 h.2.1.1 h.2.1.2 (by omega) h.rt).2.2.2
noncomputable def rsE (A : Mg) (i : Int) : Int := if Ok A then if 0 ≤ i ∧ i < A.v then 0 else 3 else 1
noncomputable def rsD (A : Mg) (i : Int) (b : Bool) : Mg := orZ (dg A.v (rsT A i b)) (rsE A i)
theorem rsE_1 {A : Mg} {i : Int} (h : ¬ Ok A) : rsE A i = 1 := if_neg h
theorem rsE_3 {A : Mg} {i : Int} (h : Ok A) (q : ¬ (0 ≤ i ∧ i < A.v)) : rsE A i = 3 := by unfold rsE; rw [if_pos h, if_neg q]
theorem rsE_0 {A : Mg} {i : Int} (h : Ok A) (q : 0 ≤ i ∧ i < A.v) : rsE A i = 0 := by unfold rsE; rw [if_pos h, if_pos q]
theorem rsE_ok {A : Mg} {i : Int} (h : rsE A i = 0) : Ok A ∧ 0 ≤ i ∧ i < A.v := by
  by_cases q : Ok A
  · by_cases q2 : 0 ≤ i ∧ i < A.v
    · exact ⟨q, q2⟩
    · rw [rsE_3 q q2] at h; omega
  · rw [rsE_1 q] at h; omega
theorem rsD_0 {A : Mg} {i : Int} {b : Bool} (h : rsE A i = 0) : rsD A i b = dg A.v (rsT A i b) := by unfold rsD; rw [h, orZ_0]
theorem rsD_n {A : Mg} {i : Int} {b : Bool} (h : rsE A i ≠ 0) : rsD A i b = zM := orZ_n h
theorem rs_ok {A : Mg} (h : Ok A) (i : Int) (b : Bool) : Ok (dg A.v (rsT A i b)) :=
  dg_ok h.1.1 h.1.2 (tabv_len _) (mkE_0 (rs_E0 h i b)).1 (mkE_0 (rs_E0 h i b)).2
theorem rs_vl {A : Mg} (h : Ok A) (i : Int) (b : Bool) (e : Int → Bool) : vl (dg A.v (rsT A i b)) e = vl A (up e i b) :=
  vl_dg h.1.1 h.dep.up (fun e => vl_in h _) e
/- both restrictions -/
noncomputable abbrev boT (A : Mg) (i : Int) (F : Int → Int → Int → Int) : List Int := tabv A.v fun e => F (vl A (up e i false)) (vl A (up e i true)) 0
noncomputable def boE (A : Mg) (i : Int) (F : Int → Int → Int → Int) : Int := if rsE A i = 0 then mkE A.v (boT A i F) else rsE A i
noncomputable def boD (A : Mg) (i : Int) (F : Int → Int → Int → Int) : Mg := orZ (dg A.v (boT A i F)) (boE A i F)
theorem boE_0 {A : Mg} {i : Int} {F : Int → Int → Int → Int} (h : rsE A i = 0) : boE A i F = mkE A.v (boT A i F) := if_pos h
theorem boE_n {A : Mg} {i : Int} {F : Int → Int → Int → Int} (h : rsE A i ≠ 0) : boE A i F = rsE A i := if_neg h
theorem boD_0 {A : Mg} {i : Int} {F : Int → Int → Int → Int} (h : rsE A i = 0) : boD A i F = mkD A.v (boT A i F) := by unfold boD mkD; rw [boE_0 h]
theorem boD_n {A : Mg} {i : Int} {F : Int → Int → Int → Int} (h : rsE A i ≠ 0) : boD A i F = zM := orZ_n (by rw [boE_n h]; exact h)
theorem bo_cT {A : Mg} {i : Int} {F : Int → Int → Int → Int} (h : Ok A) : cT A.v [dg A.v (rsT A i false), dg A.v (rsT A i true)] F = boT A i F := by
  rw [cT2]
  exact tab_congr _ _ _ fun e _ => by rw [rs_vl h, rs_vl h]
theorem bo_cmb {A : Mg} {i : Int} (h : Ok A) : Cmb [dg A.v (rsT A i false), dg A.v (rsT A i true)] :=
  cmb_of (vld2.2 ⟨rs_ok h i false, rs_ok h i true⟩) (sam2.2 rfl) (by show 1 ≤ 2; omega) (by show 2 ≤ 3; omega)
/- constants -/
noncomputable def cnE (vars v : Int) : Int := if (vars < 0 ∨ 40 < vars) ∨ ¬ inR v then 3 else 0
noncomputable def cnD (vars v : Int) : Mg := orZ ⟨vars, [v], [], 0⟩ (cnE vars v)
theorem cn_3 {vars v : Int} (h : (vars < 0 ∨ 40 < vars) ∨ ¬ inR v) : cnE vars v = 3 ∧ cnD vars v = zM := by
  have : cnE vars v = 3 := if_pos h
  exact ⟨this, orZ_n (by omega)⟩
theorem cn_0 {vars v : Int} (h : ¬ ((vars < 0 ∨ 40 < vars) ∨ ¬ inR v)) : cnE vars v = 0 ∧ cnD vars v = ⟨vars, [v], [], 0⟩ := by
  have : cnE vars v = 0 := if_neg h
  exact ⟨this, by unfold cnD; rw [this, orZ_0]⟩
theorem tab_const {α : Type} (a : α) : ∀ (m : Nat) (v : Int) (e : Int → Bool), tab (fun _ => a) m v e = List.replicate (2 ^ m) a
  | 0, _, _ => rfl
  | m + 1, v, e => by
    show tab _ m (v + 1) _ ++ tab _ m (v + 1) _ = _
    rw [tab_const a m, tab_const a m, List.replicate_append_replicate, Nat.pow_succ]
    congr 1; omega
theorem prt_const {K p : Int} : ∀ (m : Nat) (O : List Fk) (v : Int), prt K m O v (List.replicate (2 ^ m) p) = (O, p)
  | 0, _, _ => rfl
  | m + 1, O, v => by
    have e : List.replicate (2 ^ (m + 1)) p = List.replicate (2 ^ m) p ++ List.replicate (2 ^ m) p := by
      rw [List.replicate_append_replicate, Nat.pow_succ]; congr 1; omega
    rw [e, prt_node (by simp), prt_const m, prt_const m]
    unfold ndK; rw [if_pos rfl]
theorem vls_const {a : Int} {n : Nat} (h : 0 < n) : vls (List.replicate n a) = [a] :=
  (vls_eq (by simp) fun z => by simp; omega).symm
theorem cn_dg {vars v : Int} : dg vars (tabv vars fun _ => v) = ⟨vars, [v], [], 0⟩ := by
  have hp : 0 < 2 ^ vars.toNat := Nat.two_pow_pos _
  unfold tabv dg
  rw [tab_const, vls_const hp, List.map_replicate, prt_const]
  refine mg_ext rfl rfl rfl ?_
  have := ix_at (V := [v]) (by simp) (i := 0) (by omega) (by show (0 : Int) < ((1 : Nat) : Int); omega)
  exact this
theorem cn_ok {vars v : Int} (h0 : 0 ≤ vars) (h1 : vars ≤ 40) (hv : inR v) : Ok ⟨vars, [v], [], 0⟩ ∧ ∀ e, vl ⟨vars, [v], [], 0⟩ e = v := by
  have hb : ¬ big (dg vars (tabv vars fun _ => v)) := by rw [cn_dg]; unfold big; show ¬ (4096 < 1 ∨ 4096 < 0); omega
  have hok := dg_ok (t := tabv vars fun _ => v) h0 h1 (tabv_len _) (fun z hz => by
    obtain ⟨_, rfl⟩ := (tabv_mem (f := fun _ => v) h0 (fun _ _ _ => rfl)).1 hz
    exact hv) hb
  refine ⟨by rw [cn_dg] at hok; exact hok, fun e => ?_⟩
  have := vl_dg (f := fun _ => v) h0 (fun _ _ _ => rfl) (fun _ => hv) e
  rw [cn_dg] at this; exact this
/- tables that are built -/
structure FtOk (vars : Int) (L0 : List Int) (M0 : List Fk) (m : Nat) (v : Int) (t : List Int) (L : List Int) (M : List Fk) (p : Int) : Prop where
  ok : BOk vars L M
  extL : ∃ X, L = L0 ++ X
  extM : ∃ Y, M = M0 ++ Y
  rf : (bV L M).ok p
  lv : v ≤ lev vars (bV L M) p
  tb : ∀ e, tab (fun e => gev (bV L M) e p) m v e = t
  mem : ∀ z ∈ L, z ∈ L0 ∨ z ∈ t
  ll : L.length ≤ L0.length + 2 ^ m
  ml : M.length + 1 ≤ M0.length + 2 ^ m
theorem ft_leaf {vars v z : Int} {L : List Int} {M : List Fk} (b : BOk vars L M) (hv : v ≤ vars) : FtOk vars L M 0 v [z] (lfR L z).1 M (lfR L z).2 := by
  have o := leaf_ok (z := z) b
  refine ⟨o.ok, o.ext, ⟨[], by simp⟩, o.rf, ?_, fun e => ?_, fun y hy => ?_, lfR_len.2, by simp⟩
  · rw [lev_lf (G := bV (lfR L z).1 M) o.lf]; exact hv
  · show [gev (bV (lfR L z).1 M) e (lfR L z).2] = [z]
    rw [gev_lf (G := bV (lfR L z).1 M) o.lf]
    show [id (gi (lfR L z).1 ((lfR L z).2 / 2))] = [z]
    rw [show id (gi (lfR L z).1 ((lfR L z).2 / 2)) = z from o.vl]
  · exact (lfR_mem hy).imp id fun e => by simp [e]
theorem ft_node {vars v : Int} {m : Nat} {L0 L1 L2 : List Int} {M0 M1 M2 : List Fk} {t1 t2 : List Int} {p1 p2 : Int} (A : FtOk vars L0 M0 m (v + 1) t1 L1 M1 p1) (B : FtOk vars L1 M1 m (v + 1) t2 L2 M2 p2) (h0 : 0 ≤ v) (h1 : v < vars) :
    FtOk vars L0 M0 (m + 1) v (t1 ++ t2) L2 (ndR M2 v p1 p2).1 (ndR M2 v p1 p2).2 := by
  obtain ⟨X, hX⟩ := B.extL
  obtain ⟨Y, hY⟩ := B.extM
  have g2 : GRed vars (bV (L1 ++ X) (M1 ++ Y)) := by rw [← hX, ← hY]; exact B.ok.red
  have ra : (bV L2 M2).ok p1 := by rw [hX, hY]; exact (bG_sub A.rf).1
  have la : lev vars (bV L2 M2) p1 = lev vars (bV L1 M1) p1 := by rw [hX, hY]; exact bG_lev A.rf
  have va : ∀ e, gev (bV L2 M2) e p1 = gev (bV L1 M1) e p1 := fun e => by rw [hX, hY]; exact bG_gev A.ok.red g2 A.rf e
  have lA := A.lv
  have lB := B.lv
  have n := node_ok (v := v) B.ok h0 h1 ra B.rf (by omega) (by omega)
  obtain ⟨X1, hX1⟩ := A.extL
  obtain ⟨Y1, hY1⟩ := A.extM
  obtain ⟨Z, hZ⟩ := n.ext
  have hp : 2 ^ (m + 1) = 2 ^ m + 2 ^ m := by rw [Nat.pow_succ]; omega
  have a1 := A.ll
  have a2 := A.ml
  have b1 := B.ll
  have b2 := B.ml
  have nl := (ndR_len (N := M2) (v := v) (l := p1) (h := p2)).2
  refine ⟨n.ok, ⟨X1 ++ X, by rw [hX, hX1]; simp⟩, ⟨Y1 ++ Y ++ Z, by rw [hZ, hY, hY1]; simp⟩, n.rf, n.lv, fun e => ?_, fun z hz => ?_, by omega, by omega⟩
  · show tab _ m (v + 1) (up e v false) ++ tab _ m (v + 1) (up e v true) = _
    rw [← A.tb (up e v false), ← B.tb (up e v true)]
    congr 1
    · refine tab_congr m (v + 1) (up e v false) fun e' he => ?_
      have q : e' v = false := by rw [he v (by omega)]; exact if_pos rfl
      rw [n.vl, if_neg (by rw [q]; simp), va]
    · refine tab_congr m (v + 1) (up e v true) fun e' he => ?_
      have q : e' v = true := by rw [he v (by omega)]; exact if_pos rfl
      rw [n.vl, if_pos q]
  · rcases B.mem z hz with h | h
    · rcases A.mem z h with h | h
      · exact .inl h
      · exact .inr (List.mem_append_left _ h)
    · exact .inr (List.mem_append_right _ h)
theorem ft_fin {vars : Int} {t L : List Int} {M : List Fk} {p : Int} (h0 : 0 ≤ vars) (A : FtOk vars [] [] vars.toNat 0 t L M p) : bD vars L M p = dg vars t ∧ finE L (bD vars L M p) = mkE vars t := by
  have e : tabv vars (fun e => gev (bV L M) e p) = t := A.tb e0
  have hd : Dep vars fun e => gev (bV L M) e p := gev_dep A.ok.red h0 A.rf
  have := fin_of h0 A.ok A.rf (f := fun e => gev (bV L M) e p) (fun _ => rfl) fun z hz => by
    rcases A.mem z hz with h | h
    · simp at h
    · rw [← e] at h
      exact .inl ((tabv_mem h0 hd).1 h)
  rw [e] at this
  exact this
/-- FromTable's code, and its diagram. -/
noncomputable def ftE (vars : Int) (t : List Int) : Int := if vars < 0 ∨ 12 < vars then 3 else if (t.length : Int) ≠ 2 ^ vars.toNat then 2 else mkE vars t
noncomputable def ftD (vars : Int) (t : List Int) : Mg := orZ (dg vars t) (ftE vars t)
theorem ft_3 {vars : Int} {t : List Int} (h : vars < 0 ∨ 12 < vars) : ftE vars t = 3 ∧ ftD vars t = zM := by
  have : ftE vars t = 3 := if_pos h
  exact ⟨this, orZ_n (by omega)⟩
theorem ft_2 {vars : Int} {t : List Int} (h : ¬ (vars < 0 ∨ 12 < vars)) (h2 : (t.length : Int) ≠ 2 ^ vars.toNat) : ftE vars t = 2 ∧ ftD vars t = zM := by
  have : ftE vars t = 2 := by unfold ftE; rw [if_neg h, if_pos h2]
  exact ⟨this, orZ_n (by omega)⟩
theorem ft_0 {vars : Int} {t : List Int} (h : ¬ (vars < 0 ∨ 12 < vars)) (h2 : (t.length : Int) = 2 ^ vars.toNat) : ftE vars t = mkE vars t ∧ ftD vars t = mkD vars t := by
  have : ftE vars t = mkE vars t := by unfold ftE; rw [if_neg h, if_neg (by omega)]
  exact ⟨this, by unfold ftD mkD; rw [this]⟩
end Go.Proofs.Ytkmhjcjpohpiaaa
