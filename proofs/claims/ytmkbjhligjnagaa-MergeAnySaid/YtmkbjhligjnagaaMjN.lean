/- What Any returns, and how the costs compare. No program in sight. -/
import Derived.Test.YtmkbjhligjnagaaMjM
import Derived.Test.YtmkbjhligjnagaaMjF
namespace Go.Proofs.Ytmkbjhligjnagaa
open Go Go.Vc
open Classical
/- the table -/
section
variable {L : List (List Int)} {k : Int} {F : Int × Int → Option Int} {T : List Be}
theorem be_at {i : Int} (h0 : 0 ≤ i) (h1 : i < T.length) : be T i = T[i.toNat]! := by
  rw [getElem!_pos T i.toNat (by omega)]
  unfold be
  rw [List.getD_eq_getElem?_getD, List.getElem?_eq_getElem (by omega)]; rfl
theorem tab_mem (h : TabOk F T) {x : Be} (hx : x ∈ T) : F (x.j, x.s) = some x.v := by
  obtain ⟨ks, hn, hk, hp, _⟩ := h
  obtain ⟨q, hq, rfl⟩ := List.mem_map.1 (hp.mem_iff.1 hx)
  have := (hk q).2 hq
  show F (q.1, q.2) = some ((F q).getD 0)
  cases e : F q with
  | none => exact absurd e this
  | some v => rfl
theorem tab_ex (h : TabOk F T) {q : Int × Int} {v : Int} (e : F q = some v) : ∃ x ∈ T, x.j = q.1 ∧ x.s = q.2 ∧ x.v = v := by
  obtain ⟨ks, hn, hk, hp, _⟩ := h
  have hq := (hk q).1 (by rw [e]; simp)
  exact ⟨ent F q, hp.mem_iff.2 (List.mem_map.2 ⟨q, hq, rfl⟩), rfl, rfl, by show (F q).getD 0 = v; rw [e]; rfl⟩
theorem tab_nod (h : TabOk F T) : (T.map fun x => (x.j, x.s)).Nodup := by
  obtain ⟨ks, hn, hk, hp, _⟩ := h
  have := hp.map fun x : Be => (x.j, x.s)
  rw [this.nodup_iff, List.map_map]
  have e : (fun x : Be => (x.j, x.s)) ∘ ent F = id := by funext q; rfl
  rw [e, List.map_id]; exact hn
theorem tab_ord (h : TabOk F T) : Ord T := fun i a b => by
  have hn := tab_nod h
  obtain ⟨ks, _, _, _, hs⟩ := h
  have hi := hs (i - 1).toNat i.toNat (by omega) (by omega)
  rw [← be_at (Int.le_of_lt a) b, ← be_at (by omega) (by omega)] at hi
  have hne : ¬ ((be T (i - 1)).j = (be T i).j ∧ (be T (i - 1)).s = (be T i).s) := fun e => by
    have := (List.pairwise_iff_getElem.1 hn) (i - 1).toNat i.toNat (by simp; omega) (by simp; omega) (by omega)
    rw [List.getElem_map, List.getElem_map] at this
    apply this
    rw [be_at (by omega) (by omega), be_at (Int.le_of_lt a) b, getElem!_pos T _ (by omega), getElem!_pos T _ (by omega)] at e
    exact Prod.ext e.1 e.2
  unfold Lx at *
  omega
theorem tab_km (h : TabOk F T) (q : Int × Int) : kmA T q = F q := by
  have ho := tab_ord h
  cases e : F q with
  | some v =>
    obtain ⟨x, hx, h1, h2, h3⟩ := tab_ex h e
    obtain ⟨n, hn, rfl⟩ := List.mem_iff_getElem.1 hx
    have b : be T (n : Int) = T[n] := by rw [be_at (by omega) (by omega), getElem!_pos T _ (by omega)]; rfl
    have := km_hit ho (i := (n : Int)) (s := q.2) (j := q.1) (by omega) (by omega) (by rw [b]; exact h2) (by rw [b]; exact h1)
    rw [b, h3] at this
    exact this
  | none =>
    cases e2 : kmA T q with
    | none => rfl
    | some v =>
      obtain ⟨i, a, b, c⟩ := km_some (T := T) (j := q.1) (s := q.2) T.length (Nat.le_refl _) e2
      have m := tab_mem h (x := be T i) (by rw [be_at a b, getElem!_pos T _ (by omega)]; exact List.getElem_mem _)
      rw [c] at m
      rw [show ((q.1, q.2) : Int × Int) = q from rfl, e] at m
      cases m
theorem tab_len {K : Int} (hK : K ≤ 32) (h6 : L.length ≤ 6) (hF : VOk L K F) (h : TabOk F T) : T.length ≤ 2016 := by
  obtain ⟨ks, hn, hk, hp, _⟩ := h
  rw [hp.length_eq, List.length_map]
  exact kbd hn fun q hq => vok_rng hK h6 hF ((hk q).2 hq)
/-- The table of the map proves the cost. -/
theorem tab_proves (gd : Good L) (h6 : L.length ≤ 6) (hk : 1 ≤ k ∧ k ≤ 32) (hF : VPost L k (fun _ => none) F (2 ^ L.length - 1) k) (h : TabOk F T) : pvE L k T (anN L k) = 0 ∧ paE L k T (anN L k) = 0 := by
  obtain ⟨f1, _, f3⟩ := hF
  have p6 := pw6 h6
  have mem : ∀ i : Int, 0 ≤ i → i < T.length → F ((be T i).j, (be T i).s) = some (be T i).v := fun i a b => tab_mem h (by rw [be_at a b, getElem!_pos T _ (by omega)]; exact List.getElem_mem _)
  have rg : Rg L k T := fun i a b => by
    have m := mem i a b
    obtain ⟨g1, g2, g3⟩ := f1.ok _ _ _ m
    have vb := va_bd gd h6 (k := ((be T i).j - 1).toNat) g2.1 g2.2
    exact ⟨g2, g1, by omega, by omega⟩
  have js : Jsts L T := fun i a b p p0 p1 p2 p3 => by
    have m := mem i a b
    obtain ⟨g1, g2, g3⟩ := f1.ok _ _ _ m
    have hp : Prt (be T i).s p := ⟨⟨p0, p1⟩, p2, p3⟩
    unfold cnd
    by_cases e : p = (be T i).s
    · rw [if_pos e, g3, e]; exact va_grp
    · rw [if_neg e]
      intro hj
      have cl := f1.clo _ _ _ m hj p hp e
      rw [tab_km h]
      cases e2 : F ((be T i).j - 1, aniV (be T i).s p) with
      | none => exact absurd e2 cl
      | some w =>
        refine ⟨w, rfl, ?_⟩
        have ok2 := f1.ok _ _ _ e2
        have := va_le (L := L) (k := ((be T i).j - 1 - 1).toNat) (s := (be T i).s) (by omega) hp e
        rw [g3, ok2.2.2, show ((be T i).j - 1).toNat = ((be T i).j - 1 - 1).toNat + 1 by omega]
        omega
  have fn : Fnd L k (anN L k) T := ⟨_, by rw [tab_km h]; exact f3, Int.le_refl _⟩
  have z := pv_0 rg (tab_ord h) ⟨js, fn⟩
  exact ⟨z, by rw [pa_v gd.chk hk, z]⟩
end
noncomputable def anE (L : List (List Int)) (k : Int) : Int := if chk L ≠ 0 then chk L else if 8 < L.length then 4 else if 1 ≤ k ∧ k ≤ 32 then 0 else 3
noncomputable def anV (L : List (List Int)) (k : Int) : Int := if anE L k = 0 then anN L k else 0
section
variable {L : List (List Int)} {k : Int}
theorem anE1 (h : chk L ≠ 0) : anE L k = chk L := if_pos h
theorem anE4 (h : chk L = 0) (h2 : (8 : Int) < L.length) : anE L k = 4 := by unfold anE; rw [if_neg (by omega), if_pos (by omega)]
theorem anE3 (h : chk L = 0) (h2 : ¬ (8 : Int) < L.length) (h3 : ¬ (1 ≤ k ∧ k ≤ 32)) : anE L k = 3 := by unfold anE; rw [if_neg (by omega), if_neg (by omega), if_neg h3]
theorem anE0 (h : chk L = 0) (h2 : ¬ (8 : Int) < L.length) (h3 : 1 ≤ k ∧ k ≤ 32) : anE L k = 0 := by unfold anE; rw [if_neg (by omega), if_neg (by omega), if_pos h3]
theorem anV0 (h : anE L k = 0) : anV L k = anN L k := if_pos h
theorem anVn (h : anE L k ≠ 0) : anV L k = 0 := if_neg h
/-- What is known of the answer. -/
structure AnOk (L : List (List Int)) (k : Int) (G : List Int) (T : List Be) : Prop where
  bad : anE L k ≠ 0 → G = [] ∧ T = []
  good : anE L k = 0 → G = anG L k ∧ T.length ≤ 2016 ∧ Rg L k T ∧ pvE L k T (anN L k) = 0 ∧ paE L k T (anN L k) = 0
theorem anOk_bad (h : anE L k ≠ 0) : AnOk L k [] [] := ⟨fun _ => ⟨rfl, rfl⟩, fun q => absurd q h⟩
theorem anOk_good {T : List Be} {F : Int × Int → Option Int} (gd : Good L) (h6 : L.length ≤ 6) (hk : 1 ≤ k ∧ k ≤ 32) (h : anE L k = 0) (hF : VPost L k (fun _ => none) F (2 ^ L.length - 1) k) (ht : TabOk F T) : AnOk L k (anG L k) T := by
  have a := tab_proves gd h6 hk hF ht
  have b := pv_ok a.1
  exact ⟨fun q => absurd h q, fun _ => ⟨rfl, tab_len hk.2 h6 hF.1 ht, b.1, a.1, a.2⟩⟩
/-- Groups of any form lose at most as much as intervals. -/
theorem less_any (h6 : L.length ≤ 6) (h : chk L = 0) (hk : 1 ≤ k ∧ k ≤ 32) : anN L k ≤ oN L k := by
  obtain ⟨q1, q2, q3, q4, q5⟩ := ord_final (oE0 h hk)
  have := any_low (good_of_chk h) h6 hk.1 (H := oG L k) (by rw [← cE_g h]; exact q1) q4
  rw [cN_good q1] at q2
  omega
theorem less_ord (h : chk L = 0) (hk : 1 ≤ k ∧ k ≤ 31) : oN L (k + 1) ≤ oN L k := by
  obtain ⟨q1, q2, q3, q4, q5⟩ := ord_final (oE0 h (k := k) (by omega))
  obtain ⟨r1, r2, r3, r4, r5⟩ := ord_final (oE0 h (k := k + 1) (by omega))
  have := proves_bound r5 (G := oG L k) (by rw [← cE_g h]; exact q1) q3 (by omega)
  rw [cN_good q1] at q2
  omega
theorem less_more (hk : 1 ≤ k) : anN L (k + 1) ≤ anN L k := by
  have := va_step (L := L) (k - 1).toNat (2 ^ L.length - 1)
  unfold anN
  rw [show (k + 1 - 1).toNat = (k - 1).toNat + 1 by omega]
  exact this
/-- Every output for itself. -/
def idG (n : Nat) : List Int := (List.range n).map fun i : Nat => (i : Int)
theorem idG_at {n : Nat} {i : Int} (a : 0 ≤ i) (b : i < n) : gi (idG n) i = i := by
  unfold idG; rw [gi_map_range _ _ _ a (by omega)]; omega
theorem idG_len (n : Nat) : (idG n).length = n := by simp [idG]
theorem idG_kinds (n : Nat) : ∀ m : Nat, m ≤ n → kindsN (idG n) m = m ∧ runsN (idG n) m = m
  | 0, _ => ⟨rfl, rfl⟩
  | m + 1, h => by
    have ih := idG_kinds n m (by omega)
    have e : ∀ y : Int, 0 ≤ y → y < m → gi (idG n) y ≠ gi (idG n) m := fun y a b => by
      rw [idG_at a (by omega), idG_at (by omega) (by omega)]; omega
    have hk : kindsN (idG n) (m + 1) = kindsN (idG n) m + 1 := if_pos e
    have hr : runsN (idG n) (m + 1) = runsN (idG n) m + 1 := if_pos (by
      by_cases q : (m : Int) = 0
      · exact .inl q
      · exact .inr fun z => e _ (by omega) (by omega) z.symm)
    rw [hk, hr, ih.1, ih.2]
    constructor <;> omega
theorem less_all (h : chk L = 0) (hk : 1 ≤ k ∧ k ≤ 32) (hn : (L.length : Int) ≤ k) : oN L k = 0 := by
  have gd := good_of_chk h
  obtain ⟨r1, r2, r3, r4, r5⟩ := ord_final (oE0 h hk)
  have hl := idG_len L.length
  have gp : Grp L (idG L.length) := ⟨hl, fun i a b => by rw [idG_at a b]; exact ⟨a, b⟩, fun i a b => by rw [idG_at a b, idG_at a b]⟩
  have kk := idG_kinds L.length L.length (Nat.le_refl _)
  have := proves_bound r5 (grp_gE gp) (by rw [hl, kk.1, kk.2]) (by rw [hl, kk.1]; omega)
  have z : ∀ m : Nat, m ≤ L.length → csum L (idG L.length) m = 0 := fun m => by
    induction m with
    | zero => exact fun _ => rfl
    | succ m ih =>
      intro hm
      have d := gd.diag m (by omega)
      show csum L _ m + gi (gr L m) (gi _ m) = 0
      rw [ih (by omega), idG_at (by omega) (by omega)]
      simpa [gi, gr] using d
  rw [hl, z _ (Nat.le_refl _)] at this
  have g1 := grp_of (show gE L (oG L k) = 0 by rw [← cE_g h]; exact r1)
  have nb := (csum_bd gd (G := oG L k) (by rintro ⟨i, a, b, c⟩; have := g1.rng i a (by have := g1.len; omega); omega) L.length (by have := g1.len; omega) (Nat.le_refl _)).1
  rw [cN_good r1, g1.len] at r2
  omega
end
end Go.Proofs.Ytmkbjhligjnagaa
namespace Go.Proofs.Ytmkbjhligjnagaa
open Go Go.Vc
theorem bes_nil {H : HV} : Bes H (.slice none 0 0) [] := SlS.nil
theorem anG_len {L : List (List Int)} {k : Int} : (anG L k).length = L.length := by unfold anG; rw [fr_len, List.length_replicate]
theorem finv_nd (n : Nat) : ∀ y : Int, 0 ≤ y → y < n → 0 ≤ gi (List.replicate n (0 : Int)) y ∧ gi (List.replicate n (0 : Int)) y ≤ 0 := fun y a b => by
  have e : gi (List.replicate n (0 : Int)) y = 0 := by unfold gi; simp [List.getElem?_replicate]; split <;> rfl
  rw [e]; omega
end Go.Proofs.Ytmkbjhligjnagaa
