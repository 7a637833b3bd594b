/- Helpers of the walks over the parts of a set, and over what a table of sets proves. No program in sight. -/
import Derived.Test.YtmkbjhligjnagaaMhE
namespace Go.Proofs.Ytmkbjhligjnagaa
open Go Go.Vc
open Classical
theorem or2 {x y i : Int} {z : Int} (hi : ∀ k : Int, 0 ≤ k → k < i → gi [x, y] k = 0) (h0 : 0 ≤ i) (h2 : i ≤ 2) (h : (i < 2 ∧ gi [x, y] i ≠ 0 ∧ z = gi [x, y] i) ∨ (2 ≤ i ∧ z = 0)) : z = if x ≠ 0 then x else y := by
  rcases h with ⟨a, b, c⟩ | ⟨a, c⟩
  · rcases (by omega : i = 0 ∨ i = 1) with q | q
    · subst q
      have b : x ≠ 0 := b
      rw [if_pos b, c]; rfl
    · subst q
      have h1 : x = 0 := hi 0 (by omega) (by omega)
      rw [if_neg (fun w => w h1), c]; rfl
  · have h1 : x = 0 := hi 0 (by omega) (by omega)
    have h3 : y = 0 := hi 1 (by omega) (by omega)
    rw [if_neg (fun w => w h1), c, h3]
abbrev rsv (s : Int) : Int := aniV s (lw s)
section
variable {s g : Int}
theorem b_lw (h0 : 1 ≤ s) (h1 : s < 64) : andV s (-s) ≤ 9223372036854775807 := by
  have h : lw s ≤ s := (s_ok h0 h1).1.2
  have h : andV s (-s) ≤ s := h
  omega
theorem b_rs (h0 : 1 ≤ s) (h1 : s < 64) : aniV s (lw s) ≤ 9223372036854775807 := by
  have h := (s_ok h0 h1).2.2
  omega
theorem s_okr (h0 : 1 ≤ s) (h1 : s < 64) : 0 ≤ rsv s ∧ rsv s < s := (s_ok h0 h1).2
theorem rs_ok (h0 : 1 ≤ s) (h1 : s < 64) : (0 ≤ rsv s ∧ rsv s < s) ∧ andV (rsv s) (rsv s) = rsv s := by
  have h := s_okr h0 h1
  obtain ⟨R, hR⟩ : ∃ R : Nat, rsv s = R := ⟨(rsv s).toNat, by omega⟩
  refine ⟨h, ?_⟩
  rw [hR]; exact sm6 R (by omega)
theorem g_le (h0 : 1 ≤ s) (h1 : s < 64) (g0 : 0 ≤ g) (hg : andV g (rsv s) = g) : g ≤ rsv s ∧ g < 64 := by
  have h := s_okr h0 h1
  obtain ⟨R, hR⟩ : ∃ R : Nat, rsv s = R := ⟨(rsv s).toNat, by omega⟩
  obtain ⟨K, rfl⟩ : ∃ K : Nat, g = K := ⟨g.toNat, by omega⟩
  have hb : (K : Int) ≤ R := by
    rw [hR] at hg
    have e : ((BitVec.ofInt 64 (K : Int) &&& BitVec.ofInt 64 (R : Int)).toNat : Int) = K := hg
    rw [BitVec.toNat_and] at e
    have := Nat.and_le_right (n := (BitVec.ofInt 64 (K : Int)).toNat) (m := (BitVec.ofInt 64 (R : Int)).toNat)
    have e2 : (BitVec.ofInt 64 (R : Int)).toNat = R := by rw [BitVec.toNat_ofInt]; simp; omega
    omega
  omega
theorem fst_or (h0 : 1 ≤ s) (h1 : s < 64) (g0 : 0 ≤ g) (hg : andV g (rsv s) = g) : (1 ≤ oriV g (lw s) ∧ oriV g (lw s) ≤ s) ∧ aniV (oriV g (lw s)) s = 0 ∧ andV (oriV g (lw s)) (lw s) ≠ 0 := by
  have h := (g_le h0 h1 g0 hg).2
  obtain ⟨K, rfl⟩ : ∃ K : Nat, s = K := ⟨s.toNat, by omega⟩
  obtain ⟨G, rfl⟩ : ∃ G : Nat, g = G := ⟨g.toNat, by omega⟩
  exact sm2 K (by omega) G (by omega) (by omega) hg
theorem b_or (h0 : 1 ≤ s) (h1 : s < 64) (g0 : 0 ≤ g) (hg : andV g (rsv s) = g) : oriV g (lw s) ≤ 9223372036854775807 := by
  have := (fst_or h0 h1 g0 hg).1.2; omega
theorem fst_nx (h0 : 1 ≤ s) (h1 : s < 64) (g0 : 0 < g) (hg : andV g (rsv s) = g) : (0 ≤ andV (g - 1) (rsv s) ∧ andV (g - 1) (rsv s) < g) ∧ andV (andV (g - 1) (rsv s)) (rsv s) = andV (g - 1) (rsv s) := by
  have h := (g_le h0 h1 (by omega) hg).2
  have hr := s_okr h0 h1
  obtain ⟨R, hR⟩ : ∃ R : Nat, rsv s = R := ⟨(rsv s).toNat, by omega⟩
  obtain ⟨G, rfl⟩ : ∃ G : Nat, g = G := ⟨g.toNat, by omega⟩
  rw [hR] at hg ⊢
  exact sm4 R (by omega) G (by omega) (by omega) hg
theorem b_nx (h0 : 1 ≤ s) (h1 : s < 64) (g0 : 0 < g) (hg : andV g (rsv s) = g) : andV (g - 1) (rsv s) ≤ 9223372036854775807 := by
  have := (fst_nx h0 h1 g0 hg).1.2
  have := (g_le h0 h1 (by omega) hg).2
  omega
end
/- what one part of a set asks -/
section
variable {D : Int × Int → Option Int} {L : List (List Int)} {C : List Int} {x : Be} {g : Int} {p : Prop}
theorem an_bd (h0 : 1 ≤ x.s) (h1 : x.s < 64) (g0 : 1 ≤ g) (g1 : g ≤ x.s) : 0 ≤ aniV x.s g ∧ aniV x.s g ≤ x.s := by
  obtain ⟨K, hK⟩ : ∃ K : Nat, x.s = K := ⟨x.s.toNat, by omega⟩
  obtain ⟨G, rfl⟩ : ∃ G : Nat, g = G := ⟨g.toNat, by omega⟩
  rw [hK]
  exact (sm10 K (by omega) G (by omega)).1
theorem b_an (h0 : 1 ≤ x.s) (h1 : x.s < 64) (g0 : 1 ≤ g) (g1 : g ≤ x.s) : aniV x.s g ≤ 9223372036854775807 := by
  have := (an_bd h0 h1 g0 g1).2; omega
theorem cn1 (h : g = x.s) (hS : gi C g = grpV L g) (hp : p) : x.v ≤ gi C g ↔ p ∧ cnd D L x g := by
  unfold cnd; rw [if_pos h, hS]
  exact ⟨fun q => ⟨hp, q⟩, fun q => q.2⟩
theorem cn0 (h : ¬ g = x.s) (h2 : ¬ 1 < x.j) : p ↔ p ∧ cnd D L x g := by
  unfold cnd; rw [if_neg h]
  exact ⟨fun q => ⟨q, fun z => absurd z h2⟩, fun q => q.1⟩
theorem cn2 (h : ¬ g = x.s) (h2 : 1 < x.j) (hS : gi C g = grpV L g) (hp : p) (hs : (D (x.j - 1, aniV x.s g)).isSome = true) : x.v ≤ (D (x.j - 1, aniV x.s g)).getD 0 + gi C g ↔ p ∧ cnd D L x g := by
  unfold cnd; rw [if_neg h, hS]
  obtain ⟨w, hw⟩ := Option.isSome_iff_exists.1 hs
  rw [hw]
  show x.v ≤ w + _ ↔ _
  exact ⟨fun q => ⟨hp, fun _ => ⟨w, rfl, q⟩⟩, fun q => by obtain ⟨w', e, b⟩ := q.2 h2; cases e; exact b⟩
theorem cn3 (h : ¬ g = x.s) (h2 : 1 < x.j) (hs : ¬ (D (x.j - 1, aniV x.s g)).isSome = true) : ¬ (p ∧ cnd D L x g) := fun q => by
  have q := q.2
  unfold cnd at q; rw [if_neg h] at q
  obtain ⟨w, e, _⟩ := q h2
  rw [e] at hs; exact hs rfl
theorem cost_bd (gd : Good L) (hS : StL L C) (g0 : 1 ≤ g) (g1 : g < 2 ^ L.length) : gi C g = grpV L g ∧ -1 ≤ gi C g ∧ gi C g ≤ 33554432 := by
  have e := hS.2 g g0 g1
  have := bsN_bd gd (S := g) L.length (Nat.le_refl _)
  exact ⟨e, by rw [e]; exact this.1, by rw [e]; exact this.2⟩
theorem get_bd {k : Int × Int} (hD : ∀ k w, D k = some w → 0 ≤ w ∧ w ≤ 1152921504606846976) : 0 ≤ (D k).getD 0 ∧ (D k).getD 0 ≤ 1152921504606846976 := by
  cases e : D k with
  | none => exact ⟨Int.le_refl _, by show (0 : Int) ≤ _; omega⟩
  | some w => exact hD k w e
end
/- what a table proves, at the end of a walk -/
section
variable {L : List (List Int)} {T : List Be} {k c : Int}
theorem ord_snoc {i : Int} (h : ∀ z : Int, 0 < z → z < i → Lx (be T (z - 1)) (be T z)) (hl : 0 < i → Lx (be T (i - 1)) (be T i)) : ∀ z : Int, 0 < z → z < i + 1 → Lx (be T (z - 1)) (be T z) := fun z a b => by
  by_cases q : z = i
  · subst q; exact hl a
  · exact h z a (by omega)
theorem fn_no (h : ¬ (kmA T (k, 2 ^ L.length - 1)).isSome = true) : ¬ Fnd L k c T := fun ⟨w, e, _⟩ => by rw [e] at h; exact h rfl
theorem fn_lt (h : (kmA T (k, 2 ^ L.length - 1)).getD 0 < c) : ¬ Fnd L k c T := fun ⟨w, e, q⟩ => by
  rw [e] at h
  have h : w < c := h
  omega
theorem fn_yes (h : (kmA T (k, 2 ^ L.length - 1)).isSome = true) (h2 : ¬ (kmA T (k, 2 ^ L.length - 1)).getD 0 < c) : Fnd L k c T := by
  obtain ⟨w, hw⟩ := Option.isSome_iff_exists.1 h
  rw [hw] at h2
  have h2 : ¬ w < c := h2
  exact ⟨w, hw, by omega⟩
theorem km_bd (hr : Rg L k T) {q : Int × Int} {w : Int} (h : kmA T q = some w) : 0 ≤ w ∧ w ≤ 1152921504606846976 := by
  obtain ⟨i, a, b, e⟩ := km_some (j := q.1) (s := q.2) (v := w) T.length (Nat.le_refl _) h
  have := (hr i a (by omega)).2.2
  rw [e] at this
  exact this
end
end Go.Proofs.Ytmkbjhligjnagaa
