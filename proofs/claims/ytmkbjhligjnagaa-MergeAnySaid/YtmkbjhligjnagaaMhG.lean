/- Helpers of the walks of the model's check of a table of sets. No program in sight. -/
import Derived.Test.YtmkbjhligjnagaaMhF
namespace Go.Proofs.Ytmkbjhligjnagaa
open Go Go.Vc
open Classical
section
variable {D : Int × Int → Option Int} {L : List (List Int)} {x : Be} {g s : Int}
theorem b_an' {a b : Int} (h0 : 0 ≤ a) (h1 : a < 64) (h2 : 0 ≤ b) (h3 : b < 64) : aniV a b ≤ 9223372036854775807 := by
  obtain ⟨K, rfl⟩ : ∃ K : Nat, a = K := ⟨a.toNat, by omega⟩
  obtain ⟨G, rfl⟩ : ∃ G : Nat, b = G := ⟨b.toNat, by omega⟩
  have := (sm10 K (by omega) G (by omega)).1; omega
theorem b_and {a b : Int} (h0 : 0 ≤ a) (h1 : a < 64) : andV a b ≤ 9223372036854775807 := by
  have : ((BitVec.ofInt 64 a &&& BitVec.ofInt 64 b).toNat : Int) ≤ (BitVec.ofInt 64 a).toNat := by
    rw [BitVec.toNat_and]
    have := Nat.and_le_left (n := (BitVec.ofInt 64 a).toNat) (m := (BitVec.ofInt 64 b).toNat)
    omega
  have e : ((BitVec.ofInt 64 a).toNat : Int) = a := by rw [BitVec.toNat_ofInt]; simp; omega
  show ((BitVec.ofInt 64 a &&& BitVec.ofInt 64 b).toNat : Int) ≤ _
  omega
theorem an_self : aniV s s = 0 := by unfold aniV; simp
theorem ju_same (h0 : 0 ≤ x.s) (h1 : x.s < 64) (g0 : 0 ≤ g) (g1 : g ≤ x.s) (a : aniV x.s g = 0) (b : aniV g x.s = 0) : g = x.s := by
  obtain ⟨K, hK⟩ : ∃ K : Nat, x.s = K := ⟨x.s.toNat, by omega⟩
  obtain ⟨G, rfl⟩ : ∃ G : Nat, g = G := ⟨g.toNat, by omega⟩
  rw [hK] at a b ⊢
  have p := (sm10 K (by omega) G (by omega)).2
  have q := (sm10 G (by omega) K (by omega)).2
  rw [a] at p; rw [b] at q
  have e := sm11 G (by omega) K (by omega) fun i hi => ⟨fun z => Classical.byContradiction fun w => bt_0 ((q i hi).2 ⟨z, w⟩), fun z => Classical.byContradiction fun w => bt_0 ((p i hi).2 ⟨z, w⟩)⟩
  rw [e]
theorem ju_diff (a : ¬ aniV x.s g = 0) : ¬ g = x.s := fun e => by rw [e, an_self] at a; exact a rfl
/-- The parts that have been tried. -/
def Trd (D : Int × Int → Option Int) (L : List (List Int)) (x : Be) (g : Int) : Prop := ∀ p : Int, 1 ≤ p → p < g → aniV p x.s = 0 → andV p (lw x.s) ≠ 0 → cnd D L x p
theorem ju_snoc (h : Trd D L x g) (hl : aniV g x.s = 0 → andV g (lw x.s) ≠ 0 → cnd D L x g) : Trd D L x (g + 1) := fun p a b c d => by
  by_cases q : p = g
  · subst q; exact hl c d
  · exact h p a (by omega) c d
theorem ju_fail (g0 : 1 ≤ g) (g1 : g ≤ x.s) (a : aniV g x.s = 0) (b : ¬ andV g (lw x.s) = 0) (h : ¬ cnd D L x g) : ¬ Jst D L x := fun q => h (q g g0 g1 a b)
theorem cw0 (a : ¬ aniV x.s g = 0) (h : x.j = 1) : cnd D L x g := by
  unfold cnd; rw [if_neg (ju_diff a)]; intro q; omega
theorem cw1 (a : ¬ aniV x.s g = 0) (h : 1 < x.j) (hs : ¬ (D (x.j - 1, aniV x.s g)).isSome = true) : ¬ cnd D L x g := fun q => by
  unfold cnd at q; rw [if_neg (ju_diff a)] at q
  obtain ⟨w, e, _⟩ := q h
  rw [e] at hs; exact hs rfl
theorem cw2 (a : ¬ aniV x.s g = 0) (h : 1 < x.j) (hs : (D (x.j - 1, aniV x.s g)).isSome = true) (hv : (D (x.j - 1, aniV x.s g)).getD 0 + grpV L g < x.v) : ¬ cnd D L x g := fun q => by
  unfold cnd at q; rw [if_neg (ju_diff a)] at q
  obtain ⟨w, e, b⟩ := q h
  rw [e] at hv
  have hv : w + grpV L g < x.v := hv
  omega
theorem cw3 (a : ¬ aniV x.s g = 0) (_hs : (D (x.j - 1, aniV x.s g)).isSome = true) (hv : ¬ (D (x.j - 1, aniV x.s g)).getD 0 + grpV L g < x.v) : cnd D L x g := by
  unfold cnd; rw [if_neg (ju_diff a)]
  obtain ⟨w, e⟩ := Option.isSome_iff_exists.1 _hs
  rw [e] at hv
  have hv : ¬ w + grpV L g < x.v := hv
  exact fun _ => ⟨w, e, by omega⟩
theorem cw4 (e : g = x.s) (hv : 0 + grpV L g < x.v) : ¬ cnd D L x g := fun q => by
  unfold cnd at q; rw [if_pos e] at q; omega
theorem cw5 (e : g = x.s) (hv : ¬ 0 + grpV L g < x.v) : cnd D L x g := by
  unfold cnd; rw [if_pos e]; omega
theorem ju_all (h : Trd D L x g) (hg : ¬ g ≤ x.s) : Jst D L x := fun p a b c d => h p a (by omega) c d
theorem grp_bd (gd : Good L) (g : Int) : -1 ≤ grpV L g ∧ grpV L g ≤ 33554432 := bsN_bd gd (S := g) L.length (Nat.le_refl _)
end
end Go.Proofs.Ytmkbjhligjnagaa
