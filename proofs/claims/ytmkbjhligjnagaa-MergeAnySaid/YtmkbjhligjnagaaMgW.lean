/- All groupings in order: the next one. No program in sight. -/
import Derived.Test.YtmkbjhligjnagaaMgV
namespace Go.Proofs.Ytmkbjhligjnagaa
open Go.Vc
open Classical
/-- D follows G. -/
def Up (n : Nat) (G D : List Int) : Prop := ∃ p : Int, 0 ≤ p ∧ p < n ∧ gi G p + 1 < n ∧ (∀ y : Int, 0 ≤ y → y < p → gi D y = gi G y) ∧ gi D p = gi G p + 1 ∧ ∀ y : Int, p < y → y < n → gi D y = 0 ∧ n ≤ gi G y + 1
def InR (n : Nat) (G : List Int) : Prop := ∀ y : Int, 0 ≤ y → y < n → 0 ≤ gi G y ∧ gi G y < n
theorem up_inr {n : Nat} {G D : List Int} (u : Up n G D) (h : InR n G) : InR n D := by
  obtain ⟨p, p0, p1, p2, p3, p4, p5⟩ := u
  intro y a b
  by_cases h1 : y < p
  · rw [p3 y a h1]; exact h y a b
  · by_cases h2 : y = p
    · subst h2; have := h y a b; omega
    · have := (p5 y (by omega) b).1; omega
theorem up_lex {n : Nat} {G D : List Int} (u : Up n G D) : Lex n G D := by
  obtain ⟨p, p0, p1, p2, p3, p4, p5⟩ := u
  exact ⟨p, p0, p1, fun y a b => (p3 y a b).symm, by omega⟩
/-- Nothing lies between. -/
theorem up_gap {n : Nat} {G D H : List Int} (u : Up n G D) (hG : G.length = n) (hH : H.length = n) (hr : InR n H) (h : Lex n H D) : Lex n H G ∨ H = G := by
  obtain ⟨p, p0, p1, p2, p3, p4, p5⟩ := u
  obtain ⟨q, q0, q1, q2, q3⟩ := h
  rcases lex_total hH hG with l | l | ⟨x, x0, x1, x2, x3⟩
  · exact Or.inl l
  · exact Or.inr l
  · exfalso
    by_cases c1 : x < p
    · by_cases c2 : q < x
      · have := x2 q q0 c2; have := p3 q q0 (by omega); omega
      · by_cases c3 : q = x
        · subst c3; have := p3 q q0 c1; omega
        · have := q2 x x0 (by omega); have := p3 x x0 c1; omega
    · by_cases c2 : q < p
      · have := x2 q q0 (by omega); have := p3 q q0 c2; omega
      · by_cases c3 : x = p
        · subst c3
          by_cases c4 : q = x
          · subst c4; omega
          · have := (p5 q (by omega) q1).1; have := hr q q0 q1; omega
        · have := hr x x0 x1; have := (p5 x (by omega) x1).2; omega
theorem top_all {n : Nat} {G H : List Int} (hG : G.length = n) (hH : H.length = n) (hr : InR n H) (h : ∀ y : Int, 0 ≤ y → y < n → n ≤ gi G y + 1) : Lex n H G ∨ H = G := by
  rcases lex_total hH hG with l | l | ⟨x, x0, x1, x2, x3⟩
  · exact Or.inl l
  · exact Or.inr l
  · have := hr x x0 x1; have := h x x0 x1; omega
/-- The number that a grouping spells. -/
def spell (n : Nat) (G : List Int) : Nat → Nat
  | 0 => 0
  | m + 1 => spell n G m * n + (gi G m).toNat
theorem spell_lt {n : Nat} {G : List Int} (h : InR n G) : ∀ m : Nat, m ≤ n → spell n G m < n ^ m
  | 0, _ => by simp [spell]
  | m + 1, hm => by
    have ih := spell_lt h m (by omega)
    have := h m (by omega) (by omega)
    have h1 : (spell n G m + 1) * n ≤ n ^ m * n := Nat.mul_le_mul_right n ih
    rw [Nat.add_mul] at h1
    simp only [spell, Nat.pow_succ]; omega
theorem spell_congr {n : Nat} {A B : List Int} : ∀ m : Nat, (∀ y : Int, 0 ≤ y → y < m → gi A y = gi B y) → spell n A m = spell n B m
  | 0, _ => rfl
  | m + 1, h => by simp only [spell, spell_congr m (fun y a b => h y a (by omega)), h m (by omega) (by omega)]
theorem up_spell {n : Nat} {G D : List Int} (u : Up n G D) (h : InR n G) : spell n D n = spell n G n + 1 := by
  obtain ⟨p, p0, p1, p2, p3, p4, p5⟩ := u
  have : ∀ d : Nat, p.toNat + 1 + d ≤ n → spell n D (p.toNat + 1 + d) = spell n G (p.toNat + 1 + d) + 1 := by
    intro d
    induction d with
    | zero =>
      intro _
      have hp := h p p0 p1
      simp only [Nat.add_zero, spell]
      rw [spell_congr p.toNat (fun y a b => p3 y a (by omega)), show ((p.toNat : Nat) : Int) = p by omega, p4]; omega
    | succ d ih =>
      intro hd
      have hx := p5 ((p.toNat + 1 + d : Nat) : Int) (by omega) (by omega)
      have hy := h ((p.toNat + 1 + d : Nat) : Int) (by omega) (by omega)
      rw [show p.toNat + 1 + (d + 1) = (p.toNat + 1 + d) + 1 by omega, spell, spell, ih (by omega), hx.1, Nat.add_mul]
      omega
  have := this (n - (p.toNat + 1)) (by omega)
  rwa [show p.toNat + 1 + (n - (p.toNat + 1)) = n by omega] at this
end Go.Proofs.Ytmkbjhligjnagaa
