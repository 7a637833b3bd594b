/- Strided intervals: products, and the chapter's examples. No program in sight. -/
import Derived.Test.YtapkilaikcihgaaNmS
import Derived.KernelRfl
namespace Go.Proofs.Ytapkilaikcihgaa
open Go.Vc
open Classical
def minF (xs : List Int) : Int := xs.foldl mn (gi xs 0)
def maxF (xs : List Int) : Int := xs.foldl mx (gi xs 0)
def tmOk (x y : Int) : Prop := ¬ (x ≠ 0 ∧ 1099511627776 / mag x < mag y)
noncomputable def tmV (x y : Int) : Int := if tmOk x y then x * y else 0
theorem tmV_1 {x y : Int} (h : tmOk x y) : tmV x y = x * y := if_pos h
theorem tmV_0 {x y : Int} (h : ¬ tmOk x y) : tmV x y = 0 := if_neg h
theorem mag_pos {x : Int} (h : x ≠ 0) : 0 < mag x := by unfold mag; split <;> omega
theorem mag_mul (x y : Int) : mag (x * y) = mag x * mag y := by
  have e : ∀ n : Int, mag n = (n.natAbs : Int) := fun n => by unfold mag; split <;> omega
  rw [e, e, e, Int.natAbs_mul]; simp
theorem mag_fits {n : Int} : fits n ↔ mag n ≤ 1099511627776 := by unfold fits mag; split <;> omega
theorem tm_fits {x y : Int} (h : tmOk x y) : fits (x * y) := by
  rw [mag_fits, mag_mul]
  by_cases hx : x = 0
  · subst hx; rw [show mag 0 = 0 by rfl]; omega
  · have hy : mag y ≤ 1099511627776 / mag x := by unfold tmOk at h; omega
    have := Int.mul_le_of_le_ediv (mag_pos hx) hy
    rw [Int.mul_comm] at this; exact this
theorem tm_iff {x y : Int} : tmOk x y ↔ fits (x * y) := by
  refine ⟨tm_fits, fun h => ?_⟩
  rw [mag_fits, mag_mul] at h
  rintro ⟨hx, hq⟩
  have := Int.le_ediv_of_mul_le (mag_pos hx) (show mag y * mag x ≤ 1099511627776 by rw [Int.mul_comm]; exact h)
  omega
def pX (a : Nm) (p : Int) : Int := gi [a.l, a.h] p
def pl (a b : Nm) : List Int := [a.l * b.l, a.l * b.h, a.h * b.l, a.h * b.h]
theorem pl_at {a b : Nm} {p q : Int} (p0 : 0 ≤ p) (p1 : p < 2) (q0 : 0 ≤ q) (q1 : q < 2) : gi (pl a b) (2 * p + q) = pX a p * pX b q := by
  have hp : p = 0 ∨ p = 1 := by omega
  have hq : q = 0 ∨ q = 1 := by omega
  rcases hp with rfl | rfl <;> rcases hq with rfl | rfl <;> rfl
theorem pX_bd {a : Nm} (h : vld a) {p : Int} (p0 : 0 ≤ p) (p1 : p < 2) : fits (pX a p) := by
  have hp : p = 0 ∨ p = 1 := by omega
  have := vld_bd h
  rcases hp with rfl | rfl
  · exact this.1
  · exact this.2.1
def mulOk (a b : Nm) : Prop := ∀ p : Int, 0 ≤ p → p < 2 → ∀ q : Int, 0 ≤ q → q < 2 → tmOk (pX a p) (pX b q)
def mulG (a b : Nm) : List Int := [a.s * mag b.l, b.s * mag a.l, a.s * b.s]
noncomputable def mulN (a b : Nm) : Nm := if mulOk a b then spanF (minF (pl a b)) (maxF (pl a b)) (gcdF (mulG a b)) else ⟨0, 0, 0⟩
noncomputable def mulE (a b : Nm) : Int := if mulOk a b then 0 else 3
theorem mulN_1 {a b : Nm} (h : mulOk a b) : mulN a b = spanF (minF (pl a b)) (maxF (pl a b)) (gcdF (mulG a b)) := if_pos h
theorem mulN_0 {a b : Nm} (h : ¬ mulOk a b) : mulN a b = ⟨0, 0, 0⟩ := if_neg h
theorem mulE_1 {a b : Nm} (h : mulOk a b) : mulE a b = 0 := if_pos h
theorem mulE_0 {a b : Nm} (h : ¬ mulOk a b) : mulE a b = 3 := if_neg h
theorem mulOk_4 {a b : Nm} : mulOk a b ↔ (fits (a.l * b.l) ∧ fits (a.l * b.h) ∧ fits (a.h * b.l) ∧ fits (a.h * b.h)) := by
  unfold mulOk
  simp only [tm_iff]
  constructor
  · intro h
    exact ⟨h 0 (by omega) (by omega) 0 (by omega) (by omega), h 0 (by omega) (by omega) 1 (by omega) (by omega), h 1 (by omega) (by omega) 0 (by omega) (by omega), h 1 (by omega) (by omega) 1 (by omega) (by omega)⟩
  · rintro ⟨h1, h2, h3, h4⟩ p p0 p1 q q0 q1
    have hp : p = 0 ∨ p = 1 := by omega
    have hq : q = 0 ∨ q = 1 := by omega
    rcases hp with rfl | rfl <;> rcases hq with rfl | rfl <;> assumption
theorem step_le {a : Nm} (h : vld a) (he : a ≠ nE) : a.s ≤ a.h - a.l := by
  obtain ⟨h1, h2, h3, h4, h5⟩ := vld_ne h he
  by_cases hq : a.l = a.h
  · rw [h4 hq]; omega
  · exact Int.le_of_dvd (by omega) (vld_dvd h he)
theorem mul_bd {a b : Nm} (ha : vld a) (hb : vld b) (he : a ≠ nE) (hf : b ≠ nE) (h : mulOk a b) : (0 ≤ a.s * mag b.l ∧ a.s * mag b.l ≤ 4398046511104) ∧ (0 ≤ b.s * mag a.l ∧ b.s * mag a.l ≤ 4398046511104) ∧ (0 ≤ a.s * b.s ∧ a.s * b.s ≤ 4398046511104) := by
  have key : ∀ {a b : Nm}, vld a → vld b → a ≠ nE → b ≠ nE → mulOk a b → 0 ≤ a.s * mag b.l ∧ a.s * mag b.l ≤ 4398046511104 := fun {a b} ha hb he hf h => by
    obtain ⟨h1, h2, h3, h4⟩ := mulOk_4.1 h
    have s0 := (vld_bd ha).2.2
    have s1 := step_le ha he
    refine ⟨Int.mul_nonneg s0 (mag_nn _), ?_⟩
    have e1 := Int.mul_le_mul_of_nonneg_right s1 (mag_nn b.l)
    have e2 : (a.h - a.l) * mag b.l = mag (a.h * b.l - a.l * b.l) := by
      rw [← Int.sub_mul, mag_mul]; congr 1; unfold mag; split <;> omega
    have e3 : mag (a.h * b.l - a.l * b.l) ≤ 4398046511104 := by unfold fits at h1 h3; unfold mag; split <;> omega
    omega
  have hsw : mulOk b a := by
    rw [mulOk_4] at h ⊢
    obtain ⟨h1, h2, h3, h4⟩ := h
    rw [Int.mul_comm b.l a.l, Int.mul_comm b.l a.h, Int.mul_comm b.h a.l, Int.mul_comm b.h a.h]
    exact ⟨h1, h3, h2, h4⟩
  refine ⟨key ha hb he hf h, key hb ha hf he hsw, Int.mul_nonneg (vld_bd ha).2.2 (vld_bd hb).2.2, ?_⟩
  obtain ⟨h1, h2, h3, h4⟩ := mulOk_4.1 h
  have e1 := Int.mul_le_mul_of_nonneg_right (step_le ha he) (vld_bd hb).2.2
  have e2 := Int.mul_le_mul_of_nonneg_left (step_le hb hf) (show 0 ≤ a.h - a.l by have := (vld_ne ha he).2.2.1; omega)
  have e3 : (a.h - a.l) * (b.h - b.l) = a.h * b.h - a.h * b.l - (a.l * b.h - a.l * b.l) := by rw [Int.sub_mul, Int.mul_sub, Int.mul_sub]
  unfold fits at h1 h2 h3 h4
  omega
theorem fold_pick {f : Int → Int → Int} (hf : ∀ a b, f a b = a ∨ f a b = b) : ∀ (xs : List Int) (o : Int), xs.foldl f o = o ∨ xs.foldl f o ∈ xs
  | [], _ => Or.inl rfl
  | x :: xs, o => by
    rcases fold_pick hf xs (f o x) with h | h
    · rw [List.foldl_cons, h]
      rcases hf o x with e | e <;> rw [e]
      · exact Or.inl rfl
      · exact Or.inr (by simp)
    · exact Or.inr (List.mem_cons_of_mem _ h)
theorem minF_mem {xs : List Int} (h : xs ≠ []) : minF xs ∈ xs := by
  have h0 : gi xs 0 ∈ xs := gi_mem (by omega) (by have := List.length_pos_iff.2 h; omega)
  rcases fold_pick (f := mn) (fun a b => by unfold mn; split <;> simp) xs (gi xs 0) with e | e
  · unfold minF; rw [e]; exact h0
  · exact e
theorem maxF_mem {xs : List Int} (h : xs ≠ []) : maxF xs ∈ xs := by
  have h0 : gi xs 0 ∈ xs := gi_mem (by omega) (by have := List.length_pos_iff.2 h; omega)
  rcases fold_pick (f := mx) (fun a b => by unfold mx; split <;> simp) xs (gi xs 0) with e | e
  · unfold maxF; rw [e]; exact h0
  · exact e
theorem pl_fits {a b : Nm} (h : mulOk a b) {x : Int} (hx : x ∈ pl a b) : fits x := by
  obtain ⟨h1, h2, h3, h4⟩ := mulOk_4.1 h
  simp only [pl, List.mem_cons, List.not_mem_nil, or_false] at hx
  rcases hx with rfl | rfl | rfl | rfl <;> assumption
def jOk (a b : Nm) : Prop := vld a ∧ vld b
noncomputable def jN (a b : Nm) : Nm := if jOk a b then joinF a b else ⟨0, 0, 0⟩
noncomputable def jE (a b : Nm) : Int := if jOk a b then 0 else 1
theorem jN_1 {a b : Nm} (h : jOk a b) : jN a b = joinF a b := if_pos h
theorem jN_0 {a b : Nm} (h : ¬ jOk a b) : jN a b = ⟨0, 0, 0⟩ := if_neg h
theorem jE_1 {a b : Nm} (h : jOk a b) : jE a b = 0 := if_pos h
theorem jE_0 {a b : Nm} (h : ¬ jOk a b) : jE a b = 1 := if_neg h
/- the examples -/
def a1 : Nm := ⟨0, 4, 4⟩
def a2 : Nm := ⟨6, 6, 0⟩
def a3 : Nm := ⟨2, 4, 2⟩
def a4 : Nm := ⟨3, 5, 2⟩
theorem ex1 : ofN [3, 9, 5] = ⟨3, 9, 2⟩ := by kernel_rfl
theorem ex2 : ofE [3, 9, 5] = 0 := by kernel_rfl
theorem v1 : vld a1 := by decide
theorem v2 : vld a2 := by decide
theorem v3 : vld a3 := by decide
theorem v4 : vld a4 := by decide
theorem ex3 : jN a1 a2 = ⟨0, 6, 2⟩ := by rw [jN_1 ⟨v1, v2⟩]; kernel_rfl
theorem ex4 : jE a1 a2 = 0 := jE_1 ⟨v1, v2⟩
theorem mok : mulOk a3 a4 := mulOk_4.2 (by decide)
theorem ex5 : mulN a3 a4 = ⟨6, 20, 2⟩ := by rw [mulN_1 mok]; kernel_rfl
theorem ex6 : mulE a3 a4 = 0 := mulE_1 mok
end Go.Proofs.Ytapkilaikcihgaa
