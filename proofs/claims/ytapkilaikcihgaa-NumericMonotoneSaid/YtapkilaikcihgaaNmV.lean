/- Long multiplication and division of unsigned numbers. No program in sight. -/
import Derived.Test.YtapkilaikcihgaaNmU
import Derived.Test.YtapkilaikcihgaaVcU
namespace Go.Proofs.Ytapkilaikcihgaa
open Go.Vc
def len8 : ByteArray := ⟨#[0, 1, 2, 2, 3, 3, 3, 3, 4, 4, 4, 4, 4, 4, 4, 4, 5, 5, 5, 5, 5, 5, 5, 5, 5, 5, 5, 5, 5, 5, 5, 5, 6, 6, 6, 6, 6, 6, 6, 6, 6, 6, 6, 6, 6, 6, 6, 6, 6, 6, 6, 6, 6, 6, 6, 6, 6, 6, 6, 6, 6, 6, 6, 6, 7, 7, 7, 7, 7, 7, 7, 7, 7, 7, 7, 7, 7, 7, 7, 7, 7, 7, 7, 7, 7, 7, 7, 7, 7, 7, 7, 7, 7, 7, 7, 7, 7, 7, 7, 7, 7, 7, 7, 7, 7, 7, 7, 7, 7, 7, 7, 7, 7, 7, 7, 7, 7, 7, 7, 7, 7, 7, 7, 7, 7, 7, 7, 7, 8, 8, 8, 8, 8, 8, 8, 8, 8, 8, 8, 8, 8, 8, 8, 8, 8, 8, 8, 8, 8, 8, 8, 8, 8, 8, 8, 8, 8, 8, 8, 8, 8, 8, 8, 8, 8, 8, 8, 8, 8, 8, 8, 8, 8, 8, 8, 8, 8, 8, 8, 8, 8, 8, 8, 8, 8, 8, 8, 8, 8, 8, 8, 8, 8, 8, 8, 8, 8, 8, 8, 8, 8, 8, 8, 8, 8, 8, 8, 8, 8, 8, 8, 8, 8, 8, 8, 8, 8, 8, 8, 8, 8, 8, 8, 8, 8, 8, 8, 8, 8, 8, 8, 8, 8, 8, 8, 8, 8, 8, 8, 8, 8, 8, 8, 8, 8, 8, 8, 8, 8, 8, 8, 8, 8, 8, 8, 8]⟩
/-- The number of bits. -/
def bl (x : Int) : Int := if x ≤ 0 then 0 else (Nat.log2 x.toNat : Int) + 1
theorem len8_size : len8.size = 256 := by kernel_rfl
theorem len8_bl {x : Int} (h0 : 0 ≤ x) (h1 : x < 256) : sAt len8 x = bl x := by
  have key : ∀ i : Fin 256, sAt len8 (i.val : Int) = bl (i.val : Int) := by decide +kernel
  have := key ⟨x.toNat, by omega⟩
  simp only at this
  rwa [show ((x.toNat : Nat) : Int) = x by omega] at this
theorem bl_iff {x : Int} {n : Nat} (h : 0 < x) : bl x = n + 1 ↔ (2 : Int) ^ n ≤ x ∧ x < 2 ^ (n + 1) := by
  have e : bl x = (Nat.log2 x.toNat : Int) + 1 := if_neg (by omega)
  have k := Nat.log2_eq_iff (n := x.toNat) (k := n) (by omega)
  have c1 : ((2 ^ n : Nat) : Int) = (2 : Int) ^ n := by simp
  have c2 : ((2 ^ (n + 1) : Nat) : Int) = (2 : Int) ^ (n + 1) := by simp
  rw [e, ← c1, ← c2]
  constructor
  · intro q
    have := k.1 (by omega)
    omega
  · rintro ⟨q1, q2⟩
    have := k.2 ⟨by omega, by omega⟩
    omega
theorem bl_pos {x : Int} (h : 0 < x) : ∃ n : Nat, bl x = n + 1 ∧ (2 : Int) ^ n ≤ x ∧ x < 2 ^ (n + 1) := by
  have e : bl x = (Nat.log2 x.toNat : Int) + 1 := if_neg (by omega)
  exact ⟨Nat.log2 x.toNat, e, (bl_iff h).1 e⟩
theorem pow_mono {a b : Nat} (h : a ≤ b) : (2 : Int) ^ a ≤ 2 ^ b := by
  have := Nat.pow_le_pow_right (show 0 < 2 by omega) h
  have c1 : ((2 ^ a : Nat) : Int) = (2 : Int) ^ a := by simp
  have c2 : ((2 ^ b : Nat) : Int) = (2 : Int) ^ b := by simp
  omega
theorem bl_nn (x : Int) : 0 ≤ bl x := by unfold bl; split <;> omega
theorem bl_le {x : Int} {n : Nat} (h : x < 2 ^ n) : bl x ≤ n := by
  by_cases h0 : 0 < x
  · obtain ⟨m, e, h1, _⟩ := bl_pos h0
    rw [e]
    apply Decidable.not_not.1
    intro q
    have := pow_mono (show n ≤ m by omega)
    omega
  · unfold bl; rw [if_pos (by omega)]; omega
theorem bl_shift {x : Int} {k : Nat} (p : Int) (hp : (2 : Int) ^ k = p) (h : p ≤ x) : bl x = bl (x / p) + k := by
  subst hp
  have hk : (0 : Int) < 2 ^ k := Int.pow_pos (by omega)
  have hd : 0 < x / 2 ^ k := by
    have := Int.le_ediv_of_mul_le (a := 1) (b := x) hk (by omega); omega
  obtain ⟨n, e, h1, h2⟩ := bl_pos hd
  rw [e]
  have := (bl_iff (x := x) (n := n + k) (by omega)).2 ⟨?_, ?_⟩
  · omega
  · rw [Int.pow_add]
    have := Int.mul_le_mul_of_nonneg_right h1 (Int.le_of_lt hk)
    have := Int.ediv_mul_le x (show (2 : Int) ^ k ≠ 0 by omega)
    omega
  · rw [show n + k + 1 = (n + 1) + k by omega, Int.pow_add]
    have h3 := Int.lt_ediv_add_one_mul_self x hk
    have := Int.mul_le_mul_of_nonneg_right (show x / 2 ^ k + 1 ≤ 2 ^ (n + 1) by omega) (Int.le_of_lt hk)
    omega
/-- The shift that fills the word. -/
theorem norm_shift {y : Int} (h0 : 0 < y) (h1 : y < 18446744073709551616) : 1 ≤ bl y ∧ bl y ≤ 64 ∧ 9223372036854775808 ≤ y * 2 ^ (64 - bl y).toNat ∧ y * 2 ^ (64 - bl y).toNat < 18446744073709551616 ∧ (0 : Int) < 2 ^ (64 - bl y).toNat ∧ (2 : Int) ^ (64 - bl y).toNat * 2 ^ (64 - (64 - bl y)).toNat = 18446744073709551616 := by
  obtain ⟨n, e, h2, h3⟩ := bl_pos h0
  have hn : bl y ≤ 64 := bl_le (n := 64) (by simpa using h1)
  have e1 : (64 - bl y).toNat = 63 - n := by omega
  have e2 : (64 - (64 - bl y)).toNat = n + 1 := by omega
  have hS : (0 : Int) < 2 ^ (63 - n) := Int.pow_pos (by omega)
  have p1 : (2 : Int) ^ n * 2 ^ (63 - n) = 9223372036854775808 := by rw [← Int.pow_add, show n + (63 - n) = 63 by omega]; decide
  have p2 : (2 : Int) ^ (n + 1) * 2 ^ (63 - n) = 18446744073709551616 := by rw [← Int.pow_add, show n + 1 + (63 - n) = 64 by omega]; decide
  rw [e1, e2]
  have m1 := Int.mul_le_mul_of_nonneg_right h2 (Int.le_of_lt hS)
  have m2 := Int.mul_lt_mul_of_pos_right h3 hS
  refine ⟨by omega, hn, by omega, by omega, hS, by rw [Int.mul_comm]; exact p2⟩
theorem mul32 {a b : Int} (a0 : 0 ≤ a) (a1 : a < 4294967296) (b0 : 0 ≤ b) (b1 : b < 4294967296) : 0 ≤ a * b ∧ a * b ≤ 18446744065119617025 := by
  refine ⟨Int.mul_nonneg a0 b0, ?_⟩
  have h1 := Int.mul_le_mul_of_nonneg_right (show a ≤ 4294967295 by omega) b0
  omega
/-- One digit of a quotient. -/
structure Dig (Y p c u e : Int) : Prop where
  hY : Y = p * 4294967296 + c
  c0 : 0 ≤ c
  c1 : c < 4294967296
  p0 : 2147483648 ≤ p
  p1 : p < 4294967296
  u0 : 0 ≤ u
  u1 : u < Y
  e0 : 0 ≤ e
  e1 : e < 4294967296
section
variable {Y p c u e a r : Int}
theorem Dig.mulY (d : Dig Y p c u e) (a : Int) : a * Y = a * p * 4294967296 + a * c := by rw [d.hY, Int.mul_add, Int.mul_assoc]
theorem Dig.start (d : Dig Y p c u e) : 0 ≤ u / p ∧ u / p ≤ 4294967297 ∧ 0 ≤ u / p * p ∧ 0 ≤ u - u / p * p ∧ u - u / p * p < p ∧ u * 4294967296 + e < (u / p + 1) * Y := by
  obtain ⟨hY, c0, c1, p0, p1, u0, u1, e0, e1⟩ := d
  have h1 := Int.emod_add_mul_ediv u p
  rw [Int.mul_comm] at h1
  have h2 := Int.emod_nonneg u (show p ≠ 0 by omega)
  have h3 := Int.emod_lt_of_pos u (show 0 < p by omega)
  have h4 := Int.ediv_nonneg u0 (show 0 ≤ p by omega)
  refine ⟨h4, ?_, Int.mul_nonneg h4 (by omega), by omega, by omega, ?_⟩
  · apply Decidable.not_not.1
    intro q
    have := Int.mul_le_mul_of_nonneg_right (show 4294967298 ≤ u / p by omega) (show 0 ≤ p by omega)
    omega
  · have e2 : (u / p + 1) * Y = (u / p * p + p) * 4294967296 + (u / p + 1) * c := by rw [hY, Int.mul_add, ← Int.mul_assoc, Int.add_mul (u / p) 1 p, Int.one_mul]
    have e3 := Int.mul_nonneg (show 0 ≤ u / p + 1 by omega) c0
    omega
theorem Dig.down (d : Dig Y p c u e) (hr : a * p + r = u) (h : 4294967296 ≤ a ∨ (a < 4294967296 ∧ 4294967296 * r + e < a * c)) : u * 4294967296 + e < (a - 1 + 1) * Y ∧ (a - 1) * p + (r + p) = u ∧ 1 ≤ a := by
  have hY := d.mulY a
  obtain ⟨_, c0, c1, p0, p1, u0, u1, e0, e1⟩ := d
  have g : u * 4294967296 + e < a * Y := by
    rcases h with h | ⟨h, h2⟩
    · have := Int.mul_le_mul_of_nonneg_right h (show 0 ≤ Y by omega)
      omega
    · omega
  refine ⟨by rw [Int.sub_add_cancel]; exact g, by rw [Int.sub_mul]; omega, ?_⟩
  apply Decidable.not_not.1
  intro q
  have := Int.mul_le_mul_of_nonneg_right (show a ≤ 0 by omega) (show 0 ≤ Y by omega)
  omega
theorem Dig.done (d : Dig Y p c u e) (hr : a * p + r = u) (h : ¬ 4294967296 * r + e < a * c) (hG : u * 4294967296 + e < (a + 1) * Y) : a * Y ≤ u * 4294967296 + e ∧ u * 4294967296 + e - a * Y < Y := by
  have hY := d.mulY a
  rw [Int.add_mul, Int.one_mul] at hG
  exact ⟨by omega, by omega⟩
theorem Dig.stop (d : Dig Y p c u e) (hr : a * p + r = u) (hr2 : 4294967296 ≤ r) (ha0 : 0 ≤ a) (ha : a ≤ 4294967296) (hG : u * 4294967296 + e < (a + 1) * Y) : a * Y ≤ u * 4294967296 + e ∧ u * 4294967296 + e - a * Y < Y := by
  refine d.done hr ?_ hG
  have h1 := Int.mul_le_mul_of_nonneg_right ha d.c0
  have := d.c1
  have := d.e0
  omega
end
/-- All of it. -/
theorem div_all {hi lo y Y S T u l e f a b v w N : Int} (hy : 0 < y) (hS : 0 < S) (hT : S * T = 18446744073709551616) (hT0 : 0 < T) (hY : Y = y * S) (hN : N = hi * 18446744073709551616 + lo) (hu : u = hi * S + lo / T) (hl : l = lo * S % 18446744073709551616)
    (he : e = l / 4294967296) (hf : f = l % 4294967296) (hv : v = u * 4294967296 + e - a * Y) (hw : w = v * 4294967296 + f - b * Y) (w0 : 0 ≤ w) (w1 : w < Y) : a * 4294967296 + b = N / y ∧ w / S = N % y := by
  have q1 : lo * S / 18446744073709551616 = lo / T := by
    rw [← hT, Int.mul_comm lo S, Int.mul_ediv_mul_of_pos _ _ hS]
  have q2 := Int.emod_add_mul_ediv (lo * S) 18446744073709551616
  rw [q1, ← hl] at q2
  have q3 : N * S = u * 18446744073709551616 + l := by
    rw [hN, hu, Int.add_mul, Int.add_mul]
    have : hi * 18446744073709551616 * S = hi * S * 18446744073709551616 := by rw [Int.mul_assoc, Int.mul_comm 18446744073709551616 S, ← Int.mul_assoc]
    omega
  have q4 : N * S = (a * 4294967296 + b) * Y + w := by
    rw [q3, Int.add_mul]
    have : a * 4294967296 * Y = a * Y * 4294967296 := by rw [Int.mul_assoc, Int.mul_comm 4294967296 Y, ← Int.mul_assoc]
    omega
  generalize a * 4294967296 + b = Q at *
  have q5 : w = (N - Q * y) * S := by
    rw [Int.sub_mul, Int.mul_assoc, ← hY]; omega
  have r0 : 0 ≤ N - Q * y := by
    apply Decidable.not_not.1
    intro q
    have := Int.mul_le_mul_of_nonneg_right (show N - Q * y ≤ -1 by omega) (Int.le_of_lt hS)
    omega
  have r1 : N - Q * y < y := by
    apply Decidable.not_not.1
    intro q
    have := Int.mul_le_mul_of_nonneg_right (show y ≤ N - Q * y by omega) (Int.le_of_lt hS)
    rw [← hY] at this
    omega
  have r2 : w / S = N - Q * y := by rw [q5]; exact Int.mul_ediv_cancel _ (by omega)
  have r3 : N = (N - Q * y) + y * Q := by rw [Int.mul_comm y Q]; omega
  constructor
  · have h1 : N / y = (N - Q * y) / y + Q := by
      conv => lhs; rw [r3]
      exact Int.add_mul_ediv_left _ _ (by omega)
    rw [h1, Int.ediv_eq_zero_of_lt r0 r1]; omega
  · rw [r2]
    have h1 : N % y = (N - Q * y) % y := by
      conv => lhs; rw [r3]
      exact Int.add_mul_emod_self_left _ _ _
    rw [h1, Int.emod_eq_of_lt r0 r1]
theorem div_small {hi lo y : Int} (h1 : hi < y) (l1 : lo < 18446744073709551616) (hy : 0 < y) : (hi * 18446744073709551616 + lo) / y < 18446744073709551616 := Int.ediv_lt_of_lt_mul hy (by rw [Int.mul_comm]; omega)
theorem hi_small {x y m : Int} (x0 : 0 ≤ x) (x1 : x < m) (y0 : 0 ≤ y) (y1 : y < m) (m1 : m ≤ 2199023255552) : x * y / 18446744073709551616 < m := by
  have h1 : x * y ≤ 2199023255552 * y := Int.mul_le_mul_of_nonneg_right (by omega) y0
  have h2 := Int.mul_nonneg x0 y0
  omega
/-- Products by halves. -/
theorem mul_parts {x y a b c d : Int} (hx : x = a * 4294967296 + b) (hy : y = c * 4294967296 + d) : x * y = a * c * 18446744073709551616 + (a * d + b * c) * 4294967296 + b * d := by
  subst hx hy
  rw [Int.add_mul, Int.mul_add, Int.mul_add, Int.add_mul]
  have e1 : a * 4294967296 * (c * 4294967296) = a * c * 18446744073709551616 := by rw [Int.mul_assoc, ← Int.mul_assoc 4294967296 c, Int.mul_comm 4294967296 c, Int.mul_assoc c, ← Int.mul_assoc]; rfl
  have e2 : a * 4294967296 * d = a * d * 4294967296 := by rw [Int.mul_assoc, Int.mul_comm 4294967296 d, ← Int.mul_assoc]
  have e3 : b * (c * 4294967296) = b * c * 4294967296 := by rw [← Int.mul_assoc]
  omega
end Go.Proofs.Ytapkilaikcihgaa
