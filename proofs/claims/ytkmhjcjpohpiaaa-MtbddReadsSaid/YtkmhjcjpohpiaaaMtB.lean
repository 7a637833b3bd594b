/- Tables, entry by entry. No program in sight. -/
import Derived.Test.YtkmhjcjpohpiaaaMtA
namespace Go.Proofs.Ytkmhjcjpohpiaaa
open Go Go.Vc
open Classical
section
variable {P : Program} {C : Cx} {env : Env} {V : HV} {σ : Res} {dst : Option Nat} {x y : Operand} {t T T' : TypeId} {pos : String} {af : Array Edge} {g : Option (Nat × Bool)} {m n : Int} {k2 : IntKind}
theorem qv_shli (hx : ev env x = .int .i64 m) (hy : ev env y = .int k2 n) (h0 : 0 ≤ n) (h1 : n ≤ 64) (hm : 0 ≤ m * 2 ^ n.toNat ∧ m * 2 ^ n.toNat ≤ 9223372036854775807) : QV P C ⟨dst, .binOp .shl T x y T', t, pos, af, g⟩ env V σ (.int .i64 (m * 2 ^ n.toNat)) := qv_run fun w _ => by
  have e : min n.toNat IntKind.i64.bits = n.toNat := by show min n.toNat 64 = n.toNat; omega
  have := run_shl (P := P) (T := T) (k := .i64) (k2 := k2) (m := m) (n := n) (w := w) h0
  rw [e, IntWalk.i64_in _ (by omega)] at this
  simp [execOp, hx, hy, eqGuard, this]
theorem qv_shri (hx : ev env x = .int .i64 m) (hy : ev env y = .int k2 n) (h0 : 0 ≤ n) (h1 : n ≤ 64) : QV P C ⟨dst, .binOp .shr T x y T', t, pos, af, g⟩ env V σ (.int .i64 (m / 2 ^ n.toNat)) := qv_run fun w _ => by
  have e : min n.toNat IntKind.i64.bits = n.toNat := by show min n.toNat 64 = n.toNat; omega
  have := run_shr (P := P) (T := T) (k := .i64) (k2 := k2) (m := m) (n := n) (w := w) h0
  rw [e, Int.fdiv_eq_ediv_of_nonneg _ (Int.le_of_lt (Int.pow_pos (by omega)))] at this
  simp [execOp, hx, hy, eqGuard, this]
theorem and_one {m : Int} : ((BitVec.ofInt 64 m &&& BitVec.ofInt 64 1).toNat : Int) = m % 2 := by
  have e2 : (BitVec.ofInt 64 1).toNat = 2 ^ 1 - 1 := by decide
  have e1 : ((BitVec.ofInt 64 m).toNat : Int) = m % 18446744073709551616 := by rw [BitVec.toNat_ofInt]; simp; omega
  rw [BitVec.toNat_and, e2, Nat.and_two_pow_sub_one_eq_mod]
  omega
theorem qv_and1 (hx : ev env x = .int .i64 m) (hy : ev env y = .int .i64 1) (_h0 : 0 ≤ m) : QV P C ⟨dst, .binOp .and T x y T', t, pos, af, g⟩ env V σ (.int .i64 (m % 2)) := qv_run fun w _ => by
  have e : IntKind.i64.wrap ((BitVec.ofInt 64 m &&& BitVec.ofInt 64 1).toNat : Int) = m % 2 := by
    rw [and_one]; exact IntWalk.i64_in _ (by omega)
  have e' : (Op.intBits .and .i64 m 1).run P w = .ok (.int .i64 (m % 2)) w := by
    show (pure (Value.int .i64 (IntKind.i64.wrap ((BitVec.ofInt 64 m &&& BitVec.ofInt 64 1).toNat : Int))) : Sem Value).run P w = _
    rw [e]; rfl
  simp [execOp, hx, hy, eqGuard, binOp, e']
end
/-- The assignment with a number. -/
def asg (vars k : Int) : Int → Bool := fun i => decide (0 ≤ i ∧ i < vars ∧ k / 2 ^ (vars - 1 - i).toNat % 2 = 1)
theorem pow2_pos (n : Nat) : (0 : Int) < 2 ^ n := Int.pow_pos (by omega)
theorem half_bit {k p : Int} (_h0 : 0 ≤ k) (hp : 0 < p) (h1 : k < p + p) : k / p % 2 = if k < p then 0 else 1 := by
  by_cases h : k < p
  · rw [if_pos h, Int.ediv_eq_zero_of_lt (by omega) h]; rfl
  · rw [if_neg h]
    have : k / p = 1 := by
      rw [show k = k - p + 1 * p by omega, Int.add_mul_ediv_right _ _ (by omega), Int.ediv_eq_zero_of_lt (by omega) (by omega)]; rfl
    rw [this]; rfl
theorem low_bits {k p : Int} {j m : Nat} (hj : j < m) (hp : p = 2 ^ m) : (k - p) / 2 ^ j % 2 = k / 2 ^ j % 2 := by
  obtain ⟨d, rfl⟩ : ∃ d, m = j + 1 + d := ⟨m - j - 1, by omega⟩
  have e : p = (2 * 2 ^ d) * 2 ^ j := by
    rw [hp, Int.pow_add, Int.pow_succ, Int.mul_comm (2 ^ j) 2, Int.mul_assoc, Int.mul_comm (2 ^ j), Int.mul_assoc]
  rw [e, Int.sub_eq_add_neg, ← Int.neg_mul, Int.add_mul_ediv_right _ _ (Int.ne_of_gt (pow2_pos j))]
  have : k / 2 ^ j + -(2 * 2 ^ d) = k / 2 ^ j + (-(2 ^ d)) * 2 := by rw [Int.neg_mul, Int.mul_comm (2 ^ d) 2]
  rw [this, Int.add_mul_emod_self_right]
/-- The entry k of a table over m variables from v on. -/
theorem tab_get {α : Type} (f : (Int → Bool) → α) : ∀ (m : Nat) (v : Int) (e : Int → Bool) (k : Int), 0 ≤ k → k < 2 ^ m →
    (tab f m v e)[k.toNat]? = some (f (fun i => if v ≤ i ∧ i < v + m then decide (k / 2 ^ (v + m - 1 - i).toNat % 2 = 1) else e i))
  | 0, v, e, k, h0, h1 => by
    have hk : k = 0 := by have h1 : k < 1 := h1; omega
    subst hk
    show some (f e) = _
    congr 2; funext i
    rw [if_neg (by omega)]
  | m + 1, v, e, k, h0, h1 => by
    have hp : (2 : Int) ^ (m + 1) = 2 ^ m + 2 ^ m := by rw [Int.pow_succ]; omega
    have hp0 := pow2_pos m
    have hl := tab_len f m (v + 1) (up e v false)
    have hl2 : ((tab f m (v + 1) (up e v false)).length : Int) = 2 ^ m := by rw [hl]; simp
    show (tab f m (v + 1) (up e v false) ++ tab f m (v + 1) (up e v true))[k.toNat]? = _
    by_cases hk : k < 2 ^ m
    · rw [List.getElem?_append_left (by omega), tab_get f m (v + 1) _ k h0 hk]
      congr 2; funext i
      by_cases hi : v ≤ i ∧ i < v + (m + 1 : Nat)
      · rw [if_pos hi]
        by_cases hv : i = v
        · subst hv
          rw [if_neg (by omega)]
          unfold up
          rw [if_pos rfl, show (i + ((m + 1 : Nat) : Int) - 1 - i).toNat = m by omega, half_bit h0 hp0 (by omega), if_pos hk]; rfl
        · rw [if_pos (by omega), show (v + 1 + (m : Int) - 1 - i).toNat = (v + ((m + 1 : Nat) : Int) - 1 - i).toNat by omega]
      · rw [if_neg hi, if_neg (by omega)]
        unfold up; rw [if_neg (by omega)]
    · rw [List.getElem?_append_right (by omega), show k.toNat - (tab f m (v + 1) (up e v false)).length = (k - 2 ^ m).toNat by omega, tab_get f m (v + 1) _ (k - 2 ^ m) (by omega) (by omega)]
      congr 2; funext i
      by_cases hi : v ≤ i ∧ i < v + (m + 1 : Nat)
      · rw [if_pos hi]
        by_cases hv : i = v
        · subst hv
          rw [if_neg (by omega)]
          unfold up
          rw [if_pos rfl, show (i + ((m + 1 : Nat) : Int) - 1 - i).toNat = m by omega, half_bit h0 hp0 (by omega), if_neg hk]; rfl
        · rw [if_pos (by omega), show (v + 1 + (m : Int) - 1 - i).toNat = (v + ((m + 1 : Nat) : Int) - 1 - i).toNat by omega, low_bits (m := m) (by omega) rfl]
      · rw [if_neg hi, if_neg (by omega)]
        unfold up; rw [if_neg (by omega)]
/-- A table, entry by entry. -/
def tbl {α : Type} (vars : Int) (g : (Int → Bool) → α) : List α := (List.range (2 ^ vars.toNat)).map (fun k : Nat => g (asg vars (k : Int)))
theorem tbl_len {α : Type} (vars : Int) (g : (Int → Bool) → α) : (tbl vars g).length = 2 ^ vars.toNat := by simp [tbl]
theorem tbl_lenI {α : Type} (vars : Int) (g : (Int → Bool) → α) : ((tbl vars g).length : Int) = 2 ^ vars.toNat := by rw [tbl_len]; simp
theorem tbl_at {α : Type} {vars k : Int} {g : (Int → Bool) → α} (h0 : 0 ≤ k) (h1 : k < 2 ^ vars.toNat) : (tbl vars g)[k.toNat]? = some (g (asg vars k)) := by
  have h2 : k < ((2 ^ vars.toNat : Nat) : Int) := by simpa using h1
  unfold tbl
  rw [List.getElem?_map, List.getElem?_range (by omega)]
  show some (g (asg vars (k.toNat : Int))) = _
  rw [Int.toNat_of_nonneg h0]
theorem tbl_gi {vars k : Int} {g : (Int → Bool) → Int} (h0 : 0 ≤ k) (h1 : k < 2 ^ vars.toNat) : gi (tbl vars g) k = g (asg vars k) := by
  unfold gi; rw [List.getD_eq_getElem?_getD, tbl_at h0 h1]; rfl
theorem tbl_gb {vars k : Int} {g : (Int → Bool) → Bool} (h0 : 0 ≤ k) (h1 : k < 2 ^ vars.toNat) : gb (tbl vars g) k = g (asg vars k) := by
  unfold gb; rw [List.getD_eq_getElem?_getD, tbl_at h0 h1]; rfl
theorem tab_tbl {α : Type} {vars : Int} (h : 0 ≤ vars) (g : (Int → Bool) → α) : tabv vars g = tbl vars g := by
  refine List.ext_getElem? fun i => ?_
  by_cases hi : i < 2 ^ vars.toNat
  · have h2 : (i : Int) < 2 ^ vars.toNat := by
      have : ((2 ^ vars.toNat : Nat) : Int) = (2 : Int) ^ vars.toNat := by simp
      omega
    have a := tab_get g vars.toNat 0 e0 (i : Int) (by omega) h2
    have b := tbl_at (vars := vars) (g := g) (k := (i : Int)) (by omega) h2
    rw [Int.toNat_natCast] at a b
    rw [a, b]
    congr 2; funext j
    unfold asg
    by_cases hj : 0 ≤ j ∧ j < 0 + (vars.toNat : Int)
    · rw [if_pos hj]
      have : (0 ≤ j ∧ j < vars ∧ (i : Int) / 2 ^ (vars - 1 - j).toNat % 2 = 1) ↔ (i : Int) / 2 ^ (0 + (vars.toNat : Int) - 1 - j).toNat % 2 = 1 := by
        rw [show (0 + (vars.toNat : Int) - 1 - j).toNat = (vars - 1 - j).toNat by omega]
        exact ⟨fun q => q.2.2, fun q => ⟨by omega, by omega, q⟩⟩
      exact (decide_eq_decide.2 this).symm
    · rw [if_neg hj]
      exact (decide_eq_false (by omega)).symm
  · rw [List.getElem?_eq_none (by rw [tab_len]; omega), List.getElem?_eq_none (by rw [tbl_len]; omega)]
theorem tbl_map {α β : Type} {vars : Int} (h : α → β) (g : (Int → Bool) → α) : (tbl vars g).map h = tbl vars (fun e => h (g e)) := by
  unfold tbl; rw [List.map_map]; rfl
theorem asg_in {vars k i : Int} (h0 : 0 ≤ i) (h1 : i < vars) : asg vars k i = decide (k / 2 ^ (vars - 1 - i).toNat % 2 = 1) := by
  unfold asg
  exact decide_eq_decide.2 ⟨fun q => q.2.2, fun q => ⟨h0, h1, q⟩⟩
theorem asg_out {vars k i : Int} (h : i < 0 ∨ vars ≤ i) : asg vars k i = false := by
  unfold asg
  exact decide_eq_false (by omega)
/-- The number of an assignment. -/
def nm_ (L : List Bool) : Nat → Int
  | 0 => 0
  | n + 1 => 2 * nm_ L n + (if L.getD n false then 1 else 0)
theorem nm_bd (L : List Bool) : ∀ n : Nat, 0 ≤ nm_ L n ∧ nm_ L n < 2 ^ n
  | 0 => ⟨Int.le_refl _, by show (0 : Int) < 1; omega⟩
  | n + 1 => by
    have := nm_bd L n
    have hp : (2 : Int) ^ (n + 1) = 2 ^ n + 2 ^ n := by rw [Int.pow_succ]; omega
    show 0 ≤ 2 * nm_ L n + (if L.getD n false then 1 else 0) ∧ 2 * nm_ L n + (if L.getD n false then 1 else 0) < 2 ^ (n + 1)
    split <;> omega
theorem nm_bit (L : List Bool) : ∀ (n i : Nat), i < n → nm_ L n / 2 ^ (n - 1 - i) % 2 = if L.getD i false then 1 else 0
  | n + 1, i, h => by
    by_cases e : i = n
    · subst e
      rw [show i + 1 - 1 - i = 0 by omega, Int.pow_zero, Int.ediv_one]
      show (2 * nm_ L i + (if L.getD i false then 1 else 0)) % 2 = _
      split <;> omega
    · have := nm_bit L n i (by omega)
      rw [show n + 1 - 1 - i = (n - 1 - i) + 1 by omega, Int.pow_succ, Int.mul_comm, ← Int.ediv_ediv_of_nonneg (by omega)]
      have e2 : nm_ L (n + 1) / 2 = nm_ L n := by
        show (2 * nm_ L n + (if L.getD n false then 1 else 0)) / 2 = _
        split <;> omega
      rw [e2, this]
/-- The assignment whose number was taken. -/
theorem asg_nm {vars : Int} {L : List Bool} (hL : (L.length : Int) = vars) : asg vars (nm_ L L.length) = fun i => decide (0 ≤ i ∧ i < vars ∧ gb L i = true) := by
  funext i
  by_cases hi : 0 ≤ i ∧ i < vars
  · rw [asg_in hi.1 hi.2]
    have := nm_bit L L.length i.toNat (by omega)
    rw [show (vars - 1 - i).toNat = L.length - 1 - i.toNat by omega, this]
    by_cases h : gb L i = true
    · rw [if_pos h]; exact (decide_eq_true ⟨hi.1, hi.2, h⟩).symm
    · rw [if_neg h]; exact (decide_eq_false fun q => h q.2.2).symm
  · rw [asg_out (by omega)]
    exact (decide_eq_false fun q => hi ⟨q.1, q.2.1⟩).symm
theorem pow2_mono {a b : Nat} (h : a ≤ b) : (2 : Int) ^ a ≤ 2 ^ b := by
  have h1 := Nat.pow_le_pow_right (n := 2) (by omega) h
  have h2 : ((2 ^ a : Nat) : Int) ≤ ((2 ^ b : Nat) : Int) := by omega
  simpa using h2
theorem pow2_40 {n : Nat} (h : n ≤ 40) : (1 : Int) ≤ 2 ^ n ∧ (2 : Int) ^ n ≤ 1099511627776 := ⟨by have := pow2_pos n; omega, pow2_mono h⟩
theorem pow2_12 {n : Nat} (h : n ≤ 12) : (1 : Int) ≤ 2 ^ n ∧ (2 : Int) ^ n ≤ 4096 := ⟨by have := pow2_pos n; omega, pow2_mono h⟩
/-- The assignment with a number, as a list. -/
def asL (vars k : Int) : List Bool := (List.range vars.toNat).map (fun j : Nat => asg vars k (j : Int))
theorem asL_len (vars k : Int) : (asL vars k).length = vars.toNat := by simp [asL]
theorem asL_gb {vars k i : Int} (h0 : 0 ≤ i) (h1 : i < vars) : gb (asL vars k) i = asg vars k i := by
  unfold asL
  rw [gb_map_range _ _ _ h0 (by omega), Int.toNat_of_nonneg h0]
theorem nm_t {L : List Bool} {i : Int} (h0 : 0 ≤ i) (h : gb L i = true) : nm_ L i.toNat * 2 + 1 = nm_ L (i + 1).toNat := by
  rw [show (i + 1).toNat = i.toNat + 1 by omega]
  show _ = 2 * nm_ L i.toNat + (if L.getD i.toNat false then 1 else 0)
  rw [if_pos h]; omega
theorem nm_f {L : List Bool} {i : Int} (h0 : 0 ≤ i) (h : ¬ gb L i = true) : nm_ L i.toNat * 2 = nm_ L (i + 1).toNat := by
  rw [show (i + 1).toNat = i.toNat + 1 by omega]
  show _ = 2 * nm_ L i.toNat + (if L.getD i.toNat false then 1 else 0)
  rw [if_neg h]; omega
theorem Dep.up {α : Type} {vars i : Int} {b : Bool} {g : (Int → Bool) → α} (h : Dep vars g) : Dep vars (fun e => g (up e i b)) := fun e e' he => h _ _ fun j h0 h1 => by
  unfold Proofs.Ytkmhjcjpohpiaaa.up; rw [he j h0 h1]
theorem dep_asL {α : Type} {vars k : Int} {g : (Int → Bool) → α} (h : Dep vars g) : g (fun i => gb (asL vars k) i) = g (asg vars k) := h _ _ fun i h0 h1 => asL_gb h0 h1
/-- Functions with the same table are the same. -/
theorem tbl_inj {α : Type} {vars : Int} {g g' : (Int → Bool) → α} (h0 : 0 ≤ vars) (hg : Dep vars g) (hg' : Dep vars g') (h : tbl vars g = tbl vars g') (e : Int → Bool) : g e = g' e := by
  obtain ⟨L, hL⟩ : ∃ L : List Bool, L = (List.range vars.toNat).map (fun j : Nat => e (j : Int)) := ⟨_, rfl⟩
  have hl : (L.length : Int) = vars := by rw [hL]; simp; omega
  have hb := nm_bd L L.length
  have hLn : L.length = vars.toNat := by omega
  have he : ∀ i : Int, 0 ≤ i → i < vars → e i = asg vars (nm_ L L.length) i := fun i i0 i1 => by
    rw [asg_nm hl]
    have hq : gb L i = e i := by rw [hL, gb_map_range _ _ _ i0 (by omega), Int.toNat_of_nonneg i0]
    show _ = decide (0 ≤ i ∧ i < vars ∧ gb L i = true)
    rw [hq]
    cases h : e i
    · exact (decide_eq_false (by simp)).symm
    · exact (decide_eq_true ⟨i0, i1, rfl⟩).symm
  have h1 : nm_ L L.length < 2 ^ vars.toNat := by rw [← hLn]; exact hb.2
  have a := tbl_at (vars := vars) (g := g) hb.1 h1
  have b := tbl_at (vars := vars) (g := g') hb.1 h1
  rw [h, b] at a
  have a := Option.some.inj a
  rw [hg e _ he, hg' e _ he, a]
end Go.Proofs.Ytkmhjcjpohpiaaa
