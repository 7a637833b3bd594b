/- Sets as numbers: their bits, their groups' costs. No program in sight. -/
import Derived.Test.YtmkbjhligjnagaaMgY
import Derived.Test.YtmkbjhligjnagaaWb
namespace Go.Vc
open Go
section
variable {P : Program} {C : Cx} {env : Env} {V : HV} {σ : Res} {dst : Option Nat} {x y : Operand} {t T T' : TypeId} {pos : String} {af : Array Edge} {g : Option (Nat × Bool)} {m n : Int} {k2 : IntKind}
/-- The bits of m without those of n, with those of n, and both. -/
def aniV (m n : Int) : Int := ((BitVec.ofInt 64 m &&& ~~~ BitVec.ofInt 64 n).toNat : Nat)
def andV (m n : Int) : Int := ((BitVec.ofInt 64 m &&& BitVec.ofInt 64 n).toNat : Nat)
def oriV (m n : Int) : Int := ((BitVec.ofInt 64 m ||| BitVec.ofInt 64 n).toNat : Nat)
theorem qv_ani (hx : ev env x = .int .i64 m) (hy : ev env y = .int .i64 n) (h : aniV m n ≤ 9223372036854775807) : QV P C ⟨dst, .binOp .andNot T x y T', t, pos, af, g⟩ env V σ (.int .i64 (aniV m n)) := qv_run fun w _ => by
  have h0 : 0 ≤ aniV m n := Int.natCast_nonneg _
  have e' : (Op.intBits .andNot .i64 m n).run P w = .ok (.int .i64 (aniV m n)) w := by
    show (pure (Value.int .i64 (IntKind.i64.wrap (aniV m n))) : Sem Value).run P w = _
    rw [IntWalk.i64_in _ (by omega)]; rfl
  simp [execOp, hx, hy, eqGuard, binOp, e']
theorem qv_and (hx : ev env x = .int .i64 m) (hy : ev env y = .int .i64 n) (h : andV m n ≤ 9223372036854775807) : QV P C ⟨dst, .binOp .and T x y T', t, pos, af, g⟩ env V σ (.int .i64 (andV m n)) := qv_run fun w _ => by
  have h0 : 0 ≤ andV m n := Int.natCast_nonneg _
  have e' : (Op.intBits .and .i64 m n).run P w = .ok (.int .i64 (andV m n)) w := by
    show (pure (Value.int .i64 (IntKind.i64.wrap (andV m n))) : Sem Value).run P w = _
    rw [IntWalk.i64_in _ (by omega)]; rfl
  simp [execOp, hx, hy, eqGuard, binOp, e']
theorem qv_ori (hx : ev env x = .int .i64 m) (hy : ev env y = .int .i64 n) (h : oriV m n ≤ 9223372036854775807) : QV P C ⟨dst, .binOp .or T x y T', t, pos, af, g⟩ env V σ (.int .i64 (oriV m n)) := qv_run fun w _ => by
  have h0 : 0 ≤ oriV m n := Int.natCast_nonneg _
  have e' : (Op.intBits .or .i64 m n).run P w = .ok (.int .i64 (oriV m n)) w := by
    show (pure (Value.int .i64 (IntKind.i64.wrap (oriV m n))) : Sem Value).run P w = _
    rw [IntWalk.i64_in _ (by omega)]; rfl
  simp [execOp, hx, hy, eqGuard, binOp, e']
theorem qv_shli (hx : ev env x = .int .i64 m) (hy : ev env y = .int k2 n) (h0 : 0 ≤ n) (h1 : n ≤ 64) (hm : 0 ≤ m * 2 ^ n.toNat ∧ m * 2 ^ n.toNat ≤ 9223372036854775807) : QV P C ⟨dst, .binOp .shl T x y T', t, pos, af, g⟩ env V σ (.int .i64 (m * 2 ^ n.toNat)) := qv_run fun w _ => by
  have e : min n.toNat IntKind.i64.bits = n.toNat := by show min n.toNat 64 = n.toNat; omega
  have := run_shl (P := P) (T := T) (k := .i64) (k2 := k2) (m := m) (n := n) (w := w) h0
  rw [e, IntWalk.i64_in _ (by omega)] at this
  simp [execOp, hx, hy, eqGuard, this]
theorem qv_shri (hx : ev env x = .int .i64 m) (hy : ev env y = .int k2 n) (h0 : 0 ≤ n) (h1 : n ≤ 64) : QV P C ⟨dst, .binOp .shr T x y T', t, pos, af, g⟩ env V σ (.int .i64 (m / 2 ^ n.toNat)) := qv_run fun w _ => by
  have e : min n.toNat IntKind.i64.bits = n.toNat := by show min n.toNat 64 = n.toNat; omega
  have := run_shr (P := P) (T := T) (k := .i64) (k2 := k2) (m := m) (n := n) (w := w) h0
  rw [e, Int.fdiv_eq_ediv_of_nonneg _ (Int.le_of_lt (Int.pow_pos (by omega)))] at this
  simp [execOp, hx, hy, eqGuard, this]
theorem and_one {m : Int} : andV m 1 = m % 2 := by
  unfold andV
  have e2 : (BitVec.ofInt 64 1).toNat = 2 ^ 1 - 1 := by decide
  have e1 : ((BitVec.ofInt 64 m).toNat : Int) = m % 18446744073709551616 := by rw [BitVec.toNat_ofInt]; simp; omega
  rw [BitVec.toNat_and, e2, Nat.and_two_pow_sub_one_eq_mod]
  omega
theorem qv_and1 (hx : ev env x = .int .i64 m) (hy : ev env y = .int .i64 1) (_h0 : 0 ≤ m) : QV P C ⟨dst, .binOp .and T x y T', t, pos, af, g⟩ env V σ (.int .i64 (m % 2)) := by
  have h := qv_and (P := P) (C := C) (V := V) (σ := σ) (dst := dst) (T := T) (T' := T') (t := t) (pos := pos) (af := af) (g := g) hx hy (by rw [and_one]; omega)
  rwa [and_one] at h
end
end Go.Vc
namespace Go.Proofs.Ytmkbjhligjnagaa
open Go Go.Vc
/- facts on small sets, by trial -/
abbrev lw (S : Int) : Int := andV S (-S)
theorem sm1 : ∀ K : Nat, K < 64 → 0 < K → (0 < lw K ∧ lw K ≤ K) ∧ (0 ≤ aniV K (lw K) ∧ aniV K (lw K) < K) := by decide +kernel
set_option synthInstance.maxSize 4096 in
set_option synthInstance.maxHeartbeats 400000 in
theorem sm2 : ∀ K : Nat, K < 64 → ∀ g : Nat, g < 64 → 0 < K → andV g (aniV K (lw K)) = g → (1 ≤ oriV g (lw K) ∧ oriV g (lw K) ≤ K) ∧ aniV (oriV g (lw K)) K = 0 ∧ andV (oriV g (lw K)) (lw K) ≠ 0 := by decide +kernel
set_option synthInstance.maxSize 4096 in
set_option synthInstance.maxHeartbeats 400000 in
theorem sm3 : ∀ K : Nat, K < 64 → ∀ p : Nat, p < 64 → 0 < K → aniV p K = 0 → andV p (lw K) ≠ 0 → andV (aniV p (lw K)) (aniV K (lw K)) = aniV p (lw K) ∧ oriV (aniV p (lw K)) (lw K) = p ∧ (0 ≤ aniV p (lw K) ∧ aniV p (lw K) < 64) := by decide +kernel
theorem sm4 : ∀ R : Nat, R < 64 → ∀ g : Nat, g < 64 → 0 < g → andV g R = g → (0 ≤ andV ((g : Int) - 1) R ∧ andV ((g : Int) - 1) R < g) ∧ andV (andV ((g : Int) - 1) R) R = andV ((g : Int) - 1) R := by decide +kernel
set_option synthInstance.maxSize 4096 in
set_option synthInstance.maxHeartbeats 400000 in
theorem sm5 : ∀ R : Nat, R < 64 → ∀ g : Nat, g < 64 → ∀ h : Nat, h < g → 0 < g → andV g R = g → andV h R = h → (h : Int) ≤ andV ((g : Int) - 1) R := by decide +kernel
theorem sm6 : ∀ R : Nat, R < 64 → andV R R = R := by decide +kernel
theorem sm7 : ∀ R : Nat, R < 64 → ∀ g : Nat, g < 64 → andV g R = g → g ≤ R := by decide +kernel
end Go.Proofs.Ytmkbjhligjnagaa
