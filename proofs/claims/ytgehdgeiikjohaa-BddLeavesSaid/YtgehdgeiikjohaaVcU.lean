/- Unsigned numbers: sums, products, masks, shifts. No program in sight. -/
import Derived.Test.YtgehdgeiikjohaaVcS
namespace Go.Vc
open Go Go.RowKit
theorem u64_wrap (n : Int) : IntKind.u64.wrap n = n % 18446744073709551616 := by
  unfold IntKind.wrap
  simp [IntKind.bits, IntKind.signed]
theorem u64_in {n : Int} (h0 : 0 ≤ n) (h1 : n < 18446744073709551616) : IntKind.u64.wrap n = n := by rw [u64_wrap]; exact Int.emod_eq_of_lt h0 h1
section
variable {P : Program} {C : Cx} {N : Nat} {env : Env} {V : HV} {σ : Res}
variable {dst : Option Nat} {k k2 : IntKind} {m n r : Int} {x y : Operand} {t T T' E : TypeId} {pos : String} {af : Array Edge} {g : Option (Nat × Bool)} {v : Value}
theorem qv_addu (hx : ev env x = .int .u64 m) (hy : ev env y = .int .u64 n) (hb : 0 ≤ m + n ∧ m + n < 18446744073709551616) : QV P C ⟨dst, .binOp .add T x y T', t, pos, af, g⟩ env V σ (.int .u64 (m + n)) := qv_addk hx hy (u64_in hb.1 hb.2)
theorem qv_subu (hx : ev env x = .int .u64 m) (hy : ev env y = .int .u64 n) (hb : 0 ≤ m - n ∧ m - n < 18446744073709551616) : QV P C ⟨dst, .binOp .sub T x y T', t, pos, af, g⟩ env V σ (.int .u64 (m - n)) := qv_subk hx hy (u64_in hb.1 hb.2)
theorem qv_mulu (hx : ev env x = .int .u64 m) (hy : ev env y = .int .u64 n) (hb : 0 ≤ m * n ∧ m * n < 18446744073709551616) : QV P C ⟨dst, .binOp .mul T x y T', t, pos, af, g⟩ env V σ (.int .u64 (m * n)) := qv_mulk hx hy (u64_in hb.1 hb.2)
theorem qv_addw (hx : ev env x = .int .u64 m) (hy : ev env y = .int .u64 n) : QV P C ⟨dst, .binOp .add T x y T', t, pos, af, g⟩ env V σ (.int .u64 ((m + n) % 18446744073709551616)) := qv_addk hx hy (u64_wrap _)
theorem qv_subw (hx : ev env x = .int .u64 m) (hy : ev env y = .int .u64 n) : QV P C ⟨dst, .binOp .sub T x y T', t, pos, af, g⟩ env V σ (.int .u64 ((m - n) % 18446744073709551616)) := qv_subk hx hy (u64_wrap _)
theorem qv_mulw (hx : ev env x = .int .u64 m) (hy : ev env y = .int .u64 n) : QV P C ⟨dst, .binOp .mul T x y T', t, pos, af, g⟩ env V σ (.int .u64 ((m * n) % 18446744073709551616)) := qv_mulk hx hy (u64_wrap _)
theorem qv_quou (hx : ev env x = .int .u64 m) (hy : ev env y = .int .u64 n) (h0 : 0 ≤ m ∧ m < 18446744073709551616) (h1 : 0 < n) : QV P C ⟨dst, .binOp .quo T x y T', t, pos, af, g⟩ env V σ (.int .u64 (m / n)) :=
  qv_quok hx hy (by omega) (by
    rw [Int.tdiv_eq_ediv_of_nonneg h0.1]
    exact u64_in (Int.ediv_nonneg h0.1 (by omega)) (by have := Int.ediv_le_self (a := m) n h0.1; omega))
theorem qv_remu (hx : ev env x = .int k m) (hy : ev env y = .int k n) (h0 : 0 ≤ m) (h1 : 0 < n) : QV P C ⟨dst, .binOp .rem T x y T', t, pos, af, g⟩ env V σ (.int k (m % n)) :=
  qv_remk hx hy (by omega) (Int.tmod_eq_emod_of_nonneg h0)
theorem run_shl {w : World} (h0 : 0 ≤ n) : (binOp .shl T (.int k m) (.int k2 n)).run P w = .ok (.int k (k.wrap (m * 2 ^ (min n.toNat k.bits)))) w := by
  simp only [binOp, Op.shift]
  rw [if_neg (by omega)]; simp
theorem run_shr {w : World} (h0 : 0 ≤ n) : (binOp .shr T (.int k m) (.int k2 n)).run P w = .ok (.int k (m.fdiv (2 ^ (min n.toNat k.bits)))) w := by
  simp only [binOp, Op.shift]
  rw [if_neg (by omega)]; simp
theorem qv_shlu (hx : ev env x = .int .u64 m) (hy : ev env y = .int k2 n) (h0 : 0 ≤ n) (h1 : n ≤ 64) : QV P C ⟨dst, .binOp .shl T x y T', t, pos, af, g⟩ env V σ (.int .u64 ((m * 2 ^ n.toNat) % 18446744073709551616)) := qv_run fun w _ => by
  have e : min n.toNat IntKind.u64.bits = n.toNat := by show min n.toNat 64 = n.toNat; omega
  have := run_shl (P := P) (T := T) (k := .u64) (k2 := k2) (m := m) (n := n) (w := w) h0
  rw [e, u64_wrap] at this
  simp [execOp, hx, hy, eqGuard, this]
theorem qv_shru (hx : ev env x = .int .u64 m) (hy : ev env y = .int k2 n) (h0 : 0 ≤ n) (h1 : n ≤ 64) : QV P C ⟨dst, .binOp .shr T x y T', t, pos, af, g⟩ env V σ (.int .u64 (m / 2 ^ n.toNat)) := qv_run fun w _ => by
  have e : min n.toNat IntKind.u64.bits = n.toNat := by show min n.toNat 64 = n.toNat; omega
  have := run_shr (P := P) (T := T) (k := .u64) (k2 := k2) (m := m) (n := n) (w := w) h0
  rw [e, Int.fdiv_eq_ediv_of_nonneg _ (Int.le_of_lt (Int.pow_pos (by omega)))] at this
  simp [execOp, hx, hy, eqGuard, this]
/-- Shifts by a number that is written out. -/
theorem qv_shrc (hx : ev env x = .int .u64 m) (hy : ev env y = .int k2 n) (p : Int) (h0 : 0 ≤ n) (h1 : n ≤ 64) (hp : (2 : Int) ^ n.toNat = p) : QV P C ⟨dst, .binOp .shr T x y T', t, pos, af, g⟩ env V σ (.int .u64 (m / p)) := hp ▸ qv_shru hx hy h0 h1
theorem and_mask {m : Int} : ((BitVec.ofInt 64 m &&& BitVec.ofInt 64 4294967295).toNat : Int) = m % 4294967296 := by
  have e2 : (BitVec.ofInt 64 4294967295).toNat = 2 ^ 32 - 1 := by decide
  have e1 : ((BitVec.ofInt 64 m).toNat : Int) = m % 18446744073709551616 := by rw [BitVec.toNat_ofInt]; simp; omega
  rw [BitVec.toNat_and, e2, Nat.and_two_pow_sub_one_eq_mod]
  omega
theorem qv_and32 (hx : ev env x = .int .u64 m) (hy : ev env y = .int .u64 4294967295) (h0 : 0 ≤ m) : QV P C ⟨dst, .binOp .and T x y T', t, pos, af, g⟩ env V σ (.int .u64 (m % 4294967296)) := qv_run fun w _ => by
  have e : IntKind.u64.wrap ((BitVec.ofInt 64 m &&& BitVec.ofInt 64 4294967295).toNat : Int) = m % 4294967296 := by
    rw [and_mask]; exact u64_in (by omega) (by omega)
  have e' : (Op.intBits .and .u64 m 4294967295).run P w = .ok (.int .u64 (m % 4294967296)) w := by
    show (pure (Value.int .u64 (IntKind.u64.wrap ((BitVec.ofInt 64 m &&& BitVec.ofInt 64 4294967295).toNat : Int))) : Sem Value).run P w = _
    rw [e]; rfl
  simp [execOp, hx, hy, eqGuard, binOp, e']
/-- The parts do not overlap. -/
theorem or_parts {a b s : Nat} (hb : b < 2 ^ s) (ha : a * 2 ^ s < 18446744073709551616) (hb2 : b < 18446744073709551616) : ((BitVec.ofInt 64 ((a * 2 ^ s : Nat) : Int) ||| BitVec.ofInt 64 (b : Int)).toNat : Int) = ((a * 2 ^ s + b : Nat) : Int) := by
  have e1 : (BitVec.ofInt 64 ((a * 2 ^ s : Nat) : Int)).toNat = a * 2 ^ s := by rw [BitVec.toNat_ofInt]; omega
  have e2 : (BitVec.ofInt 64 (b : Int)).toNat = b := by rw [BitVec.toNat_ofInt]; omega
  rw [BitVec.toNat_or, e1, e2, ← Nat.shiftLeft_eq, Nat.shiftLeft_add_eq_or_of_lt hb]
theorem or_parts2 {a b : Int} {s : Nat} (h0 : 0 ≤ a) (hb0 : 0 ≤ b) (hb : b < 2 ^ s) (hw : a * 2 ^ s + b < 18446744073709551616) : ((BitVec.ofInt 64 (a * 2 ^ s) ||| BitVec.ofInt 64 b).toNat : Int) = a * 2 ^ s + b := by
  have c1 : ((2 ^ s : Nat) : Int) = (2 : Int) ^ s := by simp
  obtain ⟨x, rfl⟩ := Int.eq_ofNat_of_zero_le h0
  obtain ⟨y, rfl⟩ := Int.eq_ofNat_of_zero_le hb0
  have e : ((x * 2 ^ s : Nat) : Int) = (x : Int) * 2 ^ s := by rw [Int.natCast_mul, c1]
  have := or_parts (a := x) (b := y) (s := s) (by omega) (by omega) (by omega)
  rw [← e]
  rw [this]; omega
theorem qv_oru (hx : ev env x = .int .u64 m) (hy : ev env y = .int .u64 n) (hr : ((BitVec.ofInt 64 m ||| BitVec.ofInt 64 n).toNat : Int) = r) (hb : r < 18446744073709551616) : QV P C ⟨dst, .binOp .or T x y T', t, pos, af, g⟩ env V σ (.int .u64 r) := qv_run fun w _ => by
  have e : IntKind.u64.wrap ((BitVec.ofInt 64 m ||| BitVec.ofInt 64 n).toNat : Int) = r := by rw [hr]; exact u64_in (by omega) hb
  have e' : (Op.intBits .or .u64 m n).run P w = .ok (.int .u64 r) w := by
    show (pure (Value.int .u64 (IntKind.u64.wrap ((BitVec.ofInt 64 m ||| BitVec.ofInt 64 n).toNat : Int))) : Sem Value).run P w = _
    rw [e]; rfl
  simp [execOp, hx, hy, eqGuard, binOp, e']
theorem qv_shle (hx : ev env x = .int .u64 m) (hy : ev env y = .int k2 n) (h0 : 0 ≤ n) (h1 : n ≤ 64) (hm : 0 ≤ m * 2 ^ n.toNat ∧ m * 2 ^ n.toNat < 18446744073709551616) : QV P C ⟨dst, .binOp .shl T x y T', t, pos, af, g⟩ env V σ (.int .u64 (m * 2 ^ n.toNat)) := by
  have h := qv_shlu (P := P) (C := C) (V := V) (σ := σ) (dst := dst) (T := T) (T' := T') (t := t) (pos := pos) (af := af) (g := g) hx hy h0 h1
  rwa [Int.emod_eq_of_lt hm.1 hm.2] at h
/-- A byte of a string. -/
def sAt (s : ByteArray) (i : Int) : Int := ((s[i.toNat]?).getD 0).toNat
theorem qv_idxs {s : ByteArray} {i : Int} (hu : P.underlying T = some .string) (hx : ev env x = .string s) (hy : ev env y = .int k i) (h0 : 0 ≤ i) (h1 : i < s.size) : QV P C ⟨dst, .index T x y, t, pos, af, g⟩ env V σ (.int .u8 (sAt s i)) := qv_run fun w _ => by
  have hlt : i.toNat < s.size := by omega
  have e : s[i.toNat]? = some s[i.toNat] := getElem?_pos s i.toNat hlt
  simp only [execOp, hx, hy, Instr.index, asIntOf]
  simp [run_underlying hu, h0, e, sAt]
theorem qv_convk {S : TypeId} {d : TypeDesc} (hS : P.underlying S = some d) (hT : P.underlying T = some (.int k2)) (hx : ev env x = .int k m) (hw : k2.wrap m = r) : QV P C ⟨dst, .convert S T x, t, pos, af, g⟩ env V σ (.int k2 r) := qv_run fun w _ => by
  have e : (convert S T (.int k m)).run P w = .ok (.int k2 r) w := by
    unfold convert
    simp only [Sem.run_bind, run_underlying hS, run_underlying hT, Result.andThen_ok]
    simp [Conv.intToInt, hw]
  simp [execOp, hx, e]
end
end Go.Vc
