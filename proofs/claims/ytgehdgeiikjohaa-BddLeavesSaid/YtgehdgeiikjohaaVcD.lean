/- One operation at a time: what each yields. No program in sight. -/
import Derived.Test.YtgehdgeiikjohaaVcC
import Derived.IntWalk
namespace Go.Vc
open Go.RowKit

section
variable {P : Program} {C : Cx} {N : Nat} {K : K3} {Q : Ex → K3} {env : Env} {V : HV} {σ : Res} {ops : Array Oper} {rest : List Oper}
variable {dst : Option Nat} {x y z : Operand} {t T T' E : TypeId} {pos : String} {af : Array Edge} {g : Option (Nat × Bool)} {k : IntKind} {m n r : Int} {v : Value}

theorem qv_run {o : Oper} (h : ∀ w, Mem C V σ w → (execOp (ev env) o).run P w = .ok (.value v) w) : QV P C o env V σ v := fun w hm => by
  rw [h w hm]; exact ⟨rfl, rfl⟩

theorem qv_mv (v : Value) (hx : ev env x = v) : QV P C ⟨dst, .move x, t, pos, af, g⟩ env V σ v := qv_run fun w _ => by simp [execOp, hx]
theorem qv_as (v : Value) (hx : ev env x = v) : QV P C ⟨dst, .assign x, t, pos, af, g⟩ env V σ v := qv_run fun w _ => by simp [execOp, hx]
theorem qv_pick_t {a : Value} {p : Prop} [Decidable p] (hp : p) (hc : ev env z = .bool (decide p)) (hx : ev env x = a) : QV P C ⟨dst, .pick z x y, t, pos, af, g⟩ env V σ a := qv_run fun w _ => by
  simp [execOp, hc, hx, asBool, hp]
theorem qv_pick_f {a : Value} {p : Prop} [Decidable p] (hp : ¬ p) (hc : ev env z = .bool (decide p)) (hy : ev env y = a) : QV P C ⟨dst, .pick z x y, t, pos, af, g⟩ env V σ a := qv_run fun w _ => by
  simp [execOp, hc, hy, asBool, hp]

/- integers -/
theorem qv_addk (hx : ev env x = .int k m) (hy : ev env y = .int k n) (hw : k.wrap (m + n) = r) : QV P C ⟨dst, .binOp .add T x y T', t, pos, af, g⟩ env V σ (.int k r) := qv_run fun w _ => by
  simp [execOp, hx, hy, eqGuard, binOp, Op.intArith, hw]
theorem qv_subk (hx : ev env x = .int k m) (hy : ev env y = .int k n) (hw : k.wrap (m - n) = r) : QV P C ⟨dst, .binOp .sub T x y T', t, pos, af, g⟩ env V σ (.int k r) := qv_run fun w _ => by
  simp [execOp, hx, hy, eqGuard, binOp, Op.intArith, hw]
theorem qv_mulk (hx : ev env x = .int k m) (hy : ev env y = .int k n) (hw : k.wrap (m * n) = r) : QV P C ⟨dst, .binOp .mul T x y T', t, pos, af, g⟩ env V σ (.int k r) := qv_run fun w _ => by
  simp [execOp, hx, hy, eqGuard, binOp, Op.intArith, hw]
theorem qv_add (hx : ev env x = .int .i64 m) (hy : ev env y = .int .i64 n) (hb : -9223372036854775808 ≤ m + n ∧ m + n ≤ 9223372036854775807) :
    QV P C ⟨dst, .binOp .add T x y T', t, pos, af, g⟩ env V σ (.int .i64 (m + n)) := qv_addk hx hy (IntWalk.i64_in _ hb)
theorem qv_sub (hx : ev env x = .int .i64 m) (hy : ev env y = .int .i64 n) (hb : -9223372036854775808 ≤ m - n ∧ m - n ≤ 9223372036854775807) :
    QV P C ⟨dst, .binOp .sub T x y T', t, pos, af, g⟩ env V σ (.int .i64 (m - n)) := qv_subk hx hy (IntWalk.i64_in _ hb)
theorem qv_mul (hx : ev env x = .int .i64 m) (hy : ev env y = .int .i64 n) (hb : -9223372036854775808 ≤ m * n ∧ m * n ≤ 9223372036854775807) :
    QV P C ⟨dst, .binOp .mul T x y T', t, pos, af, g⟩ env V σ (.int .i64 (m * n)) := qv_mulk hx hy (IntWalk.i64_in _ hb)
theorem qv_quok (hx : ev env x = .int k m) (hy : ev env y = .int k n) (h0 : n ≠ 0) (hw : k.wrap (m.tdiv n) = r) : QV P C ⟨dst, .binOp .quo T x y T', t, pos, af, g⟩ env V σ (.int k r) := qv_run fun w _ => by
  simp [execOp, hx, hy, eqGuard, binOp, Op.intDiv, hw, h0]
theorem qv_remk (hx : ev env x = .int k m) (hy : ev env y = .int k n) (h0 : n ≠ 0) (hw : m.tmod n = r) : QV P C ⟨dst, .binOp .rem T x y T', t, pos, af, g⟩ env V σ (.int k r) := qv_run fun w _ => by
  simp [execOp, hx, hy, eqGuard, binOp, Op.intDiv, hw, h0]
theorem qv_neg (hx : ev env x = .int .i64 m) (hb : -9223372036854775807 ≤ m ∧ m ≤ 9223372036854775808) : QV P C ⟨dst, .unOp .neg T x, t, pos, af, g⟩ env V σ (.int .i64 (-m)) := qv_run fun w _ => by
  have h : IntKind.i64.wrap (-m) = -m := IntWalk.i64_in _ (by omega)
  simp [execOp, hx, Op.unary, Op.intArith, h]
theorem qv_lss (hx : ev env x = .int k m) (hy : ev env y = .int k n) : QV P C ⟨dst, .binOp .lss T x y T', t, pos, af, g⟩ env V σ (.bool (decide (m < n))) := qv_run fun w _ => by
  simp [execOp, hx, hy, eqGuard, binOp, Op.intCmp]
theorem qv_leq (hx : ev env x = .int k m) (hy : ev env y = .int k n) : QV P C ⟨dst, .binOp .leq T x y T', t, pos, af, g⟩ env V σ (.bool (decide (m ≤ n))) := qv_run fun w _ => by
  simp [execOp, hx, hy, eqGuard, binOp, Op.intCmp]
theorem qv_gtr (hx : ev env x = .int k m) (hy : ev env y = .int k n) : QV P C ⟨dst, .binOp .gtr T x y T', t, pos, af, g⟩ env V σ (.bool (decide (n < m))) := qv_run fun w _ => by
  simp [execOp, hx, hy, eqGuard, binOp, Op.intCmp]
theorem qv_geq (hx : ev env x = .int k m) (hy : ev env y = .int k n) : QV P C ⟨dst, .binOp .geq T x y T', t, pos, af, g⟩ env V σ (.bool (decide (n ≤ m))) := qv_run fun w _ => by
  simp [execOp, hx, hy, eqGuard, binOp, Op.intCmp]
theorem qv_eql (hx : ev env x = .int k m) (hy : ev env y = .int k n) : QV P C ⟨dst, .binOp .eql T x y T', t, pos, af, g⟩ env V σ (.bool (decide (m = n))) := qv_run fun w _ => by
  have : (m == n) = decide (m = n) := rfl
  simp [execOp, hx, hy, eqGuard, binOp, Op.intCmp, this]
theorem qv_neq (hx : ev env x = .int k m) (hy : ev env y = .int k n) : QV P C ⟨dst, .binOp .neq T x y T', t, pos, af, g⟩ env V σ (.bool (decide (m ≠ n))) := qv_run fun w _ => by
  have : (m != n) = decide (m ≠ n) := by by_cases h : m = n <;> simp [h]
  simp [execOp, hx, hy, eqGuard, binOp, Op.intCmp, this]
theorem run_equal_bool {P : Program} {T : TypeId} (hT : P.underlying T = some .bool) (b c : Bool) (w : World) : (Op.equal T (.bool b) (.bool c)).run P w = .ok (b == c) w := by
  have h : ∀ d, (Op.equalIn (d + 1) T (.bool b) (.bool c)).run P w = .ok (b == c) w := fun d => by simp [Op.equalIn, underlying, hT]
  exact h 9999
theorem qv_eqb {b c : Bool} (hT : P.underlying T = some .bool) (hx : ev env x = .bool b) (hy : ev env y = .bool c) : QV P C ⟨dst, .binOp .eql T x y T', t, pos, af, g⟩ env V σ (.bool (decide (b = c))) := qv_run fun w _ => by
  have : (b == c) = decide (b = c) := rfl
  simp [execOp, hx, hy, eqGuard, binOp, run_equal_bool hT, this]
theorem qv_neb {b c : Bool} (hT : P.underlying T = some .bool) (hx : ev env x = .bool b) (hy : ev env y = .bool c) : QV P C ⟨dst, .binOp .neq T x y T', t, pos, af, g⟩ env V σ (.bool (decide (b ≠ c))) := qv_run fun w _ => by
  have : (!(b == c)) = decide (b ≠ c) := by cases b <;> cases c <;> rfl
  simp [execOp, hx, hy, eqGuard, binOp, run_equal_bool hT, this]
theorem qv_not {p : Prop} [Decidable p] (hx : ev env x = .bool (decide p)) : QV P C ⟨dst, .unOp .not T x, t, pos, af, g⟩ env V σ (.bool (decide (¬ p))) := qv_run fun w _ => by
  have : (!decide p) = decide (¬ p) := by simp
  simp only [execOp, hx, Op.unary, this]; rfl
theorem qv_conv (hT : P.underlying T' = some (.int k)) (hS : ∃ d, P.underlying T = some d) {j : IntKind} (hx : ev env x = .int j m) (hw : k.wrap m = r) : QV P C ⟨dst, .convert T T' x, t, pos, af, g⟩ env V σ (.int k r) := qv_run fun w _ => by
  obtain ⟨d, hd⟩ := hS
  simp [execOp, hx, convert, underlying, hT, hd, Conv.intToInt, hw]
theorem qv_min {at_ : Array TypeId} (hx : ev env x = .int k m) (hy : ev env y = .int k n) : QV P C ⟨dst, .call { callee := .builtin .min, args := #[x, y], argTypes := at_ }, t, pos, af, g⟩ env V σ (.int k (if n < m then n else m)) := qv_run fun w _ => by
  simp [execOp, resolve, invoke, builtin, Builtin.min_, Builtin.min2, hx, hy]
theorem qv_max {at_ : Array TypeId} (hx : ev env x = .int k m) (hy : ev env y = .int k n) : QV P C ⟨dst, .call { callee := .builtin .max, args := #[x, y], argTypes := at_ }, t, pos, af, g⟩ env V σ (.int k (if m < n then n else m)) := qv_run fun w _ => by
  simp [execOp, resolve, invoke, builtin, Builtin.max_, Builtin.max2, hx, hy]

/- tuples, structs by value, functions -/
theorem qv_ext {l : List Value} {i : Nat} (v : Value) (hx : ev env x = .tuple l.toArray) (hi : l[i]? = some v) : QV P C ⟨dst, .extract x i, t, pos, af, g⟩ env V σ v := qv_run fun w _ => by
  simp [execOp, hx, Instr.extract, hi]
theorem qv_func {fn : Fn} {l : List Operand} {cs : List Value} (hl : l.map (ev env) = cs) : QV P C ⟨dst, .makeFunc fn #[] l.toArray, t, pos, af, g⟩ env V σ (.func fn #[] cs.toArray) := qv_run fun w _ => by
  have : l.toArray.map (ev env) = cs.toArray := by apply Array.ext'; simp [hl]
  simp [execOp, Instr.makeFunc, ← hl]

/- slices -/
theorem qv_len {n c : Nat} {a : Option Addr} {at_ : TypeId} (hT : P.underlying at_ = some (.slice E)) (hx : ev env x = v) (hv : v = .slice a n c) :
    QV P C ⟨dst, .call { callee := .builtin .len, args := #[x], argTypes := #[at_] }, t, pos, af, g⟩ env V σ (.int .i64 n) := qv_run fun w _ => by
  subst hv
  simp [execOp, resolve, invoke, builtin, Builtin.len_, hx, underlying, hT, goInt]
theorem qv_lenS {vals : List Value} {H : HV} {at_ : TypeId} (hT : P.underlying at_ = some (.slice E)) (hx : ev env x = v) (hv : Sl H v vals) :
    QV P C ⟨dst, .call { callee := .builtin .len, args := #[x], argTypes := #[at_] }, t, pos, af, g⟩ env V σ (.int .i64 vals.length) := by
  obtain ⟨a, c, h, _⟩ := hv; exact qv_len hT hx h
theorem qv_lenI {xs : List Int} {H : HV} {at_ : TypeId} (hT : P.underlying at_ = some (.slice E)) (hx : ev env x = v) (hv : Ints k H v xs) :
    QV P C ⟨dst, .call { callee := .builtin .len, args := #[x], argTypes := #[at_] }, t, pos, af, g⟩ env V σ (.int .i64 xs.length) := by
  obtain ⟨a, c, h, _⟩ := hv; rw [List.length_map] at h; exact qv_len hT hx h

theorem Sl.at {H : HV} {v : Value} {vals : List Value} (h : Sl H v vals) {i : Int} (h0 : 0 ≤ i) (h1 : i < vals.length) :
    ∃ b off cs T fz c, v = .slice (some ⟨b, off, none⟩) vals.length c ∧ vals.length ≤ c ∧ H b = some (.cells cs T fz) ∧ eptr v i 1 = .pointer (some ((⟨b, off, none⟩ : Addr).add i.toNat)) ∧
      cs[off + i.toNat]? = some (vals.getD i.toNat undef) := by
  obtain ⟨a, c, hv, hc, _, hh⟩ := h
  have hlt : i.toNat < vals.length := by omega
  obtain ⟨b, off, cs, T, fz, rfl, e2, e3⟩ := hh (fun e => by rw [e] at hlt; simp at hlt)
  refine ⟨b, off, cs, T, fz, c, hv, hc, e2, by rw [hv]; simp [eptr], ?_⟩
  rw [e3 _ hlt, List.getD_eq_getElem?_getD, List.getElem?_eq_getElem hlt]; rfl

theorem qv_ia {vals : List Value} {s : Nat} {v : Value} {i : Int} (hT : P.underlying T = some (.slice E)) (hS : SizeIs P E s) (hx : ev env x = v) (hv : In C V σ (fun H => Sl H v vals)) (hy : ev env y = .int k i) (h0 : 0 ≤ i)
    (h1 : i < vals.length) : QV P C ⟨dst, .indexAddr T x y, t, pos, af, g⟩ env V σ (eptr v i s) := qv_run fun w hm => by
  obtain ⟨b, off, cs, T, fz, c, e, _⟩ := (hv w hm).at h0 h1
  simp only [execOp, hx, hy, e, Instr.indexAt, asIntOf, underlying, eptr]
  simp [hT, run_sizeOf hS, h0, h1]

theorem add_cell {w : World} {b off i : Nat} {cs : Array Value} {T : TypeId} {fz : Nat × Nat} (h : hv w b = some (.cells cs T fz)) : w.cell? ((⟨b, off, none⟩ : Addr).add i) = cs[off + i]? := by
  unfold hv at h
  have e : ((⟨b, off, none⟩ : Addr).add i).block = b ∧ ((⟨b, off, none⟩ : Addr).add i).off = off + i ∧ ((⟨b, off, none⟩ : Addr).add i).spot = none := by
    unfold Addr.add; split <;> simp_all
  unfold World.cell?
  rw [e.1, h]; simp [e.2.1, e.2.2]

theorem qv_ld {vals : List Value} {v : Value} {i : Int} (hP : Plain P T) (hx : ev env x = eptr v i 1) (hv : In C V σ (fun H => Sl H v vals)) (h0 : 0 ≤ i) (h1 : i < vals.length) :
    QV P C ⟨dst, .load T x, t, pos, af, g⟩ env V σ (gv vals i) := qv_run fun w hm => by
  obtain ⟨b, off, cs, T, fz, c, e, hc, e2, e3, e4⟩ := (hv w hm).at h0 h1
  rw [e3] at hx
  have hcell := add_cell (i := i.toNat) (off := off) e2
  rw [e4] at hcell
  simp [execOp, hx, Instr.loadAt, Instr.sureAddr, loadVar, run_plain hP, load, Sem.run, hcell]

theorem qv_iai {xs : List Int} {j : IntKind} {s : Nat} {v : Value} {i : Int} (hT : P.underlying T = some (.slice E)) (hS : SizeIs P E s) (hx : ev env x = v) (hv : In C V σ (fun H => Ints j H v xs)) (hy : ev env y = .int k i) (h0 : 0 ≤ i)
    (h1 : i < xs.length) : QV P C ⟨dst, .indexAddr T x y, t, pos, af, g⟩ env V σ (eptr v i s) := qv_ia hT hS hx hv hy h0 (by simpa using h1)
theorem qv_ldi {xs : List Int} {v : Value} {i : Int} (hP : Plain P T) (hx : ev env x = eptr v i 1) (hv : In C V σ (fun H => Ints k H v xs)) (h0 : 0 ≤ i) (h1 : i < xs.length) :
    QV P C ⟨dst, .load T x, t, pos, af, g⟩ env V σ (.int k (gi xs i)) := by
  have := qv_ld (dst := dst) (t := t) (pos := pos) (af := af) (g := g) hP hx hv h0 (by simpa using h1)
  have hlt : i.toNat < xs.length := by omega
  have e : (xs.map (Value.int k)).getD i.toNat undef = .int k (xs.getD i.toNat 0) := by
    simp [List.getD_eq_getElem?_getD, List.getElem?_eq_getElem hlt]
  have e' : gv (xs.map (Value.int k)) i = .int k (gi xs i) := e
  rwa [e'] at this

/- tests -/
theorem vc_if {c : Operand} {a b : Code} {p : Prop} [Decidable p] (hc : ev env c = .bool (decide p)) (ht : p → VC P C N a K Q env V σ) (hf : ¬ p → VC P C N b K Q env V σ) : VC P C N (.cond c a b) K Q env V σ :=
  vc_cond hc (fun h => ht (of_decide_eq_true h)) (fun h => hf (of_decide_eq_false h))

theorem want_t {o : Oper} {j d : Nat} {p : Prop} [Decidable p] (hp : p) (hg : o.guard = some (j, true)) (hd : (ops[j]?).bind (·.dst) = some d) (he : env d = .bool (decide p)) : wantedE o ops env = true := by
  simp [wantedE, Region.wanted, hg, yieldE, hd, he, hp]
theorem want_f {o : Oper} {j d : Nat} {p : Prop} [Decidable p] (hp : ¬ p) (hg : o.guard = some (j, false)) (hd : (ops[j]?).bind (·.dst) = some d) (he : env d = .bool (decide p)) : wantedE o ops env = true := by
  simp [wantedE, Region.wanted, hg, yieldE, hd, he, hp]
theorem want_tn {o : Oper} {j d : Nat} {p : Prop} [Decidable p] (hp : ¬ p) (hg : o.guard = some (j, true)) (hd : (ops[j]?).bind (·.dst) = some d) (he : env d = .bool (decide p)) : wantedE o ops env = false := by
  simp [wantedE, Region.wanted, hg, yieldE, hd, he, hp]
theorem want_fn {o : Oper} {j d : Nat} {p : Prop} [Decidable p] (hp : p) (hg : o.guard = some (j, false)) (hd : (ops[j]?).bind (·.dst) = some d) (he : env d = .bool (decide p)) : wantedE o ops env = false := by
  simp [wantedE, Region.wanted, hg, yieldE, hd, he, hp]
end
end Go.Vc
