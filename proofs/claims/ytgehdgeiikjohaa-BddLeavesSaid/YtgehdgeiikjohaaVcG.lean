/- Small additions: elements by an integer index, tests that are known, fields, division. No program in sight. -/
import Derived.Test.YtgehdgeiikjohaaVcF
namespace Go.Vc
open Go.RowKit

abbrev gr (L : List (List Int)) (i : Int) : List Int := L.getD i.toNat []

section
variable {P : Program} {C : Cx} {N : Nat} {K : K3} {Q : Ex → K3} {env : Env} {V : HV} {σ : Res} {ops : Array Oper} {rest : List Oper} {w : World}
variable {d k : Nat} {dst : Option Nat} {x y z : Operand} {t T T' E : TypeId} {pos : String} {af : Array Edge} {g : Option (Nat × Bool)} {v : Value} {op : Op} {m n : Int}

theorem qv_ldv {vals : List Value} {i : Int} {u : Value} (hP : Plain P T) (hx : ev env x = eptr v i 1) (hv : In C V σ (fun H => Sl H v vals)) (h0 : 0 ≤ i) (h1 : i < vals.length) (hu : gv vals i = u) :
    QV P C ⟨dst, .load T x, t, pos, af, g⟩ env V σ u := by rw [← hu]; exact qv_ld hP hx hv h0 h1
theorem vc_if_t {c : Operand} {a b : Code} {p : Prop} [Decidable p] (hc : ev env c = .bool (decide p)) (hp : p) (h : VC P C N a K Q env V σ) : VC P C N (.cond c a b) K Q env V σ :=
  vc_if hc (fun _ => h) (fun hn => absurd hp hn)
theorem vc_if_f {c : Operand} {a b : Code} {p : Prop} [Decidable p] (hc : ev env c = .bool (decide p)) (hp : ¬ p) (h : VC P C N b K Q env V σ) : VC P C N (.cond c a b) K Q env V σ :=
  vc_if hc (fun hn => absurd hn hp) (fun _ => h)
theorem vc_tt {c : Operand} {a b : Code} (hc : ev env c = .bool true) (h : VC P C N a K Q env V σ) : VC P C N (.cond c a b) K Q env V σ :=
  vc_cond hc (fun _ => h) (fun hn => by cases hn)
theorem vc_ff {c : Operand} {a b : Code} (hc : ev env c = .bool false) (h : VC P C N b K Q env V σ) : VC P C N (.cond c a b) K Q env V σ :=
  vc_cond hc (fun hn => by cases hn) (fun _ => h)
theorem want_tc {o : Oper} {j d : Nat} (hg : o.guard = some (j, true)) (hd : (ops[j]?).bind (·.dst) = some d) (he : env d = .bool true) : wantedE o ops env = true := by
  simp [wantedE, Region.wanted, hg, yieldE, hd, he]
theorem want_fc {o : Oper} {j d : Nat} (hg : o.guard = some (j, false)) (hd : (ops[j]?).bind (·.dst) = some d) (he : env d = .bool false) : wantedE o ops env = true := by
  simp [wantedE, Region.wanted, hg, yieldE, hd, he]
theorem want_tnc {o : Oper} {j d : Nat} (hg : o.guard = some (j, true)) (hd : (ops[j]?).bind (·.dst) = some d) (he : env d = .bool false) : wantedE o ops env = false := by
  simp [wantedE, Region.wanted, hg, yieldE, hd, he]
theorem want_fnc {o : Oper} {j d : Nat} (hg : o.guard = some (j, false)) (hd : (ops[j]?).bind (·.dst) = some d) (he : env d = .bool true) : wantedE o ops env = false := by
  simp [wantedE, Region.wanted, hg, yieldE, hd, he]
theorem want_u {o : Oper} {j d : Nat} {c : Bool} (hg : o.guard = some (j, c)) (hd : (ops[j]?).bind (·.dst) = some d) (he : env d = undef) : wantedE o ops env = false := by
  simp [wantedE, Region.wanted, hg, yieldE, hd, he, undef]
theorem qv_pick_tc {a : Value} (hc : ev env z = .bool true) (hx : ev env x = a) : QV P C ⟨dst, .pick z x y, t, pos, af, g⟩ env V σ a := qv_run fun w _ => by
  simp [execOp, hc, hx, asBool]
theorem qv_pick_fc {a : Value} (hc : ev env z = .bool false) (hy : ev env y = a) : QV P C ⟨dst, .pick z x y, t, pos, af, g⟩ env V σ a := qv_run fun w _ => by
  simp [execOp, hc, hy, asBool]
theorem qv_notc {b : Bool} (hx : ev env x = .bool b) : QV P C ⟨dst, .unOp .not T x, t, pos, af, g⟩ env V σ (.bool (!b)) := qv_run fun w _ => by
  simp [execOp, hx, Op.unary]
theorem qv_quo (hx : ev env x = .int .i64 m) (hy : ev env y = .int .i64 n) (h1 : 0 ≤ m ∧ m ≤ 9223372036854775807) (h2 : 1 ≤ n) : QV P C ⟨dst, .binOp .quo T x y T', t, pos, af, g⟩ env V σ (.int .i64 (m / n)) :=
  qv_quok hx hy (by omega) (IntWalk.i64_quo m n ⟨h1.1, h1.2, h2⟩)
theorem qv_rem (hx : ev env x = .int .i64 m) (hy : ev env y = .int .i64 n) (h1 : 0 ≤ m) (h2 : 1 ≤ n) : QV P C ⟨dst, .binOp .rem T x y T', t, pos, af, g⟩ env V σ (.int .i64 (m % n)) :=
  qv_remk hx hy (by omega) (Int.tmod_eq_emod_of_nonneg h1)

/-- Field f of the struct T lies o cells from its start. -/
def FieldIs (P : Program) (T : TypeId) (f o : Nat) : Prop := ∃ fs fl s, P.underlying T = some (.struct fs) ∧ fs[f]? = some fl ∧ fl.offset = o ∧ SizeIs P fl.type s ∧ s ≠ 0
theorem qv_fa {f b off o : Nat} (hF : FieldIs P T f o) (hx : ev env x = .pointer (some ⟨b, off, none⟩)) : QV P C ⟨dst, .fieldAddr T x f, t, pos, af, g⟩ env V σ (.pointer (some ⟨b, off + o, none⟩)) := qv_run fun w _ => by
  obtain ⟨fs, fl, s, h1, h2, h3, h4, h5⟩ := hF
  subst h3
  have e : (⟨b, off, none⟩ : Addr).add fl.offset = ⟨b, off + fl.offset, none⟩ := by
    unfold Addr.add
    by_cases h : fl.offset = 0
    · simp [h]
    · simp [h]
  simp [execOp, hx, Instr.fieldAt, underlying, h1, h2, Instr.sureAddr, fieldPlace, run_sizeOf h4, h5, e]
end

theorem gv_ints {k : IntKind} {xs : List Int} {i : Int} (h0 : 0 ≤ i) (h1 : i < xs.length) : gv (xs.map (Value.int k)) i = .int k (gi xs i) := by
  have hlt : i.toNat < xs.length := by omega
  simp [gv, gi, List.getD_eq_getElem?_getD, List.getElem?_eq_getElem hlt]

open Classical in
/-- The first i below n with p i, or -1. -/
noncomputable def firstI (p : Int → Prop) : Nat → Int
  | 0 => -1
  | n + 1 => if 0 ≤ firstI p n then firstI p n else if p n then (n : Int) else -1
theorem firstI_none {p : Int → Prop} : ∀ n : Nat, (∀ i : Int, 0 ≤ i → i < n → ¬ p i) → firstI p n = -1
  | 0, _ => rfl
  | n + 1, h => by
    have ih := firstI_none n (fun i h0 h1 => h i h0 (by omega))
    have hn := h n (by omega) (by omega)
    simp only [firstI, ih]; simp [hn]
theorem firstI_some {p : Int → Prop} {j : Int} (h0 : 0 ≤ j) (hj : p j) (hf : ∀ i : Int, 0 ≤ i → i < j → ¬ p i) : ∀ n : Nat, j < n → firstI p n = j
  | 0, h => by omega
  | n + 1, h => by
    by_cases hn : j < n
    · have ih := firstI_some h0 hj hf n hn
      simp only [firstI, ih]; simp [h0]
    · have e : (n : Int) = j := by omega
      have ih := firstI_none n (fun i a b => hf i a (by omega))
      simp only [firstI, ih]; rw [if_neg (by omega), if_pos (by rw [e]; exact hj)]; exact e
theorem firstI_nonneg {p : Int → Prop} (n : Nat) : 0 ≤ firstI p n ↔ ∃ i : Int, 0 ≤ i ∧ i < n ∧ p i := by
  constructor
  · intro h
    induction n with
    | zero => simp [firstI] at h
    | succ n ih =>
      simp only [firstI] at h
      by_cases h1 : 0 ≤ firstI p n
      · obtain ⟨i, a, b, c⟩ := ih h1; exact ⟨i, a, by omega, c⟩
      · simp only [h1, if_false] at h
        by_cases h2 : p n
        · exact ⟨n, by omega, by omega, h2⟩
        · simp [h2] at h
  · rintro ⟨i, a, b, c⟩
    have : ∃ m : Nat, p m := ⟨i.toNat, by rw [show ((i.toNat : Nat) : Int) = i by omega]; exact c⟩
    -- the least one
    have key : ∀ m : Nat, (∃ i : Int, 0 ≤ i ∧ i < m ∧ p i) → ∃ j : Int, 0 ≤ j ∧ j < m ∧ p j ∧ ∀ i : Int, 0 ≤ i → i < j → ¬ p i := by
      intro m
      induction m with
      | zero => rintro ⟨i, a, b, _⟩; omega
      | succ m ih =>
        rintro ⟨i, a, b, c⟩
        by_cases h : ∃ i : Int, 0 ≤ i ∧ i < m ∧ p i
        · obtain ⟨j, j1, j2, j3, j4⟩ := ih h; exact ⟨j, j1, by omega, j3, j4⟩
        · have e : i = m := by
            by_cases hi : i < m
            · exact absurd ⟨i, a, hi, c⟩ h
            · omega
          exact ⟨i, a, b, c, fun x x0 x1 hx => h ⟨x, x0, by omega, hx⟩⟩
    obtain ⟨j, j1, j2, j3, j4⟩ := key n ⟨i, a, b, c⟩
    rw [firstI_some j1 j3 j4 n j2]; exact j1

theorem all_snoc {p : Int → Prop} {j : Int} (h : ∀ i : Int, 0 ≤ i → i < j → p i) (hj : p j) : ∀ i : Int, 0 ≤ i → i < j + 1 → p i := fun i a b => by
  by_cases e : i = j
  · rw [e]; exact hj
  · exact h i a (by omega)

/- lists given by a function of the index -/
theorem set_map_range {α : Type} (m i : Nat) (f : Nat → α) (v : α) : ((List.range m).map f).set i v = (List.range m).map (fun j => if j = i then v else f j) := by
  apply List.ext_getElem?
  intro j
  simp only [List.getElem?_set, List.getElem?_map, List.length_map, List.length_range]
  by_cases h : j < m
  · simp only [List.getElem?_range h, Option.map_some]
    by_cases e : i = j
    · subst e; simp [h]
    · rw [if_neg e, if_neg (fun h => e h.symm)]
  · have hn : (List.range m)[j]? = none := by simp; omega
    simp only [hn, Option.map_none]
    by_cases e : i = j
    · subst e; simp [h]
    · rw [if_neg e]
theorem gi_map_range (m : Nat) (f : Nat → Int) (j : Int) (h0 : 0 ≤ j) (h1 : j < m) : gi ((List.range m).map f) j = f j.toNat := by
  have h : j.toNat < m := by omega
  simp [gi, List.getD_eq_getElem?_getD, List.getElem?_range h]
theorem gr_map_range (m : Nat) (f : Nat → List Int) (j : Int) (h0 : 0 ≤ j) (h1 : j < m) : gr ((List.range m).map f) j = f j.toNat := by
  have h : j.toNat < m := by omega
  simp [gr, List.getD_eq_getElem?_getD, List.getElem?_range h]
theorem replicate_map_range (m : Nat) (v : Value) (f : Nat → Int) (hf : ∀ j, j < m → Value.int .i64 (f j) = v) : List.replicate m v = ((List.range m).map f).map (Value.int .i64) := by
  apply List.ext_getElem?
  intro j
  by_cases h : j < m
  · simp [List.getElem?_replicate, h, List.getElem?_range h, hf j h]
  · have hn : (List.range m)[j]? = none := by simp; omega
    simp [List.getElem?_replicate, h, hn]
theorem gv_set_same {vs : List Value} {i : Int} {v : Value} (_ : 0 ≤ i) (h1 : i < vs.length) : gv (vs.set i.toNat v) i = v := by
  have h : i.toNat < vs.length := by omega
  simp [gv, List.getD_eq_getElem?_getD, h]
theorem gv_set_other {vs : List Value} {i j : Int} {v : Value} (h0 : 0 ≤ i) (h1 : 0 ≤ j) (h : i ≠ j) : gv (vs.set i.toNat v) j = gv vs j := by
  have h : i.toNat ≠ j.toNat := by omega
  simp [gv, List.getD_eq_getElem?_getD, List.getElem?_set, h]
theorem sl_own {H : HV} {b n c : Nat} {T : TypeId} {cs : List Value} (h : H b = some (.cells cs.toArray T (0, 0))) (hn : n = cs.length) (hc : n ≤ c) (hm : c ≤ 9223372036854775807) : Sl H (.slice (some ⟨b, 0, none⟩) n c) cs :=
  ⟨some ⟨b, 0, none⟩, c, by rw [hn], by omega, hm, fun _ => ⟨b, 0, cs.toArray, T, (0, 0), rfl, h, fun i _ => by simp⟩⟩

theorem gi_set_same {xs : List Int} {i v : Int} (_ : 0 ≤ i) (h1 : i < xs.length) : gi (xs.set i.toNat v) i = v := by
  have h : i.toNat < xs.length := by omega
  simp [gi, List.getD_eq_getElem?_getD, h]
theorem gi_set_other {xs : List Int} {i j v : Int} (h0 : 0 ≤ i) (h1 : 0 ≤ j) (h : i ≠ j) : gi (xs.set i.toNat v) j = gi xs j := by
  have h : i.toNat ≠ j.toNat := by omega
  simp [gi, List.getD_eq_getElem?_getD, h]
theorem gv_map_set {xs : List Int} {i v : Int} (h0 : 0 ≤ i) (h1 : i < xs.length) : gv ((xs.set i.toNat v).map (Value.int .i64)) i = .int .i64 v := by
  rw [gv_ints h0 (by simpa using h1), gi_set_same h0 h1]

/-- Rows of integers: a slice of slices. -/
structure Mat (k : IntKind) (H : HV) (v : Value) (rv : List Value) (L : List (List Int)) : Prop where
  sl : Sl H v rv
  len : rv.length = L.length
  row : ∀ i : Int, 0 ≤ i → i < L.length → Ints k H (gv rv i) (gr L i)
theorem Mat.mono {k : IntKind} {H H' : HV} {v : Value} {rv : List Value} {L : List (List Int)} (h : Mat k H v rv L) (s : Sub H H')   : Mat k H' v rv L :=
  ⟨h.sl.mono s, h.len, fun i h0 h1 => (h.row i h0 h1).mono s⟩
end Go.Vc
