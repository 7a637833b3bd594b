/- Counting the assignments for which a diagram is true. No program in sight. -/
import Derived.Test.YtgehdgeiikjohaaBdQ
namespace Go.Proofs.Ytgehdgeiikjohaa
open Go Go.Vc
open Classical
section
variable {P : Program} {C : Cx} {env : Env} {V : HV} {σ : Res} {dst : Option Nat} {x y : Operand} {t T T' : TypeId} {pos : String} {af : Array Edge} {g : Option (Nat × Bool)} {m n : Int} {k2 : IntKind}
theorem qv_shli (hx : ev env x = .int .i64 m) (hy : ev env y = .int k2 n) (h0 : 0 ≤ n) (h1 : n ≤ 64) (hm : 0 ≤ m * 2 ^ n.toNat ∧ m * 2 ^ n.toNat ≤ 9223372036854775807) : QV P C ⟨dst, .binOp .shl T x y T', t, pos, af, g⟩ env V σ (.int .i64 (m * 2 ^ n.toNat)) := qv_run fun w _ => by
  have e : min n.toNat IntKind.i64.bits = n.toNat := by show min n.toNat 64 = n.toNat; omega
  have := run_shl (P := P) (T := T) (k := .i64) (k2 := k2) (m := m) (n := n) (w := w) h0
  rw [e, IntWalk.i64_in _ (by omega)] at this
  simp [execOp, hx, hy, eqGuard, this]
end
def ctF (vars : Int) (N : List Fk) : Nat → Int → Int
  | 0, r => r
  | k + 1, r => if r < 2 then r else ctF vars N k (nd N r).l * 2 ^ (lev vars N (nd N r).l - (nd N r).v - 1).toNat + ctF vars N k (nd N r).h * 2 ^ (lev vars N (nd N r).h - (nd N r).v - 1).toNat
def ct (vars : Int) (N : List Fk) (r : Int) : Int := ctF vars N N.length r
theorem ctF_fuel {vars : Int} {N : List Fk} (f : Fm vars N) : ∀ (k j : Nat) (r : Int), Rf N r → r ≤ k + 1 → r ≤ j + 1 → ctF vars N k r = ctF vars N j r
  | 0, j, r, h, hk, hj => by
    have h2 : r < 2 := by omega
    cases j with
    | zero => rfl
    | succ j => show r = if r < 2 then r else _; rw [if_pos h2]
  | k + 1, j, r, h, hk, hj => by
    by_cases h2 : r < 2
    · cases j with
      | zero => show (if r < 2 then r else _) = r; rw [if_pos h2]
      | succ j => show (if r < 2 then r else _) = (if r < 2 then r else _); rw [if_pos h2, if_pos h2]
    · have hlt : 2 ≤ r := by omega
      have a := f.lo r hlt h.2
      have b := f.hi r hlt h.2
      have h3 := h.2
      cases j with
      | zero => omega
      | succ j =>
        show (if r < 2 then r else _) = (if r < 2 then r else _)
        rw [if_neg h2, if_neg h2, ctF_fuel f k j (nd N r).l ⟨a.1, by omega⟩ (by omega) (by omega), ctF_fuel f k j (nd N r).h ⟨b.1, by omega⟩ (by omega) (by omega)]
theorem ct_const {vars r : Int} {N : List Fk} (h : r < 2) : ct vars N r = r := by
  unfold ct
  cases hN : N.length with
  | zero => rfl
  | succ k => show (if r < 2 then r else _) = _; rw [if_pos h]
theorem ct_step {vars r : Int} {N : List Fk} (f : Fm vars N) (h2 : 2 ≤ r) (h : r < 2 + N.length) :
    ct vars N r = ct vars N (nd N r).l * 2 ^ (lev vars N (nd N r).l - (nd N r).v - 1).toNat + ct vars N (nd N r).h * 2 ^ (lev vars N (nd N r).h - (nd N r).v - 1).toNat := by
  have a := f.lo r h2 h
  have b := f.hi r h2 h
  unfold ct
  cases hN : N.length with
  | zero => rw [hN] at h; omega
  | succ k =>
    show (if r < 2 then r else ctF vars N k _ * _ + ctF vars N k _ * _) = _
    rw [if_neg (by omega), ctF_fuel f k (k + 1) (nd N r).l ⟨a.1, by omega⟩ (by omega) (by omega), ctF_fuel f k (k + 1) (nd N r).h ⟨b.1, by omega⟩ (by omega) (by omega)]
/-- How many of a table are true. -/
def trues : List Bool → Int
  | [] => 0
  | b :: t => (if b then 1 else 0) + trues t
theorem trues_append : ∀ (a b : List Bool), trues (a ++ b) = trues a + trues b
  | [], b => by show trues b = 0 + trues b; omega
  | x :: a, b => by show (if x then 1 else 0) + trues (a ++ b) = (if x then 1 else 0) + trues a + trues b; rw [trues_append a b]; omega
theorem trues_bd : ∀ (t : List Bool), 0 ≤ trues t ∧ trues t ≤ t.length
  | [] => ⟨Int.le_refl _, Int.le_refl _⟩
  | x :: t => by
    have := trues_bd t
    show 0 ≤ (if x then 1 else 0) + trues t ∧ (if x then 1 else 0) + trues t ≤ ((t.length + 1 : Nat) : Int)
    split <;> omega
theorem pow_dbl (n : Nat) : (2 : Int) ^ (n + 1) = 2 ^ n + 2 ^ n := by rw [Int.pow_succ]; omega
/-- The count is the number of true elements of the table. -/
theorem ct_tab {vars : Int} {N : List Fk} (f : Fm vars N) : ∀ (m : Nat) (v r : Int) (e : Int → Bool), Rf N r → v = vars - m → v ≤ lev vars N r →
    trues (tab (fun e => vl N e r) m v e) = ct vars N r * 2 ^ (lev vars N r - v).toNat
  | 0, v, r, e, hr, hv, hl => by
    have hc := f.lev_node_lt hr (by have := f.lev_le hr; omega)
    have h0 := hr.1
    have hlv : lev vars N r = v := by have := f.lev_le hr; omega
    show (if vl N e r then (1 : Int) else 0) + 0 = _
    rw [vl_const hc, ct_const hc, hlv, Int.sub_self]
    have : r = 0 ∨ r = 1 := by omega
    rcases this with rfl | rfl <;> rfl
  | m + 1, v, r, e, hr, hv, hl => by
    show trues (tab _ m (v + 1) (up e v false) ++ tab _ m (v + 1) (up e v true)) = _
    rw [trues_append]
    by_cases hlt : v < lev vars N r
    · rw [ct_tab f m (v + 1) r _ hr (by omega) (by omega), ct_tab f m (v + 1) r _ hr (by omega) (by omega)]
      rw [show (lev vars N r - v).toNat = (lev vars N r - (v + 1)).toNat + 1 by omega, pow_dbl, Int.mul_add]
    · have hlv : lev vars N r = v := by omega
      have h2 : 2 ≤ r := by
        refine Classical.byContradiction fun q => ?_
        rw [lev_const (by omega)] at hlv; omega
      have hnv := hlv
      rw [lev_node (by omega)] at hnv
      have lo := f.lo r h2 hr.2
      have hi := f.hi r h2 hr.2
      have h3 := hr.2
      rw [tab_congr m (v + 1) (up e v false) (g := fun e => vl N e (nd N r).l) fun e' he => ?_, tab_congr m (v + 1) (up e v true) (g := fun e => vl N e (nd N r).h) fun e' he => ?_]
      · rw [ct_tab f m (v + 1) (nd N r).l _ ⟨lo.1, by omega⟩ (by omega) (by omega), ct_tab f m (v + 1) (nd N r).h _ ⟨hi.1, by omega⟩ (by omega) (by omega), ct_step f h2 hr.2, hlv, Int.sub_self, hnv]
        rw [show (lev vars N (nd N r).l - v - 1) = lev vars N (nd N r).l - (v + 1) by omega, show (lev vars N (nd N r).h - v - 1) = lev vars N (nd N r).h - (v + 1) by omega]
        show _ = _ * (2 : Int) ^ 0
        rw [Int.pow_zero, Int.mul_one]
      · have : e' v = true := by rw [he v (by omega)]; exact if_pos rfl
        rw [vl_step f h2 hr.2, hnv, if_pos this]
      · have : e' v = false := by rw [he v (by omega)]; exact if_pos rfl
        rw [vl_step f h2 hr.2, hnv, if_neg (by rw [this]; simp)]
theorem ct_bd {vars r : Int} {N : List Fk} (f : Fm vars N) (hr : Rf N r) : 0 ≤ ct vars N r ∧ ct vars N r ≤ 2 ^ (vars - lev vars N r).toNat := by
  have hl := f.lev_le hr
  have t := ct_tab f (vars - lev vars N r).toNat (lev vars N r) r (fun _ => false) hr (by omega) (Int.le_refl _)
  rw [Int.sub_self] at t
  have e : ct vars N r * 2 ^ (0 : Int).toNat = ct vars N r := by show ct vars N r * (2 : Int) ^ 0 = _; rw [Int.pow_zero, Int.mul_one]
  rw [e] at t
  have b := trues_bd (tab (fun e => vl N e r) (vars - lev vars N r).toNat (lev vars N r) (fun _ => false))
  rw [t, tab_len] at b
  refine ⟨b.1, ?_⟩
  have := b.2
  rw [Int.natCast_pow] at this
  exact this
/-- A part of a count. -/
theorem ct_part {vars c v : Int} {N : List Fk} (f : Fm vars N) (hc : Rf N c) (h : v < lev vars N c) (h0 : 0 ≤ v) (h40 : vars ≤ 40) :
    0 ≤ ct vars N c * 2 ^ (lev vars N c - v - 1).toNat ∧ ct vars N c * 2 ^ (lev vars N c - v - 1).toNat ≤ 1099511627776 := by
  have b := ct_bd f hc
  have hl := f.lev_le hc
  have p : (0 : Int) ≤ 2 ^ (lev vars N c - v - 1).toNat := Int.le_of_lt (Int.pow_pos (by omega))
  refine ⟨Int.mul_nonneg b.1 p, ?_⟩
  have h1 := Int.mul_le_mul_of_nonneg_right b.2 p
  rw [← Int.pow_add] at h1
  have h2 : (2 : Int) ^ ((vars - lev vars N c).toNat + (lev vars N c - v - 1).toNat) ≤ 2 ^ 40 := by
    have : 2 ^ ((vars - lev vars N c).toNat + (lev vars N c - v - 1).toNat) ≤ 2 ^ 40 := Nat.pow_le_pow_right (by omega) (by omega)
    exact_mod_cast this
  exact Int.le_trans h1 (by simpa using h2)
structure CnI (vars : Int) (N : List Fk) (Dn : Int → Option Int) : Prop where
  z : Dn 0 = some 0
  o : Dn 1 = some 1
  dn : ∀ r p, Dn r = some p → p = ct vars N r
theorem cnI0 {vars : Int} {N : List Fk} : CnI vars N pl0 := ⟨pl0_z, pl0_o, fun r p h => by
  obtain ⟨rfl, h⟩ := pl0_some h
  rw [ct_const (by omega)]⟩
theorem CnI.set {vars r : Int} {N : List Fk} {Dn : Int → Option Int} (c : CnI vars N Dn) (h2 : 2 ≤ r) : CnI vars N (setF Dn r (ct vars N r)) := ⟨by rw [setF_other (by omega)]; exact c.z, by rw [setF_other (by omega)]; exact c.o, fun q p h => by
  by_cases e : q = r
  · subst e; rw [setF_same] at h; cases h; rfl
  · rw [setF_other e] at h; exact c.dn q p h⟩
theorem CnI.ge2 {vars r : Int} {N : List Fk} {Dn : Int → Option Int} (c : CnI vars N Dn) (hr : Rf N r) (h : Dn r = none) : 2 ≤ r := by
  have h0 := hr.1
  refine Classical.byContradiction fun q => ?_
  by_cases e : r = 0
  · subst e; rw [c.z] at h; cases h
  · have : r = 1 := by omega
    subst this; rw [c.o] at h; cases h
noncomputable def cnN (A : Dg) : Int := if vE [A] = 0 then ct A.v A.N A.r * 2 ^ (lev A.v A.N A.r).toNat else 0
theorem cnN_0 {A : Dg} (h : vE [A] = 0) : cnN A = ct A.v A.N A.r * 2 ^ (lev A.v A.N A.r).toNat := if_pos h
theorem cnN_n {A : Dg} (h : vE [A] ≠ 0) : cnN A = 0 := if_neg h
theorem ct_all {vars r : Int} {N : List Fk} (f : Fm vars N) (hr : Rf N r) (h0 : 0 ≤ vars) (h40 : vars ≤ 40) : 0 ≤ ct vars N r * 2 ^ (lev vars N r).toNat ∧ ct vars N r * 2 ^ (lev vars N r).toNat ≤ 1099511627776 := by
  have b := ct_bd f hr
  have hl := f.lev_le hr
  have hn := f.lev_nn h0 hr
  have p : (0 : Int) ≤ 2 ^ (lev vars N r).toNat := Int.le_of_lt (Int.pow_pos (by omega))
  refine ⟨Int.mul_nonneg b.1 p, ?_⟩
  have h1 := Int.mul_le_mul_of_nonneg_right b.2 p
  rw [← Int.pow_add] at h1
  have h2 : (2 : Int) ^ ((vars - lev vars N r).toNat + (lev vars N r).toNat) ≤ 2 ^ 40 := by
    have : 2 ^ ((vars - lev vars N r).toNat + (lev vars N r).toNat) ≤ 2 ^ 40 := Nat.pow_le_pow_right (by omega) (by omega)
    exact_mod_cast this
  exact Int.le_trans h1 (by simpa using h2)
end Go.Proofs.Ytgehdgeiikjohaa
