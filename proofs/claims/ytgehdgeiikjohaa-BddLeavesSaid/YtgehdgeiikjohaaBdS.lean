/- Binary decision diagrams: nodes, the canonical form, truth tables. No program in sight. -/
import Derived.Test.YtgehdgeiikjohaaVcP
namespace Go.Proofs.Ytgehdgeiikjohaa
open Go.Vc
structure Fk where
  v : Int
  l : Int
  h : Int
theorem Fk.eq {a b : Fk} (h1 : a.v = b.v) (h2 : a.l = b.l) (h3 : a.h = b.h) : a = b := by
  cases a; cases b; simp at h1 h2 h3; subst h1; subst h2; subst h3; rfl
instance : DecidableEq Fk := fun a b => decidable_of_iff (a.v = b.v ∧ a.l = b.l ∧ a.h = b.h) ⟨fun h => Fk.eq h.1 h.2.1 h.2.2, fun h => by subst h; exact ⟨rfl, rfl, rfl⟩⟩
def nd (N : List Fk) (r : Int) : Fk := N.getD (r - 2).toNat ⟨0, 0, 0⟩
def lev (vars : Int) (N : List Fk) (r : Int) : Int := if r < 2 then vars else (nd N r).v
/-- r is a reference. -/
def Rf (N : List Fk) (r : Int) : Prop := 0 ≤ r ∧ r < 2 + N.length
structure Fm (vars : Int) (N : List Fk) : Prop where
  vr : ∀ r : Int, 2 ≤ r → r < 2 + N.length → 0 ≤ (nd N r).v ∧ (nd N r).v < vars
  ne : ∀ r : Int, 2 ≤ r → r < 2 + N.length → (nd N r).l ≠ (nd N r).h
  lo : ∀ r : Int, 2 ≤ r → r < 2 + N.length → 0 ≤ (nd N r).l ∧ (nd N r).l < r ∧ (nd N r).v < lev vars N (nd N r).l
  hi : ∀ r : Int, 2 ≤ r → r < 2 + N.length → 0 ≤ (nd N r).h ∧ (nd N r).h < r ∧ (nd N r).v < lev vars N (nd N r).h
  uq : ∀ r s : Int, 2 ≤ r → r < 2 + N.length → 2 ≤ s → s < 2 + N.length → nd N r = nd N s → r = s
theorem lev_const {vars r : Int} {N : List Fk} (h : r < 2) : lev vars N r = vars := if_pos h
theorem lev_node {vars r : Int} {N : List Fk} (h : ¬ r < 2) : lev vars N r = (nd N r).v := if_neg h
theorem Fm.lev_le {vars r : Int} {N : List Fk} (f : Fm vars N) (h : Rf N r) : lev vars N r ≤ vars := by
  by_cases h2 : r < 2
  · rw [lev_const h2]; omega
  · rw [lev_node h2]; have := f.vr r (by omega) h.2; omega
theorem Fm.lev_nn {vars r : Int} {N : List Fk} (f : Fm vars N) (hv : 0 ≤ vars) (h : Rf N r) : 0 ≤ lev vars N r := by
  by_cases h2 : r < 2
  · rw [lev_const h2]; exact hv
  · rw [lev_node h2]; exact (f.vr r (by omega) h.2).1
/-- Below the last variable there are only constants. -/
theorem Fm.lev_node_lt {vars r : Int} {N : List Fk} (f : Fm vars N) (h : Rf N r) (h2 : lev vars N r = vars) : r < 2 := by
  refine Classical.byContradiction fun q => ?_
  rw [lev_node q] at h2
  have := f.vr r (by omega) h.2; omega
theorem nd_append {N M : List Fk} {r : Int} (_h0 : 2 ≤ r) (h : r < 2 + N.length) : nd (N ++ M) r = nd N r := by
  unfold nd
  rw [List.getD_eq_getElem?_getD, List.getD_eq_getElem?_getD, List.getElem?_append_left (by omega)]
theorem nd_last {N : List Fk} {n : Fk} : nd (N ++ [n]) (2 + N.length) = n := by
  unfold nd
  rw [List.getD_eq_getElem?_getD, show ((2 : Int) + N.length - 2).toNat = N.length by omega]
  simp
theorem lev_append {vars r : Int} {N M : List Fk} (h : r < 2 + N.length) : lev vars (N ++ M) r = lev vars N r := by
  unfold lev
  by_cases h2 : r < 2
  · rw [if_pos h2, if_pos h2]
  · rw [if_neg h2, if_neg h2, nd_append (by omega) h]
/- values -/
def vlF (N : List Fk) (e : Int → Bool) : Nat → Int → Bool
  | 0, r => decide (r = 1)
  | k + 1, r => if r < 2 then decide (r = 1) else vlF N e k (if e (nd N r).v then (nd N r).h else (nd N r).l)
def vl (N : List Fk) (e : Int → Bool) (r : Int) : Bool := vlF N e N.length r
theorem vlF_fuel {vars : Int} {N : List Fk} (f : Fm vars N) (e : Int → Bool) : ∀ (k j : Nat) (r : Int), Rf N r → r ≤ k + 1 → r ≤ j + 1 → vlF N e k r = vlF N e j r
  | 0, j, r, h, hk, hj => by
    have h2 : r < 2 := by omega
    cases j with
    | zero => rfl
    | succ j => show decide (r = 1) = if r < 2 then decide (r = 1) else _; rw [if_pos h2]
  | k + 1, j, r, h, hk, hj => by
    by_cases h2 : r < 2
    · cases j with
      | zero => show (if r < 2 then decide (r = 1) else _) = decide (r = 1); rw [if_pos h2]
      | succ j => show (if r < 2 then decide (r = 1) else _) = (if r < 2 then decide (r = 1) else _); rw [if_pos h2, if_pos h2]
    · have hlt : 2 ≤ r := by omega
      have a := f.lo r hlt h.2
      have b := f.hi r hlt h.2
      cases j with
      | zero => omega
      | succ j =>
        show (if r < 2 then decide (r = 1) else _) = (if r < 2 then decide (r = 1) else _)
        rw [if_neg h2, if_neg h2]
        refine vlF_fuel f e k j _ ?_ ?_ ?_
        · unfold Rf; have := h.2; split <;> omega
        · split <;> omega
        · split <;> omega
theorem vl_const {N : List Fk} {e : Int → Bool} {r : Int} (h : r < 2) : vl N e r = decide (r = 1) := by
  unfold vl
  cases hN : N.length with
  | zero => rfl
  | succ k => show (if r < 2 then decide (r = 1) else _) = _; rw [if_pos h]
theorem vl_step {vars : Int} {N : List Fk} (f : Fm vars N) {e : Int → Bool} {r : Int} (h2 : 2 ≤ r) (h : r < 2 + N.length) : vl N e r = vl N e (if e (nd N r).v then (nd N r).h else (nd N r).l) := by
  have a := f.lo r h2 h
  have b := f.hi r h2 h
  unfold vl
  cases hN : N.length with
  | zero => rw [hN] at h; omega
  | succ k =>
    show (if r < 2 then decide (r = 1) else _) = _
    rw [if_neg (by omega)]
    refine vlF_fuel f e k (k + 1) _ ?_ ?_ ?_
    · unfold Rf; split <;> omega
    · split <;> omega
    · split <;> omega
theorem vl_append {vars : Int} {N M : List Fk} (f : Fm vars N) (g : Fm vars (N ++ M)) (e : Int → Bool) : ∀ (k : Nat) (r : Int), Rf N r → r ≤ k + 1 → vl (N ++ M) e r = vl N e r
  | 0, r, h, hk => by rw [vl_const (by omega), vl_const (by omega)]
  | k + 1, r, h, hk => by
    by_cases h2 : r < 2
    · rw [vl_const h2, vl_const h2]
    · have a := f.lo r (by omega) h.2
      have b := f.hi r (by omega) h.2
      have hl : (N ++ M).length = N.length + M.length := List.length_append
      have h3 := h.2
      rw [vl_step f (by omega) h.2, vl_step g (by omega) (by omega), nd_append (by omega) h.2]
      refine vl_append f g e k _ ?_ ?_
      · unfold Rf; split <;> omega
      · split <;> omega
/-- Only the variables from the level on count. -/
theorem vl_congr {vars : Int} {N : List Fk} (f : Fm vars N) {e e' : Int → Bool} : ∀ (k : Nat) (r : Int), Rf N r → r ≤ k + 1 → (∀ i, lev vars N r ≤ i → i < vars → e i = e' i) → vl N e r = vl N e' r
  | 0, r, h, hk, _ => by rw [vl_const (by omega), vl_const (by omega)]
  | k + 1, r, h, hk, he => by
    by_cases h2 : r < 2
    · rw [vl_const h2, vl_const h2]
    · have a := f.lo r (by omega) h.2
      have b := f.hi r (by omega) h.2
      have c := f.vr r (by omega) h.2
      have h3 := h.2
      rw [lev_node h2] at he
      rw [vl_step f (by omega) h.2, vl_step f (e := e') (by omega) h.2, he _ (Int.le_refl _) c.2]
      refine vl_congr f k _ ?_ ?_ fun i hi => he i ?_
      · unfold Rf; split <;> omega
      · split <;> omega
      · split at hi <;> omega
/- tables -/
def up (e : Int → Bool) (v : Int) (b : Bool) : Int → Bool := fun i => if i = v then b else e i
def tab (f : (Int → Bool) → Bool) : Nat → Int → (Int → Bool) → List Bool
  | 0, _, e => [f e]
  | m + 1, v, e => tab f m (v + 1) (up e v false) ++ tab f m (v + 1) (up e v true)
theorem tab_len (f : (Int → Bool) → Bool) : ∀ (m : Nat) (v : Int) (e : Int → Bool), (tab f m v e).length = 2 ^ m
  | 0, _, _ => rfl
  | m + 1, v, e => by
    show (tab f m (v + 1) (up e v false) ++ tab f m (v + 1) (up e v true)).length = _
    rw [List.length_append, tab_len f m, tab_len f m, Nat.pow_succ]; omega
theorem tab_congr {f g : (Int → Bool) → Bool} : ∀ (m : Nat) (v : Int) (e : Int → Bool), (∀ e', (∀ i, i < v → e' i = e i) → f e' = g e') → tab f m v e = tab g m v e
  | 0, v, e, h => by show [f e] = [g e]; rw [h e fun _ _ => rfl]
  | m + 1, v, e, h => by
    show tab f m (v + 1) (up e v false) ++ tab f m (v + 1) (up e v true) = tab g m (v + 1) (up e v false) ++ tab g m (v + 1) (up e v true)
    have key : ∀ b, tab f m (v + 1) (up e v b) = tab g m (v + 1) (up e v b) := fun b => tab_congr m (v + 1) _ fun e' he => h e' fun i hi => by
      rw [he i (by omega)]; unfold up; rw [if_neg (by omega)]
    rw [key, key]
/- the canonical form -/
abbrev Ly := List Fk × (Int → Option Int)
noncomputable def vis (N : List Fk) : Nat → Int → Ly → Ly × Int
  | 0, _, s => (s, 0)
  | k + 1, r, s => match s.2 r with
    | some p => (s, p)
    | none => ((((vis N k (nd N r).h (vis N k (nd N r).l s).1).1.1 ++ [⟨(nd N r).v, (vis N k (nd N r).l s).2, (vis N k (nd N r).h (vis N k (nd N r).l s).1).2⟩]),
        setF (vis N k (nd N r).h (vis N k (nd N r).l s).1).1.2 r (2 + (vis N k (nd N r).h (vis N k (nd N r).l s).1).1.1.length)), 2 + (vis N k (nd N r).h (vis N k (nd N r).l s).1).1.1.length)
noncomputable def pl0 : Int → Option Int := setF (setF (fun _ => none) 0 0) 1 1
structure LyI (N : List Fk) (s : Ly) : Prop where
  z : s.2 0 = some 0
  o : s.2 1 = some 1
  rf : ∀ r p : Int, s.2 r = some p → Rf N r ∧ Rf s.1 p ∧ (2 ≤ r ↔ 2 ≤ p)
  nd : ∀ r p : Int, 2 ≤ r → s.2 r = some p → ∃ a b, s.2 (nd N r).l = some a ∧ s.2 (nd N r).h = some b ∧ a < p ∧ b < p ∧ Proofs.Ytgehdgeiikjohaa.nd s.1 p = ⟨(Proofs.Ytgehdgeiikjohaa.nd N r).v, a, b⟩
  inj : ∀ r q p : Int, s.2 r = some p → s.2 q = some p → r = q
  sur : ∀ p : Int, Rf s.1 p → ∃ r, s.2 r = some p
theorem pl0_z : pl0 0 = some 0 := by unfold pl0; rw [setF_other (by omega), setF_same]
theorem pl0_o : pl0 1 = some 1 := setF_same
theorem pl0_n {r : Int} (h : 2 ≤ r ∨ r < 0) : pl0 r = none := by unfold pl0; rw [setF_other (by omega), setF_other (by omega)]
theorem pl0_some {r p : Int} (h : pl0 r = some p) : p = r ∧ (r = 0 ∨ r = 1) := by
  by_cases h0 : r = 0
  · subst h0; rw [pl0_z] at h; simp at h; omega
  · by_cases h1 : r = 1
    · subst h1; rw [pl0_o] at h; simp at h; omega
    · rw [pl0_n (by omega)] at h; cases h
theorem lyI0 (N : List Fk) : LyI N ([], pl0) where
  z := pl0_z
  o := pl0_o
  rf := fun r p h => by
    obtain ⟨rfl, h⟩ := pl0_some h
    refine ⟨⟨by omega, by omega⟩, ⟨by omega, ?_⟩, Iff.rfl⟩
    show p < 2 + ((0 : Nat) : Int); omega
  nd := fun r p h2 h => by obtain ⟨_, h⟩ := pl0_some h; omega
  inj := fun r q p h1 h2 => by obtain ⟨h1, _⟩ := pl0_some h1; obtain ⟨h2, _⟩ := pl0_some h2; omega
  sur := fun p h => by
    have h0 := h.1
    have h1 : p < 2 + ((0 : Nat) : Int) := h.2
    by_cases q : p = 0
    · subst q; exact ⟨0, pl0_z⟩
    · have : p = 1 := by omega
      subst this; exact ⟨1, pl0_o⟩
/-- What a visit does. -/
structure VisOk (N : List Fk) (r : Int) (s : Ly) (x : Ly × Int) : Prop where
  inv : LyI N x.1
  at_ : x.1.2 r = some x.2
  ext : ∀ q p : Int, s.2 q = some p → x.1.2 q = some p
  only : ∀ q : Int, r < q → x.1.2 q = s.2 q
  len : s.1.length ≤ x.1.1.length
theorem vis_hit {N : List Fk} {k : Nat} {r p : Int} {s : Ly} (h : s.2 r = some p) : vis N (k + 1) r s = (s, p) := by
  unfold vis; rw [h]
theorem vis_ok {vars : Int} {N : List Fk} (f : Fm vars N) : ∀ (k : Nat) (r : Int) (s : Ly), Rf N r → r < k → LyI N s → VisOk N r s (vis N k r s)
  | 0, r, s, h, hk, _ => by have := h.1; omega
  | k + 1, r, s, h, hk, hI => by
    cases hs : s.2 r with
    | some p => rw [vis_hit hs]; exact ⟨hI, hs, fun _ _ h => h, fun _ _ => rfl, Nat.le_refl _⟩
    | none =>
      have h2 : 2 ≤ r := by
        have h0 := h.1
        refine Classical.byContradiction fun q => ?_
        by_cases e : r = 0
        · subst e; rw [hI.z] at hs; cases hs
        · have : r = 1 := by omega
          subst this; rw [hI.o] at hs; cases hs
      have hl := f.lo r h2 h.2
      have hh := f.hi r h2 h.2
      have h3 := h.2
      have A := vis_ok f k (nd N r).l s ⟨hl.1, by omega⟩ (by omega) hI
      have B := vis_ok f k (nd N r).h (vis N k (nd N r).l s).1 ⟨hh.1, by omega⟩ (by omega) A.inv
      have e : vis N (k + 1) r s = (((((vis N k (nd N r).h (vis N k (nd N r).l s).1).1.1 ++ [⟨(nd N r).v, (vis N k (nd N r).l s).2, (vis N k (nd N r).h (vis N k (nd N r).l s).1).2⟩]),
        setF (vis N k (nd N r).h (vis N k (nd N r).l s).1).1.2 r (2 + (vis N k (nd N r).h (vis N k (nd N r).l s).1).1.1.length)), 2 + (vis N k (nd N r).h (vis N k (nd N r).l s).1).1.1.length) : Ly × Int) := by
        rw [vis, hs]
      rw [e]
      generalize (vis N k (nd N r).l s) = x at A B
      generalize (vis N k (nd N r).h x.1) = y at B
      have hat := B.ext _ _ A.at_
      have hnone : y.1.2 r = none := by rw [B.only r hh.2.1, A.only r hl.2.1, hs]
      have ra := (B.inv.rf _ _ hat).2.1
      have rb := (B.inv.rf _ _ B.at_).2.1
      have hlen : (y.1.1 ++ [(⟨(nd N r).v, x.2, y.2⟩ : Fk)]).length = y.1.1.length + 1 := by simp
      have oth : ∀ {q p : Int}, y.1.2 q = some p → setF y.1.2 r (2 + (y.1.1.length : Int)) q = some p := fun {q p} hq => by
        rw [setF_other]; exact hq
        intro e; subst e; rw [hnone] at hq; cases hq
      have cases_ : ∀ {q p : Int}, setF y.1.2 r (2 + (y.1.1.length : Int)) q = some p → (q = r ∧ p = 2 + (y.1.1.length : Int)) ∨ (q ≠ r ∧ y.1.2 q = some p) := fun {q p} hq => by
        by_cases e : q = r
        · subst e; rw [setF_same] at hq; simp at hq; exact Or.inl ⟨rfl, hq.symm⟩
        · rw [setF_other e] at hq; exact Or.inr ⟨e, hq⟩
      refine ⟨⟨oth B.inv.z, oth B.inv.o, fun q p hq => ?_, fun q p hq2 hq => ?_, fun q q' p hq hq' => ?_, fun p hp => ?_⟩, setF_same, fun q p hq => oth (B.ext _ _ (A.ext _ _ hq)), fun q hq => ?_, ?_⟩
      · rcases cases_ hq with ⟨rfl, rfl⟩ | ⟨_, hq⟩
        · refine ⟨h, ⟨by omega, ?_⟩, by omega⟩
          show _ < 2 + (((y.1.1 ++ [(⟨(nd N q).v, x.2, y.2⟩ : Fk)]).length : Nat) : Int)
          rw [hlen]; omega
        · obtain ⟨a, b, c⟩ := B.inv.rf q p hq
          refine ⟨a, ⟨b.1, ?_⟩, c⟩
          have := b.2
          show _ < 2 + (((y.1.1 ++ [(⟨(nd N r).v, x.2, y.2⟩ : Fk)]).length : Nat) : Int)
          rw [hlen]; omega
      · rcases cases_ hq with ⟨rfl, rfl⟩ | ⟨_, hq⟩
        · exact ⟨x.2, y.2, oth hat, oth B.at_, ra.2, rb.2, nd_last⟩
        · obtain ⟨a, b, c1, c2, c3, c4, c5⟩ := B.inv.nd q p hq2 hq
          have hp := (B.inv.rf q p hq)
          exact ⟨a, b, oth c1, oth c2, c3, c4, by rw [← c5]; exact nd_append (hp.2.2.1 hq2) hp.2.1.2⟩
      · rcases cases_ hq with ⟨rfl, rfl⟩ | ⟨n1, hq⟩
        · rcases cases_ hq' with ⟨rfl, _⟩ | ⟨_, hq'⟩
          · rfl
          · have := (B.inv.rf _ _ hq').2.1.2; omega
        · rcases cases_ hq' with ⟨e1, e2⟩ | ⟨_, hq2⟩
          · have := (B.inv.rf _ _ hq).2.1.2; omega
          · exact B.inv.inj _ _ _ hq hq2
      · have h1 : p < 2 + (((y.1.1 ++ [(⟨(nd N r).v, x.2, y.2⟩ : Fk)]).length : Nat) : Int) := hp.2
        rw [hlen] at h1
        by_cases e : p = 2 + (y.1.1.length : Int)
        · exact ⟨r, by rw [e]; exact setF_same⟩
        · obtain ⟨q, hq⟩ := B.inv.sur p ⟨hp.1, by omega⟩
          exact ⟨q, oth hq⟩
      · show setF y.1.2 r _ q = _
        rw [setF_other (by omega), B.only q (by omega), A.only q (by omega)]
      · have := A.len; have := B.len
        show _ ≤ (y.1.1 ++ [(⟨(nd N r).v, x.2, y.2⟩ : Fk)]).length
        rw [hlen]; omega
/- the diagram with a truth table -/
def fx (n : Fk) : List Fk → Option Nat
  | [] => none
  | a :: r => if a = n then some 0 else (fx n r).map (· + 1)
theorem fx_some {n : Fk} : ∀ {O : List Fk} {i : Nat}, fx n O = some i → i < O.length ∧ O.getD i ⟨0, 0, 0⟩ = n ∧ ∀ j : Nat, j < i → O.getD j ⟨0, 0, 0⟩ ≠ n
  | [], _, h => by cases h
  | a :: r, i, h => by
    unfold fx at h
    by_cases e : a = n
    · rw [if_pos e] at h; simp at h; subst h; exact ⟨by simp, by simpa using e, fun j hj => by omega⟩
    · rw [if_neg e] at h
      cases hr : fx n r with
      | none => rw [hr] at h; cases h
      | some j =>
        rw [hr] at h; simp at h; subst h
        obtain ⟨h1, h2, h3⟩ := fx_some hr
        refine ⟨by simpa using h1, by simpa using h2, fun k hk => ?_⟩
        cases k with
        | zero => simpa using e
        | succ k => simpa using h3 k (by omega)
theorem fx_none {n : Fk} : ∀ {O : List Fk}, fx n O = none → ∀ i : Nat, i < O.length → O.getD i ⟨0, 0, 0⟩ ≠ n
  | [], _, i, hi => by simp at hi
  | a :: r, h, i, hi => by
    unfold fx at h
    by_cases e : a = n
    · rw [if_pos e] at h; cases h
    · rw [if_neg e] at h
      cases hr : fx n r with
      | some j => rw [hr] at h; cases h
      | none =>
        cases i with
        | zero => simpa using e
        | succ i => simpa using fx_none hr i (by simpa using hi)
def prt : Nat → List Fk → Int → List Bool → List Fk × Int
  | 0, O, _, t => (O, if t.getD 0 false then 1 else 0)
  | m + 1, O, v, t =>
    if (prt m O (v + 1) (t.take (2 ^ m))).2 = (prt m (prt m O (v + 1) (t.take (2 ^ m))).1 (v + 1) (t.drop (2 ^ m))).2 then ((prt m (prt m O (v + 1) (t.take (2 ^ m))).1 (v + 1) (t.drop (2 ^ m))).1, (prt m O (v + 1) (t.take (2 ^ m))).2)
    else match fx ⟨v, (prt m O (v + 1) (t.take (2 ^ m))).2, (prt m (prt m O (v + 1) (t.take (2 ^ m))).1 (v + 1) (t.drop (2 ^ m))).2⟩ (prt m (prt m O (v + 1) (t.take (2 ^ m))).1 (v + 1) (t.drop (2 ^ m))).1 with
      | some i => ((prt m (prt m O (v + 1) (t.take (2 ^ m))).1 (v + 1) (t.drop (2 ^ m))).1, 2 + i)
      | none => ((prt m (prt m O (v + 1) (t.take (2 ^ m))).1 (v + 1) (t.drop (2 ^ m))).1 ++ [⟨v, (prt m O (v + 1) (t.take (2 ^ m))).2, (prt m (prt m O (v + 1) (t.take (2 ^ m))).1 (v + 1) (t.drop (2 ^ m))).2⟩], 2 + (prt m (prt m O (v + 1) (t.take (2 ^ m))).1 (v + 1) (t.drop (2 ^ m))).1.length)
theorem prt_step {m : Nat} {O : List Fk} {v : Int} {t1 t2 : List Bool} (h1 : t1.length = 2 ^ m) {A B : List Fk} {a b : Int} (ha : prt m O (v + 1) t1 = (A, a)) (hb : prt m A (v + 1) t2 = (B, b)) :
    prt (m + 1) O v (t1 ++ t2) = if a = b then (B, a) else match fx ⟨v, a, b⟩ B with | some i => (B, 2 + (i : Int)) | none => (B ++ [⟨v, a, b⟩], 2 + (B.length : Int)) := by
  have e1 : (t1 ++ t2).take (2 ^ m) = t1 := by rw [← h1]; simp
  have e2 : (t1 ++ t2).drop (2 ^ m) = t2 := by rw [← h1]; simp
  rw [prt, e1, e2, ha]
  simp only [hb]
theorem prt_len : ∀ (m : Nat) (O : List Fk) (v : Int) (t : List Bool), O.length ≤ (prt m O v t).1.length ∧ (prt m O v t).1.length + 1 ≤ O.length + 2 ^ m
  | 0, O, v, t => by show O.length ≤ O.length ∧ O.length + 1 ≤ O.length + 1; omega
  | m + 1, O, v, t => by
    have a := prt_len m O (v + 1) (t.take (2 ^ m))
    have b := prt_len m (prt m O (v + 1) (t.take (2 ^ m))).1 (v + 1) (t.drop (2 ^ m))
    have p : 2 ^ (m + 1) = 2 ^ m + 2 ^ m := by rw [Nat.pow_succ]; omega
    rw [prt]
    split
    · show _ ≤ (prt m (prt m O (v + 1) (t.take (2 ^ m))).1 (v + 1) (t.drop (2 ^ m))).1.length ∧ (prt m (prt m O (v + 1) (t.take (2 ^ m))).1 (v + 1) (t.drop (2 ^ m))).1.length + 1 ≤ _
      omega
    · split
      · show _ ≤ (prt m (prt m O (v + 1) (t.take (2 ^ m))).1 (v + 1) (t.drop (2 ^ m))).1.length ∧ (prt m (prt m O (v + 1) (t.take (2 ^ m))).1 (v + 1) (t.drop (2 ^ m))).1.length + 1 ≤ _
        omega
      · simp only [List.length_append, List.length_cons, List.length_nil]; omega
/-- The walk of nodes and the walk of the truth table make the same diagram. -/
theorem canon {vars : Int} {N : List Fk} (f : Fm vars N) : ∀ (m : Nat) (v : Int) (r : Int) (s : Ly) (e : Int → Bool) (k : Nat), LyI N s → Rf N r → v = vars - m → v ≤ lev vars N r → r < k →
    prt m s.1 v (tab (fun e => vl N e r) m v e) = ((vis N k r s).1.1, (vis N k r s).2)
  | 0, v, r, s, e, k, hI, hr, hv, hl, hk => by
    have hc := f.lev_node_lt hr (by have := f.lev_le hr; omega)
    obtain ⟨k, rfl⟩ : ∃ j, k = j + 1 := ⟨k - 1, by have := hr.1; omega⟩
    show (s.1, if (vl N e r) = true then (1 : Int) else 0) = _
    rw [vl_const hc]
    have h0 := hr.1
    by_cases h1 : r = 1
    · subst h1; rw [vis_hit hI.o]; rfl
    · have : r = 0 := by omega
      subst this; rw [vis_hit hI.z]; rfl
  | m + 1, v, r, s, e, k, hI, hr, hv, hl, hk => by
    have V := vis_ok f k r s hr hk hI
    have h1 : v + 1 = vars - m := by omega
    obtain ⟨k, rfl⟩ : ∃ j, k = j + 1 := ⟨k - 1, by have := hr.1; omega⟩
    show prt (m + 1) s.1 v (tab _ m (v + 1) (up e v false) ++ tab _ m (v + 1) (up e v true)) = _
    by_cases hlt : v < lev vars N r
    · have A := canon f m (v + 1) r s (up e v false) (k + 1) hI hr h1 (by omega) hk
      have B := canon f m (v + 1) r (vis N (k + 1) r s).1 (up e v true) (k + 1) V.inv hr h1 (by omega) hk
      rw [vis_hit V.at_] at B
      rw [prt_step (tab_len _ _ _ _) A B, if_pos rfl]
    · have hlv : lev vars N r = v := by omega
      have h2 : 2 ≤ r := by
        refine Classical.byContradiction fun q => ?_
        rw [lev_const (by omega)] at hlv; omega
      rw [lev_node (by omega)] at hlv
      have hlo := f.lo r h2 hr.2
      have hhi := f.hi r h2 hr.2
      have h3 := hr.2
      have rl : Rf N (nd N r).l := ⟨hlo.1, by omega⟩
      have rh : Rf N (nd N r).h := ⟨hhi.1, by omega⟩
      have t1 : tab (fun e => vl N e r) m (v + 1) (up e v false) = tab (fun e => vl N e (nd N r).l) m (v + 1) (up e v false) := tab_congr m _ _ fun e' he => by
        have : e' v = false := by rw [he v (by omega)]; exact if_pos rfl
        show vl N e' r = _
        rw [vl_step f h2 hr.2, hlv, this]; rfl
      have t2 : tab (fun e => vl N e r) m (v + 1) (up e v true) = tab (fun e => vl N e (nd N r).h) m (v + 1) (up e v true) := tab_congr m _ _ fun e' he => by
        have : e' v = true := by rw [he v (by omega)]; exact if_pos rfl
        show vl N e' r = _
        rw [vl_step f h2 hr.2, hlv, this]; rfl
      rw [t1, t2]
      cases hs : s.2 r with
      | some p =>
        obtain ⟨a, b, c1, c2, c3, c4, c5⟩ := hI.nd r p h2 hs
        have A := canon f m (v + 1) (nd N r).l s (up e v false) (k + 1) hI rl h1 (by omega) (by omega)
        rw [vis_hit c1] at A
        have B := canon f m (v + 1) (nd N r).h s (up e v true) (k + 1) hI rh h1 (by omega) (by omega)
        rw [vis_hit c2] at B
        rw [vis_hit hs, prt_step (tab_len _ _ _ _) A B]
        have hab : a ≠ b := fun q => f.ne r h2 hr.2 (hI.inj _ _ _ c1 (q ▸ c2))
        rw [if_neg hab]
        have hp := hI.rf r p hs
        have hp2 := hp.2.2.1 h2
        have hp3 := hp.2.1.2
        cases hf : fx ⟨v, a, b⟩ s.1 with
        | none =>
          exact absurd (by have q := c5; rw [hlv] at q; exact q) (fx_none hf (p - 2).toNat (by omega))
        | some i =>
          obtain ⟨q1, q2, q3⟩ := fx_some hf
          have hi : nd s.1 (2 + i) = ⟨v, a, b⟩ := by unfold nd; rw [show ((2 : Int) + i - 2).toNat = i by omega]; exact q2
          obtain ⟨r', hr'⟩ := hI.sur (2 + i) ⟨by omega, by omega⟩
          obtain ⟨a', b', d1, d2, d3, d4, d5⟩ := hI.nd r' (2 + i) ((hI.rf _ _ hr').2.2.2 (by omega)) hr'
          rw [hi] at d5
          simp only [Fk.mk.injEq] at d5
          have e1 := hI.inj _ _ _ c1 (d5.2.1 ▸ d1)
          have e2 := hI.inj _ _ _ c2 (d5.2.2 ▸ d2)
          have : r = r' := f.uq r r' h2 hr.2 ((hI.rf _ _ hr').2.2.2 (by omega)) (hI.rf _ _ hr').1.2 (Fk.eq (by rw [hlv]; exact d5.1) e1 e2)
          subst this
          rw [hs] at hr'; simp at hr'
          show (s.1, 2 + (i : Int)) = (s.1, p)
          rw [hr']
      | none =>
        have VA := vis_ok f k (nd N r).l s rl (by omega) hI
        have VB := vis_ok f k (nd N r).h (vis N k (nd N r).l s).1 rh (by omega) VA.inv
        have A := canon f m (v + 1) (nd N r).l s (up e v false) k hI rl h1 (by omega) (by omega)
        have B := canon f m (v + 1) (nd N r).h (vis N k (nd N r).l s).1 (up e v true) k VA.inv rh h1 (by omega) (by omega)
        have E : vis N (k + 1) r s = (((((vis N k (nd N r).h (vis N k (nd N r).l s).1).1.1 ++ [⟨(nd N r).v, (vis N k (nd N r).l s).2, (vis N k (nd N r).h (vis N k (nd N r).l s).1).2⟩]),
          setF (vis N k (nd N r).h (vis N k (nd N r).l s).1).1.2 r (2 + (vis N k (nd N r).h (vis N k (nd N r).l s).1).1.1.length)), 2 + (vis N k (nd N r).h (vis N k (nd N r).l s).1).1.1.length) : Ly × Int) := by
          rw [vis, hs]
        rw [E, prt_step (tab_len _ _ _ _) A B]
        clear E A B V
        generalize (vis N k (nd N r).l s) = x at VA VB
        generalize (vis N k (nd N r).h x.1) = y at VB
        have hat := VB.ext _ _ VA.at_
        have hab : x.2 ≠ y.2 := fun q => f.ne r h2 hr.2 (VB.inv.inj _ _ _ hat (by rw [q]; exact VB.at_))
        rw [if_neg hab]
        have hnone : y.1.2 r = none := by rw [VB.only r hhi.2.1, VA.only r hlo.2.1, hs]
        cases hf : fx ⟨v, x.2, y.2⟩ y.1.1 with
        | none => rw [← hlv]
        | some i =>
          exfalso
          obtain ⟨q1, q2, q3⟩ := fx_some hf
          have hi : nd y.1.1 (2 + i) = ⟨v, x.2, y.2⟩ := by unfold nd; rw [show ((2 : Int) + i - 2).toNat = i by omega]; exact q2
          obtain ⟨r', hr'⟩ := VB.inv.sur (2 + i) ⟨by omega, by omega⟩
          obtain ⟨a', b', d1, d2, d3, d4, d5⟩ := VB.inv.nd r' (2 + i) ((VB.inv.rf _ _ hr').2.2.2 (by omega)) hr'
          rw [hi] at d5
          simp only [Fk.mk.injEq] at d5
          have e1 := VB.inv.inj _ _ _ hat (d5.2.1 ▸ d1)
          have e2 := VB.inv.inj _ _ _ VB.at_ (d5.2.2 ▸ d2)
          have : r = r' := f.uq r r' h2 hr.2 ((VB.inv.rf _ _ hr').2.2.2 (by omega)) (VB.inv.rf _ _ hr').1.2 (Fk.eq (by rw [hlv]; exact d5.1) e1 e2)
          subst this
          rw [hnone] at hr'; cases hr'
end Go.Proofs.Ytgehdgeiikjohaa
