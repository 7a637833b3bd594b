/- Decision diagrams with any number of leaves: the canonical form over any graph of decisions. No program in sight. -/
import Derived.Test.YtkmhjcjpohpiaaaWb
namespace Go.Proofs.Ytkmhjcjpohpiaaa
open Go Go.Vc
open Classical
structure Fk where
  v : Int
  l : Int
  h : Int
theorem Fk.eq {a b : Fk} (h1 : a.v = b.v) (h2 : a.l = b.l) (h3 : a.h = b.h) : a = b := by
  cases a; cases b; simp at h1 h2 h3; subst h1; subst h2; subst h3; rfl
instance : DecidableEq Fk := fun a b => decidable_of_iff (a.v = b.v ∧ a.l = b.l ∧ a.h = b.h) ⟨fun h => Fk.eq h.1 h.2.1 h.2.2, fun h => by subst h; exact ⟨rfl, rfl, rfl⟩⟩
/-- A graph: which references are leaves, the rank of a leaf, the decision of another one. -/
structure Gph where
  ok : Int → Prop
  lf : Int → Prop
  rk : Int → Int
  nd : Int → Fk
  mu : Int → Nat
noncomputable def lev (vars : Int) (G : Gph) (r : Int) : Int := if G.lf r then vars else (G.nd r).v
/-- A graph that is reduced and ordered. -/
structure GRed (vars : Int) (G : Gph) : Prop where
  vr : ∀ r, G.ok r → ¬ G.lf r → 0 ≤ (G.nd r).v ∧ (G.nd r).v < vars
  ne : ∀ r, G.ok r → ¬ G.lf r → (G.nd r).l ≠ (G.nd r).h
  lo : ∀ r, G.ok r → ¬ G.lf r → G.ok (G.nd r).l ∧ G.mu (G.nd r).l < G.mu r ∧ (G.nd r).v < lev vars G (G.nd r).l
  hi : ∀ r, G.ok r → ¬ G.lf r → G.ok (G.nd r).h ∧ G.mu (G.nd r).h < G.mu r ∧ (G.nd r).v < lev vars G (G.nd r).h
  uq : ∀ r s, G.ok r → ¬ G.lf r → G.ok s → ¬ G.lf s → G.nd r = G.nd s → r = s
/-- .. with K ranks, each leaf one of its own. -/
structure GOk (vars K : Int) (G : Gph) : Prop extends GRed vars G where
  kr : ∀ r, G.ok r → G.lf r → 0 ≤ G.rk r ∧ G.rk r < K
  kq : ∀ r s, G.ok r → G.lf r → G.ok s → G.lf s → G.rk r = G.rk s → r = s
theorem lev_lf {vars r : Int} {G : Gph} (h : G.lf r) : lev vars G r = vars := if_pos h
theorem lev_nd {vars r : Int} {G : Gph} (h : ¬ G.lf r) : lev vars G r = (G.nd r).v := if_neg h
section
variable {vars : Int} {G : Gph} (f : GRed vars G)
include f
theorem GRed.lev_le {r : Int} (h : G.ok r) : lev vars G r ≤ vars := by
  by_cases h2 : G.lf r
  · rw [lev_lf h2]; omega
  · rw [lev_nd h2]; have := f.vr r h h2; omega
theorem GRed.lev_nn {r : Int} (hv : 0 ≤ vars) (h : G.ok r) : 0 ≤ lev vars G r := by
  by_cases h2 : G.lf r
  · rw [lev_lf h2]; exact hv
  · rw [lev_nd h2]; exact (f.vr r h h2).1
theorem GRed.lev_lt {r : Int} (h : G.ok r) (h2 : lev vars G r = vars) : G.lf r := by
  refine Classical.byContradiction fun q => ?_
  rw [lev_nd q] at h2
  have := f.vr r h q; omega
end
/- values: the rank of the leaf that an assignment leads to -/
noncomputable def gevF (G : Gph) (e : Int → Bool) : Nat → Int → Int
  | 0, r => G.rk r
  | k + 1, r => if G.lf r then G.rk r else gevF G e k (if e (G.nd r).v then (G.nd r).h else (G.nd r).l)
noncomputable def gev (G : Gph) (e : Int → Bool) (r : Int) : Int := gevF G e (G.mu r) r
theorem gev_lf {G : Gph} {e : Int → Bool} {r : Int} (h : G.lf r) : gev G e r = G.rk r := by
  unfold gev
  cases G.mu r with
  | zero => rfl
  | succ k => exact if_pos h
theorem gevF_fuel {vars : Int} {G : Gph} (f : GRed vars G) (e : Int → Bool) : ∀ (k j : Nat) (r : Int), G.ok r → G.mu r ≤ k → G.mu r ≤ j → gevF G e k r = gevF G e j r := by
  intro k
  induction k with
  | zero =>
    intro j r h hk hj
    have hl : G.lf r := Classical.byContradiction fun q => by have := (f.lo r h q).2.1; omega
    cases j with
    | zero => rfl
    | succ j => exact (if_pos hl).symm
  | succ k ih =>
    intro j r h hk hj
    by_cases hl : G.lf r
    · rw [show gevF G e (k + 1) r = G.rk r from if_pos hl]
      cases j with
      | zero => rfl
      | succ j => exact (if_pos hl).symm
    · have hlo := f.lo r h hl
      have hhi := f.hi r h hl
      obtain ⟨j, rfl⟩ : ∃ q, j = q + 1 := ⟨j - 1, by omega⟩
      show (if G.lf r then G.rk r else gevF G e k (if e (G.nd r).v then (G.nd r).h else (G.nd r).l)) = (if G.lf r then G.rk r else gevF G e j (if e (G.nd r).v then (G.nd r).h else (G.nd r).l))
      rw [if_neg hl, if_neg hl]
      refine ih j _ ?_ ?_ ?_
      · split
        · exact hhi.1
        · exact hlo.1
      · split <;> omega
      · split <;> omega
theorem gev_step {vars : Int} {G : Gph} (f : GRed vars G) {e : Int → Bool} {r : Int} (h : G.ok r) (hl : ¬ G.lf r) : gev G e r = gev G e (if e (G.nd r).v then (G.nd r).h else (G.nd r).l) := by
  have hlo := f.lo r h hl
  have hhi := f.hi r h hl
  obtain ⟨k, hk⟩ : ∃ k, G.mu r = k + 1 := ⟨G.mu r - 1, by omega⟩
  unfold gev
  rw [hk]
  show (if G.lf r then G.rk r else gevF G e k (if e (G.nd r).v then (G.nd r).h else (G.nd r).l)) = _
  rw [if_neg hl]
  refine gevF_fuel f e _ _ _ ?_ ?_ ?_
  · split
    · exact hhi.1
    · exact hlo.1
  · split <;> omega
  · split <;> omega
theorem gev_congr {vars : Int} {G : Gph} (f : GRed vars G) {e e' : Int → Bool} : ∀ (k : Nat) (r : Int), G.ok r → G.mu r ≤ k → (∀ i, lev vars G r ≤ i → i < vars → e i = e' i) → gev G e r = gev G e' r
  | 0, r, h, hk, he => by
    have hl : G.lf r := Classical.byContradiction fun q => by have := (f.lo r h q).2.1; omega
    rw [gev_lf hl, gev_lf hl]
  | k + 1, r, h, hk, he => by
    by_cases hl : G.lf r
    · rw [gev_lf hl, gev_lf hl]
    · have hlo := f.lo r h hl
      have hhi := f.hi r h hl
      have hv := f.vr r h hl
      rw [lev_nd hl] at he
      rw [gev_step f h hl, gev_step f h hl, he _ (by omega) hv.2]
      refine gev_congr f k _ ?_ ?_ fun i hi => he i ?_
      · split
        · exact hhi.1
        · exact hlo.1
      · split <;> omega
      · split at hi <;> omega
/- tables -/
def up (e : Int → Bool) (v : Int) (b : Bool) : Int → Bool := fun i => if i = v then b else e i
def tab {α : Type} (f : (Int → Bool) → α) : Nat → Int → (Int → Bool) → List α
  | 0, _, e => [f e]
  | m + 1, v, e => tab f m (v + 1) (up e v false) ++ tab f m (v + 1) (up e v true)
theorem tab_len {α : Type} (f : (Int → Bool) → α) : ∀ (m : Nat) (v : Int) (e : Int → Bool), (tab f m v e).length = 2 ^ m
  | 0, _, _ => rfl
  | m + 1, v, e => by
    show (tab f m (v + 1) (up e v false) ++ tab f m (v + 1) (up e v true)).length = _
    rw [List.length_append, tab_len f m, tab_len f m, Nat.pow_succ]; omega
theorem tab_congr {α : Type} {f g : (Int → Bool) → α} : ∀ (m : Nat) (v : Int) (e : Int → Bool), (∀ e', (∀ i, i < v → e' i = e i) → f e' = g e') → tab f m v e = tab g m v e
  | 0, v, e, h => by show [f e] = [g e]; rw [h e fun _ _ => rfl]
  | m + 1, v, e, h => by
    show tab f m (v + 1) (up e v false) ++ tab f m (v + 1) (up e v true) = tab g m (v + 1) (up e v false) ++ tab g m (v + 1) (up e v true)
    have key : ∀ b, tab f m (v + 1) (up e v b) = tab g m (v + 1) (up e v b) := fun b => tab_congr m (v + 1) _ fun e' he => h e' fun i hi => by
      rw [he i (by omega)]; unfold up; rw [if_neg (by omega)]
    rw [key, key]
theorem tab_map {α β : Type} (h : α → β) (f : (Int → Bool) → α) : ∀ (m : Nat) (v : Int) (e : Int → Bool), (tab f m v e).map h = tab (fun e => h (f e)) m v e
  | 0, _, _ => rfl
  | m + 1, v, e => by
    show (tab f m (v + 1) (up e v false) ++ tab f m (v + 1) (up e v true)).map h = _
    rw [List.map_append, tab_map h f m, tab_map h f m]; rfl
/- laying out -/
def ond (K : Int) (O : List Fk) (p : Int) : Fk := O.getD (p - K).toNat ⟨0, 0, 0⟩
theorem ond_app {K p : Int} {O X : List Fk} (_h0 : K ≤ p) (h : p < K + O.length) : ond K (O ++ X) p = ond K O p := by
  unfold ond
  rw [List.getD_eq_getElem?_getD, List.getD_eq_getElem?_getD, List.getElem?_append_left (by omega)]
theorem ond_last {K : Int} {O : List Fk} {n : Fk} : ond K (O ++ [n]) (K + O.length) = n := by
  unfold ond
  rw [show (K + (O.length : Int) - K).toNat = O.length by omega, List.getD_eq_getElem?_getD, List.getElem?_append_right (Nat.le_refl _), Nat.sub_self]; rfl
abbrev Ly := List Fk × (Int → Option Int)
noncomputable def vis (K : Int) (G : Gph) : Nat → Int → Ly → Ly × Int
  | 0, _, s => (s, 0)
  | k + 1, r, s => match s.2 r with
    | some p => (s, p)
    | none => ((((vis K G k (G.nd r).h (vis K G k (G.nd r).l s).1).1.1 ++ [⟨(G.nd r).v, (vis K G k (G.nd r).l s).2, (vis K G k (G.nd r).h (vis K G k (G.nd r).l s).1).2⟩]),
        setF (vis K G k (G.nd r).h (vis K G k (G.nd r).l s).1).1.2 r (K + (vis K G k (G.nd r).h (vis K G k (G.nd r).l s).1).1.1.length)), K + (vis K G k (G.nd r).h (vis K G k (G.nd r).l s).1).1.1.length)
/-- Where the leaves lie from the start. -/
noncomputable def pl0 (G : Gph) : Int → Option Int := fun r => if G.ok r ∧ G.lf r then some (G.rk r) else none
structure LyI (K : Int) (G : Gph) (s : Ly) : Prop where
  lf : ∀ r, G.ok r → G.lf r → s.2 r = some (G.rk r)
  rf : ∀ r p : Int, s.2 r = some p → G.ok r ∧ (0 ≤ p ∧ p < K + s.1.length) ∧ (¬ G.lf r ↔ K ≤ p)
  nd : ∀ r p : Int, ¬ G.lf r → s.2 r = some p → ∃ a b, s.2 (G.nd r).l = some a ∧ s.2 (G.nd r).h = some b ∧ a < p ∧ b < p ∧ ond K s.1 p = ⟨(G.nd r).v, a, b⟩
  inj : ∀ r q p : Int, s.2 r = some p → s.2 q = some p → r = q
  sur : ∀ p : Int, K ≤ p → p < K + s.1.length → ∃ r, s.2 r = some p
theorem pl0_some {G : Gph} {r p : Int} (h : pl0 G r = some p) : (G.ok r ∧ G.lf r) ∧ p = G.rk r := by
  unfold pl0 at h
  by_cases q : G.ok r ∧ G.lf r
  · rw [if_pos q] at h; simp at h; exact ⟨q, h.symm⟩
  · rw [if_neg q] at h; cases h
theorem lyI0 {vars K : Int} {G : Gph} (f : GOk vars K G) : LyI K G ([], pl0 G) where
  lf := fun r h hl => if_pos ⟨h, hl⟩
  rf := fun r p h => by
    obtain ⟨⟨h1, h2⟩, rfl⟩ := pl0_some h
    have := f.kr r h1 h2
    refine ⟨h1, ⟨this.1, ?_⟩, fun q => absurd h2 q, fun q => by omega⟩
    show _ < K + ((0 : Nat) : Int); omega
  nd := fun r p hl h => absurd (pl0_some h).1.2 hl
  inj := fun r q p h1 h2 => by
    obtain ⟨⟨a, b⟩, e⟩ := pl0_some h1
    obtain ⟨⟨c, d⟩, e2⟩ := pl0_some h2
    exact f.kq r q a b c d (by omega)
  sur := fun p h0 h1 => by have h1 : p < K + ((0 : Nat) : Int) := h1; omega
structure VisOk (K : Int) (G : Gph) (r : Int) (s : Ly) (x : Ly × Int) : Prop where
  inv : LyI K G x.1
  at_ : x.1.2 r = some x.2
  ext : ∀ q p : Int, s.2 q = some p → x.1.2 q = some p
  only : ∀ q : Int, q ≠ r → G.mu r ≤ G.mu q → x.1.2 q = s.2 q
  len : s.1.length ≤ x.1.1.length
theorem vis_hit {K : Int} {G : Gph} {k : Nat} {r p : Int} {s : Ly} (h : s.2 r = some p) : vis K G (k + 1) r s = (s, p) := by
  unfold vis; rw [h]
theorem vis_ok {vars K : Int} {G : Gph} (f : GOk vars K G) (K0 : 0 ≤ K) : ∀ (k : Nat) (r : Int) (s : Ly), G.ok r → G.mu r < k → LyI K G s → VisOk K G r s (vis K G k r s)
  | 0, r, s, h, hk, _ => by omega
  | k + 1, r, s, h, hk, hI => by
    cases hs : s.2 r with
    | some p => rw [vis_hit hs]; exact ⟨hI, hs, fun _ _ h => h, fun _ _ _ => rfl, Nat.le_refl _⟩
    | none =>
      have h2 : ¬ G.lf r := fun q => by rw [hI.lf r h q] at hs; cases hs
      have hl := f.lo r h h2
      have hh := f.hi r h h2
      have A := vis_ok f K0 k (G.nd r).l s hl.1 (by omega) hI
      have B := vis_ok f K0 k (G.nd r).h (vis K G k (G.nd r).l s).1 hh.1 (by omega) A.inv
      have e : vis K G (k + 1) r s = (((((vis K G k (G.nd r).h (vis K G k (G.nd r).l s).1).1.1 ++ [⟨(G.nd r).v, (vis K G k (G.nd r).l s).2, (vis K G k (G.nd r).h (vis K G k (G.nd r).l s).1).2⟩]),
        setF (vis K G k (G.nd r).h (vis K G k (G.nd r).l s).1).1.2 r (K + (vis K G k (G.nd r).h (vis K G k (G.nd r).l s).1).1.1.length)), K + (vis K G k (G.nd r).h (vis K G k (G.nd r).l s).1).1.1.length) : Ly × Int) := by
        rw [vis, hs]
      rw [e]
      generalize (vis K G k (G.nd r).l s) = x at A B
      generalize (vis K G k (G.nd r).h x.1) = y at B
      have hat := B.ext _ _ A.at_
      have hrl : r ≠ (G.nd r).l := fun z => by have := hl.2.1; rw [← z] at this; omega
      have hrh : r ≠ (G.nd r).h := fun z => by have := hh.2.1; rw [← z] at this; omega
      have hnone : y.1.2 r = none := by rw [B.only r hrh (by omega), A.only r hrl (by omega), hs]
      have ra := (B.inv.rf _ _ hat).2.1
      have rb := (B.inv.rf _ _ B.at_).2.1
      have hlen : (y.1.1 ++ [(⟨(G.nd r).v, x.2, y.2⟩ : Fk)]).length = y.1.1.length + 1 := by simp
      have oth : ∀ {q p : Int}, y.1.2 q = some p → setF y.1.2 r (K + (y.1.1.length : Int)) q = some p := fun {q p} hq => by
        rw [setF_other]; exact hq
        intro e; subst e; rw [hnone] at hq; cases hq
      have cases_ : ∀ {q p : Int}, setF y.1.2 r (K + (y.1.1.length : Int)) q = some p → (q = r ∧ p = K + (y.1.1.length : Int)) ∨ (q ≠ r ∧ y.1.2 q = some p) := fun {q p} hq => by
        by_cases e : q = r
        · subst e; rw [setF_same] at hq; simp at hq; exact Or.inl ⟨rfl, hq.symm⟩
        · rw [setF_other e] at hq; exact Or.inr ⟨e, hq⟩
      refine ⟨⟨fun q hq hql => oth (B.inv.lf q hq hql), fun q p hq => ?_, fun q p hq2 hq => ?_, fun q q' p hq hq' => ?_, fun p hp0 hp => ?_⟩, setF_same, fun q p hq => oth (B.ext _ _ (A.ext _ _ hq)), fun q hne hq => ?_, ?_⟩
      · rcases cases_ hq with ⟨rfl, rfl⟩ | ⟨_, hq⟩
        · refine ⟨h, ⟨by omega, ?_⟩, fun _ => by omega, fun _ => h2⟩
          show _ < K + (((y.1.1 ++ [(⟨(G.nd q).v, x.2, y.2⟩ : Fk)]).length : Nat) : Int)
          rw [hlen]; omega
        · obtain ⟨a, b, c⟩ := B.inv.rf q p hq
          refine ⟨a, ⟨b.1, ?_⟩, c⟩
          have := b.2
          show _ < K + (((y.1.1 ++ [(⟨(G.nd r).v, x.2, y.2⟩ : Fk)]).length : Nat) : Int)
          rw [hlen]; omega
      · rcases cases_ hq with ⟨rfl, rfl⟩ | ⟨_, hq⟩
        · exact ⟨x.2, y.2, oth hat, oth B.at_, ra.2, rb.2, ond_last⟩
        · obtain ⟨a, b, c1, c2, c3, c4, c5⟩ := B.inv.nd q p hq2 hq
          have hp := (B.inv.rf q p hq)
          exact ⟨a, b, oth c1, oth c2, c3, c4, by rw [← c5]; exact ond_app (hp.2.2.1 hq2) hp.2.1.2⟩
      · rcases cases_ hq with ⟨rfl, rfl⟩ | ⟨n1, hq⟩
        · rcases cases_ hq' with ⟨rfl, _⟩ | ⟨_, hq'⟩
          · rfl
          · have := (B.inv.rf _ _ hq').2.1.2; omega
        · rcases cases_ hq' with ⟨e1, e2⟩ | ⟨_, hq2⟩
          · have := (B.inv.rf _ _ hq).2.1.2; omega
          · exact B.inv.inj _ _ _ hq hq2
      · have h1 : p < K + (((y.1.1 ++ [(⟨(G.nd r).v, x.2, y.2⟩ : Fk)]).length : Nat) : Int) := hp
        rw [hlen] at h1
        by_cases e : p = K + (y.1.1.length : Int)
        · exact ⟨r, by rw [e]; exact setF_same⟩
        · obtain ⟨q, hq⟩ := B.inv.sur p hp0 (by omega)
          exact ⟨q, oth hq⟩
      · show setF y.1.2 r _ q = _
        have n1 : q ≠ (G.nd r).l := fun z => by have := hl.2.1; rw [← z] at this; omega
        have n2 : q ≠ (G.nd r).h := fun z => by have := hh.2.1; rw [← z] at this; omega
        rw [setF_other hne, B.only q n2 (by omega), A.only q n1 (by omega)]
      · have := A.len; have := B.len
        show _ ≤ (y.1.1 ++ [(⟨(G.nd r).v, x.2, y.2⟩ : Fk)]).length
        rw [hlen]; omega
/- the diagram with a table of ranks -/
def fx (n : Fk) : List Fk → Option Nat
  | [] => none
  | a :: r => if a = n then some 0 else (fx n r).map (· + 1)
theorem fx_some {n : Fk} : ∀ {O : List Fk} {i : Nat}, fx n O = some i → i < O.length ∧ O.getD i ⟨0, 0, 0⟩ = n ∧ ∀ j : Nat, j < i → O.getD j ⟨0, 0, 0⟩ ≠ n
  | [], _, h => by cases h
  | a :: r, i, h => by
    unfold fx at h
    by_cases e : a = n
    · rw [if_pos e] at h; simp at h; subst h; exact ⟨by simp, by simpa using e, fun j hj => by omega⟩
    · rw [if_neg e] at h
      cases hr : fx n r with
      | none => rw [hr] at h; cases h
      | some j =>
        rw [hr] at h; simp at h; subst h
        obtain ⟨h1, h2, h3⟩ := fx_some hr
        refine ⟨by simpa using h1, by simpa using h2, fun k hk => ?_⟩
        cases k with
        | zero => simpa using e
        | succ k => simpa using h3 k (by omega)
theorem fx_none {n : Fk} : ∀ {O : List Fk}, fx n O = none → ∀ i : Nat, i < O.length → O.getD i ⟨0, 0, 0⟩ ≠ n
  | [], _, i, hi => by simp at hi
  | a :: r, h, i, hi => by
    unfold fx at h
    by_cases e : a = n
    · rw [if_pos e] at h; cases h
    · rw [if_neg e] at h
      cases hr : fx n r with
      | some j => rw [hr] at h; cases h
      | none =>
        cases i with
        | zero => simpa using e
        | succ i => simpa using fx_none hr i (by simpa using hi)
def prt (K : Int) : Nat → List Fk → Int → List Int → List Fk × Int
  | 0, O, _, t => (O, t.getD 0 0)
  | m + 1, O, v, t => if (prt K m O (v + 1) (t.take (2 ^ m))).2 = (prt K m (prt K m O (v + 1) (t.take (2 ^ m))).1 (v + 1) (t.drop (2 ^ m))).2 then ((prt K m (prt K m O (v + 1) (t.take (2 ^ m))).1 (v + 1) (t.drop (2 ^ m))).1, (prt K m O (v + 1) (t.take (2 ^ m))).2)
    else match fx ⟨v, (prt K m O (v + 1) (t.take (2 ^ m))).2, (prt K m (prt K m O (v + 1) (t.take (2 ^ m))).1 (v + 1) (t.drop (2 ^ m))).2⟩ (prt K m (prt K m O (v + 1) (t.take (2 ^ m))).1 (v + 1) (t.drop (2 ^ m))).1 with
      | some i => ((prt K m (prt K m O (v + 1) (t.take (2 ^ m))).1 (v + 1) (t.drop (2 ^ m))).1, K + (i : Int))
      | none => ((prt K m (prt K m O (v + 1) (t.take (2 ^ m))).1 (v + 1) (t.drop (2 ^ m))).1 ++ [⟨v, (prt K m O (v + 1) (t.take (2 ^ m))).2, (prt K m (prt K m O (v + 1) (t.take (2 ^ m))).1 (v + 1) (t.drop (2 ^ m))).2⟩], K + ((prt K m (prt K m O (v + 1) (t.take (2 ^ m))).1 (v + 1) (t.drop (2 ^ m))).1.length : Int))
theorem prt_step {K : Int} {m : Nat} {O : List Fk} {v : Int} {t1 t2 : List Int} (h1 : t1.length = 2 ^ m) {A B : List Fk} {a b : Int} (ha : prt K m O (v + 1) t1 = (A, a)) (hb : prt K m A (v + 1) t2 = (B, b)) :
    prt K (m + 1) O v (t1 ++ t2) = if a = b then (B, a) else match fx ⟨v, a, b⟩ B with | some i => (B, K + (i : Int)) | none => (B ++ [⟨v, a, b⟩], K + (B.length : Int)) := by
  have e1 : (t1 ++ t2).take (2 ^ m) = t1 := by rw [← h1]; simp
  have e2 : (t1 ++ t2).drop (2 ^ m) = t2 := by rw [← h1]; simp
  rw [prt, e1, e2, ha]
  simp only [hb]
theorem prt_len {K : Int} : ∀ (m : Nat) (O : List Fk) (v : Int) (t : List Int), O.length ≤ (prt K m O v t).1.length ∧ (prt K m O v t).1.length + 1 ≤ O.length + 2 ^ m
  | 0, O, v, t => by show O.length ≤ O.length ∧ O.length + 1 ≤ O.length + 1; omega
  | m + 1, O, v, t => by
    have a := prt_len (K := K) m O (v + 1) (t.take (2 ^ m))
    have b := prt_len (K := K) m (prt K m O (v + 1) (t.take (2 ^ m))).1 (v + 1) (t.drop (2 ^ m))
    have p : 2 ^ (m + 1) = 2 ^ m + 2 ^ m := by rw [Nat.pow_succ]; omega
    rw [prt]
    split
    · show _ ≤ (prt K m (prt K m O (v + 1) (t.take (2 ^ m))).1 (v + 1) (t.drop (2 ^ m))).1.length ∧ (prt K m (prt K m O (v + 1) (t.take (2 ^ m))).1 (v + 1) (t.drop (2 ^ m))).1.length + 1 ≤ _
      omega
    · split
      · show _ ≤ (prt K m (prt K m O (v + 1) (t.take (2 ^ m))).1 (v + 1) (t.drop (2 ^ m))).1.length ∧ (prt K m (prt K m O (v + 1) (t.take (2 ^ m))).1 (v + 1) (t.drop (2 ^ m))).1.length + 1 ≤ _
        omega
      · simp only [List.length_append, List.length_cons, List.length_nil]; omega
/-- The walk of the graph and the walk of the table make the same diagram. -/
theorem canon {vars K : Int} {G : Gph} (f : GOk vars K G) (K0 : 0 ≤ K) : ∀ (m : Nat) (v : Int) (r : Int) (s : Ly) (e : Int → Bool) (k : Nat), LyI K G s → G.ok r → v = vars - m → v ≤ lev vars G r → G.mu r < k →
    prt K m s.1 v (tab (fun e => gev G e r) m v e) = ((vis K G k r s).1.1, (vis K G k r s).2)
  | 0, v, r, s, e, k, hI, hr, hv, hl, hk => by
    have hc := f.lev_lt hr (by have := f.lev_le hr; omega)
    obtain ⟨k, rfl⟩ : ∃ j, k = j + 1 := ⟨k - 1, by omega⟩
    rw [vis_hit (hI.lf r hr hc)]
    show (s.1, gev G e r) = _
    rw [gev_lf hc]
  | m + 1, v, r, s, e, k, hI, hr, hv, hl, hk => by
    have V := vis_ok f K0 k r s hr hk hI
    have h1 : v + 1 = vars - m := by omega
    obtain ⟨k, rfl⟩ : ∃ j, k = j + 1 := ⟨k - 1, by omega⟩
    show prt K (m + 1) s.1 v (tab _ m (v + 1) (up e v false) ++ tab _ m (v + 1) (up e v true)) = _
    by_cases hlt : v < lev vars G r
    · have A := canon f K0 m (v + 1) r s (up e v false) (k + 1) hI hr h1 (by omega) hk
      have B := canon f K0 m (v + 1) r (vis K G (k + 1) r s).1 (up e v true) (k + 1) V.inv hr h1 (by omega) hk
      rw [vis_hit V.at_] at B
      rw [prt_step (tab_len _ _ _ _) A B, if_pos rfl]
    · have hlv : lev vars G r = v := by omega
      have h2 : ¬ G.lf r := fun q => by rw [lev_lf q] at hlv; omega
      rw [lev_nd h2] at hlv
      have hlo := f.lo r hr h2
      have hhi := f.hi r hr h2
      have t1 : tab (fun e => gev G e r) m (v + 1) (up e v false) = tab (fun e => gev G e (G.nd r).l) m (v + 1) (up e v false) := tab_congr m _ _ fun e' he => by
        have : e' v = false := by rw [he v (by omega)]; exact if_pos rfl
        show gev G e' r = _
        rw [gev_step f.toGRed hr h2, hlv, this]; rfl
      have t2 : tab (fun e => gev G e r) m (v + 1) (up e v true) = tab (fun e => gev G e (G.nd r).h) m (v + 1) (up e v true) := tab_congr m _ _ fun e' he => by
        have : e' v = true := by rw [he v (by omega)]; exact if_pos rfl
        show gev G e' r = _
        rw [gev_step f.toGRed hr h2, hlv, this]; rfl
      rw [t1, t2]
      cases hs : s.2 r with
      | some p =>
        obtain ⟨a, b, c1, c2, c3, c4, c5⟩ := hI.nd r p h2 hs
        have A := canon f K0 m (v + 1) (G.nd r).l s (up e v false) (k + 1) hI hlo.1 h1 (by omega) (by omega)
        rw [vis_hit c1] at A
        have B := canon f K0 m (v + 1) (G.nd r).h s (up e v true) (k + 1) hI hhi.1 h1 (by omega) (by omega)
        rw [vis_hit c2] at B
        rw [vis_hit hs, prt_step (tab_len _ _ _ _) A B]
        have hab : a ≠ b := fun q => f.ne r hr h2 (hI.inj _ _ _ c1 (q ▸ c2))
        rw [if_neg hab]
        have hp := hI.rf r p hs
        have hp2 := hp.2.2.1 h2
        have hp3 := hp.2.1.2
        cases hf : fx ⟨v, a, b⟩ s.1 with
        | none =>
          exact absurd (by have q := c5; rw [hlv] at q; exact q) (fx_none hf (p - K).toNat (by omega))
        | some i =>
          obtain ⟨q1, q2, q3⟩ := fx_some hf
          have hi : ond K s.1 (K + i) = ⟨v, a, b⟩ := by unfold ond; rw [show (K + (i : Int) - K).toNat = i by omega]; exact q2
          obtain ⟨r', hr'⟩ := hI.sur (K + i) (by omega) (by omega)
          have hok' := (hI.rf _ _ hr').1
          have hl' : ¬ G.lf r' := (hI.rf _ _ hr').2.2.2 (by omega)
          obtain ⟨a', b', d1, d2, d3, d4, d5⟩ := hI.nd r' (K + i) hl' hr'
          rw [hi] at d5
          simp only [Fk.mk.injEq] at d5
          have e1 := hI.inj _ _ _ c1 (d5.2.1 ▸ d1)
          have e2 := hI.inj _ _ _ c2 (d5.2.2 ▸ d2)
          have : r = r' := f.uq r r' hr h2 hok' hl' (Fk.eq (by rw [hlv]; exact d5.1) e1 e2)
          subst this
          rw [hs] at hr'; simp at hr'
          show (s.1, K + (i : Int)) = (s.1, p)
          rw [hr']
      | none =>
        have VA := vis_ok f K0 k (G.nd r).l s hlo.1 (by omega) hI
        have VB := vis_ok f K0 k (G.nd r).h (vis K G k (G.nd r).l s).1 hhi.1 (by omega) VA.inv
        have A := canon f K0 m (v + 1) (G.nd r).l s (up e v false) k hI hlo.1 h1 (by omega) (by omega)
        have B := canon f K0 m (v + 1) (G.nd r).h (vis K G k (G.nd r).l s).1 (up e v true) k VA.inv hhi.1 h1 (by omega) (by omega)
        have E : vis K G (k + 1) r s = (((((vis K G k (G.nd r).h (vis K G k (G.nd r).l s).1).1.1 ++ [⟨(G.nd r).v, (vis K G k (G.nd r).l s).2, (vis K G k (G.nd r).h (vis K G k (G.nd r).l s).1).2⟩]),
          setF (vis K G k (G.nd r).h (vis K G k (G.nd r).l s).1).1.2 r (K + (vis K G k (G.nd r).h (vis K G k (G.nd r).l s).1).1.1.length)), K + (vis K G k (G.nd r).h (vis K G k (G.nd r).l s).1).1.1.length) : Ly × Int) := by
          rw [vis, hs]
        rw [E, prt_step (tab_len _ _ _ _) A B]
        clear E A B V
        generalize (vis K G k (G.nd r).l s) = x at VA VB
        generalize (vis K G k (G.nd r).h x.1) = y at VB
        have hat := VB.ext _ _ VA.at_
        have hab : x.2 ≠ y.2 := fun q => f.ne r hr h2 (VB.inv.inj _ _ _ hat (by rw [q]; exact VB.at_))
        rw [if_neg hab]
        have hrl : r ≠ (G.nd r).l := fun z => by have := hlo.2.1; rw [← z] at this; omega
        have hrh : r ≠ (G.nd r).h := fun z => by have := hhi.2.1; rw [← z] at this; omega
        have hnone : y.1.2 r = none := by rw [VB.only r hrh (by omega), VA.only r hrl (by omega), hs]
        cases hf : fx ⟨v, x.2, y.2⟩ y.1.1 with
        | none => rw [← hlv]
        | some i =>
          exfalso
          obtain ⟨q1, q2, q3⟩ := fx_some hf
          have hi : ond K y.1.1 (K + i) = ⟨v, x.2, y.2⟩ := by unfold ond; rw [show (K + (i : Int) - K).toNat = i by omega]; exact q2
          obtain ⟨r', hr'⟩ := VB.inv.sur (K + i) (by omega) (by omega)
          have hok' := (VB.inv.rf _ _ hr').1
          have hl' : ¬ G.lf r' := (VB.inv.rf _ _ hr').2.2.2 (by omega)
          obtain ⟨a', b', d1, d2, d3, d4, d5⟩ := VB.inv.nd r' (K + i) hl' hr'
          rw [hi] at d5
          simp only [Fk.mk.injEq] at d5
          have e1 := VB.inv.inj _ _ _ hat (d5.2.1 ▸ d1)
          have e2 := VB.inv.inj _ _ _ VB.at_ (d5.2.2 ▸ d2)
          have : r = r' := f.uq r r' hr h2 hok' hl' (Fk.eq (by rw [hlv]; exact d5.1) e1 e2)
          subst this
          rw [hnone] at hr'; cases hr'
end Go.Proofs.Ytkmhjcjpohpiaaa
