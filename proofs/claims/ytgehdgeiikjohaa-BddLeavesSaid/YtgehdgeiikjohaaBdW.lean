/- The builder of nodes, and what a combination keeps. No program in sight. -/
import Derived.Test.YtgehdgeiikjohaaBdV
namespace Go.Proofs.Ytgehdgeiikjohaa
open Go Go.Vc
open Classical
noncomputable def idxF (M : List Fk) : Fk → Option Int := fun n => (fx n M).map fun i : Nat => 2 + (i : Int)
theorem idxF_0 : idxF [] = fun _ => none := rfl
theorem fx_snoc {n q : Fk} : ∀ (M : List Fk), fx q (M ++ [n]) = match fx q M with | some i => some i | none => if n = q then some M.length else none
  | [] => by
    show (if n = q then some 0 else (fx q []).map (· + 1)) = _
    by_cases h : n = q
    · rw [if_pos h]; show some 0 = if n = q then some 0 else none; rw [if_pos h]
    · rw [if_neg h]; show none = if n = q then some 0 else none; rw [if_neg h]
  | a :: M => by
    show (if a = q then some 0 else (fx q (M ++ [n])).map (· + 1)) = match (if a = q then some 0 else (fx q M).map (· + 1)) with | some i => some i | none => if n = q then some (a :: M).length else none
    by_cases h : a = q
    · rw [if_pos h, if_pos h]
    · rw [if_neg h, if_neg h, fx_snoc M]
      cases fx q M with
      | some i => rfl
      | none =>
        show (if n = q then some M.length else none).map (· + 1) = if n = q then some (M.length + 1) else none
        by_cases h2 : n = q
        · rw [if_pos h2, if_pos h2]; rfl
        · rw [if_neg h2, if_neg h2]; rfl
theorem idxF_step {M : List Fk} {n : Fk} (h : idxF M n = none) : setF (idxF M) n (2 + (M.length : Int)) = idxF (M ++ [n]) := by
  funext q
  have hn : fx n M = none := by unfold idxF at h; simpa using h
  unfold idxF
  rw [fx_snoc]
  by_cases e : q = n
  · subst e; rw [setF_same, hn]; show _ = Option.map _ (if q = q then some M.length else none); rw [if_pos rfl]; rfl
  · rw [setF_other e]
    cases fx q M with
    | some i => rfl
    | none => show none = Option.map _ (if n = q then some M.length else none); rw [if_neg fun z => e z.symm]; rfl
/-- The builder's node. -/
def nodeR (M : List Fk) (v l h : Int) : List Fk × Int := if l = h then (M, l) else match fx ⟨v, l, h⟩ M with
  | some i => (M, 2 + (i : Int))
  | none => (M ++ [⟨v, l, h⟩], 2 + (M.length : Int))
theorem node_eq {M : List Fk} {v l h : Int} (e : l = h) : nodeR M v l h = (M, l) := if_pos e
theorem node_hit {M : List Fk} {v l h : Int} (e : l ≠ h) (i : (idxF M ⟨v, l, h⟩).isSome = true) : nodeR M v l h = (M, (idxF M ⟨v, l, h⟩).getD 0) := by
  unfold nodeR; rw [if_neg e]
  unfold idxF at *
  cases q : fx ⟨v, l, h⟩ M with
  | none => rw [q] at i; cases i
  | some k => rfl
theorem node_new {M : List Fk} {v l h : Int} (e : l ≠ h) (i : ¬ (idxF M ⟨v, l, h⟩).isSome = true) : idxF M ⟨v, l, h⟩ = none ∧ nodeR M v l h = (M ++ [⟨v, l, h⟩], 2 + (M.length : Int)) := by
  unfold nodeR; rw [if_neg e]
  unfold idxF at *
  cases q : fx ⟨v, l, h⟩ M with
  | none => exact ⟨rfl, rfl⟩
  | some k => rw [q] at i; exact absurd rfl i
/-- What a builder's node does. -/
structure NodeOk (vars : Int) (M : List Fk) (v l h : Int) (x : List Fk × Int) : Prop where
  fm : Fm vars x.1
  ext : ∃ X, x.1 = M ++ X ∧ X.length ≤ 1
  rf : Rf x.1 x.2
  lv : v ≤ lev vars x.1 x.2
  vl : ∀ e, Proofs.Ytgehdgeiikjohaa.vl x.1 e x.2 = if e v then Proofs.Ytgehdgeiikjohaa.vl M e h else Proofs.Ytgehdgeiikjohaa.vl M e l
theorem Fm.snoc {vars v l h : Int} {M : List Fk} (f : Fm vars M) (hv : 0 ≤ v) (hv2 : v < vars) (hl : Rf M l) (hh : Rf M h) (ll : v < lev vars M l) (lh : v < lev vars M h) (hne : l ≠ h) (hn : fx ⟨v, l, h⟩ M = none) : Fm vars (M ++ [⟨v, l, h⟩]) := by
  have hlen : (M ++ [(⟨v, l, h⟩ : Fk)]).length = M.length + 1 := by simp
  have old : ∀ r : Int, 2 ≤ r → r < 2 + M.length → nd (M ++ [⟨v, l, h⟩]) r = nd M r := fun r a b => nd_append a b
  have lst : nd (M ++ [⟨v, l, h⟩]) (2 + (M.length : Int)) = ⟨v, l, h⟩ := nd_last
  have sp : ∀ r : Int, 2 ≤ r → r < 2 + ((M ++ [(⟨v, l, h⟩ : Fk)]).length : Int) → r < 2 + (M.length : Int) ∨ r = 2 + (M.length : Int) := fun r a b => by rw [hlen] at b; omega
  refine ⟨fun r a b => ?_, fun r a b => ?_, fun r a b => ?_, fun r a b => ?_, fun r s a b c d e => ?_⟩
  · rcases sp r a b with q | rfl
    · rw [old r a q]; exact f.vr r a q
    · rw [lst]; exact ⟨hv, hv2⟩
  · rcases sp r a b with q | rfl
    · rw [old r a q]; exact f.ne r a q
    · rw [lst]; exact hne
  · rcases sp r a b with q | rfl
    · rw [old r a q, lev_append (by have := (f.lo r a q).2.1; omega)]; exact f.lo r a q
    · rw [lst]; exact ⟨hl.1, hl.2, by show v < _; rw [lev_append hl.2]; exact ll⟩
  · rcases sp r a b with q | rfl
    · rw [old r a q, lev_append (by have := (f.hi r a q).2.1; omega)]; exact f.hi r a q
    · rw [lst]; exact ⟨hh.1, hh.2, by show v < _; rw [lev_append hh.2]; exact lh⟩
  · have key : ∀ r : Int, 2 ≤ r → r < 2 + (M.length : Int) → nd M r ≠ ⟨v, l, h⟩ := fun r a b q => fx_none hn (r - 2).toNat (by omega) q
    rcases sp r a b with q | rfl
    · rcases sp s c d with q2 | rfl
      · rw [old r a q, old s c q2] at e; exact f.uq r s a q c q2 e
      · rw [old r a q, lst] at e; exact absurd e (key r a q)
    · rcases sp s c d with q2 | rfl
      · rw [lst, old s c q2] at e; exact absurd e.symm (key s c q2)
      · rfl
theorem node_ok {vars v l h : Int} {M : List Fk} (f : Fm vars M) (hv : 0 ≤ v) (hv2 : v < vars) (hl : Rf M l) (hh : Rf M h) (ll : v < lev vars M l) (lh : v < lev vars M h) : NodeOk vars M v l h (nodeR M v l h) := by
  by_cases e : l = h
  · rw [node_eq e]
    subst e
    exact ⟨f, ⟨[], by simp, by simp⟩, hl, by show v ≤ lev vars M l; omega, fun e => by show vl M e l = _; split <;> rfl⟩
  · unfold nodeR
    rw [if_neg e]
    cases q : fx ⟨v, l, h⟩ M with
    | some i =>
      obtain ⟨q1, q2, q3⟩ := fx_some q
      have hi : nd M (2 + (i : Int)) = ⟨v, l, h⟩ := by unfold nd; rw [show ((2 : Int) + i - 2).toNat = i by omega]; exact q2
      have hr : Rf M (2 + (i : Int)) := ⟨by omega, by omega⟩
      refine ⟨f, ⟨[], by simp, by simp⟩, hr, ?_, fun e => ?_⟩
      · show v ≤ lev vars M (2 + (i : Int))
        rw [lev_node (by omega), hi]; exact Int.le_refl _
      · show vl M e (2 + (i : Int)) = _
        rw [vl_step f (by omega) hr.2, hi]
        show vl M e (if e v = true then h else l) = _
        split <;> rfl
    | none =>
      have g := f.snoc hv hv2 hl hh ll lh e q
      have hlen : (M ++ [(⟨v, l, h⟩ : Fk)]).length = M.length + 1 := by simp
      have hi : nd (M ++ [⟨v, l, h⟩]) (2 + (M.length : Int)) = ⟨v, l, h⟩ := nd_last
      refine ⟨g, ⟨[⟨v, l, h⟩], rfl, by simp⟩, ⟨by show 0 ≤ 2 + (M.length : Int); omega, by show 2 + (M.length : Int) < 2 + ((M ++ [(⟨v, l, h⟩ : Fk)]).length : Int); omega⟩, ?_, fun e => ?_⟩
      · show v ≤ lev vars (M ++ [⟨v, l, h⟩]) (2 + (M.length : Int))
        rw [lev_node (by omega), hi]; exact Int.le_refl _
      · show vl (M ++ [⟨v, l, h⟩]) e (2 + (M.length : Int)) = _
        rw [vl_step g (by omega) (by omega), hi]
        show vl _ e (if e v = true then h else l) = _
        split
        · exact vl_append f g e h.toNat h hh (by omega)
        · exact vl_append f g e l.toNat l hl (by omega)
end Go.Proofs.Ytgehdgeiikjohaa
