/- What is built from a truth table is valid. No program in sight. -/
import Derived.Test.YtgehdgeiikjohaaBdP
namespace Go.Proofs.Ytgehdgeiikjohaa
open Go Go.Vc
open Classical
theorem prt_node {m : Nat} {O : List Fk} {v : Int} {t1 t2 : List Bool} (h1 : t1.length = 2 ^ m) : prt (m + 1) O v (t1 ++ t2) = nodeR (prt m (prt m O (v + 1) t1).1 (v + 1) t2).1 v (prt m O (v + 1) t1).2 (prt m (prt m O (v + 1) t1).1 (v + 1) t2).2 := by
  rw [prt_step h1 (A := (prt m O (v + 1) t1).1) (a := (prt m O (v + 1) t1).2) rfl (B := (prt m (prt m O (v + 1) t1).1 (v + 1) t2).1) (b := (prt m (prt m O (v + 1) t1).1 (v + 1) t2).2) rfl]
  unfold nodeR
  by_cases e : (prt m O (v + 1) t1).2 = (prt m (prt m O (v + 1) t1).1 (v + 1) t2).2
  · rw [if_pos e, if_pos e]
  · rw [if_neg e, if_neg e]; rfl
structure PrtOk (vars : Int) (O : List Fk) (m : Nat) (v : Int) (t : List Bool) (x : List Fk × Int) : Prop where
  fm : Fm vars x.1
  ext : ∃ X, x.1 = O ++ X
  rf : Rf x.1 x.2
  lv : v ≤ lev vars x.1 x.2
  tb : ∀ e, tab (fun e => vl x.1 e x.2) m v e = t
theorem prt_ok {vars : Int} : ∀ (m : Nat) (O : List Fk) (v : Int) (t : List Bool), Fm vars O → v = vars - m → 0 ≤ v → t.length = 2 ^ m → PrtOk vars O m v t (prt m O v t)
  | 0, O, v, t, f, hv, h0, ht => by
    have h2 : (if t.getD 0 false then (1 : Int) else 0) < 2 := by split <;> omega
    have h3 : 0 ≤ (if t.getD 0 false then (1 : Int) else 0) := by split <;> omega
    refine ⟨f, ⟨[], by simp [prt]⟩, ⟨h3, by show (if t.getD 0 false then (1 : Int) else 0) < 2 + (O.length : Int); omega⟩, by show v ≤ lev vars O (if t.getD 0 false then (1 : Int) else 0); rw [lev_const h2]; omega, fun e => ?_⟩
    show [vl O e (if t.getD 0 false then (1 : Int) else 0)] = t
    rw [vl_const h2]
    match t, ht with
    | [b], _ => cases b <;> rfl
  | m + 1, O, v, t, f, hv, h0, ht => by
    have hp : 2 ^ (m + 1) = 2 ^ m + 2 ^ m := by rw [Nat.pow_succ]; omega
    have e : t = t.take (2 ^ m) ++ t.drop (2 ^ m) := (List.take_append_drop _ _).symm
    have l1 : (t.take (2 ^ m)).length = 2 ^ m := by rw [List.length_take]; omega
    have l2 : (t.drop (2 ^ m)).length = 2 ^ m := by rw [List.length_drop]; omega
    rw [e]
    generalize t.take (2 ^ m) = t1 at l1
    generalize t.drop (2 ^ m) = t2 at l2
    rw [prt_node l1]
    have A := prt_ok m O (v + 1) t1 f (by omega) (by omega) l1
    have B := prt_ok m (prt m O (v + 1) t1).1 (v + 1) t2 A.fm (by omega) (by omega) l2
    generalize prt m O (v + 1) t1 = x at A B
    generalize prt m x.1 (v + 1) t2 = y at B
    obtain ⟨X1, e1⟩ := A.ext
    obtain ⟨X2, e2⟩ := B.ext
    have g2 : Fm vars (x.1 ++ X2) := e2 ▸ B.fm
    have ra : Rf y.1 x.2 := ⟨A.rf.1, by rw [e2, List.length_append]; have := A.rf.2; omega⟩
    have la : lev vars y.1 x.2 = lev vars x.1 x.2 := by rw [e2, lev_append A.rf.2]
    have va : ∀ e, vl y.1 e x.2 = vl x.1 e x.2 := fun e => by rw [e2]; exact vl_append A.fm g2 e x.2.toNat x.2 A.rf (by omega)
    have n := node_ok B.fm h0 (by omega) ra B.rf (by have := A.lv; omega) (by have := B.lv; omega)
    obtain ⟨X3, e3, _⟩ := n.ext
    refine ⟨n.fm, ⟨X1 ++ X2 ++ X3, by rw [e3, e2, e1]; simp⟩, n.rf, n.lv, fun e => ?_⟩
    show tab _ m (v + 1) (up e v false) ++ tab _ m (v + 1) (up e v true) = t1 ++ t2
    rw [tab_congr m (v + 1) (up e v false) (g := fun e => vl x.1 e x.2) fun e' he => ?_, tab_congr m (v + 1) (up e v true) (g := fun e => vl y.1 e y.2) fun e' he => ?_, A.tb, B.tb]
    · have : e' v = true := by rw [he v (by omega)]; exact if_pos rfl
      rw [n.vl, if_pos this]
    · have : e' v = false := by rw [he v (by omega)]; exact if_pos rfl
      rw [n.vl, if_neg (by rw [this]; simp), va]
theorem cF_prt {vars : Int} (h : 0 ≤ vars) (g : (Int → Bool) → Bool) : PrtOk vars [] vars.toNat 0 (tab g vars.toNat 0 (fun _ => false)) (cF vars g) :=
  prt_ok vars.toNat [] 0 _ fm_nil (by omega) (Int.le_refl _) (tab_len _ _ _ _)
theorem cF_form {vars : Int} (h : 0 ≤ vars) (g : (Int → Bool) → Bool) : Form vars (cF vars g).1 (cF vars g).2 := by
  have p := cF_prt h g
  exact ⟨p.fm, p.rf.1, by have := p.rf.2; omega⟩
/-- Laying out what was built changes nothing. -/
theorem cF_lay {vars : Int} (h : 0 ≤ vars) (g : (Int → Bool) → Bool) : layF (cF vars g).1 (cF vars g).2 = cF vars g := by
  have p := cF_prt h g
  rw [lay_cF p.fm p.rf h]
  unfold cF at p ⊢
  rw [p.tb]
theorem cF_ok {vars : Int} (h : 0 ≤ vars) (h2 : vars ≤ 40) (g : (Int → Bool) → Bool) (hl : (cF vars g).1.length ≤ 4096) : Ok vars (cF vars g).1 (cF vars g).2 :=
  ⟨⟨h, h2⟩, hl, cF_form h g, by rw [cF_lay h g], by rw [cF_lay h g]⟩
/-- What it stands for. -/
theorem cF_tab {vars : Int} (h : 0 ≤ vars) (g : (Int → Bool) → Bool) (e : Int → Bool) : tab (fun e => vl (cF vars g).1 e (cF vars g).2) vars.toNat 0 e = tab g vars.toNat 0 (fun _ => false) := (cF_prt h g).tb e
/- answers of Restrict -/
noncomputable def rsE (A : Dg) (i : Int) : Int := if vE [A] ≠ 0 then vE [A] else if i < 0 ∨ A.v ≤ i then 3 else 0
noncomputable def rsR (A : Dg) (i : Int) (b : Bool) : Dg := if rsE A i = 0 then rsD A i b else dg0
theorem rsE_v {A : Dg} {i : Int} {b : Bool} (h : vE [A] ≠ 0) : rsE A i = vE [A] ∧ rsR A i b = dg0 := by
  have e : rsE A i = vE [A] := by unfold rsE; rw [if_pos h]
  exact ⟨e, by unfold rsR; rw [if_neg (by rw [e]; exact h)]⟩
theorem rsE_3 {A : Dg} {i : Int} {b : Bool} (h : vE [A] = 0) (h2 : i < 0 ∨ A.v ≤ i) : rsE A i = 3 ∧ rsR A i b = dg0 := by
  have e : rsE A i = 3 := by unfold rsE; rw [if_neg (by omega), if_pos h2]
  exact ⟨e, by unfold rsR; rw [if_neg (by omega)]⟩
theorem rsE_0 {A : Dg} {i : Int} {b : Bool} (h : vE [A] = 0) (h2 : ¬ (i < 0 ∨ A.v ≤ i)) : rsE A i = 0 ∧ rsR A i b = rsD A i b := by
  have e : rsE A i = 0 := by unfold rsE; rw [if_neg (by omega), if_neg h2]
  exact ⟨e, by unfold rsR; rw [if_pos e]⟩
theorem ok_of {A : Dg} (h : vE [A] = 0) : Ok A.v A.N A.r := (vE_ok.1 h).1 0 (Int.le_refl _) (by show (0 : Int) < ((1 : Nat) : Int); omega)
end Go.Proofs.Ytgehdgeiikjohaa
