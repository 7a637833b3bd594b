/- What the check of a diagram asks of a node. No program in sight. -/
import Derived.Test.YtgehdgeiikjohaaBdT
namespace Go.Proofs.Ytgehdgeiikjohaa
open Go Go.Vc
open Classical
theorem bool_dec (b : Bool) : Value.bool b = Value.bool (decide (b = true)) := by cases b <;> rfl
theorem qv_to {P : Program} {C : Cx} {o : Oper} {env : Env} {V : HV} {σ : Res} {v v' : Value} (e : v = v') (h : QV P C o env V σ v) : QV P C o env V σ v' := e ▸ h
/-- A reference below the node at place j. -/
def Chk (vars : Int) (N : List Fk) (j r : Int) : Prop := 0 ≤ r ∧ r ≤ 1 + j ∧ (fk N j).v < lev vars N r
def Nok (vars : Int) (N : List Fk) (j : Int) : Prop :=
  0 ≤ (fk N j).v ∧ (fk N j).v < vars ∧ (fk N j).l ≠ (fk N j).h ∧ (∀ k : Int, 0 ≤ k → k < j → fk N k ≠ fk N j) ∧ Chk vars N j (fk N j).l ∧ Chk vars N j (fk N j).h
theorem fm_nok {vars : Int} {N : List Fk} (f : Fm vars N) {j : Int} (h0 : 0 ≤ j) (h1 : j < N.length) : Nok vars N j := by
  have e : nd N (2 + j) = fk N j := by rw [nd_fk, show (2 + j - 2 : Int) = j by omega]
  have a := f.vr (2 + j) (by omega) (by omega)
  have b := f.ne (2 + j) (by omega) (by omega)
  have c := f.lo (2 + j) (by omega) (by omega)
  have d := f.hi (2 + j) (by omega) (by omega)
  rw [e] at a b c d
  refine ⟨a.1, a.2, b, fun k k0 k1 q => ?_, ⟨c.1, by omega, c.2.2⟩, ⟨d.1, by omega, d.2.2⟩⟩
  have := f.uq (2 + k) (2 + j) (by omega) (by omega) (by omega) (by omega) (by rw [nd_fk, nd_fk, show (2 + k - 2 : Int) = k by omega, show (2 + j - 2 : Int) = j by omega]; exact q)
  omega
theorem nok_fm {vars : Int} {N : List Fk} (h : ∀ j : Int, 0 ≤ j → j < N.length → Nok vars N j) : Fm vars N where
  vr := fun r h0 h1 => by have := h (r - 2) (by omega) (by omega); exact ⟨this.1, this.2.1⟩
  ne := fun r h0 h1 => (h (r - 2) (by omega) (by omega)).2.2.1
  lo := fun r h0 h1 => by have := (h (r - 2) (by omega) (by omega)).2.2.2.2.1; rw [nd_fk]; exact ⟨this.1, by have := this.2.1; omega, this.2.2⟩
  hi := fun r h0 h1 => by have := (h (r - 2) (by omega) (by omega)).2.2.2.2.2; rw [nd_fk]; exact ⟨this.1, by have := this.2.1; omega, this.2.2⟩
  uq := fun r s r0 r1 s0 s1 e => by
    rw [nd_fk, nd_fk] at e
    by_cases q : r < s
    · exact absurd e ((h (s - 2) (by omega) (by omega)).2.2.2.1 (r - 2) (by omega) (by omega))
    · by_cases q2 : s < r
      · exact absurd e.symm ((h (r - 2) (by omega) (by omega)).2.2.2.1 (s - 2) (by omega) (by omega))
      · omega
def Form (vars : Int) (N : List Fk) (root : Int) : Prop := Fm vars N ∧ 0 ≤ root ∧ root ≤ 1 + N.length
/- the nodes that were seen -/
noncomputable def seenB (N : List Fk) (i : Nat) : Fk → Option Bool := fun n => if n ∈ N.take i then some true else none
theorem seenB_0 (N : List Fk) : seenB N 0 = fun _ => none := funext fun n => by unfold seenB; rw [if_neg (by simp)]
theorem fk_mem {N : List Fk} {n : Fk} {i : Nat} : n ∈ N.take i ↔ ∃ k : Int, 0 ≤ k ∧ k < i ∧ k < N.length ∧ fk N k = n := by
  constructor
  · intro h
    obtain ⟨k, hk, e⟩ := List.getElem_of_mem h
    have hk2 : k < i ∧ k < N.length := by simp at hk; omega
    refine ⟨k, by omega, by omega, by omega, ?_⟩
    rw [List.getElem_take] at e
    show N.getD _ _ = _
    rw [List.getD_eq_getElem?_getD, show (k : Int).toNat = k by omega, List.getElem?_eq_getElem hk2.2]; exact e
  · rintro ⟨k, h0, h1, h2, rfl⟩
    have h3 : k.toNat < N.length := by omega
    have e : fk N k = (N.take i)[k.toNat]'(by simp; omega) := by
      rw [List.getElem_take]
      show N.getD _ _ = _
      rw [List.getD_eq_getElem?_getD, List.getElem?_eq_getElem h3]; rfl
    rw [e]; exact List.getElem_mem _
theorem seenB_iff {N : List Fk} {n : Fk} {i : Nat} : (seenB N i n).getD false = true ↔ ∃ k : Int, 0 ≤ k ∧ k < i ∧ k < N.length ∧ fk N k = n := by
  rw [← fk_mem]
  unfold seenB
  by_cases h : n ∈ N.take i
  · rw [if_pos h]; simp [h]
  · rw [if_neg h]; simp [h]
theorem seenB_step {N : List Fk} {i : Int} (h0 : 0 ≤ i) (h1 : i < N.length) : setF (seenB N i.toNat) (fk N i) true = seenB N (i + 1).toNat := by
  funext n
  have key : n ∈ N.take (i + 1).toNat ↔ n = fk N i ∨ n ∈ N.take i.toNat := by
    rw [fk_mem, fk_mem]
    constructor
    · rintro ⟨k, a, b, c, rfl⟩
      by_cases q : k = i
      · subst q; exact Or.inl rfl
      · exact Or.inr ⟨k, a, by omega, c, rfl⟩
    · rintro (rfl | ⟨k, a, b, c, rfl⟩)
      · exact ⟨i, h0, by omega, h1, rfl⟩
      · exact ⟨k, a, by omega, c, rfl⟩
  unfold seenB
  by_cases e : n = fk N i
  · subst e; rw [setF_same, if_pos (key.2 (Or.inl rfl))]
  · rw [setF_other e]
    by_cases q : n ∈ N.take i.toNat
    · rw [if_pos q, if_pos (key.2 (Or.inr q))]
    · rw [if_neg q, if_neg (fun z => (key.1 z).elim e q)]
theorem gi_2 {a b x : Int} (h0 : 0 ≤ x) (h1 : x < 2) : gi [a, b] x = if x = 0 then a else b := by
  by_cases e : x = 0
  · subst e; rfl
  · have : x = 1 := by omega
    subst this; rfl
theorem fm_chk {vars : Int} {N : List Fk} (f : Fm vars N) {i x : Int} (h0 : 0 ≤ i) (h1 : i < N.length) (x0 : 0 ≤ x) (x1 : x < 2) : Chk vars N i (gi [(fk N i).l, (fk N i).h] x) := by
  have hn := fm_nok f h0 h1
  rw [gi_2 x0 x1]
  by_cases e : x = 0
  · rw [if_pos e]; exact hn.2.2.2.2.1
  · rw [if_neg e]; exact hn.2.2.2.2.2
theorem fk_eq3 {a b : Fk} (h : a.v = b.v ∧ a.l = b.l ∧ a.h = b.h) : a = b := Fk.eq h.1 h.2.1 h.2.2
theorem ext_fk {A B : List Fk} (hl : A.length = B.length) (h : ∀ x : Int, 0 ≤ x → x < A.length → fk A x = fk B x) : A = B := by
  refine List.ext_getElem hl fun i h1 h2 => ?_
  have := h i (by omega) (by omega)
  unfold fk at this
  rw [List.getD_eq_getElem?_getD, List.getD_eq_getElem?_getD, show (i : Int).toNat = i by omega, List.getElem?_eq_getElem h1, List.getElem?_eq_getElem h2] at this
  exact this
/-- A valid diagram. -/
def Ok (vars : Int) (N : List Fk) (root : Int) : Prop := (0 ≤ vars ∧ vars ≤ 40) ∧ N.length ≤ 4096 ∧ Form vars N root ∧ (layF N root).1 = N ∧ (layF N root).2 = root
noncomputable def chkC (vars : Int) (N : List Fk) (root : Int) : Int := if vars < 0 ∨ 40 < vars then 3 else if 4096 < N.length then 4 else if Ok vars N root then 0 else 1
section
variable {vars root : Int} {N : List Fk}
theorem chk_3 (h : vars < 0 ∨ 40 < vars) : chkC vars N root = 3 := if_pos h
theorem chk_4 (h : ¬ (vars < 0 ∨ 40 < vars)) (h2 : 4096 < N.length) : chkC vars N root = 4 := by unfold chkC; rw [if_neg h, if_pos h2]
theorem chk_1 (h : ¬ (vars < 0 ∨ 40 < vars)) (h2 : ¬ 4096 < N.length) (h3 : ¬ Ok vars N root) : chkC vars N root = 1 := by unfold chkC; rw [if_neg h, if_neg h2, if_neg h3]
theorem chk_0 (h : Ok vars N root) : chkC vars N root = 0 := by
  have h1 := h.1
  have h2 := h.2.1
  unfold chkC; rw [if_neg (by omega), if_neg (by omega), if_pos h]
theorem chk_ok : chkC vars N root = 0 ↔ Ok vars N root := by
  refine ⟨fun h => ?_, chk_0⟩
  unfold chkC at h
  by_cases h1 : vars < 0 ∨ 40 < vars
  · rw [if_pos h1] at h; omega
  · rw [if_neg h1] at h
    by_cases h2 : 4096 < N.length
    · rw [if_pos h2] at h; omega
    · rw [if_neg h2] at h
      by_cases h3 : Ok vars N root
      · exact h3
      · rw [if_neg h3] at h; omega
theorem Form.rf (h : Form vars N root) : Rf N root := ⟨h.2.1, by have := h.2.2; omega⟩
end
end Go.Proofs.Ytgehdgeiikjohaa
