/- The list of the variables that a diagram looks at. No program in sight. -/
import Derived.Test.YtgehdgeiikjohaaBdR
import Derived.Lib.SlicesCompact
namespace Go.Proofs.Ytgehdgeiikjohaa
open Go Go.Vc
open Classical
/-- Strictly ascending. -/
def Asc : List Int → Prop
  | [] => True
  | x :: t => (∀ y ∈ t, x < y) ∧ Asc t
theorem asc_snoc {x : Int} : ∀ {l : List Int}, Asc l → (∀ y ∈ l, y < x) → Asc (l ++ [x])
  | [], _, _ => ⟨fun _ h => (by cases h), trivial⟩
  | z :: t, h, hx => ⟨fun y hy => by
      rcases List.mem_append.1 hy with q | q
      · exact h.1 y q
      · rw [List.mem_singleton.1 q]; exact hx z (List.mem_cons_self ..), asc_snoc h.2 fun y hy => hx y (List.mem_cons_of_mem _ hy)⟩
theorem asc_ext : ∀ {a b : List Int}, Asc a → Asc b → (∀ x, x ∈ a ↔ x ∈ b) → a = b
  | [], [], _, _, _ => rfl
  | [], y :: b, _, _, h => by have := (h y).2 (List.mem_cons_self ..); cases this
  | x :: a, [], _, _, h => by have := (h x).1 (List.mem_cons_self ..); cases this
  | x :: a, y :: b, ha, hb, h => by
    have hxy : x = y := by
      rcases List.mem_cons.1 ((h x).1 (List.mem_cons_self ..)) with q | q
      · exact q
      · rcases List.mem_cons.1 ((h y).2 (List.mem_cons_self ..)) with q2 | q2
        · exact q2.symm
        · have h1 := hb.1 x q; have h2 := ha.1 y q2; omega
    subst hxy
    rw [asc_ext ha.2 hb.2 fun z => ⟨fun q => by
      rcases List.mem_cons.1 ((h z).1 (List.mem_cons_of_mem _ q)) with w | w
      · have := ha.1 z q; omega
      · exact w, fun q => by
      rcases List.mem_cons.1 ((h z).2 (List.mem_cons_of_mem _ q)) with w | w
      · have := hb.1 z q; omega
      · exact w⟩]
/-- Compacting a list in ascending order. -/
theorem compact_asc {Z : List Int} (hs : ∀ i j : Nat, i ≤ j → j < Z.length → Z.toArray[i]! ≤ Z.toArray[j]!) : ∀ m : Nat, m ≤ Z.length → Asc (Lib.compactUpTo Z.toArray m) ∧ (∀ x, x ∈ Lib.compactUpTo Z.toArray m ↔ ∃ i, i < m ∧ Z.toArray[i]! = x)
  | 0, _ => ⟨by simp [Lib.compactUpTo, Asc], fun x => by simp [Lib.compactUpTo]⟩
  | m + 1, hm => by
    obtain ⟨ha, hx⟩ := compact_asc hs m (by omega)
    rw [Lib.compactUpTo_succ]
    by_cases hk : Lib.keeps Z.toArray m = true
    · rw [if_pos hk]
      refine ⟨asc_snoc ha fun y hy => ?_, fun x => ?_⟩
      · obtain ⟨i, hi, rfl⟩ := (hx y).1 hy
        have h1 := hs i (m - 1) (by omega) (by omega)
        have h2 := hs (m - 1) m (by omega) (by omega)
        simp only [Lib.keeps, decide_eq_true_eq] at hk
        rcases hk with q | q
        · omega
        · have q : Z.toArray[m]! ≠ Z.toArray[m - 1]! := q
          omega
      · rw [List.mem_append, hx, List.mem_singleton]
        constructor
        · rintro (⟨i, hi, e⟩ | e)
          · exact ⟨i, by omega, e⟩
          · exact ⟨m, by omega, e.symm⟩
        · rintro ⟨i, hi, e⟩
          by_cases q : i = m
          · right; rw [← e, q]
          · left; exact ⟨i, by omega, e⟩
    · rw [if_neg hk, List.append_nil]
      refine ⟨ha, fun x => ?_⟩
      rw [hx]
      simp only [Lib.keeps, decide_eq_true_eq] at hk
      have hm0 : m ≠ 0 := fun q => hk (.inl q)
      have he : Z.toArray[m]! = Z.toArray[m - 1]! := Classical.byContradiction fun q => hk (.inr q)
      constructor
      · rintro ⟨i, hi, e⟩; exact ⟨i, by omega, e⟩
      · rintro ⟨i, hi, e⟩
        by_cases q : i = m
        · exact ⟨m - 1, by omega, by rw [← e, q, he]⟩
        · exact ⟨i, by omega, e⟩
def srt (L : List Int) : List Int := L.mergeSort fun x y => decide (x ≤ y)
theorem srt_len (L : List Int) : (srt L).length = L.length := List.length_mergeSort _
theorem srt_le (L : List Int) : ∀ i j : Nat, i ≤ j → j < (srt L).length → (srt L).toArray[i]! ≤ (srt L).toArray[j]! := fun i j hij hj => by
  have hs := List.pairwise_mergeSort (le := fun x y : Int => decide (x ≤ y)) (fun a b c h1 h2 => by simp at *; omega) (fun a b => by simp; omega) L
  have hp := List.pairwise_iff_getElem.1 hs
  have hi : i < (srt L).length := by omega
  simp only [List.getElem!_toArray]
  rw [getElem!_pos (srt L) i hi, getElem!_pos (srt L) j hj]
  by_cases e : i = j
  · subst e; exact Int.le_refl _
  · have h := hp i j hi hj (by omega)
    exact of_decide_eq_true h
theorem cs_law (L : List Int) : Asc (Lib.compact (srt L)) ∧ ∀ x, x ∈ Lib.compact (srt L) ↔ x ∈ L := by
  obtain ⟨a, b⟩ := compact_asc (srt_le L) (srt L).length (Nat.le_refl _)
  refine ⟨a, fun x => ?_⟩
  show x ∈ Lib.compactUpTo (srt L).toArray (srt L).length ↔ _
  rw [b, ← List.mem_mergeSort (le := fun x y : Int => decide (x ≤ y)) (l := L)]
  show _ ↔ x ∈ srt L
  constructor
  · rintro ⟨i, hi, e⟩
    rw [← e, List.getElem!_toArray, getElem!_pos (srt L) i hi]
    exact List.getElem_mem hi
  · intro h
    obtain ⟨i, hi, e⟩ := List.mem_iff_getElem.1 h
    exact ⟨i, hi, by rw [List.getElem!_toArray, getElem!_pos (srt L) i hi]; exact e⟩
/-- The numbers below n with a property. -/
noncomputable def supN (P : Int → Prop) : Nat → List Int
  | 0 => []
  | n + 1 => supN P n ++ (if P n then [(n : Int)] else [])
theorem supN_mem {P : Int → Prop} : ∀ (n : Nat) (x : Int), x ∈ supN P n ↔ 0 ≤ x ∧ x < n ∧ P x
  | 0, x => by simp [supN]; intro a b; omega
  | n + 1, x => by
    show x ∈ supN P n ++ _ ↔ _
    rw [List.mem_append, supN_mem n x]
    by_cases h : P n
    · rw [if_pos h, List.mem_singleton]
      constructor
      · rintro (q | q)
        · exact ⟨q.1, by have := q.2.1; omega, q.2.2⟩
        · subst q; exact ⟨by omega, by omega, h⟩
      · rintro ⟨a, b, c⟩
        by_cases q : x = n
        · exact .inr q
        · exact .inl ⟨a, by omega, c⟩
    · rw [if_neg h]
      constructor
      · rintro (q | q)
        · exact ⟨q.1, by have := q.2.1; omega, q.2.2⟩
        · cases q
      · rintro ⟨a, b, c⟩
        by_cases q : x = n
        · subst q; exact absurd c h
        · exact .inl ⟨a, by omega, c⟩
theorem supN_asc {P : Int → Prop} : ∀ n : Nat, Asc (supN P n)
  | 0 => trivial
  | n + 1 => by
    show Asc (supN P n ++ _)
    by_cases h : P n
    · rw [if_pos h]
      exact asc_snoc (supN_asc n) fun y hy => ((supN_mem n y).1 hy).2.1
    · rw [if_neg h, List.append_nil]; exact supN_asc n
theorem supN_len {P : Int → Prop} : ∀ n : Nat, (supN P n).length ≤ n
  | 0 => Nat.le_refl _
  | n + 1 => by
    have := supN_len (P := P) n
    show (supN P n ++ _).length ≤ _
    by_cases h : P n
    · rw [if_pos h, List.length_append]; show _ + 1 ≤ _; omega
    · rw [if_neg h, List.append_nil]; omega
theorem supN_t {P : Int → Prop} {n : Int} (h0 : 0 ≤ n) (h : P n) : supN P (n + 1).toNat = supN P n.toNat ++ [n] := by
  rw [show (n + 1).toNat = n.toNat + 1 by omega]
  show supN P n.toNat ++ (if P (n.toNat : Int) then [(n.toNat : Int)] else []) = _
  rw [show ((n.toNat : Nat) : Int) = n by omega, if_pos h]
theorem supN_f {P : Int → Prop} {n : Int} (h0 : 0 ≤ n) (h : ¬ P n) : supN P (n + 1).toNat = supN P n.toNat := by
  rw [show (n + 1).toNat = n.toNat + 1 by omega]
  show supN P n.toNat ++ (if P (n.toNat : Int) then [(n.toNat : Int)] else []) = _
  rw [show ((n.toNat : Nat) : Int) = n by omega, if_neg h, List.append_nil]
/-- The variables of the nodes, in order. -/
def suL (A : Dg) : List Int := Lib.compact (srt (A.N.map Fk.v))
def SuP (A : Dg) (i : Int) : Prop := ¬ tbl A.v (fun e => gA A (up e i false)) = tbl A.v (fun e => gA A (up e i true))
theorem suL_law {A : Dg} (h : dOk A) : suL A = supN (SuP A) A.v.toNat := by
  obtain ⟨a, b⟩ := cs_law (A.N.map Fk.v)
  have hv := h.1.1
  refine asc_ext a (supN_asc _) fun x => ?_
  show x ∈ Lib.compact (srt (A.N.map Fk.v)) ↔ _
  rw [b, supN_mem]
  have s := sup_law h x
  constructor
  · intro q
    obtain ⟨n, hn, e⟩ := List.mem_map.1 q
    obtain ⟨i, hi, e2⟩ := List.mem_iff_getElem.1 hn
    have f := h.2.2.1.1
    have hb := f.vr (2 + i) (by omega) (by omega)
    have e3 : nd A.N (2 + i) = n := by
      unfold nd
      rw [List.getD_eq_getElem?_getD, show ((2 : Int) + i - 2).toNat = i by omega, List.getElem?_eq_getElem hi, e2]; rfl
    rw [e3, e] at hb
    exact ⟨hb.1, by omega, s.1 ⟨n, hn, e⟩⟩
  · rintro ⟨_, _, q⟩
    obtain ⟨n, hn, e⟩ := s.2 q
    exact List.mem_map.2 ⟨n, hn, e⟩
end Go.Proofs.Ytgehdgeiikjohaa
