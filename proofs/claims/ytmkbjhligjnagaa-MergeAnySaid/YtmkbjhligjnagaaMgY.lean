/- The number of different outputs, counted by sorting. No program in sight. -/
import Derived.Test.YtmkbjhligjnagaaMgT
import Derived.Lib.SlicesCompact
namespace Go.Proofs.Ytmkbjhligjnagaa
open Go Go.Vc
open Classical
abbrev srt (L : List Int) : List Int := L.mergeSort fun x y => decide (x ≤ y)
/-- Strictly ascending. -/
def Asc : List Int → Prop
  | [] => True
  | x :: t => (∀ y ∈ t, x < y) ∧ Asc t
theorem asc_snoc {x : Int} : ∀ {l : List Int}, Asc l → (∀ y ∈ l, y < x) → Asc (l ++ [x])
  | [], _, _ => ⟨fun _ h => (by cases h), trivial⟩
  | z :: t, h, hx => ⟨fun y hy => by
      rcases List.mem_append.1 hy with q | q
      · exact h.1 y q
      · rw [List.mem_singleton.1 q]; exact hx z (List.mem_cons_self ..), asc_snoc h.2 fun y hy => hx y (List.mem_cons_of_mem _ hy)⟩
/-- Compacting a list in ascending order. -/
theorem compact_asc {Z : List Int} (hs : ∀ i j : Nat, i ≤ j → j < Z.length → Z.toArray[i]! ≤ Z.toArray[j]!) : ∀ m : Nat, m ≤ Z.length → Asc (Lib.compactUpTo Z.toArray m) ∧ (∀ x, x ∈ Lib.compactUpTo Z.toArray m ↔ ∃ i, i < m ∧ Z.toArray[i]! = x)
  | 0, _ => ⟨by simp [Lib.compactUpTo, Asc], fun x => by simp [Lib.compactUpTo]⟩
  | m + 1, hm => by
    obtain ⟨ha, hx⟩ := compact_asc hs m (by omega)
    rw [Lib.compactUpTo_succ]
    by_cases hk : Lib.keeps Z.toArray m = true
    · rw [if_pos hk]
      refine ⟨asc_snoc ha fun y hy => ?_, fun x => ?_⟩
      · obtain ⟨i, hi, rfl⟩ := (hx y).1 hy
        have h1 := hs i (m - 1) (by omega) (by omega)
        have h2 := hs (m - 1) m (by omega) (by omega)
        simp only [Lib.keeps, decide_eq_true_eq] at hk
        rcases hk with q | q
        · omega
        · have q : Z.toArray[m]! ≠ Z.toArray[m - 1]! := q
          omega
      · rw [List.mem_append, hx, List.mem_singleton]
        constructor
        · rintro (⟨i, hi, e⟩ | e)
          · exact ⟨i, by omega, e⟩
          · exact ⟨m, by omega, e.symm⟩
        · rintro ⟨i, hi, e⟩
          by_cases q : i = m
          · right; rw [← e, q]
          · left; exact ⟨i, by omega, e⟩
    · rw [if_neg hk, List.append_nil]
      refine ⟨ha, fun x => ?_⟩
      rw [hx]
      simp only [Lib.keeps, decide_eq_true_eq] at hk
      have hm0 : m ≠ 0 := fun q => hk (.inl q)
      have he : Z.toArray[m]! = Z.toArray[m - 1]! := Classical.byContradiction fun q => hk (.inr q)
      constructor
      · rintro ⟨i, hi, e⟩; exact ⟨i, by omega, e⟩
      · rintro ⟨i, hi, e⟩
        by_cases q : i = m
        · exact ⟨m - 1, by omega, by rw [← e, q, he]⟩
        · exact ⟨i, by omega, e⟩
theorem srt_len (L : List Int) : (srt L).length = L.length := List.length_mergeSort _
theorem srt_le (L : List Int) : ∀ i j : Nat, i ≤ j → j < (srt L).length → (srt L).toArray[i]! ≤ (srt L).toArray[j]! := fun i j hij hj => by
  have hs := List.pairwise_mergeSort (le := fun x y : Int => decide (x ≤ y)) (fun a b c h1 h2 => by simp at *; omega) (fun a b => by simp; omega) L
  have hp := List.pairwise_iff_getElem.1 hs
  have hi : i < (srt L).length := by omega
  simp only [List.getElem!_toArray]
  rw [getElem!_pos (srt L) i hi, getElem!_pos (srt L) j hj]
  by_cases e : i = j
  · subst e; exact Int.le_refl _
  · have h := hp i j hi hj (by omega)
    exact of_decide_eq_true h
theorem cs_law (L : List Int) : Asc (Lib.compact (srt L)) ∧ ∀ x, x ∈ Lib.compact (srt L) ↔ x ∈ L := by
  obtain ⟨a, b⟩ := compact_asc (srt_le L) (srt L).length (Nat.le_refl _)
  refine ⟨a, fun x => ?_⟩
  show x ∈ Lib.compactUpTo (srt L).toArray (srt L).length ↔ _
  rw [b, ← List.mem_mergeSort (le := fun x y : Int => decide (x ≤ y)) (l := L)]
  show _ ↔ x ∈ srt L
  constructor
  · rintro ⟨i, hi, e⟩
    rw [← e, List.getElem!_toArray, getElem!_pos (srt L) i hi]
    exact List.getElem_mem hi
  · intro h
    obtain ⟨i, hi, e⟩ := List.mem_iff_getElem.1 h
    exact ⟨i, hi, by rw [List.getElem!_toArray, getElem!_pos (srt L) i hi]; exact e⟩
/-- The numbers below n with a property. -/
noncomputable def supN (P : Int → Prop) : Nat → List Int
  | 0 => []
  | n + 1 => supN P n ++ (if P n then [(n : Int)] else [])
theorem asc_nod : ∀ {l : List Int}, Asc l → l.Nodup
  | [], _ => List.nodup_nil
  | x :: l, h => List.nodup_cons.2 ⟨fun q => by have := h.1 x q; omega, asc_nod h.2⟩
/-- The first outputs of each kind. -/
noncomputable def frs (G : List Int) : Nat → List Int
  | 0 => []
  | m + 1 => if IsNew G m then frs G m ++ [gi G m] else frs G m
theorem frs_len (G : List Int) : ∀ m : Nat, ((frs G m).length : Int) = kindsN G m
  | 0 => rfl
  | m + 1 => by
    have ih := frs_len G m
    simp only [frs, kindsN]
    by_cases h : IsNew G m
    · rw [if_pos h, if_pos h, List.length_append]; show ((_ + 1 : Nat) : Int) = _; omega
    · rw [if_neg h, if_neg h]; exact ih
theorem frs_mem (G : List Int) {x : Int} : ∀ m : Nat, x ∈ frs G m ↔ ∃ p : Int, 0 ≤ p ∧ p < m ∧ gi G p = x
  | 0 => ⟨fun h => by simp [frs] at h, fun ⟨p, a, b, _⟩ => by omega⟩
  | m + 1 => by
    have ih := frs_mem G (x := x) m
    simp only [frs]
    by_cases h : IsNew G m
    · rw [if_pos h, List.mem_append, ih, List.mem_singleton]
      constructor
      · rintro (⟨p, a, b, c⟩ | e)
        · exact ⟨p, a, by omega, c⟩
        · exact ⟨(m : Int), by omega, by omega, e.symm⟩
      · rintro ⟨p, a, b, c⟩
        by_cases q : p = m
        · right; rw [← c, q]
        · left; exact ⟨p, a, by omega, c⟩
    · rw [if_neg h, ih]
      constructor
      · rintro ⟨p, a, b, c⟩; exact ⟨p, a, by omega, c⟩
      · rintro ⟨p, a, b, c⟩
        by_cases q : p = m
        · subst q
          obtain ⟨y, hy⟩ := Classical.not_forall.1 h
          obtain ⟨y0, hy⟩ := Classical.not_forall.1 hy
          obtain ⟨y1, hy⟩ := Classical.not_forall.1 hy
          exact ⟨y, y0, y1, by have := Classical.not_not.1 hy; omega⟩
        · exact ⟨p, a, by omega, c⟩
theorem frs_nod (G : List Int) : ∀ m : Nat, (frs G m).Nodup
  | 0 => List.nodup_nil
  | m + 1 => by
    have ih := frs_nod G m
    simp only [frs]
    by_cases h : IsNew G m
    · rw [if_pos h, List.nodup_append]
      refine ⟨ih, by simp, fun a ha b hb e => ?_⟩
      rw [List.mem_singleton.1 hb] at e
      obtain ⟨p, p0, p1, q⟩ := (frs_mem G m).1 ha
      have := h p p0 p1
      omega
    · rw [if_neg h]; exact ih
theorem gi_memI {l : List Int} {x : Int} : x ∈ l ↔ ∃ p : Int, 0 ≤ p ∧ p < l.length ∧ gi l p = x := by
  constructor
  · intro h
    obtain ⟨i, hi, e⟩ := List.getElem_of_mem h
    refine ⟨(i : Int), by omega, by omega, ?_⟩
    unfold gi; rw [List.getD_eq_getElem?_getD, Int.toNat_natCast, List.getElem?_eq_getElem hi]; exact e
  · rintro ⟨p, a, b, e⟩
    unfold gi at e
    rw [List.getD_eq_getElem?_getD, List.getElem?_eq_getElem (by omega)] at e
    rw [← e]; exact List.getElem_mem _
theorem kinds_len (G : List Int) : kindsN G G.length = ((Lib.compact (srt G)).length : Int) := by
  rw [← frs_len]
  have h := (List.perm_ext_iff_of_nodup (frs_nod G G.length) (asc_nod (cs_law G).1)).2 fun x => by
    rw [frs_mem, (cs_law G).2, gi_memI]
  rw [h.length_eq]
end Go.Proofs.Ytmkbjhligjnagaa
