/- From the rows' readings of arguments to the facts that the walks ask for; from a contract to a call. No program in sight. -/
import Derived.Test.YtgehdgeiikjohaaVcN
import Derived.WalkKit
import Derived.ProofKit
import Derived.OpenShut
import Derived.ChangeOld
import Derived.Below
import Derived.Deep.Matrix
import Derived.Lib.SmallJoins
namespace Go.Vc
open Go Go.ChangeShapes Go.WideShapes Go.ChangeAt Go.RowKit

theorem law_calls {P : Program} {f : FuncId} {args : List Value} {W : World} {v : Value} (h : FnC P f args (hv W) [] (fun u _ _ => u = v)) :
    Calls P f args.toArray W fun e w' => e = .returned v ∧ Below W.heap.size W w' :=
  (h.run W [] trivial List.Pairwise.nil (Sub.refl _) (fun _ hh => by cases hh)).mono fun _ _ ⟨_, _, _, h1, h2, h3⟩ => ⟨by rw [h1, h2], h3.ext_of_none⟩

theorem sl_read {W : World} {a : Addr} {n cap : Nat} {vals : List Value} (hl : vals.length = n) (hn : n ≤ cap) (hm : cap ≤ maxLen) (h : ∀ i, i < n → W.cell? (a.add i) = vals[i]?) :
    Sl (hv W) (.slice (some a) n cap) vals := by
  refine ⟨some a, cap, by rw [hl], by omega, by simpa [maxLen] using hm, fun hne => ?_⟩
  have h0 : 0 < n := by rw [← hl]; exact List.length_pos_iff.2 hne
  have c0 := h 0 h0
  have e0 : a.add 0 = a := by simp [Addr.add]
  rw [e0, List.getElem?_eq_getElem (by omega)] at c0
  have hs := World.cell?_spot c0
  obtain ⟨b, off, spot⟩ := a
  simp only at hs
  subst hs
  have : ∃ cs T fz, hv W b = some (.cells cs T fz) := by
    unfold World.cell? at c0
    unfold hv
    split at c0
    · rename_i cs T fz hb; exact ⟨cs, T, fz, hb⟩
    · cases c0
  obtain ⟨cs, T, fz, hb⟩ := this
  exact ⟨b, off, cs, T, fz, rfl, hb, fun i hi => by rw [← add_cell (i := i) (off := off) hb]; exact h i (by omega)⟩

section
variable {H : Type} {enc : TypeId × Value → H} {P : Program} {W : World} {base : Nat} {held : Bool}

theorem getD_take {k : IntKind} {zs : List Int} {n i : Nat} (hi : i < n) (hn : n ≤ zs.length) : ((zs.take n).map (Value.int k))[i]? = some (.int k (zs.getD i 0)) := by
  rw [List.getElem?_map, List.getElem?_take, if_pos hi, List.getElem?_eq_getElem (by omega), List.getD_eq_getElem?_getD, List.getElem?_eq_getElem (by omega)]
  rfl

/-- A slice of integers that came in. -/
theorem read_ints {t q : TypeId} {k : IntKind} {fuel : Nat} {v : Value} {x : DataW H × List MemPlace} (ht : P.underlying t = some (.slice q)) (hq : P.underlying q = some (.int k)) (cq : P.cellsOf q = 1)
    {a0 : Option Addr} {n0 c0 : Nat} (hv0 : v = .slice a0 n0 c0) (h : DataW.trod enc P W base (fun _ => true) held fuel t v.cells.toList = some x) :
    ∃ xs : List Int, Ints k (hv W) v xs ∧ ∀ n ∈ xs, (Lit.int k n).wf = true := by
  subst hv0
  rcases open_ints ht hq cq h with ⟨hcs, _⟩ | ⟨a, l, c, zs, hcs, _, hl, hm, hz, _, hcell, hwz⟩
  · simp [Value.cells] at hcs
    obtain ⟨rfl, rfl, rfl⟩ := hcs
    exact ⟨[], Ints.nil, by simp⟩
  · simp [Value.cells] at hcs
    obtain ⟨rfl, rfl, rfl⟩ := hcs
    simp only [if_true] at hz
    refine ⟨zs.take n0, sl_read (by simp; omega) hl hm fun i hi => ?_, fun n hn => hwz n (List.mem_of_mem_take hn)⟩
    rw [hcell i (by omega), getD_take (zs := zs) hi (by omega)]

/-- A slice of slices of integers that came in. -/
theorem read_rows {t e q : TypeId} {k : IntKind} {fuel : Nat} {v : Value} {x : DataW H × List MemPlace} (ht : P.underlying t = some (.slice e)) (he : P.underlying e = some (.slice q)) (hq : P.underlying q = some (.int k))
    (ce : P.cellsOf e = 1) (cq : P.cellsOf q = 1) {a0 : Option Addr} {n0 c0 : Nat} (hv0 : v = .slice a0 n0 c0) (h : DataW.trod enc P W base (fun _ => true) held fuel t v.cells.toList = some x) :
    ∃ (rv : List Value) (L : List (List Int)), Mat k (hv W) v rv L ∧ ∀ r ∈ L, ∀ n ∈ r, (Lit.int k n).wf = true := by
  subst hv0
  rcases Go.Deep.open_int_rows ht he hq ce cq h with ⟨hcs, _⟩ | ⟨a, len, cap, A, L, C, Z, hcs, _, hl, hm, _, hr⟩
  · simp [Value.cells] at hcs
    obtain ⟨rfl, rfl, rfl⟩ := hcs
    exact ⟨[], [], Mat.nil, by simp⟩
  · simp [Value.cells] at hcs
    obtain ⟨rfl, rfl, rfl⟩ := hcs
    refine ⟨(List.range n0).map fun r => .slice (A r) (L r) (C r), (List.range n0).map fun r => (Z r).take (L r), ⟨sl_read (by simp) hl hm fun i hi => ?_, by simp, fun i h0 h1 => ?_⟩, fun r hrm n hn => ?_⟩
    · rw [(hr i (by omega)).1, List.getElem?_map, List.getElem?_range hi]; rfl
    · simp only [List.length_map, List.length_range] at h1
      have hi : i.toNat < n0 := by omega
      have e1 : gv ((List.range n0).map fun r => Value.slice (A r) (L r) (C r)) i = .slice (A i.toNat) (L i.toNat) (C i.toNat) := by
        simp [gv, List.getD_eq_getElem?_getD, List.getElem?_map, List.getElem?_range hi]
      rw [e1, gr_map_range _ _ _ h0 (by omega)]
      obtain ⟨_, r1, r2, r3, _, r5, r6⟩ := hr i.toNat (by omega)
      cases hA : A i.toNat with
      | none =>
        have hC := r5 hA
        have hL : L i.toNat = 0 := by omega
        rw [hC, hL]; exact Ints.nil
      | some a' =>
        refine sl_read (by simp; omega) r1 r2 fun j hj => ?_
        rw [(r6 a' hA).2 j (by omega), getD_take (zs := Z i.toNat) hj (by omega)]
    · obtain ⟨i, hi, rfl⟩ := List.mem_map.1 hrm
      exact (hr i (by have := List.mem_range.1 hi; omega)).2.2.2.2.1 n (List.mem_of_mem_take hn)
end
end Go.Vc
