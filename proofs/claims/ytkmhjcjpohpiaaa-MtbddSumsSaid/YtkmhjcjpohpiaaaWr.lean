import Derived.Test.YtkmhjcjpohpiaaaWa
import Derived.WalkKit
import Derived.ProofKit
import Derived.OpenShut
import Derived.ChangeOld
import Derived.Below
import Derived.Deep.Matrix
import Derived.Lib.SmallJoins
import Derived.Test.YtkmhjcjpohpiaaaWb
import Derived.Deep.Slices
/- Several texts in one. No program in sight. -/
/- From the rows' readings of arguments to the facts that the walks ask for; from a contract to a call. No program in sight. -/
namespace Go.Vc
open Go Go.ChangeShapes Go.WideShapes Go.ChangeAt Go.RowKit

theorem law_calls {P : Program} {f : FuncId} {args : List Value} {W : World} {v : Value} (h : FnC P f args (hv W) [] (fun u _ _ => u = v)) :
    Calls P f args.toArray W fun e w' => e = .returned v ∧ Below W.heap.size W w' :=
  (h.run W [] trivial List.Pairwise.nil (Sub.refl _) (fun _ hh => by cases hh)).mono fun _ _ ⟨_, _, _, h1, h2, h3⟩ => ⟨by rw [h1, h2], h3.ext_of_none⟩

theorem sl_read {W : World} {a : Addr} {n cap : Nat} {vals : List Value} (hl : vals.length = n) (hn : n ≤ cap) (hm : cap ≤ maxLen) (h : ∀ i, i < n → W.cell? (a.add i) = vals[i]?) :
    Sl (hv W) (.slice (some a) n cap) vals := by
  refine ⟨some a, cap, by rw [hl], by omega, by simpa [maxLen] using hm, fun hne => ?_⟩
  have h0 : 0 < n := by rw [← hl]; exact List.length_pos_iff.2 hne
  have c0 := h 0 h0
  have e0 : a.add 0 = a := by simp [Addr.add]
  rw [e0, List.getElem?_eq_getElem (by omega)] at c0
  have hs := World.cell?_spot c0
  obtain ⟨b, off, spot⟩ := a
  simp only at hs
  subst hs
  have : ∃ cs T fz, hv W b = some (.cells cs T fz) := by
    unfold World.cell? at c0
    unfold hv
    split at c0
    · rename_i cs T fz hb; exact ⟨cs, T, fz, hb⟩
    · cases c0
  obtain ⟨cs, T, fz, hb⟩ := this
  exact ⟨b, off, cs, T, fz, rfl, hb, fun i hi => by rw [← add_cell (i := i) (off := off) hb]; exact h i (by omega)⟩

section
variable {H : Type} {enc : TypeId × Value → H} {P : Program} {W : World} {base : Nat} {held : Bool}

theorem getD_take {k : IntKind} {zs : List Int} {n i : Nat} (hi : i < n) (hn : n ≤ zs.length) : ((zs.take n).map (Value.int k))[i]? = some (.int k (zs.getD i 0)) := by
  rw [List.getElem?_map, List.getElem?_take, if_pos hi, List.getElem?_eq_getElem (by omega), List.getD_eq_getElem?_getD, List.getElem?_eq_getElem (by omega)]
  rfl

/-- A slice of integers that came in. -/
theorem read_ints {t q : TypeId} {k : IntKind} {fuel : Nat} {v : Value} {x : DataW H × List MemPlace} (ht : P.underlying t = some (.slice q)) (hq : P.underlying q = some (.int k)) (cq : P.cellsOf q = 1)
    {a0 : Option Addr} {n0 c0 : Nat} (hv0 : v = .slice a0 n0 c0) (h : DataW.trod enc P W base (fun _ => true) held fuel t v.cells.toList = some x) :
    ∃ xs : List Int, Ints k (hv W) v xs ∧ ∀ n ∈ xs, (Lit.int k n).wf = true := by
  subst hv0
  rcases open_ints ht hq cq h with ⟨hcs, _⟩ | ⟨a, l, c, zs, hcs, _, hl, hm, hz, _, hcell, hwz⟩
  · simp [Value.cells] at hcs
    obtain ⟨rfl, rfl, rfl⟩ := hcs
    exact ⟨[], Ints.nil, by simp⟩
  · simp [Value.cells] at hcs
    obtain ⟨rfl, rfl, rfl⟩ := hcs
    simp only [if_true] at hz
    refine ⟨zs.take n0, sl_read (by simp; omega) hl hm fun i hi => ?_, fun n hn => hwz n (List.mem_of_mem_take hn)⟩
    rw [hcell i (by omega), getD_take (zs := zs) hi (by omega)]

end
end Go.Vc

/- Reading arguments that are structs of one field, and the bounds of integers that came in. No program in sight. -/
namespace Go.Vc
open Go Go.ChangeShapes Go.WideShapes Go.ChangeAt Go.RowKit Go.Deep
section
variable {H : Type} {enc : TypeId × Value → H} {P : Program} {w : World} {base : Nat} {spare : Nat → Bool} {held : Bool}
end
theorem wf_u8 {n : Int} (h : (Lit.int .u8 n).wf = true) : 0 ≤ n ∧ n ≤ 255 := by
  simp only [Lit.wf, Bool.and_eq_true, decide_eq_true_eq] at h; exact h
end Go.Vc

/- Reading arguments: slices of truth values, and slices of structs of three integers. No program in sight. -/
namespace Go.Vc
open Go Go.ChangeShapes Go.WideShapes Go.ChangeAt Go.RowKit Go.Deep
section
variable {H : Type} {enc : TypeId × Value → H} {P : Program} {W : World} {base : Nat} {held : Bool}
end
end Go.Vc

/- Reading arguments that are arrays of integers. No program in sight. -/
namespace Go.Vc
open Go Go.ChangeShapes Go.WideShapes Go.ChangeAt Go.RowKit
section
open Go.WideShapes
end
end Go.Vc
