/- Several texts in one. No program in sight. -/
import Derived.Test.YtmkbjhligjnagaaWa
import Derived.WalkKit
import Derived.ProofKit
import Derived.OpenShut
import Derived.ChangeOld
import Derived.Below
import Derived.Deep.Matrix
import Derived.Lib.SmallJoins
import Derived.Test.YtmkbjhligjnagaaWb
import Derived.Deep.Slices
/- From the rows' readings of arguments to the facts that the walks ask for; from a contract to a call. No program in sight. -/
namespace Go.Vc
open Go Go.ChangeShapes Go.WideShapes Go.ChangeAt Go.RowKit

theorem law_calls {P : Program} {f : FuncId} {args : List Value} {W : World} {v : Value} (h : FnC P f args (hv W) [] (fun u _ _ => u = v)) :
    Calls P f args.toArray W fun e w' => e = .returned v ∧ Below W.heap.size W w' :=
  (h.run W [] trivial List.Pairwise.nil (Sub.refl _) (fun _ hh => by cases hh)).mono fun _ _ ⟨_, _, _, h1, h2, h3⟩ => ⟨by rw [h1, h2], h3.ext_of_none⟩

theorem sl_read {W : World} {a : Addr} {n cap : Nat} {vals : List Value} (hl : vals.length = n) (hn : n ≤ cap) (hm : cap ≤ maxLen) (h : ∀ i, i < n → W.cell? (a.add i) = vals[i]?) :
    Sl (hv W) (.slice (some a) n cap) vals := by
  refine ⟨some a, cap, by rw [hl], by omega, by simpa [maxLen] using hm, fun hne => ?_⟩
  have h0 : 0 < n := by rw [← hl]; exact List.length_pos_iff.2 hne
  have c0 := h 0 h0
  have e0 : a.add 0 = a := by simp [Addr.add]
  rw [e0, List.getElem?_eq_getElem (by omega)] at c0
  have hs := World.cell?_spot c0
  obtain ⟨b, off, spot⟩ := a
  simp only at hs
  subst hs
  have : ∃ cs T fz, hv W b = some (.cells cs T fz) := by
    unfold World.cell? at c0
    unfold hv
    split at c0
    · rename_i cs T fz hb; exact ⟨cs, T, fz, hb⟩
    · cases c0
  obtain ⟨cs, T, fz, hb⟩ := this
  exact ⟨b, off, cs, T, fz, rfl, hb, fun i hi => by rw [← add_cell (i := i) (off := off) hb]; exact h i (by omega)⟩

section
variable {H : Type} {enc : TypeId × Value → H} {P : Program} {W : World} {base : Nat} {held : Bool}

theorem getD_take {k : IntKind} {zs : List Int} {n i : Nat} (hi : i < n) (hn : n ≤ zs.length) : ((zs.take n).map (Value.int k))[i]? = some (.int k (zs.getD i 0)) := by
  rw [List.getElem?_map, List.getElem?_take, if_pos hi, List.getElem?_eq_getElem (by omega), List.getD_eq_getElem?_getD, List.getElem?_eq_getElem (by omega)]
  rfl

/-- A slice of integers that came in. -/
theorem read_ints {t q : TypeId} {k : IntKind} {fuel : Nat} {v : Value} {x : DataW H × List MemPlace} (ht : P.underlying t = some (.slice q)) (hq : P.underlying q = some (.int k)) (cq : P.cellsOf q = 1)
    {a0 : Option Addr} {n0 c0 : Nat} (hv0 : v = .slice a0 n0 c0) (h : DataW.trod enc P W base (fun _ => true) held fuel t v.cells.toList = some x) :
    ∃ xs : List Int, Ints k (hv W) v xs ∧ ∀ n ∈ xs, (Lit.int k n).wf = true := by
  subst hv0
  rcases open_ints ht hq cq h with ⟨hcs, _⟩ | ⟨a, l, c, zs, hcs, _, hl, hm, hz, _, hcell, hwz⟩
  · simp [Value.cells] at hcs
    obtain ⟨rfl, rfl, rfl⟩ := hcs
    exact ⟨[], Ints.nil, by simp⟩
  · simp [Value.cells] at hcs
    obtain ⟨rfl, rfl, rfl⟩ := hcs
    simp only [if_true] at hz
    refine ⟨zs.take n0, sl_read (by simp; omega) hl hm fun i hi => ?_, fun n hn => hwz n (List.mem_of_mem_take hn)⟩
    rw [hcell i (by omega), getD_take (zs := zs) hi (by omega)]

/-- A slice of slices of integers that came in. -/
theorem read_rows {t e q : TypeId} {k : IntKind} {fuel : Nat} {v : Value} {x : DataW H × List MemPlace} (ht : P.underlying t = some (.slice e)) (he : P.underlying e = some (.slice q)) (hq : P.underlying q = some (.int k))
    (ce : P.cellsOf e = 1) (cq : P.cellsOf q = 1) {a0 : Option Addr} {n0 c0 : Nat} (hv0 : v = .slice a0 n0 c0) (h : DataW.trod enc P W base (fun _ => true) held fuel t v.cells.toList = some x) :
    ∃ (rv : List Value) (L : List (List Int)), Mat k (hv W) v rv L ∧ ∀ r ∈ L, ∀ n ∈ r, (Lit.int k n).wf = true := by
  subst hv0
  rcases Go.Deep.open_int_rows ht he hq ce cq h with ⟨hcs, _⟩ | ⟨a, len, cap, A, L, C, Z, hcs, _, hl, hm, _, hr⟩
  · simp [Value.cells] at hcs
    obtain ⟨rfl, rfl, rfl⟩ := hcs
    exact ⟨[], [], Mat.nil, by simp⟩
  · simp [Value.cells] at hcs
    obtain ⟨rfl, rfl, rfl⟩ := hcs
    refine ⟨(List.range n0).map fun r => .slice (A r) (L r) (C r), (List.range n0).map fun r => (Z r).take (L r), ⟨sl_read (by simp) hl hm fun i hi => ?_, by simp, fun i h0 h1 => ?_⟩, fun r hrm n hn => ?_⟩
    · rw [(hr i (by omega)).1, List.getElem?_map, List.getElem?_range hi]; rfl
    · simp only [List.length_map, List.length_range] at h1
      have hi : i.toNat < n0 := by omega
      have e1 : gv ((List.range n0).map fun r => Value.slice (A r) (L r) (C r)) i = .slice (A i.toNat) (L i.toNat) (C i.toNat) := by
        simp [gv, List.getD_eq_getElem?_getD, List.getElem?_map, List.getElem?_range hi]
      rw [e1, gr_map_range _ _ _ h0 (by omega)]
      obtain ⟨_, r1, r2, r3, _, r5, r6⟩ := hr i.toNat (by omega)
      cases hA : A i.toNat with
      | none =>
        have hC := r5 hA
        have hL : L i.toNat = 0 := by omega
        rw [hC, hL]; exact Ints.nil
      | some a' =>
        refine sl_read (by simp; omega) r1 r2 fun j hj => ?_
        rw [(r6 a' hA).2 j (by omega), getD_take (zs := Z i.toNat) hj (by omega)]
    · obtain ⟨i, hi, rfl⟩ := List.mem_map.1 hrm
      exact (hr i (by have := List.mem_range.1 hi; omega)).2.2.2.2.1 n (List.mem_of_mem_take hn)
end
end Go.Vc

/- Reading arguments that are structs of one field, and the bounds of integers that came in. No program in sight. -/
namespace Go.Vc
open Go Go.ChangeShapes Go.WideShapes Go.ChangeAt Go.RowKit Go.Deep
section
variable {H : Type} {enc : TypeId × Value → H} {P : Program} {w : World} {base : Nat} {spare : Nat → Bool} {held : Bool}
theorem array1 {α : Type} {cs : Array α} (h : cs.size = 1) : ∃ c0, cs = #[c0] := by
  obtain ⟨l⟩ := cs
  match l, h with
  | [c0], _ => exact ⟨c0, rfl⟩
theorem trod_struct1 {t : TypeId} {f0 : Field} {fuel : Nat} {cs : List Value} {x : DataW H × List MemPlace} (ht : P.underlying t = some (.struct #[f0])) (h : DataW.trod enc P w base spare held fuel t cs = some x) :
    ∃ y0 n, x = (.agg [y0.1], y0.2) ∧ cs.length = P.cellsOf t ∧ DataW.trod enc P w base spare held n f0.type ((cs.drop f0.offset).take (P.cellsOf f0.type)) = some y0 := by
  obtain ⟨xs, n, _, rfl, hl, hlen, hf⟩ := DataW.trod_struct ht h
  match xs, hlen with
  | [y0], _ => exact ⟨y0, n, by simp, hl, by simpa using hf 0 f0 rfl⟩
theorem open_agg1 {r : Reach} {b0 : Nat} {t : TypeId} {f0 : Field} {v : Value} {d : DataW H} {p : List MemPlace} (hs : P.underlying t = some (.struct #[f0])) (hone : oneCellFields P #[f0] = true) (hC : P.cellsOf t = 1)
    (hv : Value.okWide P w r b0 t v) (h : DataW.Trod enc P w base spare held t v d p) :
    ∃ (v0 : Value) (y0 : DataW H × List MemPlace) (n : Nat), v = .agg #[v0] ∧ d = .agg [y0.1] ∧ p = y0.2 ∧ DataW.trod enc P w base spare held n f0.type [v0] = some y0 := by
  obtain ⟨cs, rfl, hsz⟩ := okWide_struct hs hv
  obtain ⟨c0, rfl⟩ := array1 (hsz.trans hC)
  obtain ⟨fuel, hf⟩ := h
  obtain ⟨y0, n, hx, _, h0⟩ := trod_struct1 hs hf
  obtain ⟨o0, k0⟩ := hone_of hone 0 f0 rfl
  simp only [Prod.mk.injEq] at hx
  exact ⟨c0, y0, n, rfl, hx.1, hx.2, by simpa [Value.cells, o0, k0] using h0⟩
end
theorem wf_i64 {n : Int} (h : (Lit.int .i64 n).wf = true) : -9223372036854775808 ≤ n ∧ n ≤ 9223372036854775807 := by
  simp only [Lit.wf, Bool.and_eq_true, decide_eq_true_eq] at h; exact h
theorem wf_i8 {n : Int} (h : (Lit.int .i8 n).wf = true) : -128 ≤ n ∧ n ≤ 127 := by
  simp only [Lit.wf, Bool.and_eq_true, decide_eq_true_eq] at h; exact h
theorem wf_u8 {n : Int} (h : (Lit.int .u8 n).wf = true) : 0 ≤ n ∧ n ≤ 255 := by
  simp only [Lit.wf, Bool.and_eq_true, decide_eq_true_eq] at h; exact h
theorem wf_u16 {n : Int} (h : (Lit.int .u16 n).wf = true) : 0 ≤ n ∧ n ≤ 65535 := by
  simp only [Lit.wf, Bool.and_eq_true, decide_eq_true_eq] at h; exact h
theorem wf_at {k : IntKind} {lo hi : Int} {xs : List Int} (h : ∀ n ∈ xs, (Lit.int k n).wf = true) (hk : ∀ n : Int, (Lit.int k n).wf = true → lo ≤ n ∧ n ≤ hi) (i : Nat) (hi2 : i < xs.length) : lo ≤ xs.getD i 0 ∧ xs.getD i 0 ≤ hi := by
  rw [List.getD_eq_getElem?_getD, List.getElem?_eq_getElem hi2]
  exact hk _ (h _ (List.getElem_mem hi2))
end Go.Vc

/- Reading arguments: slices of truth values, and slices of structs of three integers. No program in sight. -/
namespace Go.Vc
open Go Go.ChangeShapes Go.WideShapes Go.ChangeAt Go.RowKit Go.Deep
section
variable {H : Type} {enc : TypeId × Value → H} {P : Program} {W : World} {base : Nat} {held : Bool}
/-- A slice of truth values that came in. -/
theorem read_bools {t q : TypeId} {fuel : Nat} {v : Value} {x : DataW H × List MemPlace} (ht : P.underlying t = some (.slice q)) (hq : P.underlying q = some .bool) (cq : P.cellsOf q = 1)
    {a0 : Option Addr} {n0 c0 : Nat} (hv0 : v = .slice a0 n0 c0) (h : DataW.trod enc P W base (fun _ => true) held fuel t v.cells.toList = some x) :
    ∃ L : List Bool, Bls (hv W) v L := by
  subst hv0
  rcases open_slice1 ht cq h with ⟨hcs, _⟩ | ⟨a, len, cap, m, n, V, D, Pl, hcs, hb, hl, hm, hmm, _, hx⟩
  · simp [Value.cells] at hcs
    obtain ⟨rfl, rfl, rfl⟩ := hcs
    exact ⟨[], Bls.nil⟩
  · simp [Value.cells] at hcs
    obtain ⟨rfl, rfl, rfl⟩ := hcs
    simp only [if_true] at hmm
    have each : ∀ i, i < n0 → ∃ b : Bool, V i = .bool b := fun i hi => by
      obtain ⟨b, h1, _⟩ := DataW.trod_bool hq (hx i (by omega)).2
      exact ⟨b, by simpa using h1⟩
    obtain ⟨B, hB⟩ := choose_lt each
    refine ⟨(List.range n0).map B, sl_read (by simp) hl hm fun i hi => ?_⟩
    rw [(hx i (by omega)).1, hB i hi]
    simp [bvs, List.getElem?_range hi]
theorem sls_read {W : World} {a : Addr} {n cap s : Nat} {xs : List Value} (hs0 : 0 < s) (hl : xs.length = n * s) (hn : n ≤ cap) (hm : cap ≤ maxLen) (h : ∀ i, i < n * s → W.cell? (a.add i) = xs[i]?) :
    SlS s (hv W) (.slice (some a) n cap) n xs := by
  refine ⟨some a, cap, rfl, hn, by simpa [maxLen] using hm, hl, fun hne => ?_⟩
  have h0 : 0 < n * s := Nat.mul_pos (by omega) hs0
  have c0 := h 0 h0
  have e0 : a.add 0 = a := by simp [Addr.add]
  rw [e0, List.getElem?_eq_getElem (by omega)] at c0
  have hs := World.cell?_spot c0
  obtain ⟨b, off, spot⟩ := a
  simp only at hs
  subst hs
  have : ∃ cs T fz, hv W b = some (.cells cs T fz) := by
    unfold World.cell? at c0
    unfold hv
    split at c0
    · rename_i cs T fz hb; exact ⟨cs, T, fz, hb⟩
    · cases c0
  obtain ⟨cs, T, fz, hb⟩ := this
  exact ⟨b, off, cs, T, fz, rfl, hb, fun i hi => by rw [← add_cell (i := i) (off := off) hb]; exact h i (by omega)⟩
theorem flat3_len' (f : Nat → List Value) (hf : ∀ i, (f i).length = 3) : ∀ n, ((List.range n).flatMap f).length = n * 3
  | 0 => rfl
  | n + 1 => by rw [List.range_succ, List.flatMap_append, List.length_append, flat3_len' f hf n]; simp [hf]; omega
theorem flat3_get (f : Nat → List Value) (hf : ∀ i, (f i).length = 3) : ∀ n i j, i < n → j < 3 → ((List.range n).flatMap f)[i * 3 + j]? = (f i)[j]?
  | n + 1, i, j, hi, hj => by
    have hl := flat3_len' f hf n
    rw [List.range_succ, List.flatMap_append]
    by_cases e : i < n
    · rw [List.getElem?_append_left (by omega)]; exact flat3_get f hf n i j e hj
    · have : i = n := by omega
      subst this
      rw [List.getElem?_append_right (by omega), hl, show i * 3 + j - i * 3 = j by omega]
      simp
/-- A slice of structs of three integers that came in. -/
theorem read_recs {t e : TypeId} {f0 f1 f2 : Field} {k0 k1 k2 : IntKind} {fuel : Nat} {v : Value} {x : DataW H × List MemPlace} (ht : P.underlying t = some (.slice e)) (he : P.underlying e = some (.struct #[f0, f1, f2])) (ce : P.cellsOf e = 3)
    (ho : f0.offset = 0 ∧ f1.offset = 1 ∧ f2.offset = 2) (hc : P.cellsOf f0.type = 1 ∧ P.cellsOf f1.type = 1 ∧ P.cellsOf f2.type = 1) (hq0 : P.underlying f0.type = some (.int k0)) (hq1 : P.underlying f1.type = some (.int k1)) (hq2 : P.underlying f2.type = some (.int k2))
    {a0 : Option Addr} {n0 c0 : Nat} (hv0 : v = .slice a0 n0 c0) (h : DataW.trod enc P W base (fun _ => true) held fuel t v.cells.toList = some x) :
    ∃ R : Nat → Int × Int × Int, SlS 3 (hv W) v n0 ((List.range n0).flatMap fun i => [.int k0 (R i).1, .int k1 (R i).2.1, .int k2 (R i).2.2]) ∧
      ∀ i, i < n0 → (Lit.int k0 (R i).1).wf = true ∧ (Lit.int k1 (R i).2.1).wf = true ∧ (Lit.int k2 (R i).2.2).wf = true := by
  subst hv0
  rcases open_slice ht h with ⟨hcs, _⟩ | ⟨a, len, cap, m, n, D, Pl, hcs, hb, hl, hm, hmm, _, hx⟩
  · simp [Value.cells] at hcs
    obtain ⟨rfl, rfl, rfl⟩ := hcs
    exact ⟨fun _ => (0, 0, 0), SlS.nil, fun i hi => by omega⟩
  · simp [Value.cells] at hcs
    obtain ⟨rfl, rfl, rfl⟩ := hcs
    simp only [if_true] at hmm
    have each : ∀ i, i < n0 → ∃ r : Int × Int × Int, (∀ j, j < 3 → W.cell? (a.add (i * 3 + j)) = [Value.int k0 r.1, .int k1 r.2.1, .int k2 r.2.2][j]?) ∧ (Lit.int k0 r.1).wf = true ∧ (Lit.int k1 r.2.1).wf = true ∧ (Lit.int k2 r.2.2).wf = true := fun i hi => by
      obtain ⟨cs', h1, h2⟩ := hx i (by omega)
      rw [ce] at h1
      obtain ⟨_, hlen, hcell⟩ := World.cells?_some h1
      obtain ⟨xs, k, hk, hxy, _, hxl, hf⟩ := DataW.trod_struct he h2
      match xs, hxl, cs', hlen with
      | [y0, y1, y2], _, [v0, v1, v2], _ =>
        have g0 := hf 0 f0 rfl
        have g1 := hf 1 f1 rfl
        have g2 := hf 2 f2 rfl
        simp [ho.1, ho.2.1, ho.2.2, hc.1, hc.2.1, hc.2.2] at g0 g1 g2
        obtain ⟨r0, q0, _, w0⟩ := DataW.trod_int hq0 g0
        obtain ⟨r1, q1, _, w1⟩ := DataW.trod_int hq1 g1
        obtain ⟨r2, q2, _, w2⟩ := DataW.trod_int hq2 g2
        simp at q0 q1 q2
        subst q0 q1 q2
        refine ⟨(r0, r1, r2), fun j hj => ?_, w0, w1, w2⟩
        have := hcell j (by omega)
        rw [add_add] at this
        exact this
    obtain ⟨R, hR⟩ := choose_lt each
    refine ⟨R, sls_read (by omega) (by rw [flat3_len' _ (fun _ => rfl)]) hl hm fun i hi => ?_, fun i hi => (hR i hi).2⟩
    have e1 : i = i / 3 * 3 + i % 3 := by omega
    rw [e1, flat3_get _ (fun _ => rfl) n0 (i / 3) (i % 3) (by omega) (by omega), (hR (i / 3) (by omega)).1 (i % 3) (by omega)]
end
end Go.Vc

/- Reading arguments that are arrays of integers. No program in sight. -/
namespace Go.Vc
open Go Go.ChangeShapes Go.WideShapes Go.ChangeAt Go.RowKit
section
open Go.WideShapes
/-- An array whose cells are all integers. -/
theorem open_agg_ints {P : Program} {w : World} {r : Reach} {b : Nat} {t u : TypeId} {m e : Nat} {k : IntKind} {v : Value} (n : Nat) (ha : P.underlying t = some (.array m e)) (hC : P.cellsOf t = n) (hts : P.cellTypes P.depth t = some (List.replicate n u)) (hu : P.underlying u = some (.int k))
    (hv : Value.okWide P w r b t v) : ∃ xs : List Int, xs.length = n ∧ v = .agg (xs.map (Value.int k)).toArray := by
  simp only [Value.okWide, ha] at hv
  obtain ⟨cs, rfl, hsz, ts, h1, _, h3⟩ := hv
  rw [hts] at h1
  cases h1
  have each : ∀ c ∈ cs.toList, ∃ x : Int, c = .int k x := fun c hc => by
    obtain ⟨i, hi, rfl⟩ := List.mem_iff_getElem.1 hc
    have hi' : i < cs.size := by simpa using hi
    obtain ⟨u', e1, e2⟩ := h3 i cs.toList[i] (by simp [hi'])
    rw [List.getElem?_replicate] at e1
    split at e1
    · cases e1
      have : Value.okWide P w r b u cs.toList[i] := by simp only [Value.okWide, hu]; exact e2
      exact okWide_int hu this
    · cases e1
  have : ∀ l : List Value, (∀ c ∈ l, ∃ x : Int, c = .int k x) → ∃ xs : List Int, l = xs.map (Value.int k) := by
    intro l
    induction l with
    | nil => intro _; exact ⟨[], rfl⟩
    | cons c l ih =>
      intro h
      obtain ⟨x, rfl⟩ := h c (by simp)
      obtain ⟨xs, rfl⟩ := ih fun c hc => h c (by simp [hc])
      exact ⟨x :: xs, rfl⟩
  obtain ⟨xs, hx⟩ := this _ each
  refine ⟨xs, ?_, ?_⟩
  · have := congrArg List.length hx; simp at this; omega
  · rw [← hx]
theorem len6 {xs : List Int} (h : xs.length = 6) : ∃ a b c d e f, xs = [a, b, c, d, e, f] := by
  match xs, h with
  | [a, b, c, d, e, f], _ => exact ⟨a, b, c, d, e, f, rfl⟩
theorem len9 {xs : List Int} (h : xs.length = 9) : ∃ a b c d e f g i j, xs = [a, b, c, d, e, f, g, i, j] := by
  match xs, h with
  | [a, b, c, d, e, f, g, i, j], _ => exact ⟨a, b, c, d, e, f, g, i, j, rfl⟩
theorem open_arr6 {P : Program} {w : World} {r : Reach} {b : Nat} {t u : TypeId} {m e : Nat} {k : IntKind} {v : Value} (ha : P.underlying t = some (.array m e)) (hC : P.cellsOf t = 6) (hts : P.cellTypes P.depth t = some (List.replicate 6 u)) (hu : P.underlying u = some (.int k))
    (hv : Value.okWide P w r b t v) : ∃ x0 x1 x2 x3 x4 x5 : Int, v = .agg #[.int k x0, .int k x1, .int k x2, .int k x3, .int k x4, .int k x5] := by
  obtain ⟨xs, h1, rfl⟩ := open_agg_ints 6 ha hC hts hu hv
  obtain ⟨x0, x1, x2, x3, x4, x5, rfl⟩ := len6 h1
  exact ⟨x0, x1, x2, x3, x4, x5, rfl⟩
theorem open_arr9 {P : Program} {w : World} {r : Reach} {b : Nat} {t u : TypeId} {m e : Nat} {k : IntKind} {v : Value} (ha : P.underlying t = some (.array m e)) (hC : P.cellsOf t = 9) (hts : P.cellTypes P.depth t = some (List.replicate 9 u)) (hu : P.underlying u = some (.int k))
    (hv : Value.okWide P w r b t v) : ∃ x0 x1 x2 x3 x4 x5 x6 x7 x8 : Int, v = .agg #[.int k x0, .int k x1, .int k x2, .int k x3, .int k x4, .int k x5, .int k x6, .int k x7, .int k x8] := by
  obtain ⟨xs, h1, rfl⟩ := open_agg_ints 9 ha hC hts hu hv
  obtain ⟨x0, x1, x2, x3, x4, x5, x6, x7, x8, rfl⟩ := len9 h1
  exact ⟨x0, x1, x2, x3, x4, x5, x6, x7, x8, rfl⟩
end
end Go.Vc
