/- Reading arguments that are arrays of integers. No program in sight. -/
import Derived.Test.YtapkilaikcihgaaVcR
namespace Go.Vc
open Go Go.ChangeShapes Go.WideShapes Go.ChangeAt Go.RowKit
section
open Go.WideShapes
/-- An array whose cells are all integers. -/
theorem open_agg_ints {P : Program} {w : World} {r : Reach} {b : Nat} {t u : TypeId} {m e : Nat} {k : IntKind} {v : Value} (n : Nat) (ha : P.underlying t = some (.array m e)) (hC : P.cellsOf t = n) (hts : P.cellTypes P.depth t = some (List.replicate n u)) (hu : P.underlying u = some (.int k))
    (hv : Value.okWide P w r b t v) : ∃ xs : List Int, xs.length = n ∧ v = .agg (xs.map (Value.int k)).toArray := by
  simp only [Value.okWide, ha] at hv
  obtain ⟨cs, rfl, hsz, ts, h1, _, h3⟩ := hv
  rw [hts] at h1
  cases h1
  have each : ∀ c ∈ cs.toList, ∃ x : Int, c = .int k x := fun c hc => by
    obtain ⟨i, hi, rfl⟩ := List.mem_iff_getElem.1 hc
    have hi' : i < cs.size := by simpa using hi
    obtain ⟨u', e1, e2⟩ := h3 i cs.toList[i] (by simp [hi'])
    rw [List.getElem?_replicate] at e1
    split at e1
    · cases e1
      have : Value.okWide P w r b u cs.toList[i] := by simp only [Value.okWide, hu]; exact e2
      exact okWide_int hu this
    · cases e1
  have : ∀ l : List Value, (∀ c ∈ l, ∃ x : Int, c = .int k x) → ∃ xs : List Int, l = xs.map (Value.int k) := by
    intro l
    induction l with
    | nil => intro _; exact ⟨[], rfl⟩
    | cons c l ih =>
      intro h
      obtain ⟨x, rfl⟩ := h c (by simp)
      obtain ⟨xs, rfl⟩ := ih fun c hc => h c (by simp [hc])
      exact ⟨x :: xs, rfl⟩
  obtain ⟨xs, hx⟩ := this _ each
  refine ⟨xs, ?_, ?_⟩
  · have := congrArg List.length hx; simp at this; omega
  · rw [← hx]
theorem len6 {xs : List Int} (h : xs.length = 6) : ∃ a b c d e f, xs = [a, b, c, d, e, f] := by
  match xs, h with
  | [a, b, c, d, e, f], _ => exact ⟨a, b, c, d, e, f, rfl⟩
theorem len9 {xs : List Int} (h : xs.length = 9) : ∃ a b c d e f g i j, xs = [a, b, c, d, e, f, g, i, j] := by
  match xs, h with
  | [a, b, c, d, e, f, g, i, j], _ => exact ⟨a, b, c, d, e, f, g, i, j, rfl⟩
theorem open_arr6 {P : Program} {w : World} {r : Reach} {b : Nat} {t u : TypeId} {m e : Nat} {k : IntKind} {v : Value} (ha : P.underlying t = some (.array m e)) (hC : P.cellsOf t = 6) (hts : P.cellTypes P.depth t = some (List.replicate 6 u)) (hu : P.underlying u = some (.int k))
    (hv : Value.okWide P w r b t v) : ∃ x0 x1 x2 x3 x4 x5 : Int, v = .agg #[.int k x0, .int k x1, .int k x2, .int k x3, .int k x4, .int k x5] := by
  obtain ⟨xs, h1, rfl⟩ := open_agg_ints 6 ha hC hts hu hv
  obtain ⟨x0, x1, x2, x3, x4, x5, rfl⟩ := len6 h1
  exact ⟨x0, x1, x2, x3, x4, x5, rfl⟩
theorem open_arr9 {P : Program} {w : World} {r : Reach} {b : Nat} {t u : TypeId} {m e : Nat} {k : IntKind} {v : Value} (ha : P.underlying t = some (.array m e)) (hC : P.cellsOf t = 9) (hts : P.cellTypes P.depth t = some (List.replicate 9 u)) (hu : P.underlying u = some (.int k))
    (hv : Value.okWide P w r b t v) : ∃ x0 x1 x2 x3 x4 x5 x6 x7 x8 : Int, v = .agg #[.int k x0, .int k x1, .int k x2, .int k x3, .int k x4, .int k x5, .int k x6, .int k x7, .int k x8] := by
  obtain ⟨xs, h1, rfl⟩ := open_agg_ints 9 ha hC hts hu hv
  obtain ⟨x0, x1, x2, x3, x4, x5, x6, x7, x8, rfl⟩ := len9 h1
  exact ⟨x0, x1, x2, x3, x4, x5, x6, x7, x8, rfl⟩
end
end Go.Vc
