/- The first example of the merge chapter: what its answers are. No program in sight. -/
import Derived.Test.YtmkbjhligjnagaaMgS
namespace Go.Proofs.Ytmkbjhligjnagaa
open Go.Vc

def L0 : List (List Int) := [[0, 1, 5], [1, 0, 2], [5, 2, 0]]
theorem good0 : Good L0 := by
  refine ⟨by decide, by decide, by decide, fun i j hi hj => ?_, by decide⟩
  have hi : i < 3 := hi
  have hj : j < 3 := hj
  have h1 : i = 0 ∨ i = 1 ∨ i = 2 := by omega
  have h2 : j = 0 ∨ j = 1 ∨ j = 2 := by omega
  rcases h1 with rfl | rfl | rfl <;> rcases h2 with rfl | rfl | rfl <;> decide
theorem oE_0 : oE L0 2 = 0 := oE0 good0.chk (by omega)
theorem oN_0 : oN L0 2 = 1 := by rw [(ord_good oE_0).2.1]; exact (by kernel_rfl)
theorem oG_0 : oG L0 2 = [0, 0, 2] := by rw [(ord_good oE_0).1]; exact (by kernel_rfl)
theorem oT_0 : oT L0 2 = pres (ivals L0) 3 2 := (ord_good oE_0).2.2
theorem costs0 : Costs (ivals L0) 3 := costs_ivals good0
theorem po_1 : poE L0 2 (oT L0 2) 1 = 0 := by
  rw [oT_0]
  exact poE_0 good0.chk (by omega) (by kernel_rfl) (ragg_pres costs0 (by omega)) (wild_pres costs0 (by omega)) (by kernel_rfl) (by decide) (holds_pres costs0)
theorem po_2 : poE L0 2 (oT L0 2) 2 = 13 := by
  rw [oT_0]
  exact poE_13 good0.chk (by omega) (by kernel_rfl) (ragg_pres costs0 (by omega)) (wild_pres costs0 (by omega)) (Or.inr (Or.inl (by decide)))
theorem cE_0 : cE L0 [1, 2, 2] = 15 := by
  rw [cE_g good0.chk]
  refine gE_15 rfl ?_ ⟨0, by omega, by decide, by decide⟩
  rintro ⟨i, h0, h1, h2⟩
  have h1 : i < 3 := h1
  have h3 : i = 0 ∨ i = 1 ∨ i = 2 := by omega
  revert h2
  rcases h3 with rfl | rfl | rfl <;> decide
end Go.Proofs.Ytmkbjhligjnagaa
