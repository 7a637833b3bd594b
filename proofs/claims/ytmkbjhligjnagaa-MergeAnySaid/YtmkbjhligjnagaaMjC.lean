/- The cost of a grouping, for a table that is one. No program in sight. -/
import Derived.Test.YtmkbjhligjnagaaMgS
namespace Go.Proofs.Ytmkbjhligjnagaa
open Go Go.Vc
theorem cN_g {L : List (List Int)} {G : List Int} (h : chk L = 0) : cN L G = gN L G := by
  unfold cN gN
  rw [cE_g h]
end Go.Proofs.Ytmkbjhligjnagaa
