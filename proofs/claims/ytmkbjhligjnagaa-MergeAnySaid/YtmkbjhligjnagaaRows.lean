/-
  No cell of these rows narrows 'for every input' (looked for: loops, veiled, ifaces, maps, wideKeys, modest, calm, conditions, laid).
  DERIVED. THE GIVEN ROWS OF THIS SEAT. 8 by the template 'for every input the law returns true; each argument reads behind the call as it read before'; 0 by the template 'total and deterministic' (their statements: YtmkbjhligjnagaaTotals.lean).
  GIVEN WITH THE SEED: the statements are not yours to turn. If you find one false, say at which input.
  Laid BY PROGRAM, IN A SANDBOX (cutbox-rows.mjs): the forced cells as the released guide's own fill.sh prints them over the translation 4b520afe108120c6… (all of the seat's roots in one cut). By AI agents, Wed Nov 11 2026. No macro, syntax, notation, axiom, sorry.
-/
import Derived.Test.YtmkbjhligjnagaaChecked
import GoSem.Claim
import GoSem.ClaimJoined
import GoSem.ClaimMapViews
import Derived.JoinedTies
import Derived.KernelRfl
namespace Go.Proofs.Ytmkbjhligjnagaa
/- THE CELL 'sum', in the pinned program and in every row, IS THE sha256 OF THE DUMP (.gsa) THAT YtmkbjhligjnagaaProg.lean LOADS. Nothing in Lean hashes anything: it is a label: what it is worth is what the hold of that sum in a sandbox is worth. -/
noncomputable def Try.pinned : Pinned := { name := "ytmkbjhligjnagaa", sum := "4b520afe108120c667aaeaeb0edbffc393ef76b12e727a86353dcf687b0a8108", checked := Try.checked }
namespace Rows
def none {H : Type} : Left H := { results := [], args := [] }

/-- 'keyholelaw45.MergeChecks': WHATEVER THE INPUT: true; the input reads as it did. -/
def mergeChecksSpec : ChangeSpec := { name := "mergeChecks", fn := fun _ => fun
  | [d] => { results := [.lit (.bool true)], args := [d] }
  | _ => none }
def mergeChecksRow : OpenClaim := { program := "ytmkbjhligjnagaa", sum := "4b520afe108120c667aaeaeb0edbffc393ef76b12e727a86353dcf687b0a8108", func := "keyhole/keyholelaw45.MergeChecks", spec := "mergeChecks", unfollowed := true, recurses := true, plainKeys := false, apart := false }
def MergeChecksSaid : Prop := mergeChecksRow.holds Try.pinned (OpenSpec.ofChange mergeChecksSpec)

/-- ITS FALSE NEIGHBOUR: 'it returns false'. Refute it at one input. -/
def mergeChecksWrong : ChangeSpec := { name := "mergeChecks", fn := fun _ => fun
  | [d] => { results := [.lit (.bool false)], args := [d] }
  | _ => none }
def MergeChecksWrongFalsely : Prop := mergeChecksRow.holds Try.pinned (OpenSpec.ofChange mergeChecksWrong)

/-- 'keyholelaw45.MergeOrdered': WHATEVER THE INPUT: true; the input reads as it did. -/
def mergeOrderedSpec : ChangeSpec := { name := "mergeOrdered", fn := fun _ => fun
  | [d1, d2] => { results := [.lit (.bool true)], args := [d1, d2] }
  | _ => none }
def mergeOrderedRow : OpenClaim := { program := "ytmkbjhligjnagaa", sum := "4b520afe108120c667aaeaeb0edbffc393ef76b12e727a86353dcf687b0a8108", func := "keyhole/keyholelaw45.MergeOrdered", spec := "mergeOrdered", unfollowed := true, recurses := true, plainKeys := false, apart := false }
def MergeOrderedSaid : Prop := mergeOrderedRow.holds Try.pinned (OpenSpec.ofChange mergeOrderedSpec)

/-- ITS FALSE NEIGHBOUR: 'it returns false'. Refute it at one input. -/
def mergeOrderedWrong : ChangeSpec := { name := "mergeOrdered", fn := fun _ => fun
  | [d1, d2] => { results := [.lit (.bool false)], args := [d1, d2] }
  | _ => none }
def MergeOrderedWrongFalsely : Prop := mergeOrderedRow.holds Try.pinned (OpenSpec.ofChange mergeOrderedWrong)

/-- 'keyholelaw45.MergeProofs': WHATEVER THE INPUT: true; the input reads as it did. -/
def mergeProofsSpec : ChangeSpec := { name := "mergeProofs", fn := fun _ => fun
  | [d1, d2, d3] => { results := [.lit (.bool true)], args := [d1, d2, d3] }
  | _ => none }
def mergeProofsRow : OpenClaim := { program := "ytmkbjhligjnagaa", sum := "4b520afe108120c667aaeaeb0edbffc393ef76b12e727a86353dcf687b0a8108", func := "keyhole/keyholelaw45.MergeProofs", spec := "mergeProofs", unfollowed := true, recurses := true, plainKeys := false, apart := false }
def MergeProofsSaid : Prop := mergeProofsRow.holds Try.pinned (OpenSpec.ofChange mergeProofsSpec)

/-- ITS FALSE NEIGHBOUR: 'it returns false'. Refute it at one input. -/
def mergeProofsWrong : ChangeSpec := { name := "mergeProofs", fn := fun _ => fun
  | [d1, d2, d3] => { results := [.lit (.bool false)], args := [d1, d2, d3] }
  | _ => none }
def MergeProofsWrongFalsely : Prop := mergeProofsRow.holds Try.pinned (OpenSpec.ofChange mergeProofsWrong)

/-- 'keyholelaw45.MergeReached': WHATEVER THE INPUT: true; the input reads as it did. -/
def mergeReachedSpec : ChangeSpec := { name := "mergeReached", fn := fun _ => fun
  | [d1, d2] => { results := [.lit (.bool true)], args := [d1, d2] }
  | _ => none }
def mergeReachedRow : OpenClaim := { program := "ytmkbjhligjnagaa", sum := "4b520afe108120c667aaeaeb0edbffc393ef76b12e727a86353dcf687b0a8108", func := "keyhole/keyholelaw45.MergeReached", spec := "mergeReached", unfollowed := true, recurses := true, plainKeys := false, apart := false }
def MergeReachedSaid : Prop := mergeReachedRow.holds Try.pinned (OpenSpec.ofChange mergeReachedSpec)

/-- ITS FALSE NEIGHBOUR: 'it returns false'. Refute it at one input. -/
def mergeReachedWrong : ChangeSpec := { name := "mergeReached", fn := fun _ => fun
  | [d1, d2] => { results := [.lit (.bool false)], args := [d1, d2] }
  | _ => none }
def MergeReachedWrongFalsely : Prop := mergeReachedRow.holds Try.pinned (OpenSpec.ofChange mergeReachedWrong)

/-- 'keyholelaw45.MergeAnyProofs': WHATEVER THE INPUT: true; the input reads as it did. -/
def mergeAnyProofsSpec : ChangeSpec := { name := "mergeAnyProofs", fn := fun _ => fun
  | [d1, d2, d3] => { results := [.lit (.bool true)], args := [d1, d2, d3] }
  | _ => none }
def mergeAnyProofsRow : OpenClaim := { program := "ytmkbjhligjnagaa", sum := "4b520afe108120c667aaeaeb0edbffc393ef76b12e727a86353dcf687b0a8108", func := "keyhole/keyholelaw45.MergeAnyProofs", spec := "mergeAnyProofs", unfollowed := true, recurses := true, plainKeys := false, apart := false }
def MergeAnyProofsSaid : Prop := mergeAnyProofsRow.holds Try.pinned (OpenSpec.ofChange mergeAnyProofsSpec)

/-- ITS FALSE NEIGHBOUR: 'it returns false'. Refute it at one input. -/
def mergeAnyProofsWrong : ChangeSpec := { name := "mergeAnyProofs", fn := fun _ => fun
  | [d1, d2, d3] => { results := [.lit (.bool false)], args := [d1, d2, d3] }
  | _ => none }
def MergeAnyProofsWrongFalsely : Prop := mergeAnyProofsRow.holds Try.pinned (OpenSpec.ofChange mergeAnyProofsWrong)

/-- 'keyholelaw45.MergeCosts': WHATEVER THE INPUT: true; the input reads as it did. -/
def mergeCostsSpec : ChangeSpec := { name := "mergeCosts", fn := fun _ => fun
  | [d1, d2] => { results := [.lit (.bool true)], args := [d1, d2] }
  | _ => none }
def mergeCostsRow : OpenClaim := { program := "ytmkbjhligjnagaa", sum := "4b520afe108120c667aaeaeb0edbffc393ef76b12e727a86353dcf687b0a8108", func := "keyhole/keyholelaw45.MergeCosts", spec := "mergeCosts", unfollowed := true, recurses := true, plainKeys := false, apart := false }
def MergeCostsSaid : Prop := mergeCostsRow.holds Try.pinned (OpenSpec.ofChange mergeCostsSpec)

/-- ITS FALSE NEIGHBOUR: 'it returns false'. Refute it at one input. -/
def mergeCostsWrong : ChangeSpec := { name := "mergeCosts", fn := fun _ => fun
  | [d1, d2] => { results := [.lit (.bool false)], args := [d1, d2] }
  | _ => none }
def MergeCostsWrongFalsely : Prop := mergeCostsRow.holds Try.pinned (OpenSpec.ofChange mergeCostsWrong)

/-- 'keyholelaw45.MergeLess': WHATEVER THE INPUT: true; the input reads as it did. -/
def mergeLessSpec : ChangeSpec := { name := "mergeLess", fn := fun _ => fun
  | [d1, d2] => { results := [.lit (.bool true)], args := [d1, d2] }
  | _ => none }
def mergeLessRow : OpenClaim := { program := "ytmkbjhligjnagaa", sum := "4b520afe108120c667aaeaeb0edbffc393ef76b12e727a86353dcf687b0a8108", func := "keyhole/keyholelaw45.MergeLess", spec := "mergeLess", unfollowed := true, recurses := true, plainKeys := false, apart := false }
def MergeLessSaid : Prop := mergeLessRow.holds Try.pinned (OpenSpec.ofChange mergeLessSpec)

/-- ITS FALSE NEIGHBOUR: 'it returns false'. Refute it at one input. -/
def mergeLessWrong : ChangeSpec := { name := "mergeLess", fn := fun _ => fun
  | [d1, d2] => { results := [.lit (.bool false)], args := [d1, d2] }
  | _ => none }
def MergeLessWrongFalsely : Prop := mergeLessRow.holds Try.pinned (OpenSpec.ofChange mergeLessWrong)

/-- 'keyholelaw45.MergeAny': WHATEVER THE INPUT: true; the input reads as it did. -/
def mergeAnySpec : ChangeSpec := { name := "mergeAny", fn := fun _ => fun
  | [d1, d2] => { results := [.lit (.bool true)], args := [d1, d2] }
  | _ => none }
def mergeAnyRow : OpenClaim := { program := "ytmkbjhligjnagaa", sum := "4b520afe108120c667aaeaeb0edbffc393ef76b12e727a86353dcf687b0a8108", func := "keyhole/keyholelaw45.MergeAny", spec := "mergeAny", unfollowed := true, recurses := true, plainKeys := false, apart := false }
def MergeAnySaid : Prop := mergeAnyRow.holds Try.pinned (OpenSpec.ofChange mergeAnySpec)

/-- ITS FALSE NEIGHBOUR: 'it returns false'. Refute it at one input. -/
def mergeAnyWrong : ChangeSpec := { name := "mergeAny", fn := fun _ => fun
  | [d1, d2] => { results := [.lit (.bool false)], args := [d1, d2] }
  | _ => none }
def MergeAnyWrongFalsely : Prop := mergeAnyRow.holds Try.pinned (OpenSpec.ofChange mergeAnyWrong)

/- THE SECOND FORM. 'bulk': how many values and letters a reading holds, each counted each time it is reached (what is shared counts as often as it is met; a slice's spare places count too). A statement '..UptoSaid' is the law's where the arguments, and the package variables that the reading takes, are together of bulk at most 1048576: NARROWER than '..Said'. Prove '..Said' where nothing that the law and all that it calls make is longer than what came in: it says more and counts as full. Else prove '..UptoSaid'. A law counts once. -/
mutual
def uptoBulk {H : Type} : DataW H → Nat
  | .lit (.string bytes) => bytes.length + 1
  | .lit _ => 1
  | .nil => 1
  | .ptr d => uptoBulk d + 1
  | .slice elems spare => uptoBulkAll elems + uptoBulkAll spare + 1
  | .agg parts => uptoBulkAll parts + 1
  | .iface _ d => uptoBulk d + 1
  | .map entries => uptoBulkEntries entries + 1
  | .held _ => 1
def uptoBulkAll {H : Type} : List (DataW H) → Nat
  | [] => 0
  | d :: r => uptoBulk d + uptoBulkAll r
def uptoBulkEntries {H : Type} : List (Lit × DataW H) → Nat
  | [] => 0
  | x :: r => uptoBulkEntry x + uptoBulkEntries r
def uptoBulkEntry {H : Type} : Lit × DataW H → Nat
  | (.string bytes, d) => bytes.length + uptoBulk d + 1
  | (_, d) => uptoBulk d + 1
 end
def uptoSmall : (H : Type) → List (DataW H) → Bool := fun _ ds => decide (uptoBulkAll ds ≤ 1048576)
def OpenSpec.upto (s : _root_.Go.ChangeSpec) : _root_.Go.OpenSpec := { _root_.Go.OpenSpec.ofChange s with cond := some uptoSmall }

/-- 'keyholelaw45.MergeChecks', WHERE WHAT IT READS IS OF BULK AT MOST 1048576: true; the input reads as it did. -/
def mergeChecksUptoRow : OpenClaim := { program := "ytmkbjhligjnagaa", sum := "4b520afe108120c667aaeaeb0edbffc393ef76b12e727a86353dcf687b0a8108", func := "keyhole/keyholelaw45.MergeChecks", spec := "mergeChecks", unfollowed := true, recurses := true, plainKeys := false, apart := false, narrowed := true }
def MergeChecksUptoSaid : Prop := mergeChecksUptoRow.holds Try.pinned (OpenSpec.upto mergeChecksSpec)

/-- 'keyholelaw45.MergeOrdered', WHERE WHAT IT READS IS OF BULK AT MOST 1048576: true; the input reads as it did. -/
def mergeOrderedUptoRow : OpenClaim := { program := "ytmkbjhligjnagaa", sum := "4b520afe108120c667aaeaeb0edbffc393ef76b12e727a86353dcf687b0a8108", func := "keyhole/keyholelaw45.MergeOrdered", spec := "mergeOrdered", unfollowed := true, recurses := true, plainKeys := false, apart := false, narrowed := true }
def MergeOrderedUptoSaid : Prop := mergeOrderedUptoRow.holds Try.pinned (OpenSpec.upto mergeOrderedSpec)

/-- 'keyholelaw45.MergeProofs', WHERE WHAT IT READS IS OF BULK AT MOST 1048576: true; the input reads as it did. -/
def mergeProofsUptoRow : OpenClaim := { program := "ytmkbjhligjnagaa", sum := "4b520afe108120c667aaeaeb0edbffc393ef76b12e727a86353dcf687b0a8108", func := "keyhole/keyholelaw45.MergeProofs", spec := "mergeProofs", unfollowed := true, recurses := true, plainKeys := false, apart := false, narrowed := true }
def MergeProofsUptoSaid : Prop := mergeProofsUptoRow.holds Try.pinned (OpenSpec.upto mergeProofsSpec)

/-- 'keyholelaw45.MergeReached', WHERE WHAT IT READS IS OF BULK AT MOST 1048576: true; the input reads as it did. -/
def mergeReachedUptoRow : OpenClaim := { program := "ytmkbjhligjnagaa", sum := "4b520afe108120c667aaeaeb0edbffc393ef76b12e727a86353dcf687b0a8108", func := "keyhole/keyholelaw45.MergeReached", spec := "mergeReached", unfollowed := true, recurses := true, plainKeys := false, apart := false, narrowed := true }
def MergeReachedUptoSaid : Prop := mergeReachedUptoRow.holds Try.pinned (OpenSpec.upto mergeReachedSpec)

/-- 'keyholelaw45.MergeAnyProofs', WHERE WHAT IT READS IS OF BULK AT MOST 1048576: true; the input reads as it did. -/
def mergeAnyProofsUptoRow : OpenClaim := { program := "ytmkbjhligjnagaa", sum := "4b520afe108120c667aaeaeb0edbffc393ef76b12e727a86353dcf687b0a8108", func := "keyhole/keyholelaw45.MergeAnyProofs", spec := "mergeAnyProofs", unfollowed := true, recurses := true, plainKeys := false, apart := false, narrowed := true }
def MergeAnyProofsUptoSaid : Prop := mergeAnyProofsUptoRow.holds Try.pinned (OpenSpec.upto mergeAnyProofsSpec)

/-- 'keyholelaw45.MergeCosts', WHERE WHAT IT READS IS OF BULK AT MOST 1048576: true; the input reads as it did. -/
def mergeCostsUptoRow : OpenClaim := { program := "ytmkbjhligjnagaa", sum := "4b520afe108120c667aaeaeb0edbffc393ef76b12e727a86353dcf687b0a8108", func := "keyhole/keyholelaw45.MergeCosts", spec := "mergeCosts", unfollowed := true, recurses := true, plainKeys := false, apart := false, narrowed := true }
def MergeCostsUptoSaid : Prop := mergeCostsUptoRow.holds Try.pinned (OpenSpec.upto mergeCostsSpec)

/-- 'keyholelaw45.MergeLess', WHERE WHAT IT READS IS OF BULK AT MOST 1048576: true; the input reads as it did. -/
def mergeLessUptoRow : OpenClaim := { program := "ytmkbjhligjnagaa", sum := "4b520afe108120c667aaeaeb0edbffc393ef76b12e727a86353dcf687b0a8108", func := "keyhole/keyholelaw45.MergeLess", spec := "mergeLess", unfollowed := true, recurses := true, plainKeys := false, apart := false, narrowed := true }
def MergeLessUptoSaid : Prop := mergeLessUptoRow.holds Try.pinned (OpenSpec.upto mergeLessSpec)

/-- 'keyholelaw45.MergeAny', WHERE WHAT IT READS IS OF BULK AT MOST 1048576: true; the input reads as it did. -/
def mergeAnyUptoRow : OpenClaim := { program := "ytmkbjhligjnagaa", sum := "4b520afe108120c667aaeaeb0edbffc393ef76b12e727a86353dcf687b0a8108", func := "keyhole/keyholelaw45.MergeAny", spec := "mergeAny", unfollowed := true, recurses := true, plainKeys := false, apart := false, narrowed := true }
def MergeAnyUptoSaid : Prop := mergeAnyUptoRow.holds Try.pinned (OpenSpec.upto mergeAnySpec)

end Rows
end Go.Proofs.Ytmkbjhligjnagaa
