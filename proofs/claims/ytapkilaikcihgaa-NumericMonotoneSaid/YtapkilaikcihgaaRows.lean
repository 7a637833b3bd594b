/-
  No cell of these rows narrows 'for every input' (looked for: loops, veiled, ifaces, maps, wideKeys, modest, calm, conditions, laid).
  DERIVED. THE GIVEN ROWS OF THIS SEAT. 9 by the template 'for every input the law returns true; each argument reads behind the call as it read before'; 0 by the template 'total and deterministic' (their statements: YtapkilaikcihgaaTotals.lean).
  GIVEN WITH THE SEED: the statements are not yours to turn. If you find one false, say at which input.
  Laid BY PROGRAM, IN A SANDBOX (cutbox-rows.mjs): the forced cells as the released guide's own fill.sh prints them over the translation f076e5dc8ad8e909… (all of the seat's roots in one cut). By AI agents, Wed Nov 11 2026. No macro, syntax, notation, axiom, sorry.
-/
import Derived.Test.YtapkilaikcihgaaChecked
import GoSem.Claim
import GoSem.ClaimJoined
import GoSem.ClaimMapViews
import Derived.JoinedTies
import Derived.KernelRfl
namespace Go.Proofs.Ytapkilaikcihgaa
/- THE CELL 'sum', in the pinned program and in every row, IS THE sha256 OF THE DUMP (.gsa) THAT YtapkilaikcihgaaProg.lean LOADS. Nothing in Lean hashes anything: it is a label: what it is worth is what the hold of that sum in a sandbox is worth. -/
noncomputable def Try.pinned : Pinned := { name := "ytapkilaikcihgaa", sum := "f076e5dc8ad8e909b74064bfde586a00171c17d1f3767b691bc7235f059167cd", checked := Try.checked }
namespace Rows
def none {H : Type} : Left H := { results := [], args := [] }

/-- 'keyholelaw35.NumericJoins': WHATEVER THE INPUT: true; the input reads as it did. -/
def numericJoinsSpec : ChangeSpec := { name := "numericJoins", fn := fun _ => fun
  | [d1, d2] => { results := [.lit (.bool true)], args := [d1, d2] }
  | _ => none }
def numericJoinsRow : OpenClaim := { program := "ytapkilaikcihgaa", sum := "f076e5dc8ad8e909b74064bfde586a00171c17d1f3767b691bc7235f059167cd", func := "keyhole/keyholelaw35.NumericJoins", spec := "numericJoins", recurses := true, named := ["math/bits.divideError", "math/bits.overflowError"], apart := false }
def NumericJoinsSaid : Prop := numericJoinsRow.holds Try.pinned (OpenSpec.ofChange numericJoinsSpec)

/-- ITS FALSE NEIGHBOUR: 'it returns false'. Refute it at one input. -/
def numericJoinsWrong : ChangeSpec := { name := "numericJoins", fn := fun _ => fun
  | [d1, d2] => { results := [.lit (.bool false)], args := [d1, d2] }
  | _ => none }
def NumericJoinsWrongFalsely : Prop := numericJoinsRow.holds Try.pinned (OpenSpec.ofChange numericJoinsWrong)

/-- 'keyholelaw35.NumericComputes': WHATEVER THE INPUT: true; the input reads as it did. -/
def numericComputesSpec : ChangeSpec := { name := "numericComputes", fn := fun _ => fun
  | [d1, d2, d3] => { results := [.lit (.bool true)], args := [d1, d2, d3] }
  | _ => none }
def numericComputesRow : OpenClaim := { program := "ytapkilaikcihgaa", sum := "f076e5dc8ad8e909b74064bfde586a00171c17d1f3767b691bc7235f059167cd", func := "keyhole/keyholelaw35.NumericComputes", spec := "numericComputes", recurses := true, named := ["math/bits.divideError", "math/bits.overflowError"], apart := false }
def NumericComputesSaid : Prop := numericComputesRow.holds Try.pinned (OpenSpec.ofChange numericComputesSpec)

/-- ITS FALSE NEIGHBOUR: 'it returns false'. Refute it at one input. -/
def numericComputesWrong : ChangeSpec := { name := "numericComputes", fn := fun _ => fun
  | [d1, d2, d3] => { results := [.lit (.bool false)], args := [d1, d2, d3] }
  | _ => none }
def NumericComputesWrongFalsely : Prop := numericComputesRow.holds Try.pinned (OpenSpec.ofChange numericComputesWrong)

/-- 'keyholelaw35.NumericForms': WHATEVER THE INPUT: true; the input reads as it did. -/
def numericFormsSpec : ChangeSpec := { name := "numericForms", fn := fun _ => fun
  | [d1, d2, d3] => { results := [.lit (.bool true)], args := [d1, d2, d3] }
  | _ => none }
def numericFormsRow : OpenClaim := { program := "ytapkilaikcihgaa", sum := "f076e5dc8ad8e909b74064bfde586a00171c17d1f3767b691bc7235f059167cd", func := "keyhole/keyholelaw35.NumericForms", spec := "numericForms", recurses := true, named := ["math/bits.divideError", "math/bits.overflowError"], apart := false }
def NumericFormsSaid : Prop := numericFormsRow.holds Try.pinned (OpenSpec.ofChange numericFormsSpec)

/-- ITS FALSE NEIGHBOUR: 'it returns false'. Refute it at one input. -/
def numericFormsWrong : ChangeSpec := { name := "numericForms", fn := fun _ => fun
  | [d1, d2, d3] => { results := [.lit (.bool false)], args := [d1, d2, d3] }
  | _ => none }
def NumericFormsWrongFalsely : Prop := numericFormsRow.holds Try.pinned (OpenSpec.ofChange numericFormsWrong)

/-- 'keyholelaw35.NumericSound': WHATEVER THE INPUT: true; the input reads as it did. -/
def numericSoundSpec : ChangeSpec := { name := "numericSound", fn := fun _ => fun
  | [d1, d2, d3] => { results := [.lit (.bool true)], args := [d1, d2, d3] }
  | _ => none }
def numericSoundRow : OpenClaim := { program := "ytapkilaikcihgaa", sum := "f076e5dc8ad8e909b74064bfde586a00171c17d1f3767b691bc7235f059167cd", func := "keyhole/keyholelaw35.NumericSound", spec := "numericSound", recurses := true, named := ["math/bits.divideError", "math/bits.overflowError"], apart := false }
def NumericSoundSaid : Prop := numericSoundRow.holds Try.pinned (OpenSpec.ofChange numericSoundSpec)

/-- ITS FALSE NEIGHBOUR: 'it returns false'. Refute it at one input. -/
def numericSoundWrong : ChangeSpec := { name := "numericSound", fn := fun _ => fun
  | [d1, d2, d3] => { results := [.lit (.bool false)], args := [d1, d2, d3] }
  | _ => none }
def NumericSoundWrongFalsely : Prop := numericSoundRow.holds Try.pinned (OpenSpec.ofChange numericSoundWrong)

/-- 'keyholelaw35.NumericMonotone': WHATEVER THE INPUT: true; the input reads as it did. -/
def numericMonotoneSpec : ChangeSpec := { name := "numericMonotone", fn := fun _ => fun
  | [d1, d2, d3] => { results := [.lit (.bool true)], args := [d1, d2, d3] }
  | _ => none }
def numericMonotoneRow : OpenClaim := { program := "ytapkilaikcihgaa", sum := "f076e5dc8ad8e909b74064bfde586a00171c17d1f3767b691bc7235f059167cd", func := "keyhole/keyholelaw35.NumericMonotone", spec := "numericMonotone", recurses := true, named := ["math/bits.divideError", "math/bits.overflowError"], apart := false }
def NumericMonotoneSaid : Prop := numericMonotoneRow.holds Try.pinned (OpenSpec.ofChange numericMonotoneSpec)

/-- ITS FALSE NEIGHBOUR: 'it returns false'. Refute it at one input. -/
def numericMonotoneWrong : ChangeSpec := { name := "numericMonotone", fn := fun _ => fun
  | [d1, d2, d3] => { results := [.lit (.bool false)], args := [d1, d2, d3] }
  | _ => none }
def NumericMonotoneWrongFalsely : Prop := numericMonotoneRow.holds Try.pinned (OpenSpec.ofChange numericMonotoneWrong)

/-- 'keyholelaw35.NumericClamps': WHATEVER THE INPUT: true; the input reads as it did. -/
def numericClampsSpec : ChangeSpec := { name := "numericClamps", fn := fun _ => fun
  | [d1, d2, d3] => { results := [.lit (.bool true)], args := [d1, d2, d3] }
  | _ => none }
def numericClampsRow : OpenClaim := { program := "ytapkilaikcihgaa", sum := "f076e5dc8ad8e909b74064bfde586a00171c17d1f3767b691bc7235f059167cd", func := "keyhole/keyholelaw35.NumericClamps", spec := "numericClamps", recurses := true, named := ["math/bits.divideError", "math/bits.overflowError"], apart := false }
def NumericClampsSaid : Prop := numericClampsRow.holds Try.pinned (OpenSpec.ofChange numericClampsSpec)

/-- ITS FALSE NEIGHBOUR: 'it returns false'. Refute it at one input. -/
def numericClampsWrong : ChangeSpec := { name := "numericClamps", fn := fun _ => fun
  | [d1, d2, d3] => { results := [.lit (.bool false)], args := [d1, d2, d3] }
  | _ => none }
def NumericClampsWrongFalsely : Prop := numericClampsRow.holds Try.pinned (OpenSpec.ofChange numericClampsWrong)

/-- 'keyholelaw35.NumericReads': WHATEVER THE INPUT: true; the input reads as it did. -/
def numericReadsSpec : ChangeSpec := { name := "numericReads", fn := fun _ => fun
  | [d1, d2] => { results := [.lit (.bool true)], args := [d1, d2] }
  | _ => none }
def numericReadsRow : OpenClaim := { program := "ytapkilaikcihgaa", sum := "f076e5dc8ad8e909b74064bfde586a00171c17d1f3767b691bc7235f059167cd", func := "keyhole/keyholelaw35.NumericReads", spec := "numericReads", recurses := true, named := ["math/bits.divideError", "math/bits.overflowError"], apart := false }
def NumericReadsSaid : Prop := numericReadsRow.holds Try.pinned (OpenSpec.ofChange numericReadsSpec)

/-- ITS FALSE NEIGHBOUR: 'it returns false'. Refute it at one input. -/
def numericReadsWrong : ChangeSpec := { name := "numericReads", fn := fun _ => fun
  | [d1, d2] => { results := [.lit (.bool false)], args := [d1, d2] }
  | _ => none }
def NumericReadsWrongFalsely : Prop := numericReadsRow.holds Try.pinned (OpenSpec.ofChange numericReadsWrong)

/-- 'keyholelaw35.NumericLeast': WHATEVER THE INPUT: true; the input reads as it did. -/
def numericLeastSpec : ChangeSpec := { name := "numericLeast", fn := fun _ => fun
  | [d1, d2, d3] => { results := [.lit (.bool true)], args := [d1, d2, d3] }
  | _ => none }
def numericLeastRow : OpenClaim := { program := "ytapkilaikcihgaa", sum := "f076e5dc8ad8e909b74064bfde586a00171c17d1f3767b691bc7235f059167cd", func := "keyhole/keyholelaw35.NumericLeast", spec := "numericLeast", recurses := true, named := ["math/bits.divideError", "math/bits.overflowError"], apart := false }
def NumericLeastSaid : Prop := numericLeastRow.holds Try.pinned (OpenSpec.ofChange numericLeastSpec)

/-- ITS FALSE NEIGHBOUR: 'it returns false'. Refute it at one input. -/
def numericLeastWrong : ChangeSpec := { name := "numericLeast", fn := fun _ => fun
  | [d1, d2, d3] => { results := [.lit (.bool false)], args := [d1, d2, d3] }
  | _ => none }
def NumericLeastWrongFalsely : Prop := numericLeastRow.holds Try.pinned (OpenSpec.ofChange numericLeastWrong)

/-- 'keyholelaw35.NumericSettles': WHATEVER THE INPUT: true; the input reads as it did. -/
def numericSettlesSpec : ChangeSpec := { name := "numericSettles", fn := fun _ => fun
  | [d1, d2] => { results := [.lit (.bool true)], args := [d1, d2] }
  | _ => none }
def numericSettlesRow : OpenClaim := { program := "ytapkilaikcihgaa", sum := "f076e5dc8ad8e909b74064bfde586a00171c17d1f3767b691bc7235f059167cd", func := "keyhole/keyholelaw35.NumericSettles", spec := "numericSettles", recurses := true, named := ["math/bits.divideError", "math/bits.overflowError"], apart := false }
def NumericSettlesSaid : Prop := numericSettlesRow.holds Try.pinned (OpenSpec.ofChange numericSettlesSpec)

/-- ITS FALSE NEIGHBOUR: 'it returns false'. Refute it at one input. -/
def numericSettlesWrong : ChangeSpec := { name := "numericSettles", fn := fun _ => fun
  | [d1, d2] => { results := [.lit (.bool false)], args := [d1, d2] }
  | _ => none }
def NumericSettlesWrongFalsely : Prop := numericSettlesRow.holds Try.pinned (OpenSpec.ofChange numericSettlesWrong)

/- THE SECOND FORM. 'bulk': how many values and letters a reading holds, each counted each time it is reached (what is shared counts as often as it is met; a slice's spare places count too). A statement '..UptoSaid' is the law's where the arguments, and the package variables that the reading takes, are together of bulk at most 1048576: NARROWER than '..Said'. Prove '..Said' where nothing that the law and all that it calls make is longer than what came in: it says more and counts as full. Else prove '..UptoSaid'. A law counts once. -/
mutual
def uptoBulk {H : Type} : DataW H → Nat
  | .lit (.string bytes) => bytes.length + 1
  | .lit _ => 1
  | .nil => 1
  | .ptr d => uptoBulk d + 1
  | .slice elems spare => uptoBulkAll elems + uptoBulkAll spare + 1
  | .agg parts => uptoBulkAll parts + 1
  | .iface _ d => uptoBulk d + 1
  | .map entries => uptoBulkEntries entries + 1
  | .held _ => 1
def uptoBulkAll {H : Type} : List (DataW H) → Nat
  | [] => 0
  | d :: r => uptoBulk d + uptoBulkAll r
def uptoBulkEntries {H : Type} : List (Lit × DataW H) → Nat
  | [] => 0
  | x :: r => uptoBulkEntry x + uptoBulkEntries r
def uptoBulkEntry {H : Type} : Lit × DataW H → Nat
  | (.string bytes, d) => bytes.length + uptoBulk d + 1
  | (_, d) => uptoBulk d + 1
 end
def uptoSmall : (H : Type) → List (DataW H) → Bool := fun _ ds => decide (uptoBulkAll ds ≤ 1048576)
def OpenSpec.upto (s : _root_.Go.ChangeSpec) : _root_.Go.OpenSpec := { _root_.Go.OpenSpec.ofChange s with cond := some uptoSmall }

/-- 'keyholelaw35.NumericJoins', WHERE WHAT IT READS IS OF BULK AT MOST 1048576: true; the input reads as it did. -/
def numericJoinsUptoRow : OpenClaim := { program := "ytapkilaikcihgaa", sum := "f076e5dc8ad8e909b74064bfde586a00171c17d1f3767b691bc7235f059167cd", func := "keyhole/keyholelaw35.NumericJoins", spec := "numericJoins", recurses := true, named := ["math/bits.divideError", "math/bits.overflowError"], apart := false, narrowed := true }
def NumericJoinsUptoSaid : Prop := numericJoinsUptoRow.holds Try.pinned (OpenSpec.upto numericJoinsSpec)

/-- 'keyholelaw35.NumericComputes', WHERE WHAT IT READS IS OF BULK AT MOST 1048576: true; the input reads as it did. -/
def numericComputesUptoRow : OpenClaim := { program := "ytapkilaikcihgaa", sum := "f076e5dc8ad8e909b74064bfde586a00171c17d1f3767b691bc7235f059167cd", func := "keyhole/keyholelaw35.NumericComputes", spec := "numericComputes", recurses := true, named := ["math/bits.divideError", "math/bits.overflowError"], apart := false, narrowed := true }
def NumericComputesUptoSaid : Prop := numericComputesUptoRow.holds Try.pinned (OpenSpec.upto numericComputesSpec)

/-- 'keyholelaw35.NumericForms', WHERE WHAT IT READS IS OF BULK AT MOST 1048576: true; the input reads as it did. -/
def numericFormsUptoRow : OpenClaim := { program := "ytapkilaikcihgaa", sum := "f076e5dc8ad8e909b74064bfde586a00171c17d1f3767b691bc7235f059167cd", func := "keyhole/keyholelaw35.NumericForms", spec := "numericForms", recurses := true, named := ["math/bits.divideError", "math/bits.overflowError"], apart := false, narrowed := true }
def NumericFormsUptoSaid : Prop := numericFormsUptoRow.holds Try.pinned (OpenSpec.upto numericFormsSpec)

/-- 'keyholelaw35.NumericSound', WHERE WHAT IT READS IS OF BULK AT MOST 1048576: true; the input reads as it did. -/
def numericSoundUptoRow : OpenClaim := { program := "ytapkilaikcihgaa", sum := "f076e5dc8ad8e909b74064bfde586a00171c17d1f3767b691bc7235f059167cd", func := "keyhole/keyholelaw35.NumericSound", spec := "numericSound", recurses := true, named := ["math/bits.divideError", "math/bits.overflowError"], apart := false, narrowed := true }
def NumericSoundUptoSaid : Prop := numericSoundUptoRow.holds Try.pinned (OpenSpec.upto numericSoundSpec)

/-- 'keyholelaw35.NumericMonotone', WHERE WHAT IT READS IS OF BULK AT MOST 1048576: true; the input reads as it did. -/
def numericMonotoneUptoRow : OpenClaim := { program := "ytapkilaikcihgaa", sum := "f076e5dc8ad8e909b74064bfde586a00171c17d1f3767b691bc7235f059167cd", func := "keyhole/keyholelaw35.NumericMonotone", spec := "numericMonotone", recurses := true, named := ["math/bits.divideError", "math/bits.overflowError"], apart := false, narrowed := true }
def NumericMonotoneUptoSaid : Prop := numericMonotoneUptoRow.holds Try.pinned (OpenSpec.upto numericMonotoneSpec)

/-- 'keyholelaw35.NumericClamps', WHERE WHAT IT READS IS OF BULK AT MOST 1048576: true; the input reads as it did. -/
def numericClampsUptoRow : OpenClaim := { program := "ytapkilaikcihgaa", sum := "f076e5dc8ad8e909b74064bfde586a00171c17d1f3767b691bc7235f059167cd", func := "keyhole/keyholelaw35.NumericClamps", spec := "numericClamps", recurses := true, named := ["math/bits.divideError", "math/bits.overflowError"], apart := false, narrowed := true }
def NumericClampsUptoSaid : Prop := numericClampsUptoRow.holds Try.pinned (OpenSpec.upto numericClampsSpec)

/-- 'keyholelaw35.NumericReads', WHERE WHAT IT READS IS OF BULK AT MOST 1048576: true; the input reads as it did. -/
def numericReadsUptoRow : OpenClaim := { program := "ytapkilaikcihgaa", sum := "f076e5dc8ad8e909b74064bfde586a00171c17d1f3767b691bc7235f059167cd", func := "keyhole/keyholelaw35.NumericReads", spec := "numericReads", recurses := true, named := ["math/bits.divideError", "math/bits.overflowError"], apart := false, narrowed := true }
def NumericReadsUptoSaid : Prop := numericReadsUptoRow.holds Try.pinned (OpenSpec.upto numericReadsSpec)

/-- 'keyholelaw35.NumericLeast', WHERE WHAT IT READS IS OF BULK AT MOST 1048576: true; the input reads as it did. -/
def numericLeastUptoRow : OpenClaim := { program := "ytapkilaikcihgaa", sum := "f076e5dc8ad8e909b74064bfde586a00171c17d1f3767b691bc7235f059167cd", func := "keyhole/keyholelaw35.NumericLeast", spec := "numericLeast", recurses := true, named := ["math/bits.divideError", "math/bits.overflowError"], apart := false, narrowed := true }
def NumericLeastUptoSaid : Prop := numericLeastUptoRow.holds Try.pinned (OpenSpec.upto numericLeastSpec)

/-- 'keyholelaw35.NumericSettles', WHERE WHAT IT READS IS OF BULK AT MOST 1048576: true; the input reads as it did. -/
def numericSettlesUptoRow : OpenClaim := { program := "ytapkilaikcihgaa", sum := "f076e5dc8ad8e909b74064bfde586a00171c17d1f3767b691bc7235f059167cd", func := "keyhole/keyholelaw35.NumericSettles", spec := "numericSettles", recurses := true, named := ["math/bits.divideError", "math/bits.overflowError"], apart := false, narrowed := true }
def NumericSettlesUptoSaid : Prop := numericSettlesUptoRow.holds Try.pinned (OpenSpec.upto numericSettlesSpec)

end Rows
end Go.Proofs.Ytapkilaikcihgaa
