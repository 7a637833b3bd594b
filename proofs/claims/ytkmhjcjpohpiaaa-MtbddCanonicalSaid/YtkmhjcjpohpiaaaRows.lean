/-
  No cell of these rows narrows 'for every input' (looked for: loops, veiled, ifaces, maps, wideKeys, modest, calm, conditions, laid).
  DERIVED. THE GIVEN ROWS OF THIS SEAT. 8 by the template 'for every input the law returns true; each argument reads behind the call as it read before'; 0 by the template 'total and deterministic' (their statements: YtkmhjcjpohpiaaaTotals.lean).
  GIVEN WITH THE SEED: the statements are not yours to turn. If you find one false, say at which input.
  Laid BY PROGRAM, IN A SANDBOX (cutbox-rows.mjs): the forced cells as the released guide's own fill.sh prints them over the translation 197fe5705d9a24fa… (all of the seat's roots in one cut). By AI agents, Wed Nov 11 2026. No macro, syntax, notation, axiom, sorry.
-/
import Derived.Test.YtkmhjcjpohpiaaaChecked
import GoSem.Claim
import GoSem.ClaimJoined
import GoSem.ClaimMapViews
import Derived.JoinedTies
import Derived.KernelRfl
namespace Go.Proofs.Ytkmhjcjpohpiaaa
/- THE CELL 'sum', in the pinned program and in every row, IS THE sha256 OF THE DUMP (.gsa) THAT YtkmhjcjpohpiaaaProg.lean LOADS. Nothing in Lean hashes anything: it is a label: what it is worth is what the hold of that sum in a sandbox is worth. -/
noncomputable def Try.pinned : Pinned := { name := "ytkmhjcjpohpiaaa", sum := "197fe5705d9a24fa8fc9e13dabcc60a5b79137b8f2b7ffd9f9773b403594bfa2", checked := Try.checked }
namespace Rows
def none {H : Type} : Left H := { results := [], args := [] }

/-- 'keyholelaw28.MtbddChecks': WHATEVER THE INPUT: true; the input reads as it did. -/
def mtbddChecksSpec : ChangeSpec := { name := "mtbddChecks", fn := fun _ => fun
  | [d] => { results := [.lit (.bool true)], args := [d] }
  | _ => none }
def mtbddChecksRow : OpenClaim := { program := "ytkmhjcjpohpiaaa", sum := "197fe5705d9a24fa8fc9e13dabcc60a5b79137b8f2b7ffd9f9773b403594bfa2", func := "keyhole/keyholelaw28.MtbddChecks", spec := "mtbddChecks", unfollowed := true, recurses := true, plainKeys := false, apart := false }
def MtbddChecksSaid : Prop := mtbddChecksRow.holds Try.pinned (OpenSpec.ofChange mtbddChecksSpec)

/-- ITS FALSE NEIGHBOUR: 'it returns false'. Refute it at one input. -/
def mtbddChecksWrong : ChangeSpec := { name := "mtbddChecks", fn := fun _ => fun
  | [d] => { results := [.lit (.bool false)], args := [d] }
  | _ => none }
def MtbddChecksWrongFalsely : Prop := mtbddChecksRow.holds Try.pinned (OpenSpec.ofChange mtbddChecksWrong)

/-- 'keyholelaw28.MtbddReads': WHATEVER THE INPUT: true; the input reads as it did. -/
def mtbddReadsSpec : ChangeSpec := { name := "mtbddReads", fn := fun _ => fun
  | [d1, d2] => { results := [.lit (.bool true)], args := [d1, d2] }
  | _ => none }
def mtbddReadsRow : OpenClaim := { program := "ytkmhjcjpohpiaaa", sum := "197fe5705d9a24fa8fc9e13dabcc60a5b79137b8f2b7ffd9f9773b403594bfa2", func := "keyhole/keyholelaw28.MtbddReads", spec := "mtbddReads", unfollowed := true, recurses := true, plainKeys := false, apart := false }
def MtbddReadsSaid : Prop := mtbddReadsRow.holds Try.pinned (OpenSpec.ofChange mtbddReadsSpec)

/-- ITS FALSE NEIGHBOUR: 'it returns false'. Refute it at one input. -/
def mtbddReadsWrong : ChangeSpec := { name := "mtbddReads", fn := fun _ => fun
  | [d1, d2] => { results := [.lit (.bool false)], args := [d1, d2] }
  | _ => none }
def MtbddReadsWrongFalsely : Prop := mtbddReadsRow.holds Try.pinned (OpenSpec.ofChange mtbddReadsWrong)

/-- 'keyholelaw28.MtbddSums': WHATEVER THE INPUT: true; the input reads as it did. -/
def mtbddSumsSpec : ChangeSpec := { name := "mtbddSums", fn := fun _ => fun
  | [d1, d2] => { results := [.lit (.bool true)], args := [d1, d2] }
  | _ => none }
def mtbddSumsRow : OpenClaim := { program := "ytkmhjcjpohpiaaa", sum := "197fe5705d9a24fa8fc9e13dabcc60a5b79137b8f2b7ffd9f9773b403594bfa2", func := "keyhole/keyholelaw28.MtbddSums", spec := "mtbddSums", unfollowed := true, recurses := true, plainKeys := false, apart := false }
def MtbddSumsSaid : Prop := mtbddSumsRow.holds Try.pinned (OpenSpec.ofChange mtbddSumsSpec)

/-- ITS FALSE NEIGHBOUR: 'it returns false'. Refute it at one input. -/
def mtbddSumsWrong : ChangeSpec := { name := "mtbddSums", fn := fun _ => fun
  | [d1, d2] => { results := [.lit (.bool false)], args := [d1, d2] }
  | _ => none }
def MtbddSumsWrongFalsely : Prop := mtbddSumsRow.holds Try.pinned (OpenSpec.ofChange mtbddSumsWrong)

/-- 'keyholelaw28.MtbddCanonical': WHATEVER THE INPUT: true; the input reads as it did. -/
def mtbddCanonicalSpec : ChangeSpec := { name := "mtbddCanonical", fn := fun _ => fun
  | [d1, d2] => { results := [.lit (.bool true)], args := [d1, d2] }
  | _ => none }
def mtbddCanonicalRow : OpenClaim := { program := "ytkmhjcjpohpiaaa", sum := "197fe5705d9a24fa8fc9e13dabcc60a5b79137b8f2b7ffd9f9773b403594bfa2", func := "keyhole/keyholelaw28.MtbddCanonical", spec := "mtbddCanonical", unfollowed := true, recurses := true, plainKeys := false, apart := false }
def MtbddCanonicalSaid : Prop := mtbddCanonicalRow.holds Try.pinned (OpenSpec.ofChange mtbddCanonicalSpec)

/-- ITS FALSE NEIGHBOUR: 'it returns false'. Refute it at one input. -/
def mtbddCanonicalWrong : ChangeSpec := { name := "mtbddCanonical", fn := fun _ => fun
  | [d1, d2] => { results := [.lit (.bool false)], args := [d1, d2] }
  | _ => none }
def MtbddCanonicalWrongFalsely : Prop := mtbddCanonicalRow.holds Try.pinned (OpenSpec.ofChange mtbddCanonicalWrong)

/-- 'keyholelaw28.MtbddRestricts': WHATEVER THE INPUT: true; the input reads as it did. -/
def mtbddRestrictsSpec : ChangeSpec := { name := "mtbddRestricts", fn := fun _ => fun
  | [d1, d2, d3] => { results := [.lit (.bool true)], args := [d1, d2, d3] }
  | _ => none }
def mtbddRestrictsRow : OpenClaim := { program := "ytkmhjcjpohpiaaa", sum := "197fe5705d9a24fa8fc9e13dabcc60a5b79137b8f2b7ffd9f9773b403594bfa2", func := "keyhole/keyholelaw28.MtbddRestricts", spec := "mtbddRestricts", unfollowed := true, recurses := true, plainKeys := false, apart := false }
def MtbddRestrictsSaid : Prop := mtbddRestrictsRow.holds Try.pinned (OpenSpec.ofChange mtbddRestrictsSpec)

/-- ITS FALSE NEIGHBOUR: 'it returns false'. Refute it at one input. -/
def mtbddRestrictsWrong : ChangeSpec := { name := "mtbddRestricts", fn := fun _ => fun
  | [d1, d2, d3] => { results := [.lit (.bool false)], args := [d1, d2, d3] }
  | _ => none }
def MtbddRestrictsWrongFalsely : Prop := mtbddRestrictsRow.holds Try.pinned (OpenSpec.ofChange mtbddRestrictsWrong)

/-- 'keyholelaw28.MtbddClamps': WHATEVER THE INPUT: true; the input reads as it did. -/
def mtbddClampsSpec : ChangeSpec := { name := "mtbddClamps", fn := fun _ => fun
  | [d1, d2, d3] => { results := [.lit (.bool true)], args := [d1, d2, d3] }
  | _ => none }
def mtbddClampsRow : OpenClaim := { program := "ytkmhjcjpohpiaaa", sum := "197fe5705d9a24fa8fc9e13dabcc60a5b79137b8f2b7ffd9f9773b403594bfa2", func := "keyhole/keyholelaw28.MtbddClamps", spec := "mtbddClamps", unfollowed := true, recurses := true, plainKeys := false, apart := false }
def MtbddClampsSaid : Prop := mtbddClampsRow.holds Try.pinned (OpenSpec.ofChange mtbddClampsSpec)

/-- ITS FALSE NEIGHBOUR: 'it returns false'. Refute it at one input. -/
def mtbddClampsWrong : ChangeSpec := { name := "mtbddClamps", fn := fun _ => fun
  | [d1, d2, d3] => { results := [.lit (.bool false)], args := [d1, d2, d3] }
  | _ => none }
def MtbddClampsWrongFalsely : Prop := mtbddClampsRow.holds Try.pinned (OpenSpec.ofChange mtbddClampsWrong)

/-- 'keyholelaw28.MtbddTables': WHATEVER THE INPUT: true; the input reads as it did. -/
def mtbddTablesSpec : ChangeSpec := { name := "mtbddTables", fn := fun _ => fun
  | [d1, d2, d3] => { results := [.lit (.bool true)], args := [d1, d2, d3] }
  | _ => none }
def mtbddTablesRow : OpenClaim := { program := "ytkmhjcjpohpiaaa", sum := "197fe5705d9a24fa8fc9e13dabcc60a5b79137b8f2b7ffd9f9773b403594bfa2", func := "keyhole/keyholelaw28.MtbddTables", spec := "mtbddTables", unfollowed := true, recurses := true, plainKeys := false, apart := false }
def MtbddTablesSaid : Prop := mtbddTablesRow.holds Try.pinned (OpenSpec.ofChange mtbddTablesSpec)

/-- ITS FALSE NEIGHBOUR: 'it returns false'. Refute it at one input. -/
def mtbddTablesWrong : ChangeSpec := { name := "mtbddTables", fn := fun _ => fun
  | [d1, d2, d3] => { results := [.lit (.bool false)], args := [d1, d2, d3] }
  | _ => none }
def MtbddTablesWrongFalsely : Prop := mtbddTablesRow.holds Try.pinned (OpenSpec.ofChange mtbddTablesWrong)

/-- 'keyholelaw28.MtbddIndicates': WHATEVER THE INPUT: true; the input reads as it did. -/
def mtbddIndicatesSpec : ChangeSpec := { name := "mtbddIndicates", fn := fun _ => fun
  | [d1, d2, d3] => { results := [.lit (.bool true)], args := [d1, d2, d3] }
  | _ => none }
def mtbddIndicatesRow : OpenClaim := { program := "ytkmhjcjpohpiaaa", sum := "197fe5705d9a24fa8fc9e13dabcc60a5b79137b8f2b7ffd9f9773b403594bfa2", func := "keyhole/keyholelaw28.MtbddIndicates", spec := "mtbddIndicates", unfollowed := true, recurses := true, plainKeys := false, apart := false }
def MtbddIndicatesSaid : Prop := mtbddIndicatesRow.holds Try.pinned (OpenSpec.ofChange mtbddIndicatesSpec)

/-- ITS FALSE NEIGHBOUR: 'it returns false'. Refute it at one input. -/
def mtbddIndicatesWrong : ChangeSpec := { name := "mtbddIndicates", fn := fun _ => fun
  | [d1, d2, d3] => { results := [.lit (.bool false)], args := [d1, d2, d3] }
  | _ => none }
def MtbddIndicatesWrongFalsely : Prop := mtbddIndicatesRow.holds Try.pinned (OpenSpec.ofChange mtbddIndicatesWrong)

/- THE SECOND FORM. 'bulk': how many values and letters a reading holds, each counted each time it is reached (what is shared counts as often as it is met; a slice's spare places count too). A statement '..UptoSaid' is the law's where the arguments, and the package variables that the reading takes, are together of bulk at most 1048576: NARROWER than '..Said'. Prove '..Said' where nothing that the law and all that it calls make is longer than what came in: it says more and counts as full. Else prove '..UptoSaid'. A law counts once. -/
mutual
def uptoBulk {H : Type} : DataW H → Nat
  | .lit (.string bytes) => bytes.length + 1
  | .lit _ => 1
  | .nil => 1
  | .ptr d => uptoBulk d + 1
  | .slice elems spare => uptoBulkAll elems + uptoBulkAll spare + 1
  | .agg parts => uptoBulkAll parts + 1
  | .iface _ d => uptoBulk d + 1
  | .map entries => uptoBulkEntries entries + 1
  | .held _ => 1
def uptoBulkAll {H : Type} : List (DataW H) → Nat
  | [] => 0
  | d :: r => uptoBulk d + uptoBulkAll r
def uptoBulkEntries {H : Type} : List (Lit × DataW H) → Nat
  | [] => 0
  | x :: r => uptoBulkEntry x + uptoBulkEntries r
def uptoBulkEntry {H : Type} : Lit × DataW H → Nat
  | (.string bytes, d) => bytes.length + uptoBulk d + 1
  | (_, d) => uptoBulk d + 1
 end
def uptoSmall : (H : Type) → List (DataW H) → Bool := fun _ ds => decide (uptoBulkAll ds ≤ 1048576)
def OpenSpec.upto (s : _root_.Go.ChangeSpec) : _root_.Go.OpenSpec := { _root_.Go.OpenSpec.ofChange s with cond := some uptoSmall }

/-- 'keyholelaw28.MtbddChecks', WHERE WHAT IT READS IS OF BULK AT MOST 1048576: true; the input reads as it did. -/
def mtbddChecksUptoRow : OpenClaim := { program := "ytkmhjcjpohpiaaa", sum := "197fe5705d9a24fa8fc9e13dabcc60a5b79137b8f2b7ffd9f9773b403594bfa2", func := "keyhole/keyholelaw28.MtbddChecks", spec := "mtbddChecks", unfollowed := true, recurses := true, plainKeys := false, apart := false, narrowed := true }
def MtbddChecksUptoSaid : Prop := mtbddChecksUptoRow.holds Try.pinned (OpenSpec.upto mtbddChecksSpec)

/-- 'keyholelaw28.MtbddReads', WHERE WHAT IT READS IS OF BULK AT MOST 1048576: true; the input reads as it did. -/
def mtbddReadsUptoRow : OpenClaim := { program := "ytkmhjcjpohpiaaa", sum := "197fe5705d9a24fa8fc9e13dabcc60a5b79137b8f2b7ffd9f9773b403594bfa2", func := "keyhole/keyholelaw28.MtbddReads", spec := "mtbddReads", unfollowed := true, recurses := true, plainKeys := false, apart := false, narrowed := true }
def MtbddReadsUptoSaid : Prop := mtbddReadsUptoRow.holds Try.pinned (OpenSpec.upto mtbddReadsSpec)

/-- 'keyholelaw28.MtbddSums', WHERE WHAT IT READS IS OF BULK AT MOST 1048576: true; the input reads as it did. -/
def mtbddSumsUptoRow : OpenClaim := { program := "ytkmhjcjpohpiaaa", sum := "197fe5705d9a24fa8fc9e13dabcc60a5b79137b8f2b7ffd9f9773b403594bfa2", func := "keyhole/keyholelaw28.MtbddSums", spec := "mtbddSums", unfollowed := true, recurses := true, plainKeys := false, apart := false, narrowed := true }
def MtbddSumsUptoSaid : Prop := mtbddSumsUptoRow.holds Try.pinned (OpenSpec.upto mtbddSumsSpec)

/-- 'keyholelaw28.MtbddCanonical', WHERE WHAT IT READS IS OF BULK AT MOST 1048576: true; the input reads as it did. -/
def mtbddCanonicalUptoRow : OpenClaim := { program := "ytkmhjcjpohpiaaa", sum := "197fe5705d9a24fa8fc9e13dabcc60a5b79137b8f2b7ffd9f9773b403594bfa2", func := "keyhole/keyholelaw28.MtbddCanonical", spec := "mtbddCanonical", unfollowed := true, recurses := true, plainKeys := false, apart := false, narrowed := true }
def MtbddCanonicalUptoSaid : Prop := mtbddCanonicalUptoRow.holds Try.pinned (OpenSpec.upto mtbddCanonicalSpec)

/-- 'keyholelaw28.MtbddRestricts', WHERE WHAT IT READS IS OF BULK AT MOST 1048576: true; the input reads as it did. -/
def mtbddRestrictsUptoRow : OpenClaim := { program := "ytkmhjcjpohpiaaa", sum := "197fe5705d9a24fa8fc9e13dabcc60a5b79137b8f2b7ffd9f9773b403594bfa2", func := "keyhole/keyholelaw28.MtbddRestricts", spec := "mtbddRestricts", unfollowed := true, recurses := true, plainKeys := false, apart := false, narrowed := true }
def MtbddRestrictsUptoSaid : Prop := mtbddRestrictsUptoRow.holds Try.pinned (OpenSpec.upto mtbddRestrictsSpec)

/-- 'keyholelaw28.MtbddClamps', WHERE WHAT IT READS IS OF BULK AT MOST 1048576: true; the input reads as it did. -/
def mtbddClampsUptoRow : OpenClaim := { program := "ytkmhjcjpohpiaaa", sum := "197fe5705d9a24fa8fc9e13dabcc60a5b79137b8f2b7ffd9f9773b403594bfa2", func := "keyhole/keyholelaw28.MtbddClamps", spec := "mtbddClamps", unfollowed := true, recurses := true, plainKeys := false, apart := false, narrowed := true }
def MtbddClampsUptoSaid : Prop := mtbddClampsUptoRow.holds Try.pinned (OpenSpec.upto mtbddClampsSpec)

/-- 'keyholelaw28.MtbddTables', WHERE WHAT IT READS IS OF BULK AT MOST 1048576: true; the input reads as it did. -/
def mtbddTablesUptoRow : OpenClaim := { program := "ytkmhjcjpohpiaaa", sum := "197fe5705d9a24fa8fc9e13dabcc60a5b79137b8f2b7ffd9f9773b403594bfa2", func := "keyhole/keyholelaw28.MtbddTables", spec := "mtbddTables", unfollowed := true, recurses := true, plainKeys := false, apart := false, narrowed := true }
def MtbddTablesUptoSaid : Prop := mtbddTablesUptoRow.holds Try.pinned (OpenSpec.upto mtbddTablesSpec)

/-- 'keyholelaw28.MtbddIndicates', WHERE WHAT IT READS IS OF BULK AT MOST 1048576: true; the input reads as it did. -/
def mtbddIndicatesUptoRow : OpenClaim := { program := "ytkmhjcjpohpiaaa", sum := "197fe5705d9a24fa8fc9e13dabcc60a5b79137b8f2b7ffd9f9773b403594bfa2", func := "keyhole/keyholelaw28.MtbddIndicates", spec := "mtbddIndicates", unfollowed := true, recurses := true, plainKeys := false, apart := false, narrowed := true }
def MtbddIndicatesUptoSaid : Prop := mtbddIndicatesUptoRow.holds Try.pinned (OpenSpec.upto mtbddIndicatesSpec)

end Rows
end Go.Proofs.Ytkmhjcjpohpiaaa
