/-
  No cell of these rows narrows 'for every input' (looked for: loops, veiled, ifaces, maps, wideKeys, modest, calm, conditions, laid).
  DERIVED. THE GIVEN ROWS OF THIS SEAT. 10 by the template 'for every input the law returns true; each argument reads behind the call as it read before'; 0 by the template 'total and deterministic' (their statements: YtgehdgeiikjohaaTotals.lean).
  GIVEN WITH THE SEED: the statements are not yours to turn. If you find one false, say at which input.
  Laid BY PROGRAM, IN A SANDBOX (cutbox-rows.mjs): the forced cells as the released guide's own fill.sh prints them over the translation e66b01ea8f21d36a… (all of the seat's roots in one cut). By AI agents, Wed Nov 11 2026. No macro, syntax, notation, axiom, sorry.
-/
import Derived.Test.YtgehdgeiikjohaaChecked
import GoSem.Claim
import GoSem.ClaimJoined
import GoSem.ClaimMapViews
import Derived.JoinedTies
import Derived.KernelRfl
namespace Go.Proofs.Ytgehdgeiikjohaa
/- THE CELL 'sum', in the pinned program and in every row, IS THE sha256 OF THE DUMP (.gsa) THAT YtgehdgeiikjohaaProg.lean LOADS. Nothing in Lean hashes anything: it is a label: what it is worth is what the hold of that sum in a sandbox is worth. -/
noncomputable def Try.pinned : Pinned := { name := "ytgehdgeiikjohaa", sum := "e66b01ea8f21d36abc9d6af5eaa81187312e47d55c5cc7e7585866ed785bf94e", checked := Try.checked }
namespace Rows
def none {H : Type} : Left H := { results := [], args := [] }

/-- 'keyholelaw27.BddChecks': WHATEVER THE INPUT: true; the input reads as it did. -/
def bddChecksSpec : ChangeSpec := { name := "bddChecks", fn := fun _ => fun
  | [d] => { results := [.lit (.bool true)], args := [d] }
  | _ => none }
def bddChecksRow : OpenClaim := { program := "ytgehdgeiikjohaa", sum := "e66b01ea8f21d36abc9d6af5eaa81187312e47d55c5cc7e7585866ed785bf94e", func := "keyhole/keyholelaw27.BddChecks", spec := "bddChecks", unfollowed := true, recurses := true, plainKeys := false, apart := false }
def BddChecksSaid : Prop := bddChecksRow.holds Try.pinned (OpenSpec.ofChange bddChecksSpec)

/-- ITS FALSE NEIGHBOUR: 'it returns false'. Refute it at one input. -/
def bddChecksWrong : ChangeSpec := { name := "bddChecks", fn := fun _ => fun
  | [d] => { results := [.lit (.bool false)], args := [d] }
  | _ => none }
def BddChecksWrongFalsely : Prop := bddChecksRow.holds Try.pinned (OpenSpec.ofChange bddChecksWrong)

/-- 'keyholelaw27.BddApplies': WHATEVER THE INPUT: true; the input reads as it did. -/
def bddAppliesSpec : ChangeSpec := { name := "bddApplies", fn := fun _ => fun
  | [d1, d2, d3] => { results := [.lit (.bool true)], args := [d1, d2, d3] }
  | _ => none }
def bddAppliesRow : OpenClaim := { program := "ytgehdgeiikjohaa", sum := "e66b01ea8f21d36abc9d6af5eaa81187312e47d55c5cc7e7585866ed785bf94e", func := "keyhole/keyholelaw27.BddApplies", spec := "bddApplies", unfollowed := true, recurses := true, plainKeys := false, apart := false }
def BddAppliesSaid : Prop := bddAppliesRow.holds Try.pinned (OpenSpec.ofChange bddAppliesSpec)

/-- ITS FALSE NEIGHBOUR: 'it returns false'. Refute it at one input. -/
def bddAppliesWrong : ChangeSpec := { name := "bddApplies", fn := fun _ => fun
  | [d1, d2, d3] => { results := [.lit (.bool false)], args := [d1, d2, d3] }
  | _ => none }
def BddAppliesWrongFalsely : Prop := bddAppliesRow.holds Try.pinned (OpenSpec.ofChange bddAppliesWrong)

/-- 'keyholelaw27.BddLeaves': WHATEVER THE INPUT: true; the input reads as it did. -/
def bddLeavesSpec : ChangeSpec := { name := "bddLeaves", fn := fun _ => fun
  | [d1, d2, d3] => { results := [.lit (.bool true)], args := [d1, d2, d3] }
  | _ => none }
def bddLeavesRow : OpenClaim := { program := "ytgehdgeiikjohaa", sum := "e66b01ea8f21d36abc9d6af5eaa81187312e47d55c5cc7e7585866ed785bf94e", func := "keyhole/keyholelaw27.BddLeaves", spec := "bddLeaves", unfollowed := true, recurses := true, plainKeys := false, apart := false }
def BddLeavesSaid : Prop := bddLeavesRow.holds Try.pinned (OpenSpec.ofChange bddLeavesSpec)

/-- ITS FALSE NEIGHBOUR: 'it returns false'. Refute it at one input. -/
def bddLeavesWrong : ChangeSpec := { name := "bddLeaves", fn := fun _ => fun
  | [d1, d2, d3] => { results := [.lit (.bool false)], args := [d1, d2, d3] }
  | _ => none }
def BddLeavesWrongFalsely : Prop := bddLeavesRow.holds Try.pinned (OpenSpec.ofChange bddLeavesWrong)

/-- 'keyholelaw27.BddCanonical': WHATEVER THE INPUT: true; the input reads as it did. -/
def bddCanonicalSpec : ChangeSpec := { name := "bddCanonical", fn := fun _ => fun
  | [d1, d2] => { results := [.lit (.bool true)], args := [d1, d2] }
  | _ => none }
def bddCanonicalRow : OpenClaim := { program := "ytgehdgeiikjohaa", sum := "e66b01ea8f21d36abc9d6af5eaa81187312e47d55c5cc7e7585866ed785bf94e", func := "keyhole/keyholelaw27.BddCanonical", spec := "bddCanonical", unfollowed := true, recurses := true, plainKeys := false, apart := false }
def BddCanonicalSaid : Prop := bddCanonicalRow.holds Try.pinned (OpenSpec.ofChange bddCanonicalSpec)

/-- ITS FALSE NEIGHBOUR: 'it returns false'. Refute it at one input. -/
def bddCanonicalWrong : ChangeSpec := { name := "bddCanonical", fn := fun _ => fun
  | [d1, d2] => { results := [.lit (.bool false)], args := [d1, d2] }
  | _ => none }
def BddCanonicalWrongFalsely : Prop := bddCanonicalRow.holds Try.pinned (OpenSpec.ofChange bddCanonicalWrong)

/-- 'keyholelaw27.BddChooses': WHATEVER THE INPUT: true; the input reads as it did. -/
def bddChoosesSpec : ChangeSpec := { name := "bddChooses", fn := fun _ => fun
  | [d1, d2, d3] => { results := [.lit (.bool true)], args := [d1, d2, d3] }
  | _ => none }
def bddChoosesRow : OpenClaim := { program := "ytgehdgeiikjohaa", sum := "e66b01ea8f21d36abc9d6af5eaa81187312e47d55c5cc7e7585866ed785bf94e", func := "keyhole/keyholelaw27.BddChooses", spec := "bddChooses", unfollowed := true, recurses := true, plainKeys := false, apart := false }
def BddChoosesSaid : Prop := bddChoosesRow.holds Try.pinned (OpenSpec.ofChange bddChoosesSpec)

/-- ITS FALSE NEIGHBOUR: 'it returns false'. Refute it at one input. -/
def bddChoosesWrong : ChangeSpec := { name := "bddChooses", fn := fun _ => fun
  | [d1, d2, d3] => { results := [.lit (.bool false)], args := [d1, d2, d3] }
  | _ => none }
def BddChoosesWrongFalsely : Prop := bddChoosesRow.holds Try.pinned (OpenSpec.ofChange bddChoosesWrong)

/-- 'keyholelaw27.BddTables': WHATEVER THE INPUT: true; the input reads as it did. -/
def bddTablesSpec : ChangeSpec := { name := "bddTables", fn := fun _ => fun
  | [d1, d2, d3] => { results := [.lit (.bool true)], args := [d1, d2, d3] }
  | _ => none }
def bddTablesRow : OpenClaim := { program := "ytgehdgeiikjohaa", sum := "e66b01ea8f21d36abc9d6af5eaa81187312e47d55c5cc7e7585866ed785bf94e", func := "keyhole/keyholelaw27.BddTables", spec := "bddTables", unfollowed := true, recurses := true, plainKeys := false, apart := false }
def BddTablesSaid : Prop := bddTablesRow.holds Try.pinned (OpenSpec.ofChange bddTablesSpec)

/-- ITS FALSE NEIGHBOUR: 'it returns false'. Refute it at one input. -/
def bddTablesWrong : ChangeSpec := { name := "bddTables", fn := fun _ => fun
  | [d1, d2, d3] => { results := [.lit (.bool false)], args := [d1, d2, d3] }
  | _ => none }
def BddTablesWrongFalsely : Prop := bddTablesRow.holds Try.pinned (OpenSpec.ofChange bddTablesWrong)

/-- 'keyholelaw27.BddQuantifies': WHATEVER THE INPUT: true; the input reads as it did. -/
def bddQuantifiesSpec : ChangeSpec := { name := "bddQuantifies", fn := fun _ => fun
  | [d1, d2] => { results := [.lit (.bool true)], args := [d1, d2] }
  | _ => none }
def bddQuantifiesRow : OpenClaim := { program := "ytgehdgeiikjohaa", sum := "e66b01ea8f21d36abc9d6af5eaa81187312e47d55c5cc7e7585866ed785bf94e", func := "keyhole/keyholelaw27.BddQuantifies", spec := "bddQuantifies", unfollowed := true, recurses := true, plainKeys := false, apart := false }
def BddQuantifiesSaid : Prop := bddQuantifiesRow.holds Try.pinned (OpenSpec.ofChange bddQuantifiesSpec)

/-- ITS FALSE NEIGHBOUR: 'it returns false'. Refute it at one input. -/
def bddQuantifiesWrong : ChangeSpec := { name := "bddQuantifies", fn := fun _ => fun
  | [d1, d2] => { results := [.lit (.bool false)], args := [d1, d2] }
  | _ => none }
def BddQuantifiesWrongFalsely : Prop := bddQuantifiesRow.holds Try.pinned (OpenSpec.ofChange bddQuantifiesWrong)

/-- 'keyholelaw27.BddRestricts': WHATEVER THE INPUT: true; the input reads as it did. -/
def bddRestrictsSpec : ChangeSpec := { name := "bddRestricts", fn := fun _ => fun
  | [d1, d2, d3] => { results := [.lit (.bool true)], args := [d1, d2, d3] }
  | _ => none }
def bddRestrictsRow : OpenClaim := { program := "ytgehdgeiikjohaa", sum := "e66b01ea8f21d36abc9d6af5eaa81187312e47d55c5cc7e7585866ed785bf94e", func := "keyhole/keyholelaw27.BddRestricts", spec := "bddRestricts", unfollowed := true, recurses := true, plainKeys := false, apart := false }
def BddRestrictsSaid : Prop := bddRestrictsRow.holds Try.pinned (OpenSpec.ofChange bddRestrictsSpec)

/-- ITS FALSE NEIGHBOUR: 'it returns false'. Refute it at one input. -/
def bddRestrictsWrong : ChangeSpec := { name := "bddRestricts", fn := fun _ => fun
  | [d1, d2, d3] => { results := [.lit (.bool false)], args := [d1, d2, d3] }
  | _ => none }
def BddRestrictsWrongFalsely : Prop := bddRestrictsRow.holds Try.pinned (OpenSpec.ofChange bddRestrictsWrong)

/-- 'keyholelaw27.BddExpands': WHATEVER THE INPUT: true; the input reads as it did. -/
def bddExpandsSpec : ChangeSpec := { name := "bddExpands", fn := fun _ => fun
  | [d1, d2] => { results := [.lit (.bool true)], args := [d1, d2] }
  | _ => none }
def bddExpandsRow : OpenClaim := { program := "ytgehdgeiikjohaa", sum := "e66b01ea8f21d36abc9d6af5eaa81187312e47d55c5cc7e7585866ed785bf94e", func := "keyhole/keyholelaw27.BddExpands", spec := "bddExpands", unfollowed := true, recurses := true, plainKeys := false, apart := false }
def BddExpandsSaid : Prop := bddExpandsRow.holds Try.pinned (OpenSpec.ofChange bddExpandsSpec)

/-- ITS FALSE NEIGHBOUR: 'it returns false'. Refute it at one input. -/
def bddExpandsWrong : ChangeSpec := { name := "bddExpands", fn := fun _ => fun
  | [d1, d2] => { results := [.lit (.bool false)], args := [d1, d2] }
  | _ => none }
def BddExpandsWrongFalsely : Prop := bddExpandsRow.holds Try.pinned (OpenSpec.ofChange bddExpandsWrong)

/-- 'keyholelaw27.BddCounts': WHATEVER THE INPUT: true; the input reads as it did. -/
def bddCountsSpec : ChangeSpec := { name := "bddCounts", fn := fun _ => fun
  | [d1, d2] => { results := [.lit (.bool true)], args := [d1, d2] }
  | _ => none }
def bddCountsRow : OpenClaim := { program := "ytgehdgeiikjohaa", sum := "e66b01ea8f21d36abc9d6af5eaa81187312e47d55c5cc7e7585866ed785bf94e", func := "keyhole/keyholelaw27.BddCounts", spec := "bddCounts", unfollowed := true, recurses := true, plainKeys := false, apart := false }
def BddCountsSaid : Prop := bddCountsRow.holds Try.pinned (OpenSpec.ofChange bddCountsSpec)

/-- ITS FALSE NEIGHBOUR: 'it returns false'. Refute it at one input. -/
def bddCountsWrong : ChangeSpec := { name := "bddCounts", fn := fun _ => fun
  | [d1, d2] => { results := [.lit (.bool false)], args := [d1, d2] }
  | _ => none }
def BddCountsWrongFalsely : Prop := bddCountsRow.holds Try.pinned (OpenSpec.ofChange bddCountsWrong)

/- THE SECOND FORM. 'bulk': how many values and letters a reading holds, each counted each time it is reached (what is shared counts as often as it is met; a slice's spare places count too). A statement '..UptoSaid' is the law's where the arguments, and the package variables that the reading takes, are together of bulk at most 1048576: NARROWER than '..Said'. Prove '..Said' where nothing that the law and all that it calls make is longer than what came in: it says more and counts as full. Else prove '..UptoSaid'. A law counts once. -/
mutual
def uptoBulk {H : Type} : DataW H → Nat
  | .lit (.string bytes) => bytes.length + 1
  | .lit _ => 1
  | .nil => 1
  | .ptr d => uptoBulk d + 1
  | .slice elems spare => uptoBulkAll elems + uptoBulkAll spare + 1
  | .agg parts => uptoBulkAll parts + 1
  | .iface _ d => uptoBulk d + 1
  | .map entries => uptoBulkEntries entries + 1
  | .held _ => 1
def uptoBulkAll {H : Type} : List (DataW H) → Nat
  | [] => 0
  | d :: r => uptoBulk d + uptoBulkAll r
def uptoBulkEntries {H : Type} : List (Lit × DataW H) → Nat
  | [] => 0
  | x :: r => uptoBulkEntry x + uptoBulkEntries r
def uptoBulkEntry {H : Type} : Lit × DataW H → Nat
  | (.string bytes, d) => bytes.length + uptoBulk d + 1
  | (_, d) => uptoBulk d + 1
 end
def uptoSmall : (H : Type) → List (DataW H) → Bool := fun _ ds => decide (uptoBulkAll ds ≤ 1048576)
def OpenSpec.upto (s : _root_.Go.ChangeSpec) : _root_.Go.OpenSpec := { _root_.Go.OpenSpec.ofChange s with cond := some uptoSmall }

/-- 'keyholelaw27.BddChecks', WHERE WHAT IT READS IS OF BULK AT MOST 1048576: true; the input reads as it did. -/
def bddChecksUptoRow : OpenClaim := { program := "ytgehdgeiikjohaa", sum := "e66b01ea8f21d36abc9d6af5eaa81187312e47d55c5cc7e7585866ed785bf94e", func := "keyhole/keyholelaw27.BddChecks", spec := "bddChecks", unfollowed := true, recurses := true, plainKeys := false, apart := false, narrowed := true }
def BddChecksUptoSaid : Prop := bddChecksUptoRow.holds Try.pinned (OpenSpec.upto bddChecksSpec)

/-- 'keyholelaw27.BddApplies', WHERE WHAT IT READS IS OF BULK AT MOST 1048576: true; the input reads as it did. -/
def bddAppliesUptoRow : OpenClaim := { program := "ytgehdgeiikjohaa", sum := "e66b01ea8f21d36abc9d6af5eaa81187312e47d55c5cc7e7585866ed785bf94e", func := "keyhole/keyholelaw27.BddApplies", spec := "bddApplies", unfollowed := true, recurses := true, plainKeys := false, apart := false, narrowed := true }
def BddAppliesUptoSaid : Prop := bddAppliesUptoRow.holds Try.pinned (OpenSpec.upto bddAppliesSpec)

/-- 'keyholelaw27.BddLeaves', WHERE WHAT IT READS IS OF BULK AT MOST 1048576: true; the input reads as it did. -/
def bddLeavesUptoRow : OpenClaim := { program := "ytgehdgeiikjohaa", sum := "e66b01ea8f21d36abc9d6af5eaa81187312e47d55c5cc7e7585866ed785bf94e", func := "keyhole/keyholelaw27.BddLeaves", spec := "bddLeaves", unfollowed := true, recurses := true, plainKeys := false, apart := false, narrowed := true }
def BddLeavesUptoSaid : Prop := bddLeavesUptoRow.holds Try.pinned (OpenSpec.upto bddLeavesSpec)

/-- 'keyholelaw27.BddCanonical', WHERE WHAT IT READS IS OF BULK AT MOST 1048576: true; the input reads as it did. -/
def bddCanonicalUptoRow : OpenClaim := { program := "ytgehdgeiikjohaa", sum := "e66b01ea8f21d36abc9d6af5eaa81187312e47d55c5cc7e7585866ed785bf94e", func := "keyhole/keyholelaw27.BddCanonical", spec := "bddCanonical", unfollowed := true, recurses := true, plainKeys := false, apart := false, narrowed := true }
def BddCanonicalUptoSaid : Prop := bddCanonicalUptoRow.holds Try.pinned (OpenSpec.upto bddCanonicalSpec)

/-- 'keyholelaw27.BddChooses', WHERE WHAT IT READS IS OF BULK AT MOST 1048576: true; the input reads as it did. -/
def bddChoosesUptoRow : OpenClaim := { program := "ytgehdgeiikjohaa", sum := "e66b01ea8f21d36abc9d6af5eaa81187312e47d55c5cc7e7585866ed785bf94e", func := "keyhole/keyholelaw27.BddChooses", spec := "bddChooses", unfollowed := true, recurses := true, plainKeys := false, apart := false, narrowed := true }
def BddChoosesUptoSaid : Prop := bddChoosesUptoRow.holds Try.pinned (OpenSpec.upto bddChoosesSpec)

/-- 'keyholelaw27.BddTables', WHERE WHAT IT READS IS OF BULK AT MOST 1048576: true; the input reads as it did. -/
def bddTablesUptoRow : OpenClaim := { program := "ytgehdgeiikjohaa", sum := "e66b01ea8f21d36abc9d6af5eaa81187312e47d55c5cc7e7585866ed785bf94e", func := "keyhole/keyholelaw27.BddTables", spec := "bddTables", unfollowed := true, recurses := true, plainKeys := false, apart := false, narrowed := true }
def BddTablesUptoSaid : Prop := bddTablesUptoRow.holds Try.pinned (OpenSpec.upto bddTablesSpec)

/-- 'keyholelaw27.BddQuantifies', WHERE WHAT IT READS IS OF BULK AT MOST 1048576: true; the input reads as it did. -/
def bddQuantifiesUptoRow : OpenClaim := { program := "ytgehdgeiikjohaa", sum := "e66b01ea8f21d36abc9d6af5eaa81187312e47d55c5cc7e7585866ed785bf94e", func := "keyhole/keyholelaw27.BddQuantifies", spec := "bddQuantifies", unfollowed := true, recurses := true, plainKeys := false, apart := false, narrowed := true }
def BddQuantifiesUptoSaid : Prop := bddQuantifiesUptoRow.holds Try.pinned (OpenSpec.upto bddQuantifiesSpec)

/-- 'keyholelaw27.BddRestricts', WHERE WHAT IT READS IS OF BULK AT MOST 1048576: true; the input reads as it did. -/
def bddRestrictsUptoRow : OpenClaim := { program := "ytgehdgeiikjohaa", sum := "e66b01ea8f21d36abc9d6af5eaa81187312e47d55c5cc7e7585866ed785bf94e", func := "keyhole/keyholelaw27.BddRestricts", spec := "bddRestricts", unfollowed := true, recurses := true, plainKeys := false, apart := false, narrowed := true }
def BddRestrictsUptoSaid : Prop := bddRestrictsUptoRow.holds Try.pinned (OpenSpec.upto bddRestrictsSpec)

/-- 'keyholelaw27.BddExpands', WHERE WHAT IT READS IS OF BULK AT MOST 1048576: true; the input reads as it did. -/
def bddExpandsUptoRow : OpenClaim := { program := "ytgehdgeiikjohaa", sum := "e66b01ea8f21d36abc9d6af5eaa81187312e47d55c5cc7e7585866ed785bf94e", func := "keyhole/keyholelaw27.BddExpands", spec := "bddExpands", unfollowed := true, recurses := true, plainKeys := false, apart := false, narrowed := true }
def BddExpandsUptoSaid : Prop := bddExpandsUptoRow.holds Try.pinned (OpenSpec.upto bddExpandsSpec)

/-- 'keyholelaw27.BddCounts', WHERE WHAT IT READS IS OF BULK AT MOST 1048576: true; the input reads as it did. -/
def bddCountsUptoRow : OpenClaim := { program := "ytgehdgeiikjohaa", sum := "e66b01ea8f21d36abc9d6af5eaa81187312e47d55c5cc7e7585866ed785bf94e", func := "keyhole/keyholelaw27.BddCounts", spec := "bddCounts", unfollowed := true, recurses := true, plainKeys := false, apart := false, narrowed := true }
def BddCountsUptoSaid : Prop := bddCountsUptoRow.holds Try.pinned (OpenSpec.upto bddCountsSpec)

end Rows
end Go.Proofs.Ytgehdgeiikjohaa
