/-
  No cell of these rows narrows 'for every input' (looked for: loops, veiled, ifaces, maps, wideKeys, modest, calm, conditions, laid).
  DERIVED. THE GIVEN ROWS OF THIS SEAT. 3 by the template 'for every input the law returns true; each argument reads behind the call as it read before'; 0 by the template 'total and deterministic' (their statements: YtkmhjcjpohpiaaaGreatTotals.lean).
  GIVEN WITH THE SEED: the statements are not yours to turn. If you find one false, say at which input.
  Laid BY PROGRAM, IN A SANDBOX (cutbox-rows.mjs): the forced cells as the released guide's own fill.sh prints them over the translation 5f5d671befa22253… (all of the seat's roots in one cut). By AI agents, Wed Nov 11 2026. No macro, syntax, notation, axiom, sorry.
-/
import Derived.Test.YtkmhjcjpohpiaaaGreatChecked
import GoSem.Claim
import GoSem.ClaimJoined
import GoSem.ClaimMapViews
import Derived.JoinedTies
import Derived.KernelRfl
namespace Go.Proofs.YtkmhjcjpohpiaaaGreat
/- THE CELL 'sum', in the pinned program and in every row, IS THE sha256 OF THE DUMP (.gsa) THAT YtkmhjcjpohpiaaaGreatProg.lean LOADS. Nothing in Lean hashes anything: it is a label: what it is worth is what the hold of that sum in a sandbox is worth. -/
noncomputable def Tryz.pinned : Pinned := { name := "ytkmhjcjpohpiaaagreat", sum := "5f5d671befa2225336c0ca731dad4d993189a540af953b1f1491f4d5c428a3bd", checked := Tryz.checked }
namespace Rows
def none {H : Type} : Left H := { results := [], args := [] }

/-- 'keyholelaw28.MtbddApplies': WHATEVER THE INPUT: true; the input reads as it did. -/
def mtbddAppliesSpec : ChangeSpec := { name := "mtbddApplies", fn := fun _ => fun
  | [d1, d2, d3] => { results := [.lit (.bool true)], args := [d1, d2, d3] }
  | _ => none }
def mtbddAppliesRow : OpenClaim := { program := "ytkmhjcjpohpiaaagreat", sum := "5f5d671befa2225336c0ca731dad4d993189a540af953b1f1491f4d5c428a3bd", func := "keyhole/keyholelaw28.MtbddApplies", spec := "mtbddApplies", unfollowed := true, recurses := true, plainKeys := false, apart := false }
def MtbddAppliesSaid : Prop := mtbddAppliesRow.holds Tryz.pinned (OpenSpec.ofChange mtbddAppliesSpec)

/-- ITS FALSE NEIGHBOUR: 'it returns false'. Refute it at one input. -/
def mtbddAppliesWrong : ChangeSpec := { name := "mtbddApplies", fn := fun _ => fun
  | [d1, d2, d3] => { results := [.lit (.bool false)], args := [d1, d2, d3] }
  | _ => none }
def MtbddAppliesWrongFalsely : Prop := mtbddAppliesRow.holds Tryz.pinned (OpenSpec.ofChange mtbddAppliesWrong)

/-- 'keyholelaw28.MtbddPairs': WHATEVER THE INPUT: true; the input reads as it did. -/
def mtbddPairsSpec : ChangeSpec := { name := "mtbddPairs", fn := fun _ => fun
  | [d1, d2] => { results := [.lit (.bool true)], args := [d1, d2] }
  | _ => none }
def mtbddPairsRow : OpenClaim := { program := "ytkmhjcjpohpiaaagreat", sum := "5f5d671befa2225336c0ca731dad4d993189a540af953b1f1491f4d5c428a3bd", func := "keyhole/keyholelaw28.MtbddPairs", spec := "mtbddPairs", unfollowed := true, recurses := true, plainKeys := false, apart := false }
def MtbddPairsSaid : Prop := mtbddPairsRow.holds Tryz.pinned (OpenSpec.ofChange mtbddPairsSpec)

/-- ITS FALSE NEIGHBOUR: 'it returns false'. Refute it at one input. -/
def mtbddPairsWrong : ChangeSpec := { name := "mtbddPairs", fn := fun _ => fun
  | [d1, d2] => { results := [.lit (.bool false)], args := [d1, d2] }
  | _ => none }
def MtbddPairsWrongFalsely : Prop := mtbddPairsRow.holds Tryz.pinned (OpenSpec.ofChange mtbddPairsWrong)

/-- 'keyholelaw28.MtbddChooses': WHATEVER THE INPUT: true; the input reads as it did. -/
def mtbddChoosesSpec : ChangeSpec := { name := "mtbddChooses", fn := fun _ => fun
  | [d1, d2, d3] => { results := [.lit (.bool true)], args := [d1, d2, d3] }
  | _ => none }
def mtbddChoosesRow : OpenClaim := { program := "ytkmhjcjpohpiaaagreat", sum := "5f5d671befa2225336c0ca731dad4d993189a540af953b1f1491f4d5c428a3bd", func := "keyhole/keyholelaw28.MtbddChooses", spec := "mtbddChooses", unfollowed := true, recurses := true, plainKeys := false, apart := false }
def MtbddChoosesSaid : Prop := mtbddChoosesRow.holds Tryz.pinned (OpenSpec.ofChange mtbddChoosesSpec)

/-- ITS FALSE NEIGHBOUR: 'it returns false'. Refute it at one input. -/
def mtbddChoosesWrong : ChangeSpec := { name := "mtbddChooses", fn := fun _ => fun
  | [d1, d2, d3] => { results := [.lit (.bool false)], args := [d1, d2, d3] }
  | _ => none }
def MtbddChoosesWrongFalsely : Prop := mtbddChoosesRow.holds Tryz.pinned (OpenSpec.ofChange mtbddChoosesWrong)

/- THE SECOND FORM. 'bulk': how many values and letters a reading holds, each counted each time it is reached (what is shared counts as often as it is met; a slice's spare places count too). A statement '..UptoSaid' is the law's where the arguments, and the package variables that the reading takes, are together of bulk at most 1048576: NARROWER than '..Said'. Prove '..Said' where nothing that the law and all that it calls make is longer than what came in: it says more and counts as full. Else prove '..UptoSaid'. A law counts once. -/
mutual
def uptoBulk {H : Type} : DataW H → Nat
  | .lit (.string bytes) => bytes.length + 1
  | .lit _ => 1
  | .nil => 1
  | .ptr d => uptoBulk d + 1
  | .slice elems spare => uptoBulkAll elems + uptoBulkAll spare + 1
  | .agg parts => uptoBulkAll parts + 1
  | .iface _ d => uptoBulk d + 1
  | .map entries => uptoBulkEntries entries + 1
  | .held _ => 1
def uptoBulkAll {H : Type} : List (DataW H) → Nat
  | [] => 0
  | d :: r => uptoBulk d + uptoBulkAll r
def uptoBulkEntries {H : Type} : List (Lit × DataW H) → Nat
  | [] => 0
  | x :: r => uptoBulkEntry x + uptoBulkEntries r
def uptoBulkEntry {H : Type} : Lit × DataW H → Nat
  | (.string bytes, d) => bytes.length + uptoBulk d + 1
  | (_, d) => uptoBulk d + 1
 end
def uptoSmall : (H : Type) → List (DataW H) → Bool := fun _ ds => decide (uptoBulkAll ds ≤ 1048576)
def OpenSpec.upto (s : _root_.Go.ChangeSpec) : _root_.Go.OpenSpec := { _root_.Go.OpenSpec.ofChange s with cond := some uptoSmall }

/-- 'keyholelaw28.MtbddApplies', WHERE WHAT IT READS IS OF BULK AT MOST 1048576: true; the input reads as it did. -/
def mtbddAppliesUptoRow : OpenClaim := { program := "ytkmhjcjpohpiaaagreat", sum := "5f5d671befa2225336c0ca731dad4d993189a540af953b1f1491f4d5c428a3bd", func := "keyhole/keyholelaw28.MtbddApplies", spec := "mtbddApplies", unfollowed := true, recurses := true, plainKeys := false, apart := false, narrowed := true }
def MtbddAppliesUptoSaid : Prop := mtbddAppliesUptoRow.holds Tryz.pinned (OpenSpec.upto mtbddAppliesSpec)

/-- 'keyholelaw28.MtbddPairs', WHERE WHAT IT READS IS OF BULK AT MOST 1048576: true; the input reads as it did. -/
def mtbddPairsUptoRow : OpenClaim := { program := "ytkmhjcjpohpiaaagreat", sum := "5f5d671befa2225336c0ca731dad4d993189a540af953b1f1491f4d5c428a3bd", func := "keyhole/keyholelaw28.MtbddPairs", spec := "mtbddPairs", unfollowed := true, recurses := true, plainKeys := false, apart := false, narrowed := true }
def MtbddPairsUptoSaid : Prop := mtbddPairsUptoRow.holds Tryz.pinned (OpenSpec.upto mtbddPairsSpec)

/-- 'keyholelaw28.MtbddChooses', WHERE WHAT IT READS IS OF BULK AT MOST 1048576: true; the input reads as it did. -/
def mtbddChoosesUptoRow : OpenClaim := { program := "ytkmhjcjpohpiaaagreat", sum := "5f5d671befa2225336c0ca731dad4d993189a540af953b1f1491f4d5c428a3bd", func := "keyhole/keyholelaw28.MtbddChooses", spec := "mtbddChooses", unfollowed := true, recurses := true, plainKeys := false, apart := false, narrowed := true }
def MtbddChoosesUptoSaid : Prop := mtbddChoosesUptoRow.holds Tryz.pinned (OpenSpec.upto mtbddChoosesSpec)

end Rows
end Go.Proofs.YtkmhjcjpohpiaaaGreat
