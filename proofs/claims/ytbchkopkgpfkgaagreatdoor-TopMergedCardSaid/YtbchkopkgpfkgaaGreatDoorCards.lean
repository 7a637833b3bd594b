/-
  DERIVED. GIVEN WITH THE SEED: THE CARDS: each row of YtbchkopkgpfkgaaGreatDoorRows.lean that lists a variable, with what it lists TIED to the program's text (the seventh form; the later family's looks); each row that meets fmt, with fmt's text TOLD by the authors' own Lean function (tested against real Go, not proved from fmt's source: count such statements apart). THE CARD IS WHAT COUNTS. Prove the row's statement (the work); the ties are given (YtbchkopkgpfkgaaGreatDoorTie.lean); close each card by the builder's one call (the guide's Derived/Test/ToyasCard.lean, 'card_holds'). Laid BY PROGRAM, IN A SANDBOX (cutbox-door.mjs). By AI agents, Wed Nov 11 2026. No macro, syntax, notation, axiom, sorry.
-/
import Derived.Test.YtbchkopkgpfkgaaGreatDoorRows
import GoSem.ClaimSeven
namespace Go.Proofs.YtbchkopkgpfkgaaGreatDoor
namespace Rows

/-- THE TIED CARD OF 'keyholetop.TopMiracle'. -/
def topMiracleCard : Claim7 := { stood := { row := topMiracleRow, standIns := [], harness := (true, "0627d5ff18c05613e216b549ea9dc6914ba4f2056132be46cb292fc95eea2f4a"), looks := false }, kinds := [], alts := [], laidByText := true, laidKinds := [.data, .data, .data], laidTests := true, laidLooks := .later }
def TopMiracleCardSaid : Prop := Claim7.holds Tryz.pinned (.plain (OpenSpec.ofChange topMiracleSpec)) topMiracleCard

/-- THE TIED CARD OF 'keyholetop.TopMerged'. -/
def topMergedCard : Claim7 := { stood := { row := topMergedRow, standIns := [], harness := (true, "0627d5ff18c05613e216b549ea9dc6914ba4f2056132be46cb292fc95eea2f4a"), looks := false }, kinds := [], alts := [], laidByText := true, laidKinds := [.data, .data, .data], laidTests := true, laidLooks := .later }
def TopMergedCardSaid : Prop := Claim7.holds Tryz.pinned (.plain (OpenSpec.ofChange topMergedSpec)) topMergedCard

/-- THE SECOND FORM's CARD OF 'keyholetop.TopMiracle'. -/
def topMiracleUptoCard : Claim7 := { stood := { row := topMiracleUptoRow, standIns := [], harness := (true, "0627d5ff18c05613e216b549ea9dc6914ba4f2056132be46cb292fc95eea2f4a"), looks := false }, kinds := [], alts := [], laidByText := true, laidKinds := [.data, .data, .data], laidTests := true, laidLooks := .later }
def TopMiracleUptoCardSaid : Prop := Claim7.holds Tryz.pinned (.plain (OpenSpec.upto topMiracleSpec)) topMiracleUptoCard

/-- THE SECOND FORM's CARD OF 'keyholetop.TopMerged'. -/
def topMergedUptoCard : Claim7 := { stood := { row := topMergedUptoRow, standIns := [], harness := (true, "0627d5ff18c05613e216b549ea9dc6914ba4f2056132be46cb292fc95eea2f4a"), looks := false }, kinds := [], alts := [], laidByText := true, laidKinds := [.data, .data, .data], laidTests := true, laidLooks := .later }
def TopMergedUptoCardSaid : Prop := Claim7.holds Tryz.pinned (.plain (OpenSpec.upto topMergedSpec)) topMergedUptoCard
end Rows
end Go.Proofs.YtbchkopkgpfkgaaGreatDoor
