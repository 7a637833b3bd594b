import Derived.Test.YtbchkopkgpfkgaaGreatDoorCards
import Derived.Test.YtbchkopkgpfkgaaGreatDoorTie
import Derived.SevenTiedAt
import Derived.Test.YtbchkopkgpfkgaaGreatDoorLf2
/- The tied card of TopMerged: the row, and the listed tables tied to the program's text. -/
namespace Go.Proofs.YtbchkopkgpfkgaaGreatDoor
open Go
theorem topMergedCard_holds : Rows.TopMergedCardSaid :=
  Claim7.holds_tied_plain_at .later [] [.data, .data, .data] true (true, "0627d5ff18c05613e216b549ea9dc6914ba4f2056132be46cb292fc95eea2f4a") false
    topMerged_holds (fun _ h => by cases h) (by kernel_rfl) (fun _ h => by cases h) topMerged_row_tie rfl ⟨rfl, rfl⟩ (by kernel_rfl) rfl
    (fun f fn hf hfn => by
      obtain rfl : f = 4 := Option.some.inj ((show Tryz.prog.funcNamed "keyhole/keyholetop.TopMerged" = some 4 by kernel_rfl).symm.trans hf) |>.symm
      obtain rfl : fn = Tryz.f4 := (Option.some.inj (Tryz.func4.symm.trans hfn)).symm
      exact ⟨by kernel_rfl, fun j t ht => by
        rw [Tryz.params4] at ht
        have hm : t ∈ [26, 29, 27] := by simpa using Array.mem_of_getElem? ht
        have hall : ([26, 29, 27].all fun u => !Tryz.prog.wantsStandIn u) = true := by kernel_rfl
        exact (show Tryz.prog.wantsStandIn t = false by simpa using List.all_eq_true.1 hall t hm)⟩)
    (by kernel_rfl)
#print axioms topMergedCard_holds
end Go.Proofs.YtbchkopkgpfkgaaGreatDoor
