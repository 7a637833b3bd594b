import Derived.Test.YtbchkopkgpfkgaaGreatDoorCards
import Derived.Test.YtbchkopkgpfkgaaGreatDoorTie
import Derived.SevenTiedAt
import Derived.Test.YtbchkopkgpfkgaaGreatDoorLf1
/- The tied card of TopMiracle: the row, and the listed tables tied to the program's text. -/
namespace Go.Proofs.YtbchkopkgpfkgaaGreatDoor
open Go
theorem topMiracleCard_holds : Rows.TopMiracleCardSaid :=
  Claim7.holds_tied_plain_at .later [] [.data, .data, .data] true (true, "0627d5ff18c05613e216b549ea9dc6914ba4f2056132be46cb292fc95eea2f4a") false
    topMiracle_holds (fun _ h => by cases h) (by kernel_rfl) (fun _ h => by cases h) topMiracle_row_tie rfl ⟨rfl, rfl⟩ (by kernel_rfl) rfl
    (fun f fn hf hfn => by
      obtain rfl : f = 3 := Option.some.inj ((show Tryz.prog.funcNamed "keyhole/keyholetop.TopMiracle" = some 3 by kernel_rfl).symm.trans hf) |>.symm
      obtain rfl : fn = Tryz.f3 := (Option.some.inj (Tryz.func3.symm.trans hfn)).symm
      exact ⟨by kernel_rfl, fun j t ht => by
        rw [Tryz.params3] at ht
        have hm : t ∈ [26, 29, 33] := by simpa using Array.mem_of_getElem? ht
        have hall : ([26, 29, 33].all fun u => !Tryz.prog.wantsStandIn u) = true := by kernel_rfl
        exact (show Tryz.prog.wantsStandIn t = false by simpa using List.all_eq_true.1 hall t hm)⟩)
    (by kernel_rfl)
#print axioms topMiracleCard_holds
end Go.Proofs.YtbchkopkgpfkgaaGreatDoor
