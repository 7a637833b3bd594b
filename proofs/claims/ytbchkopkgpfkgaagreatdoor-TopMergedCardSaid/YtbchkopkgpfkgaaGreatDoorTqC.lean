import Derived.Test.YtbchkopkgpfkgaaGreatDoorWq
import Derived.Test.YtbchkopkgpfkgaaGreatDoorTy
import Derived.Lib.LaidTab
/- From the row's condition on the laid table to what the walks ask for. -/
namespace Go.Proofs.YtbchkopkgpfkgaaGreatDoor
open Go Go.Vc Go.Lib
theorem gPow : Tryz.prog.globalNamed "internal/strconv.uint64pow10" = some 0 := by kernel_rfl
theorem tPow : (Tryz.prog.globals[0]?).map (·.type) = some 261 := by kernel_rfl
theorem TabV.of {W : World} (h : TabIs Tryz.prog W "internal/strconv.uint64pow10" .u64 pow10Tab) : TabV Tryz.prog (hv W) := by
  unfold TabIs World.var? at h
  rw [gPow] at h
  simp only [Option.bind_some] at h
  cases hb : W.heap[0]? with
  | none => simp [hb] at h
  | some o =>
    cases o with
    | cells cs E fz => exact ⟨0, E, fz, gPow, by show W.heap[0]? = _; rw [hb]; simp [hb] at h; rw [h]⟩
    | _ => simp [hb] at h
end Go.Proofs.YtbchkopkgpfkgaaGreatDoor
