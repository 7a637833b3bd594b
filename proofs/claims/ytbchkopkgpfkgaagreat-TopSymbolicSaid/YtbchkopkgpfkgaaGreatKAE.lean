import Derived.Shelf.Spec.SlicesGrow
import Derived.Test.YtbchkopkgpfkgaaGreatProg
import Derived.Test.YtbchkopkgpfkgaaGreatKAA
set_option linter.unusedVariables false
set_option linter.unusedSimpArgs false
namespace Go.Proofs
open Go.Shelf
theorem Tryz.zg{a b:Func}{o:Option Func}(h:o=some a)(k:a=b:=by kernel_rfl):o=some b:=h.trans (congrArg some k)
def Tryz.laysGrow_ren:Go.Shelf.Ren:=⟨fun|4=>105|n=>n,fun|22=>35|25=>3|3=>3|4=>4|9=>9|20=>20|0=>0|n=>n,fun|n=>n⟩
theorem Tryz.laysGrow:Go.Proofs.Lays8.n4 Tryz.prog Tryz.laysGrow_ren:=⟨eD,⟨Tryz.f105.name,j_,Tryz.zg Tryz.func105⟩,Tryz.underlying0,Tryz.isAgg0,Tryz.sizeOf0,Tryz.zeroValue0,Tryz.underlying3,Tryz.isAgg3,Tryz.sizeOf3,Tryz.zeroValue3,Tryz.underlying4,Tryz.isAgg4,Tryz.sizeOf4,Tryz.zeroValue4,Tryz.underlying9,Tryz.isAgg9,Tryz.sizeOf9,Tryz.zeroValue9,Tryz.underlying20,Tryz.isAgg20,Tryz.sizeOf20,Tryz.zeroValue20,Tryz.underlying35,Tryz.isAgg35,Tryz.sizeOf35,Tryz.zeroValue35⟩
end Go.Proofs
