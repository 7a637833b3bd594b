import Derived.Shelf.Small.Bits
import Derived.Shelf.Strconv.Itoa0
import Derived.Shelf.Sort.Plain
import Derived.Shelf.Slices.Equal
import Derived.Ground.Names2Prog
import Derived.Shelf.Slices.Clone
import Derived.Shelf.Slices.CompactI
import Derived.Shelf.Slices.SearchI
import Derived.Shelf.Slices.Delete
import Derived.Shelf.Slices.Cells
import Derived.Shelf.Slices.In.SortNone
import Derived.Shelf.Slices.Empties
import Derived.Ground.SlgnProg
import Derived.Shelf.SlicesE.Clone
import Derived.Ground.SlsfProg
import Derived.Shelf.SlSortCmp.Insertion
import Derived.Shelf.SlSortCmp.SiftDown1
import Derived.Shelf.SlSortCmp.HeapSort1
import Derived.Shelf.SlSortCmp.Insertion1
import Derived.Shelf.SlSortCmp.Median1
import Derived.Shelf.SlSortCmp.Pivot1
import Derived.Shelf.SlSortCmp.ReverseRange1
import Derived.Shelf.SlSortCmp.PartialInsertion1
import Derived.Shelf.SlSortCmp.PartitionEqual1
import Derived.Shelf.SlSortCmp.Partition1
import Derived.Shelf.SlSortCmp.Pdq1
import Derived.Shelf.SlSortCmp.Whole1
import Derived.Shelf.SlSortCmp.NoneTotal
import Derived.Shelf.SlSortCmp.WholeK
import Derived.Test.YtkmhjcjpohpiaaaProg
/-
  DERIVED: THE SHELF's CONTRACTS AT THIS DUMP,IN PLAIN WORDS (tools/lay-plain.mjs out of 'TryShelf.lean',which tools/lay-shelf.mjs wrote): THE SAME DECLARATIONS UNDER THE SAME NAMES: 'import','namespace','open','def','theorem' AND NOTHING ELSE: no command of the shelf's: FOR A HAND-IN. Each laying: the table of numbers ('.._ren') and one theorem,a field a fact of the dump's own or the kernel's comparison; each contract: ONE APPLICATION.
-/
namespace Go.Proofs
open Go.Shelf
def Try.lays189_ren:Go.Shelf.Ren:=⟨fun | 189=>87 | 125=>119 | 257=>118 | 128=>142 | 129=>143 | 294=>134 | 295=>135 | 296=>136 | 297=>137 | 298=>138 | 299=>139 | 216=>98 | 300=>140 | 301=>141 | 328=>153 | 329=>154 | 330=>155 | 331=>156 | 332=>157 | 215=>127 | 343=>169 | n=>n,fun | 28=>22 | 3=>3 | 46=>146 | 0=>0 | 51=>163 | 53=>165 | 4=>4 | 183=>157 | 182=>156 | 131=>104 | 5=>5 | 9=>9 | 218=>172 | 222=>176 | 228=>185 | 229=>186 | n=>n,fun | n=>n⟩
theorem Try.lays189:Go.Proofs.Lays.n189 Try.prog Try.lays189_ren:={
  mixed:=by kernel_rfl
  f125:=Try.func119.trans (congrArg some (by kernel_rfl))
  f128:=Try.func142.trans (congrArg some (by kernel_rfl))
  f129:=Try.func143.trans (congrArg some (by kernel_rfl))
  f189:=Try.func87.trans (congrArg some (by kernel_rfl))
  f215:=Try.func127.trans (congrArg some (by kernel_rfl))
  f216:=Try.func98.trans (congrArg some (by kernel_rfl))
  f257:=Try.func118.trans (congrArg some (by kernel_rfl))
  f294:=Try.func134.trans (congrArg some (by kernel_rfl))
  f295:=Try.func135.trans (congrArg some (by kernel_rfl))
  f296:=Try.func136.trans (congrArg some (by kernel_rfl))
  f297:=Try.func137.trans (congrArg some (by kernel_rfl))
  f298:=Try.func138.trans (congrArg some (by kernel_rfl))
  f299:=Try.func139.trans (congrArg some (by kernel_rfl))
  f300:=Try.func140.trans (congrArg some (by kernel_rfl))
  f301:=Try.func141.trans (congrArg some (by kernel_rfl))
  f328:=Try.func153.trans (congrArg some (by kernel_rfl))
  f329:=Try.func154.trans (congrArg some (by kernel_rfl))
  f330:=Try.func155.trans (congrArg some (by kernel_rfl))
  f331:=Try.func156.trans (congrArg some (by kernel_rfl))
  f332:=Try.func157.trans (congrArg some (by kernel_rfl))
  f343:=Try.func169.trans (congrArg some (by kernel_rfl))
  t0:=Try.underlying0
  a0:=Try.isAgg0
  z0:=Try.sizeOf0
  v0:=Try.zeroValue0
  t3:=Try.underlying3
  a3:=Try.isAgg3
  z3:=Try.sizeOf3
  v3:=Try.zeroValue3
  t4:=Try.underlying4
  a4:=Try.isAgg4
  z4:=Try.sizeOf4
  v4:=Try.zeroValue4
  t5:=Try.underlying5
  a5:=Try.isAgg5
  z5:=Try.sizeOf5
  v5:=Try.zeroValue5
  t9:=Try.underlying9
  a9:=Try.isAgg9
  z9:=Try.sizeOf9
  v9:=Try.zeroValue9
  t28:=Try.underlying22
  a28:=Try.isAgg22
  z28:=Try.sizeOf22
  v28:=Try.zeroValue22
  t46:=Try.underlying146
  a46:=Try.isAgg146
  z46:=Try.sizeOf146
  v46:=Try.zeroValue146
  t51:=Try.underlying163
  a51:=Try.isAgg163
  z51:=Try.sizeOf163
  v51:=Try.zeroValue163
  t53:=Try.underlying165
  a53:=Try.isAgg165
  z53:=Try.sizeOf165
  v53:=Try.zeroValue165
  t131:=Try.underlying104
  a131:=Try.isAgg104
  z131:=Try.sizeOf104
  v131:=Try.zeroValue104
  t182:=Try.underlying156
  a182:=Try.isAgg156
  z182:=Try.sizeOf156
  v182:=Try.zeroValue156
  t183:=Try.underlying157
  a183:=Try.isAgg157
  z183:=Try.sizeOf157
  v183:=Try.zeroValue157
  t218:=Try.underlying172
  a218:=Try.isAgg172
  z218:=Try.sizeOf172
  v218:=Try.zeroValue172
  t222:=Try.underlying176
  a222:=Try.isAgg176
  z222:=Try.sizeOf176
  v222:=Try.zeroValue176
  t228:=Try.underlying185
  a228:=Try.isAgg185
  z228:=Try.sizeOf185
  v228:=Try.zeroValue185
  t229:=Try.underlying186
  a229:=Try.isAgg186
  z229:=Try.sizeOf186
  v229:=Try.zeroValue186 }
open Go.Sort Go.RowKit in
theorem Try.slices_Sort_int (blk off cap:Nat) (zs:List Int) (w:World) (hH:Holds (Value.int .i64) w blk off zs.toArray) (hblk:blk < w.heap.size) (hsz:zs.length < 4611686018427387904) :
    Calls Try.prog 87 #[.slice (some ⟨blk,off,none⟩) zs.length cap] w fun e w' =>
      e=.returned (.tuple #[])∧∃ n os,w' = grow (putRow (Value.int .i64) (Sort.ahead w n) blk off (zs.mergeSort fun x y=>decide (x≤y)).toArray) os:=Any.slices_Sort_int Try.lays189 blk off cap zs w hH hblk hsz
def Try.laysNm220_ren:Go.Shelf.Ren:=⟨fun | 20=>88 | n=>n,fun | 22=>22 | 3=>3 | 4=>4 | 0=>0 | n=>n,fun | n=>n⟩
theorem Try.laysNm220:Go.Proofs.Lays2.n20 Try.prog Try.laysNm220_ren:={
  mixed:=by kernel_rfl
  f20:=Try.func88.trans (congrArg some (by kernel_rfl))
  t0:=Try.underlying0
  a0:=Try.isAgg0
  z0:=Try.sizeOf0
  v0:=Try.zeroValue0
  t3:=Try.underlying3
  a3:=Try.isAgg3
  z3:=Try.sizeOf3
  v3:=Try.zeroValue3
  t4:=Try.underlying4
  a4:=Try.isAgg4
  z4:=Try.sizeOf4
  v4:=Try.zeroValue4
  t22:=Try.underlying22
  a22:=Try.isAgg22
  z22:=Try.sizeOf22
  v22:=Try.zeroValue22
  i3:=by kernel_rfl }
open Go.RowKit Go.Lib Go.Sort in
/-- slices.Compact at []int: "Compact replaces consecutive runs of equal elements with a single copy. This is like the uniq command found on Unix. Compact modifies the contents of the slice s and returns the modified slice, which may have a smaller length. Compact zeroes the elements between the new length and the original length. The result preserves the nilness of s.": IT RETURNS THE SLICE CUT TO 'Lib.compact zs'; ITS CELLS HOLD 'Lib.compact zs', THEN ZERO VALUES up to the old length; all else is as it was, but for the count of draws. IN THE WORDS OF slices.Sort's CONTRACT ('Holds', 'putRow'): so the everyday 'slices.Sort(xs); xs = slices.Compact(xs)' goes from the one contract to the other. It asks 'zs.length ≤ cap' (every slice's: the reslicing 's[:k]' looks at it). Length 0, nil: '.._empty'. (LAID: no walk: one application.) -/
theorem Try.slices_Compact_int (blk off cap:Nat) (zs:List Int) (w:World) (hH:Holds (Value.int .i64) w blk off zs.toArray) (hsz:zs.length≤9223372036854775807) (hcap:zs.length≤cap) :
    Calls Try.prog 88 #[.slice (some ⟨blk,off,none⟩) zs.length cap] w fun e w'=>e=.returned (.slice (some ⟨blk,off,none⟩) (Lib.compact zs).length cap)∧∃ q,w' = putRow (Value.int .i64) (Sort.ahead w q) blk off (Lib.compact zs++List.replicate (zs.length - (Lib.compact zs).length) 0).toArray:=Any.slices_Compact_int Try.laysNm220 blk off cap zs w hH hsz hcap
open Go.RowKit Go.Lib Go.Sort in
/-- The same at a slice of length 0, a nil one too: it comes back as it is. (LAID: no walk: one application.) -/
theorem Try.slices_Compact_int_empty (a:Option Addr) (cap:Nat) (w:World) :
    Calls Try.prog 88 #[.slice a 0 cap] w fun e w'=>e=.returned (.slice a 0 cap)∧w' = w:=Any.slices_Compact_int_empty Try.laysNm220 a cap w
def Try.laysNm223_ren:Go.Shelf.Ren:=⟨fun | 23=>22 | n=>n,fun | 22=>22 | 3=>3 | 4=>4 | 0=>0 | n=>n,fun | n=>n⟩
theorem Try.laysNm223:Go.Proofs.Lays2.n23 Try.prog Try.laysNm223_ren:={
  mixed:=by kernel_rfl
  f23:=Try.func22.trans (congrArg some (by kernel_rfl))
  t0:=Try.underlying0
  a0:=Try.isAgg0
  z0:=Try.sizeOf0
  v0:=Try.zeroValue0
  t3:=Try.underlying3
  a3:=Try.isAgg3
  z3:=Try.sizeOf3
  v3:=Try.zeroValue3
  t4:=Try.underlying4
  a4:=Try.isAgg4
  z4:=Try.sizeOf4
  v4:=Try.zeroValue4
  t22:=Try.underlying22
  a22:=Try.isAgg22
  z22:=Try.sizeOf22
  v22:=Try.zeroValue22
  i3:=by kernel_rfl }
open Go.RowKit Go.Lib Go.Sort in
/-- slices.Delete at []int: "Delete modifies s in place by removing the elements s[i:j], and returns the modified slice. Delete panics if j > len(s) or s[i:j] is not a valid slice of s. Delete is O(len(s)-i), so if many items must be deleted, it is better to make a single call deleting them all together than to delete one at a time. Delete zeroes the elements s[len(s)-(j-i):len(s)]. If the result is empty, it has the same nilness as s.": FOR i ≤ j ≤ len(s) IT RETURNS THE SLICE CUT TO len(s) - (j - i) ELEMENTS; ITS CELLS HOLD what stood ahead of i, what stood from j on, then j - i zero values; all else is as it was, but for the count of draws. IN THE WORDS OF slices.Sort's CONTRACT ('Holds', 'putRow'). It asks 'zs.length ≤ cap ≤ 2^63 - 1' (every slice's). (Outside i ≤ j ≤ len(s) it panics: no contract here.) (LAID: no walk: one application.) -/
theorem Try.slices_Delete_int (blk off cap i j:Nat) (zs:List Int) (w:World) (hH:Holds (Value.int .i64) w blk off zs.toArray) (hcap:zs.length≤cap) (hm:cap≤9223372036854775807) (hij:i≤j) (hj:j≤zs.length) :
    Calls Try.prog 22 #[.slice (some ⟨blk,off,none⟩) zs.length cap,.int .i64 i,.int .i64 j] w fun e w'=>e=.returned (.slice (some ⟨blk,off,none⟩) (zs.length - (j - i)) cap)∧∃ q,w' = putRow (Value.int .i64) (Sort.ahead w q) blk off (zs.take i++zs.drop j++List.replicate (j - i) 0).toArray:=Any.slices_Delete_int Try.laysNm223 blk off cap i j zs w hH hcap hm hij hj
open Go.RowKit Go.Sort in
/-- .. and plain. (LAID: no walk: one application.) -/
theorem Try.slices_Sort_int_none (p:Option Addr) (cap:Nat) (w:World) :
    Calls Try.prog 87 #[.slice p 0 cap] w fun e w'=>e=.returned (.tuple #[])∧w' = w:=Any.slices_Sort_int_none Try.lays189 p cap w
def Try.laysSlF6_f129_ren:Go.Shelf.Ren:=⟨fun | 6=>129 | 15=>119 | 14=>144 | 28=>142 | 29=>143 | 20=>158 | 21=>159 | 22=>160 | 23=>161 | 24=>162 | 25=>163 | 26=>164 | 27=>165 | 46=>170 | 47=>154 | 48=>155 | 49=>171 | 50=>172 | 57=>174 | n=>n,fun | 22=>22 | 24=>3 | 25=>120 | 3=>3 | 39=>146 | 0=>0 | 53=>163 | 55=>165 | 4=>4 | 46=>157 | 45=>156 | 50=>104 | 5=>5 | 9=>9 | 66=>172 | 70=>176 | 76=>185 | 77=>186 | n=>n,fun | n=>n⟩
theorem Try.laysSlF6_f129:Go.Proofs.SlLaysF.n6 Try.prog Try.laysSlF6_f129_ren:={
  mixed:=by kernel_rfl
  f6:=⟨Try.f129.name,by decide,Try.func129.trans (congrArg some (by kernel_rfl))⟩
  f14:=⟨Try.f144.name,by decide,Try.func144.trans (congrArg some (by kernel_rfl))⟩
  f15:=Try.func119.trans (congrArg some (by kernel_rfl))
  f20:=⟨Try.f158.name,by decide,Try.func158.trans (congrArg some (by kernel_rfl))⟩
  f21:=⟨Try.f159.name,by decide,Try.func159.trans (congrArg some (by kernel_rfl))⟩
  f22:=⟨Try.f160.name,by decide,Try.func160.trans (congrArg some (by kernel_rfl))⟩
  f23:=⟨Try.f161.name,by decide,Try.func161.trans (congrArg some (by kernel_rfl))⟩
  f24:=⟨Try.f162.name,by decide,Try.func162.trans (congrArg some (by kernel_rfl))⟩
  f25:=⟨Try.f163.name,by decide,Try.func163.trans (congrArg some (by kernel_rfl))⟩
  f26:=⟨Try.f164.name,by decide,Try.func164.trans (congrArg some (by kernel_rfl))⟩
  f27:=⟨Try.f165.name,by decide,Try.func165.trans (congrArg some (by kernel_rfl))⟩
  f28:=Try.func142.trans (congrArg some (by kernel_rfl))
  f29:=Try.func143.trans (congrArg some (by kernel_rfl))
  f46:=⟨Try.f170.name,by decide,Try.func170.trans (congrArg some (by kernel_rfl))⟩
  f47:=Try.func154.trans (congrArg some (by kernel_rfl))
  f48:=Try.func155.trans (congrArg some (by kernel_rfl))
  f49:=⟨Try.f171.name,by decide,Try.func171.trans (congrArg some (by kernel_rfl))⟩
  f50:=⟨Try.f172.name,by decide,Try.func172.trans (congrArg some (by kernel_rfl))⟩
  f57:=⟨Try.f174.name,by decide,Try.func174.trans (congrArg some (by kernel_rfl))⟩
  t0:=Try.underlying0
  a0:=Try.isAgg0
  z0:=Try.sizeOf0
  v0:=Try.zeroValue0
  t3:=Try.underlying3
  a3:=Try.isAgg3
  z3:=Try.sizeOf3
  v3:=Try.zeroValue3
  t4:=Try.underlying4
  a4:=Try.isAgg4
  z4:=Try.sizeOf4
  v4:=Try.zeroValue4
  t5:=Try.underlying5
  a5:=Try.isAgg5
  z5:=Try.sizeOf5
  v5:=Try.zeroValue5
  t9:=Try.underlying9
  a9:=Try.isAgg9
  z9:=Try.sizeOf9
  v9:=Try.zeroValue9
  t22:=Try.underlying22
  a22:=Try.isAgg22
  z22:=Try.sizeOf22
  v22:=Try.zeroValue22
  a24:=Try.isAgg3
  z24:=Try.sizeOf3
  t25:=Try.underlying120
  a25:=Try.isAgg120
  z25:=Try.sizeOf120
  v25:=Try.zeroValue120
  t39:=Try.underlying146
  a39:=Try.isAgg146
  z39:=Try.sizeOf146
  v39:=Try.zeroValue146
  t45:=Try.underlying156
  a45:=Try.isAgg156
  z45:=Try.sizeOf156
  v45:=Try.zeroValue156
  t46:=Try.underlying157
  a46:=Try.isAgg157
  z46:=Try.sizeOf157
  v46:=Try.zeroValue157
  t50:=Try.underlying104
  a50:=Try.isAgg104
  z50:=Try.sizeOf104
  v50:=Try.zeroValue104
  t53:=Try.underlying163
  a53:=Try.isAgg163
  z53:=Try.sizeOf163
  v53:=Try.zeroValue163
  t55:=Try.underlying165
  a55:=Try.isAgg165
  z55:=Try.sizeOf165
  v55:=Try.zeroValue165
  t66:=Try.underlying172
  a66:=Try.isAgg172
  z66:=Try.sizeOf172
  v66:=Try.zeroValue172
  t70:=Try.underlying176
  a70:=Try.isAgg176
  z70:=Try.sizeOf176
  v70:=Try.zeroValue176
  t76:=Try.underlying185
  a76:=Try.isAgg185
  z76:=Try.sizeOf185
  v76:=Try.zeroValue185
  t77:=Try.underlying186
  a77:=Try.isAgg186
  z77:=Try.sizeOf186
  v77:=Try.zeroValue186 }
def Try.laysSlF06_f129_ren:Go.Shelf.Ren:=⟨fun | 6=>129 | 15=>119 | 14=>144 | 28=>142 | 29=>143 | 20=>158 | 21=>159 | 22=>160 | 23=>161 | 24=>162 | 25=>163 | 26=>164 | 27=>165 | 46=>170 | 47=>154 | 48=>155 | 49=>171 | 50=>172 | 57=>174 | n=>n,fun | 22=>22 | 24=>3 | 25=>120 | 3=>3 | 39=>146 | 0=>0 | 53=>163 | 55=>165 | 4=>4 | 46=>157 | 45=>156 | 50=>104 | 5=>5 | 9=>9 | 66=>172 | 70=>176 | 76=>185 | 77=>186 | n=>n,fun | n=>n⟩
theorem Try.laysSlF06_f129:Go.Proofs.SlLaysF0.n6 Try.prog Try.laysSlF06_f129_ren:={
  mixed:=by kernel_rfl
  f6:=⟨Try.f129.name,by decide,Try.func129.trans (congrArg some (by kernel_rfl))⟩
  f14:=⟨Try.f144.name,by decide,Try.func144.trans (congrArg some (by kernel_rfl))⟩
  f15:=Try.func119.trans (congrArg some (by kernel_rfl))
  f20:=⟨Try.f158.name,by decide,Try.func158.trans (congrArg some (by kernel_rfl))⟩
  f21:=⟨Try.f159.name,by decide,Try.func159.trans (congrArg some (by kernel_rfl))⟩
  f22:=⟨Try.f160.name,by decide,Try.func160.trans (congrArg some (by kernel_rfl))⟩
  f23:=⟨Try.f161.name,by decide,Try.func161.trans (congrArg some (by kernel_rfl))⟩
  f24:=⟨Try.f162.name,by decide,Try.func162.trans (congrArg some (by kernel_rfl))⟩
  f25:=⟨Try.f163.name,by decide,Try.func163.trans (congrArg some (by kernel_rfl))⟩
  f26:=⟨Try.f164.name,by decide,Try.func164.trans (congrArg some (by kernel_rfl))⟩
  f27:=⟨Try.f165.name,by decide,Try.func165.trans (congrArg some (by kernel_rfl))⟩
  f28:=Try.func142.trans (congrArg some (by kernel_rfl))
  f29:=Try.func143.trans (congrArg some (by kernel_rfl))
  f46:=⟨Try.f170.name,by decide,Try.func170.trans (congrArg some (by kernel_rfl))⟩
  f47:=Try.func154.trans (congrArg some (by kernel_rfl))
  f48:=Try.func155.trans (congrArg some (by kernel_rfl))
  f49:=⟨Try.f171.name,by decide,Try.func171.trans (congrArg some (by kernel_rfl))⟩
  f50:=⟨Try.f172.name,by decide,Try.func172.trans (congrArg some (by kernel_rfl))⟩
  f57:=⟨Try.f174.name,by decide,Try.func174.trans (congrArg some (by kernel_rfl))⟩
  t0:=Try.underlying0
  a0:=Try.isAgg0
  z0:=Try.sizeOf0
  v0:=Try.zeroValue0
  t3:=Try.underlying3
  a3:=Try.isAgg3
  z3:=Try.sizeOf3
  v3:=Try.zeroValue3
  t4:=Try.underlying4
  a4:=Try.isAgg4
  z4:=Try.sizeOf4
  v4:=Try.zeroValue4
  t5:=Try.underlying5
  a5:=Try.isAgg5
  z5:=Try.sizeOf5
  v5:=Try.zeroValue5
  t9:=Try.underlying9
  a9:=Try.isAgg9
  z9:=Try.sizeOf9
  v9:=Try.zeroValue9
  t22:=Try.underlying22
  a22:=Try.isAgg22
  z22:=Try.sizeOf22
  v22:=Try.zeroValue22
  t25:=Try.underlying120
  a25:=Try.isAgg120
  z25:=Try.sizeOf120
  v25:=Try.zeroValue120
  t39:=Try.underlying146
  a39:=Try.isAgg146
  z39:=Try.sizeOf146
  v39:=Try.zeroValue146
  t45:=Try.underlying156
  a45:=Try.isAgg156
  z45:=Try.sizeOf156
  v45:=Try.zeroValue156
  t46:=Try.underlying157
  a46:=Try.isAgg157
  z46:=Try.sizeOf157
  v46:=Try.zeroValue157
  t50:=Try.underlying104
  a50:=Try.isAgg104
  z50:=Try.sizeOf104
  v50:=Try.zeroValue104
  t53:=Try.underlying163
  a53:=Try.isAgg163
  z53:=Try.sizeOf163
  v53:=Try.zeroValue163
  t55:=Try.underlying165
  a55:=Try.isAgg165
  z55:=Try.sizeOf165
  v55:=Try.zeroValue165
  t66:=Try.underlying172
  a66:=Try.isAgg172
  z66:=Try.sizeOf172
  v66:=Try.zeroValue172
  t70:=Try.underlying176
  a70:=Try.isAgg176
  z70:=Try.sizeOf176
  v70:=Try.zeroValue176
  t76:=Try.underlying185
  a76:=Try.isAgg185
  z76:=Try.sizeOf185
  v76:=Try.zeroValue185
  t77:=Try.underlying186
  a77:=Try.isAgg186
  z77:=Try.sizeOf186
  v77:=Try.zeroValue186 }
open Go.RowKit Go.Lib Go.Sort in
/-- **slices.SortFunc AT NO ELEMENT, A nil SLICE TOO: nothing turns.** (LAID AT THE INSTANCE 'slices.SortFunc[[]int,int]': no walk: one application.) -/
theorem Try.slices_SortFunc_none {α:Type} [Inhabited α] (p:Option Addr) (cap:Nat) (fv:Value) (w:World) :
    Calls Try.prog 129 #[.slice p 0 cap,fv] w fun e w'=>e=.returned (.tuple #[])∧w' = w:=AnyF.slices_SortFunc_none Try.laysSlF06_f129 p cap fv w
open Go.RowKit Go.Lib Go.Sort in
/-- **slices.SortFunc AT ONE CELL, UNDER A 'cmp' THAT PARTS WHATEVER TWO THAT ARE NOT ONE: THE ROW HOLDS core's 'mergeSort'.** (LAID AT THE INSTANCE 'slices.SortFunc[[]int,int]': no walk: one application.) -/
theorem Try.slices_SortFunc_total {α:Type} [Inhabited α] (enc:α→Value) (h1:OneCell enc) (cf:α→α→Int) (hO:SWO (ltOf cf)) (g:Nat) (cb:Array Value) (blk off cap:Nat) (d:Array α) (w:World) (eg:∀ args w,(callFunc g args).run Try.prog w=.ok (.enter g args) w) (hcmp:CmpLays1 Try.prog g cb enc cf blk off d.size w) (hH:Holds enc w blk off d) (hblk:blk < w.heap.size) (hsz:d.size < 4611686018427387904) (hT:∀ x y,(ltOf cf) x y=false→(ltOf cf) y x=false→x=y) :
    Calls Try.prog 129 #[.slice (some ⟨blk,off,none⟩) d.size cap,.func (.func g) #[] cb] w fun e w' =>
      e=.returned (.tuple #[])∧∃ n os,w' = sortWorld enc w blk off n (d.toList.mergeSort fun x y=>!(ltOf cf) y x).toArray os:=Any.slices_SortFunc_total Try.laysSlF6_f129 enc h1 cf hO g cb blk off cap d w eg hcmp hH hblk hsz hT
def Try.laysSlPair_ren:Go.Shelf.Ren:=⟨fun | 6=>104 | 15=>119 | 14=>132 | 28=>142 | 29=>143 | 20=>145 | 21=>146 | 22=>147 | 23=>148 | 24=>149 | 25=>150 | 26=>151 | 27=>152 | 46=>166 | 47=>154 | 48=>155 | 49=>167 | 50=>168 | 57=>173 | n=>n,fun | 22=>47 | 24=>51 | 25=>109 | 3=>3 | 39=>146 | 0=>0 | 53=>163 | 55=>165 | 4=>4 | 46=>157 | 45=>156 | 50=>104 | 5=>5 | 9=>9 | 66=>172 | 70=>176 | 76=>185 | 77=>186 | n=>n,fun | n=>n⟩
theorem Try.laysSlPair:Go.Proofs.SlLaysF0.n6 Try.prog Try.laysSlPair_ren:={
  mixed:=by kernel_rfl
  f6:=⟨Try.f104.name,by decide,Try.func104.trans (congrArg some (by kernel_rfl))⟩
  f14:=⟨Try.f132.name,by decide,Try.func132.trans (congrArg some (by kernel_rfl))⟩
  f15:=Try.func119.trans (congrArg some (by kernel_rfl))
  f20:=⟨Try.f145.name,by decide,Try.func145.trans (congrArg some (by kernel_rfl))⟩
  f21:=⟨Try.f146.name,by decide,Try.func146.trans (congrArg some (by kernel_rfl))⟩
  f22:=⟨Try.f147.name,by decide,Try.func147.trans (congrArg some (by kernel_rfl))⟩
  f23:=⟨Try.f148.name,by decide,Try.func148.trans (congrArg some (by kernel_rfl))⟩
  f24:=⟨Try.f149.name,by decide,Try.func149.trans (congrArg some (by kernel_rfl))⟩
  f25:=⟨Try.f150.name,by decide,Try.func150.trans (congrArg some (by kernel_rfl))⟩
  f26:=⟨Try.f151.name,by decide,Try.func151.trans (congrArg some (by kernel_rfl))⟩
  f27:=⟨Try.f152.name,by decide,Try.func152.trans (congrArg some (by kernel_rfl))⟩
  f28:=Try.func142.trans (congrArg some (by kernel_rfl))
  f29:=Try.func143.trans (congrArg some (by kernel_rfl))
  f46:=⟨Try.f166.name,by decide,Try.func166.trans (congrArg some (by kernel_rfl))⟩
  f47:=Try.func154.trans (congrArg some (by kernel_rfl))
  f48:=Try.func155.trans (congrArg some (by kernel_rfl))
  f49:=⟨Try.f167.name,by decide,Try.func167.trans (congrArg some (by kernel_rfl))⟩
  f50:=⟨Try.f168.name,by decide,Try.func168.trans (congrArg some (by kernel_rfl))⟩
  f57:=⟨Try.f173.name,by decide,Try.func173.trans (congrArg some (by kernel_rfl))⟩
  t0:=Try.underlying0
  a0:=Try.isAgg0
  z0:=Try.sizeOf0
  v0:=Try.zeroValue0
  t3:=Try.underlying3
  a3:=Try.isAgg3
  z3:=Try.sizeOf3
  v3:=Try.zeroValue3
  t4:=Try.underlying4
  a4:=Try.isAgg4
  z4:=Try.sizeOf4
  v4:=Try.zeroValue4
  t5:=Try.underlying5
  a5:=Try.isAgg5
  z5:=Try.sizeOf5
  v5:=Try.zeroValue5
  t9:=Try.underlying9
  a9:=Try.isAgg9
  z9:=Try.sizeOf9
  v9:=Try.zeroValue9
  t22:=Try.underlying47
  a22:=Try.isAgg47
  z22:=Try.sizeOf47
  v22:=Try.zeroValue47
  t25:=Try.underlying109
  a25:=Try.isAgg109
  z25:=Try.sizeOf109
  v25:=Try.zeroValue109
  t39:=Try.underlying146
  a39:=Try.isAgg146
  z39:=Try.sizeOf146
  v39:=Try.zeroValue146
  t45:=Try.underlying156
  a45:=Try.isAgg156
  z45:=Try.sizeOf156
  v45:=Try.zeroValue156
  t46:=Try.underlying157
  a46:=Try.isAgg157
  z46:=Try.sizeOf157
  v46:=Try.zeroValue157
  t50:=Try.underlying104
  a50:=Try.isAgg104
  z50:=Try.sizeOf104
  v50:=Try.zeroValue104
  t53:=Try.underlying163
  a53:=Try.isAgg163
  z53:=Try.sizeOf163
  v53:=Try.zeroValue163
  t55:=Try.underlying165
  a55:=Try.isAgg165
  z55:=Try.sizeOf165
  v55:=Try.zeroValue165
  t66:=Try.underlying172
  a66:=Try.isAgg172
  z66:=Try.sizeOf172
  v66:=Try.zeroValue172
  t70:=Try.underlying176
  a70:=Try.isAgg176
  z70:=Try.sizeOf176
  v70:=Try.zeroValue176
  t76:=Try.underlying185
  a76:=Try.isAgg185
  z76:=Try.sizeOf185
  v76:=Try.zeroValue185
  t77:=Try.underlying186
  a77:=Try.isAgg186
  z77:=Try.sizeOf186
  v77:=Try.zeroValue186 }
end Go.Proofs
