/-
  DERIVED: THE SHELF's CONTRACTS AT THIS DUMP, IN PLAIN WORDS (tools/lay-plain.mjs out of 'TryShelf.lean', which tools/lay-shelf.mjs wrote): THE SAME DECLARATIONS UNDER THE SAME NAMES: 'import', 'namespace', 'open', 'def', 'theorem' AND NOTHING ELSE: no command of the shelf's: FOR A HAND-IN. Each laying: the table of numbers ('.._ren') and one theorem, a field a fact of the dump's own or the kernel's comparison; each contract: ONE APPLICATION.
-/
import Derived.Shelf.Small.Bits
import Derived.Shelf.Small.Wraps
import Derived.Shelf.Strconv.Itoa0
import Derived.Shelf.Sort.Plain
import Derived.Ground.Names2Prog
import Derived.Shelf.Slices.CompactI
import Derived.Shelf.Slices.SearchI
import Derived.Shelf.Slices.Cells
import Derived.Shelf.Slices.In.SortNone
import Derived.Shelf.SlSortCmp.WholeK
import Derived.Shelf.SlSortCmp.NoneTotal
import Derived.Test.YtmkbjhligjnagaaProg
namespace Go.Proofs
open Go.Shelf
def Try.lays215_ren : Go.Shelf.Ren := ⟨fun | 215 => 68 | n => n, fun | 3 => 3 | 4 => 4 | n => n, fun | n => n⟩
theorem Try.lays215 : Go.Proofs.Lays.n215 Try.prog Try.lays215_ren := {
  mixed := by kernel_rfl
  f215 := Try.func68.trans (congrArg some (by kernel_rfl))
  t3 := Try.underlying3
  a3 := Try.isAgg3
  z3 := Try.sizeOf3
  v3 := Try.zeroValue3
  t4 := Try.underlying4
  a4 := Try.isAgg4
  z4 := Try.sizeOf4
  v4 := Try.zeroValue4 }
def Try.lays122_ren : Go.Shelf.Ren := ⟨fun | 122 => 61 | 215 => 68 | n => n, fun | 3 => 3 | 4 => 4 | n => n, fun | n => n⟩
theorem Try.lays122 : Go.Proofs.Lays.n122 Try.prog Try.lays122_ren := {
  mixed := by kernel_rfl
  f122 := Try.func61.trans (congrArg some (by kernel_rfl))
  f215 := Try.func68.trans (congrArg some (by kernel_rfl))
  t3 := Try.underlying3
  a3 := Try.isAgg3
  z3 := Try.sizeOf3
  v3 := Try.zeroValue3
  t4 := Try.underlying4
  a4 := Try.isAgg4
  z4 := Try.sizeOf4
  v4 := Try.zeroValue4 }
open Go.RowKit in
/-- cmp.Compare at int: "Compare returns -1 if x is less than y, 0 if x equals y, +1 if x is greater than y.": IT RETURNS 'Lib.compareInt x y'; the world is as it was. (LAID: no walk: one application.) -/
theorem Try.cmp_Compare_int (x y : Int) (w : World) :
    Calls Try.prog 61 #[.int .i64 x, .int .i64 y] w fun e w' => e = .returned (.int .i64 (Lib.compareInt x y)) ∧ w' = w := Any.cmp_Compare_int Try.lays122 x y w
def Try.lays189_ren : Go.Shelf.Ren := ⟨fun | 189 => 64 | 125 => 71 | 257 => 70 | 128 => 82 | 129 => 83 | 294 => 73 | 295 => 74 | 296 => 75 | 297 => 76 | 298 => 77 | 299 => 78 | 216 => 79 | 300 => 80 | 301 => 81 | 328 => 92 | 329 => 93 | 330 => 94 | 331 => 95 | 332 => 96 | 215 => 68 | 343 => 100 | n => n, fun | 28 => 29 | 3 => 3 | 46 => 100 | 0 => 0 | 51 => 111 | 53 => 113 | 4 => 4 | 183 => 104 | 182 => 103 | 131 => 71 | 5 => 5 | 9 => 9 | 218 => 119 | 222 => 123 | 228 => 127 | 229 => 58 | n => n, fun | n => n⟩
theorem Try.lays189 : Go.Proofs.Lays.n189 Try.prog Try.lays189_ren := {
  mixed := by kernel_rfl
  f125 := Try.func71.trans (congrArg some (by kernel_rfl))
  f128 := Try.func82.trans (congrArg some (by kernel_rfl))
  f129 := Try.func83.trans (congrArg some (by kernel_rfl))
  f189 := Try.func64.trans (congrArg some (by kernel_rfl))
  f215 := Try.func68.trans (congrArg some (by kernel_rfl))
  f216 := Try.func79.trans (congrArg some (by kernel_rfl))
  f257 := Try.func70.trans (congrArg some (by kernel_rfl))
  f294 := Try.func73.trans (congrArg some (by kernel_rfl))
  f295 := Try.func74.trans (congrArg some (by kernel_rfl))
  f296 := Try.func75.trans (congrArg some (by kernel_rfl))
  f297 := Try.func76.trans (congrArg some (by kernel_rfl))
  f298 := Try.func77.trans (congrArg some (by kernel_rfl))
  f299 := Try.func78.trans (congrArg some (by kernel_rfl))
  f300 := Try.func80.trans (congrArg some (by kernel_rfl))
  f301 := Try.func81.trans (congrArg some (by kernel_rfl))
  f328 := Try.func92.trans (congrArg some (by kernel_rfl))
  f329 := Try.func93.trans (congrArg some (by kernel_rfl))
  f330 := Try.func94.trans (congrArg some (by kernel_rfl))
  f331 := Try.func95.trans (congrArg some (by kernel_rfl))
  f332 := Try.func96.trans (congrArg some (by kernel_rfl))
  f343 := Try.func100.trans (congrArg some (by kernel_rfl))
  t0 := Try.underlying0
  a0 := Try.isAgg0
  z0 := Try.sizeOf0
  v0 := Try.zeroValue0
  t3 := Try.underlying3
  a3 := Try.isAgg3
  z3 := Try.sizeOf3
  v3 := Try.zeroValue3
  t4 := Try.underlying4
  a4 := Try.isAgg4
  z4 := Try.sizeOf4
  v4 := Try.zeroValue4
  t5 := Try.underlying5
  a5 := Try.isAgg5
  z5 := Try.sizeOf5
  v5 := Try.zeroValue5
  t9 := Try.underlying9
  a9 := Try.isAgg9
  z9 := Try.sizeOf9
  v9 := Try.zeroValue9
  t28 := Try.underlying29
  a28 := Try.isAgg29
  z28 := Try.sizeOf29
  v28 := Try.zeroValue29
  t46 := Try.underlying100
  a46 := Try.isAgg100
  z46 := Try.sizeOf100
  v46 := Try.zeroValue100
  t51 := Try.underlying111
  a51 := Try.isAgg111
  z51 := Try.sizeOf111
  v51 := Try.zeroValue111
  t53 := Try.underlying113
  a53 := Try.isAgg113
  z53 := Try.sizeOf113
  v53 := Try.zeroValue113
  t131 := Try.underlying71
  a131 := Try.isAgg71
  z131 := Try.sizeOf71
  v131 := Try.zeroValue71
  t182 := Try.underlying103
  a182 := Try.isAgg103
  z182 := Try.sizeOf103
  v182 := Try.zeroValue103
  t183 := Try.underlying104
  a183 := Try.isAgg104
  z183 := Try.sizeOf104
  v183 := Try.zeroValue104
  t218 := Try.underlying119
  a218 := Try.isAgg119
  z218 := Try.sizeOf119
  v218 := Try.zeroValue119
  t222 := Try.underlying123
  a222 := Try.isAgg123
  z222 := Try.sizeOf123
  v222 := Try.zeroValue123
  t228 := Try.underlying127
  a228 := Try.isAgg127
  z228 := Try.sizeOf127
  v228 := Try.zeroValue127
  t229 := Try.underlying58
  a229 := Try.isAgg58
  z229 := Try.sizeOf58
  v229 := Try.zeroValue58 }
open Go.Sort Go.RowKit in
theorem Try.slices_Sort_int (blk off cap : Nat) (zs : List Int) (w : World) (hH : Holds (Value.int .i64) w blk off zs.toArray) (hblk : blk < w.heap.size) (hsz : zs.length < 4611686018427387904) :
    Calls Try.prog 64 #[.slice (some ⟨blk, off, none⟩) zs.length cap] w fun e w' =>
      e = .returned (.tuple #[]) ∧ ∃ n os, w' = grow (putRow (Value.int .i64) (Sort.ahead w n) blk off (zs.mergeSort fun x y => decide (x ≤ y)).toArray) os := Any.slices_Sort_int Try.lays189 blk off cap zs w hH hblk hsz
def Try.laysNm220_ren : Go.Shelf.Ren := ⟨fun | 20 => 51 | n => n, fun | 22 => 29 | 3 => 3 | 4 => 4 | 0 => 0 | n => n, fun | n => n⟩
theorem Try.laysNm220 : Go.Proofs.Lays2.n20 Try.prog Try.laysNm220_ren := {
  mixed := by kernel_rfl
  f20 := Try.func51.trans (congrArg some (by kernel_rfl))
  t0 := Try.underlying0
  a0 := Try.isAgg0
  z0 := Try.sizeOf0
  v0 := Try.zeroValue0
  t3 := Try.underlying3
  a3 := Try.isAgg3
  z3 := Try.sizeOf3
  v3 := Try.zeroValue3
  t4 := Try.underlying4
  a4 := Try.isAgg4
  z4 := Try.sizeOf4
  v4 := Try.zeroValue4
  t22 := Try.underlying29
  a22 := Try.isAgg29
  z22 := Try.sizeOf29
  v22 := Try.zeroValue29
  i3 := by kernel_rfl }
open Go.RowKit Go.Lib Go.Sort in
/-- slices.Compact at []int: "Compact replaces consecutive runs of equal elements with a single copy. This is like the uniq command found on Unix. Compact modifies the contents of the slice s and returns the modified slice, which may have a smaller length. Compact zeroes the elements between the new length and the original length. The result preserves the nilness of s.": IT RETURNS THE SLICE CUT TO 'Lib.compact zs'; ITS CELLS HOLD 'Lib.compact zs', THEN ZERO VALUES up to the old length; all else is as it was, but for the count of draws. IN THE WORDS OF slices.Sort's CONTRACT ('Holds', 'putRow'): so the everyday 'slices.Sort(xs); xs = slices.Compact(xs)' goes from the one contract to the other. It asks 'zs.length ≤ cap' (every slice's: the reslicing 's[:k]' looks at it). Length 0, nil: '.._empty'. (LAID: no walk: one application.) -/
theorem Try.slices_Compact_int (blk off cap : Nat) (zs : List Int) (w : World) (hH : Holds (Value.int .i64) w blk off zs.toArray) (hsz : zs.length ≤ 9223372036854775807) (hcap : zs.length ≤ cap) :
    Calls Try.prog 51 #[.slice (some ⟨blk, off, none⟩) zs.length cap] w fun e w' => e = .returned (.slice (some ⟨blk, off, none⟩) (Lib.compact zs).length cap) ∧ ∃ q, w' = putRow (Value.int .i64) (Sort.ahead w q) blk off (Lib.compact zs ++ List.replicate (zs.length - (Lib.compact zs).length) 0).toArray := Any.slices_Compact_int Try.laysNm220 blk off cap zs w hH hsz hcap
open Go.RowKit Go.Lib Go.Sort in
/-- The same at a slice of length 0, a nil one too: it comes back as it is. (LAID: no walk: one application.) -/
theorem Try.slices_Compact_int_empty (a : Option Addr) (cap : Nat) (w : World) :
    Calls Try.prog 51 #[.slice a 0 cap] w fun e w' => e = .returned (.slice a 0 cap) ∧ w' = w := Any.slices_Compact_int_empty Try.laysNm220 a cap w
open Go.RowKit Go.Sort in
/-- .. and plain. (LAID: no walk: one application.) -/
theorem Try.slices_Sort_int_none (p : Option Addr) (cap : Nat) (w : World) :
    Calls Try.prog 64 #[.slice p 0 cap] w fun e w' => e = .returned (.tuple #[]) ∧ w' = w := Any.slices_Sort_int_none Try.lays189 p cap w
def Try.laysSlF06_f67_ren : Go.Shelf.Ren := ⟨fun | 6 => 67 | 15 => 71 | 14 => 72 | 28 => 82 | 29 => 83 | 20 => 84 | 21 => 85 | 22 => 86 | 23 => 87 | 24 => 88 | 25 => 89 | 26 => 90 | 27 => 91 | 46 => 97 | 47 => 93 | 48 => 94 | 49 => 98 | 50 => 99 | 57 => 101 | n => n, fun | 22 => 46 | 24 => 66 | 25 => 68 | 3 => 3 | 39 => 100 | 0 => 0 | 53 => 111 | 55 => 113 | 4 => 4 | 46 => 104 | 45 => 103 | 50 => 71 | 5 => 5 | 9 => 9 | 66 => 119 | 70 => 123 | 76 => 127 | 77 => 58 | n => n, fun | n => n⟩
theorem Try.laysSlF06_f67 : Go.Proofs.SlLaysF0.n6 Try.prog Try.laysSlF06_f67_ren := {
  mixed := by kernel_rfl
  f6 := ⟨Try.f67.name, by decide, Try.func67.trans (congrArg some (by kernel_rfl))⟩
  f14 := ⟨Try.f72.name, by decide, Try.func72.trans (congrArg some (by kernel_rfl))⟩
  f15 := Try.func71.trans (congrArg some (by kernel_rfl))
  f20 := ⟨Try.f84.name, by decide, Try.func84.trans (congrArg some (by kernel_rfl))⟩
  f21 := ⟨Try.f85.name, by decide, Try.func85.trans (congrArg some (by kernel_rfl))⟩
  f22 := ⟨Try.f86.name, by decide, Try.func86.trans (congrArg some (by kernel_rfl))⟩
  f23 := ⟨Try.f87.name, by decide, Try.func87.trans (congrArg some (by kernel_rfl))⟩
  f24 := ⟨Try.f88.name, by decide, Try.func88.trans (congrArg some (by kernel_rfl))⟩
  f25 := ⟨Try.f89.name, by decide, Try.func89.trans (congrArg some (by kernel_rfl))⟩
  f26 := ⟨Try.f90.name, by decide, Try.func90.trans (congrArg some (by kernel_rfl))⟩
  f27 := ⟨Try.f91.name, by decide, Try.func91.trans (congrArg some (by kernel_rfl))⟩
  f28 := Try.func82.trans (congrArg some (by kernel_rfl))
  f29 := Try.func83.trans (congrArg some (by kernel_rfl))
  f46 := ⟨Try.f97.name, by decide, Try.func97.trans (congrArg some (by kernel_rfl))⟩
  f47 := Try.func93.trans (congrArg some (by kernel_rfl))
  f48 := Try.func94.trans (congrArg some (by kernel_rfl))
  f49 := ⟨Try.f98.name, by decide, Try.func98.trans (congrArg some (by kernel_rfl))⟩
  f50 := ⟨Try.f99.name, by decide, Try.func99.trans (congrArg some (by kernel_rfl))⟩
  f57 := ⟨Try.f101.name, by decide, Try.func101.trans (congrArg some (by kernel_rfl))⟩
  t0 := Try.underlying0
  a0 := Try.isAgg0
  z0 := Try.sizeOf0
  v0 := Try.zeroValue0
  t3 := Try.underlying3
  a3 := Try.isAgg3
  z3 := Try.sizeOf3
  v3 := Try.zeroValue3
  t4 := Try.underlying4
  a4 := Try.isAgg4
  z4 := Try.sizeOf4
  v4 := Try.zeroValue4
  t5 := Try.underlying5
  a5 := Try.isAgg5
  z5 := Try.sizeOf5
  v5 := Try.zeroValue5
  t9 := Try.underlying9
  a9 := Try.isAgg9
  z9 := Try.sizeOf9
  v9 := Try.zeroValue9
  t22 := Try.underlying46
  a22 := Try.isAgg46
  z22 := Try.sizeOf46
  v22 := Try.zeroValue46
  t25 := Try.underlying68
  a25 := Try.isAgg68
  z25 := Try.sizeOf68
  v25 := Try.zeroValue68
  t39 := Try.underlying100
  a39 := Try.isAgg100
  z39 := Try.sizeOf100
  v39 := Try.zeroValue100
  t45 := Try.underlying103
  a45 := Try.isAgg103
  z45 := Try.sizeOf103
  v45 := Try.zeroValue103
  t46 := Try.underlying104
  a46 := Try.isAgg104
  z46 := Try.sizeOf104
  v46 := Try.zeroValue104
  t50 := Try.underlying71
  a50 := Try.isAgg71
  z50 := Try.sizeOf71
  v50 := Try.zeroValue71
  t53 := Try.underlying111
  a53 := Try.isAgg111
  z53 := Try.sizeOf111
  v53 := Try.zeroValue111
  t55 := Try.underlying113
  a55 := Try.isAgg113
  z55 := Try.sizeOf113
  v55 := Try.zeroValue113
  t66 := Try.underlying119
  a66 := Try.isAgg119
  z66 := Try.sizeOf119
  v66 := Try.zeroValue119
  t70 := Try.underlying123
  a70 := Try.isAgg123
  z70 := Try.sizeOf123
  v70 := Try.zeroValue123
  t76 := Try.underlying127
  a76 := Try.isAgg127
  z76 := Try.sizeOf127
  v76 := Try.zeroValue127
  t77 := Try.underlying58
  a77 := Try.isAgg58
  z77 := Try.sizeOf58
  v77 := Try.zeroValue58 }
/-- slices.SortFunc at no element. -/
theorem Try.slices_SortFunc_none (p : Option Addr) (cap : Nat) (fv : Value) (w : World) :
    Calls Try.prog 67 #[.slice p 0 cap, fv] w fun e w' => e = .returned (.tuple #[]) ∧ w' = w := AnyF.slices_SortFunc_none Try.laysSlF06_f67 p cap fv w
end Go.Proofs
