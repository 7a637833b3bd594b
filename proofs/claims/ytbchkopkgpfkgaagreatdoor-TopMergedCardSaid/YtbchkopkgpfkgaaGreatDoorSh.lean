import Derived.Shelf.Strings.Builder1
import Derived.Shelf.Small.Bits
import Derived.Shelf.Strconv.Itoa0
import Derived.Shelf.Strconv.Itoa1
import Derived.Shelf.LaysM
import Derived.Shelf.Strconv.Itoa2
import Derived.Shelf.Strconv.Itoa3
import Derived.Shelf.Bits.Mul64
import Derived.Shelf.Slices.Equal
import Derived.Ground.Names2Prog
import Derived.Shelf.Slices.Clone
import Derived.Shelf.Slices.SearchI
import Derived.Ground.SlgnProg
import Derived.Shelf.SlicesE.Clone
import Derived.Ground.SlsfProg
import Derived.Shelf.SlSortCmp.Insertion
import Derived.Shelf.SlSortCmp.SiftDown1
import Derived.Shelf.SlSortCmp.HeapSort1
import Derived.Shelf.SlSortCmp.Insertion1
import Derived.Shelf.SlSortCmp.Median1
import Derived.Shelf.SlSortCmp.Pivot1
import Derived.Shelf.SlSortCmp.ReverseRange1
import Derived.Shelf.SlSortCmp.PartialInsertion1
import Derived.Shelf.SlSortCmp.PartitionEqual1
import Derived.Shelf.SlSortCmp.Partition1
import Derived.Shelf.SlSortCmp.Pdq1
import Derived.Shelf.SlSortCmp.Whole1
import Derived.Shelf.SlSortCmp.NoneTotal
import Derived.Test.YtbchkopkgpfkgaaGreatDoorProg
/-
  DERIVED: THE SHELF's CONTRACTS AT THIS DUMP, IN PLAIN WORDS (tools/lay-plain.mjs out of 'TryzShelf.lean', which tools/lay-shelf.mjs wrote): THE SAME DECLARATIONS UNDER THE SAME NAMES: 'import', 'namespace', 'open', 'def', 'theorem' AND NOTHING ELSE: no command of the shelf's: FOR A HAND-IN. Each laying: the table of numbers ('.._ren') and one theorem, a field a fact of the dump's own or the kernel's comparison; each contract: ONE APPLICATION.
-/
namespace Go.Proofs
open Go.Shelf
def Tryz.lays169_ren : Go.Shelf.Ren := ⟨fun | 169 => 99 | n => n, fun | 70 => 157 | 9 => 9 | 0 => 0 | 72 => 160 | 37 => 158 | 127 => 207 | 3 => 3 | 5 => 5 | n => n, fun | n => n⟩
theorem Tryz.lays169 : Go.Proofs.Lays.n169 Tryz.prog Tryz.lays169_ren := {
  mixed := by kernel_rfl
  f169 := Tryz.func99.trans (congrArg some (by kernel_rfl))
  t0 := Tryz.underlying0
  a0 := Tryz.isAgg0
  z0 := Tryz.sizeOf0
  v0 := Tryz.zeroValue0
  t3 := Tryz.underlying3
  a3 := Tryz.isAgg3
  z3 := Tryz.sizeOf3
  v3 := Tryz.zeroValue3
  t9 := Tryz.underlying9
  a9 := Tryz.isAgg9
  z9 := Tryz.sizeOf9
  v9 := Tryz.zeroValue9
  t37 := Tryz.underlying158
  a37 := Tryz.isAgg158
  z37 := Tryz.sizeOf158
  v37 := Tryz.zeroValue158
  t70 := Tryz.underlying157
  a70 := Tryz.isAgg157
  z70 := Tryz.sizeOf157
  v70 := Tryz.zeroValue157
  t72 := Tryz.underlying160
  a72 := Tryz.isAgg160
  z72 := Tryz.sizeOf160
  v72 := Tryz.zeroValue160
  t127 := Tryz.underlying207
  a127 := Tryz.isAgg207
  z127 := Tryz.sizeOf207
  v127 := Tryz.zeroValue207 }
theorem Tryz.Builder_Extra_169 : Builder.Extra Tryz.prog Tryz.lays169_ren := {
  sizeBuilder := by kernel_rfl
  liesBuilder := by kernel_rfl
  t5 := Tryz.underlying5
  a5 := Tryz.isAgg5
  z5 := Tryz.sizeOf5
  v5 := Tryz.zeroValue5
  infoByte := by kernel_rfl
  cellsByte := by kernel_rfl
  sizeByte := by kernel_rfl
  neB5 := by decide }
open Go.RowKit in
/-- (*strings.Builder).String: "String returns the accumulated string.": WHATEVER THE BUILDER HOLDS. (LAID: no walk: one application.) -/
theorem Tryz.Builder_String_any (B b : Nat) (l : List UInt8) (w : World) (h : Lib.IsBuilder 160 5 B b (Lib.byteCells l) w) (hBw : B ≤ w.heap.size) :
    Calls Tryz.prog 99 #[.pointer (some ⟨b, 0, none⟩)] w fun e w' => e = .returned (.string ⟨l.toArray⟩) ∧ Below B w w' := Any.Builder_String_any Tryz.lays169 Tryz.Builder_Extra_169 B b l w h hBw
def Tryz.laysM171_ren : Go.Shelf.Ren := ⟨fun | 171 => 97 | 243 => 151 | 246 => 187 | 283 => 200 | 284 => 201 | 285 => 202 | 286 => 203 | 129 => 161 | 317 => 208 | 318 => 209 | 319 => 210 | 320 => 211 | 337 => 212 | 338 => 213 | n => n, fun | 3 => 3 | 9 => 9 | 2 => 2 | 4 => 4 | 171 => 253 | 0 => 0 | 53 => 218 | 37 => 158 | 5 => 5 | 173 => 255 | 212 => 261 | 51 => 216 | 20 => 20 | 213 => 262 | 46 => 170 | 232 => 263 | 233 => 264 | n => n, fun | 17 => 0 | 18 => 1 | 19 => 2 | n => n⟩
theorem Tryz.laysM171 : Go.Proofs.LaysM.n171 Tryz.prog Tryz.laysM171_ren := {
  mixed := by kernel_rfl
  f129 := Tryz.func161.trans (congrArg some (by kernel_rfl))
  f171 := Tryz.func97.trans (congrArg some (by kernel_rfl))
  f243 := Tryz.func151.trans (congrArg some (by kernel_rfl))
  f246 := Tryz.func187.trans (congrArg some (by kernel_rfl))
  f283 := Tryz.func200.trans (congrArg some (by kernel_rfl))
  f284 := Tryz.func201.trans (congrArg some (by kernel_rfl))
  f285 := Tryz.func202.trans (congrArg some (by kernel_rfl))
  f286 := Tryz.func203.trans (congrArg some (by kernel_rfl))
  f317 := Tryz.func208.trans (congrArg some (by kernel_rfl))
  f318 := Tryz.func209.trans (congrArg some (by kernel_rfl))
  f319 := Tryz.func210.trans (congrArg some (by kernel_rfl))
  f320 := Tryz.func211.trans (congrArg some (by kernel_rfl))
  f337 := Tryz.func212.trans (congrArg some (by kernel_rfl))
  f338 := Tryz.func213.trans (congrArg some (by kernel_rfl))
  t0 := Tryz.underlying0
  a0 := Tryz.isAgg0
  z0 := Tryz.sizeOf0
  v0 := Tryz.zeroValue0
  t2 := Tryz.underlying2
  a2 := Tryz.isAgg2
  z2 := Tryz.sizeOf2
  v2 := Tryz.zeroValue2
  t3 := Tryz.underlying3
  a3 := Tryz.isAgg3
  z3 := Tryz.sizeOf3
  v3 := Tryz.zeroValue3
  t4 := Tryz.underlying4
  a4 := Tryz.isAgg4
  z4 := Tryz.sizeOf4
  v4 := Tryz.zeroValue4
  t5 := Tryz.underlying5
  a5 := Tryz.isAgg5
  z5 := Tryz.sizeOf5
  v5 := Tryz.zeroValue5
  t9 := Tryz.underlying9
  a9 := Tryz.isAgg9
  z9 := Tryz.sizeOf9
  v9 := Tryz.zeroValue9
  t20 := Tryz.underlying20
  a20 := Tryz.isAgg20
  z20 := Tryz.sizeOf20
  v20 := Tryz.zeroValue20
  t37 := Tryz.underlying158
  a37 := Tryz.isAgg158
  z37 := Tryz.sizeOf158
  v37 := Tryz.zeroValue158
  t46 := Tryz.underlying170
  a46 := Tryz.isAgg170
  z46 := Tryz.sizeOf170
  v46 := Tryz.zeroValue170
  t51 := Tryz.underlying216
  a51 := Tryz.isAgg216
  z51 := Tryz.sizeOf216
  v51 := Tryz.zeroValue216
  t53 := Tryz.underlying218
  a53 := Tryz.isAgg218
  z53 := Tryz.sizeOf218
  v53 := Tryz.zeroValue218
  t171 := Tryz.underlying253
  a171 := Tryz.isAgg253
  z171 := Tryz.sizeOf253
  v171 := Tryz.zeroValue253
  t173 := Tryz.underlying255
  a173 := Tryz.isAgg255
  z173 := Tryz.sizeOf255
  v173 := Tryz.zeroValue255
  t212 := Tryz.underlying261
  a212 := Tryz.isAgg261
  z212 := Tryz.sizeOf261
  v212 := Tryz.zeroValue261
  t213 := Tryz.underlying262
  a213 := Tryz.isAgg262
  z213 := Tryz.sizeOf262
  t232 := Tryz.underlying263
  a232 := Tryz.isAgg263
  z232 := Tryz.sizeOf263
  v232 := Tryz.zeroValue263
  t233 := Tryz.underlying264
  a233 := Tryz.isAgg264
  z233 := Tryz.sizeOf264
  v233 := Tryz.zeroValue264
  g17 := by kernel_rfl
  g18 := by kernel_rfl
  g19 := by kernel_rfl
  i0 := by kernel_rfl
  i2 := by kernel_rfl
  i3 := by kernel_rfl
  i4 := by kernel_rfl
  i5 := by kernel_rfl
  i9 := by kernel_rfl
  i20 := by kernel_rfl
  i37 := by kernel_rfl
  i46 := by kernel_rfl
  i51 := by kernel_rfl
  i53 := by kernel_rfl
  i171 := by kernel_rfl
  i173 := by kernel_rfl
  i212 := by kernel_rfl
  i232 := by kernel_rfl
  i233 := by kernel_rfl
  m17 := by kernel_rfl
  m18 := by kernel_rfl
  m19 := by kernel_rfl }
open Go.RowKit Go.Sort Go.Lib in
/-- strconv.Itoa: "Itoa is equivalent to FormatInt(int64(i), 10).": i's DECIMAL NUMERAL ('Lib.itoa': a '-' where i is negative, then the digits), FOR EVERY int. The world behind the call: the world before it, new blocks behind the heap (the library's 'var a [24]byte'), draws. (LAID: no walk: one application.) -/
theorem Tryz.strconv_Itoa (n : Int) (h0 : -9223372036854775808 ≤ n) (h1 : n ≤ 9223372036854775807) (w : World) (htab : Lib.TabIs Tryz.prog w "internal/strconv.uint64pow10" .u64 Lib.pow10Tab) :
    Calls Tryz.prog 97 #[.int .i64 n] w fun e w' => e = .returned (.string ⟨(Lib.itoa n).toArray⟩) ∧ ∃ k os, w' = grow (w.drewN k) os := Any.strconv_Itoa Tryz.laysM171 n h0 h1 w htab
def Tryz.laysSlF6_f35_ren : Go.Shelf.Ren := ⟨fun | 6 => 35 | 15 => 101 | 14 => 100 | 28 => 160 | 29 => 161 | 20 => 152 | 21 => 153 | 22 => 154 | 23 => 155 | 24 => 156 | 25 => 157 | 26 => 158 | 27 => 159 | 46 => 188 | 47 => 189 | 48 => 190 | 49 => 191 | 50 => 192 | 57 => 204 | n => n, fun | 22 => 27 | 24 => 3 | 25 => 100 | 3 => 3 | 39 => 170 | 0 => 0 | 53 => 216 | 55 => 218 | 4 => 4 | 46 => 210 | 45 => 209 | 50 => 95 | 5 => 5 | 9 => 9 | 66 => 242 | 70 => 246 | 76 => 257 | 77 => 122 | n => n, fun | n => n⟩
theorem Tryz.laysSlF6_f35 : Go.Proofs.SlLaysF.n6 Tryz.prog Tryz.laysSlF6_f35_ren := {
  mixed := by kernel_rfl
  f6 := ⟨Tryz.f35.name, by decide, Tryz.func35.trans (congrArg some (by kernel_rfl))⟩
  f14 := ⟨Tryz.f100.name, by decide, Tryz.func100.trans (congrArg some (by kernel_rfl))⟩
  f15 := Tryz.func101.trans (congrArg some (by kernel_rfl))
  f20 := ⟨Tryz.f152.name, by decide, Tryz.func152.trans (congrArg some (by kernel_rfl))⟩
  f21 := ⟨Tryz.f153.name, by decide, Tryz.func153.trans (congrArg some (by kernel_rfl))⟩
  f22 := ⟨Tryz.f154.name, by decide, Tryz.func154.trans (congrArg some (by kernel_rfl))⟩
  f23 := ⟨Tryz.f155.name, by decide, Tryz.func155.trans (congrArg some (by kernel_rfl))⟩
  f24 := ⟨Tryz.f156.name, by decide, Tryz.func156.trans (congrArg some (by kernel_rfl))⟩
  f25 := ⟨Tryz.f157.name, by decide, Tryz.func157.trans (congrArg some (by kernel_rfl))⟩
  f26 := ⟨Tryz.f158.name, by decide, Tryz.func158.trans (congrArg some (by kernel_rfl))⟩
  f27 := ⟨Tryz.f159.name, by decide, Tryz.func159.trans (congrArg some (by kernel_rfl))⟩
  f28 := Tryz.func160.trans (congrArg some (by kernel_rfl))
  f29 := Tryz.func161.trans (congrArg some (by kernel_rfl))
  f46 := ⟨Tryz.f188.name, by decide, Tryz.func188.trans (congrArg some (by kernel_rfl))⟩
  f47 := Tryz.func189.trans (congrArg some (by kernel_rfl))
  f48 := Tryz.func190.trans (congrArg some (by kernel_rfl))
  f49 := ⟨Tryz.f191.name, by decide, Tryz.func191.trans (congrArg some (by kernel_rfl))⟩
  f50 := ⟨Tryz.f192.name, by decide, Tryz.func192.trans (congrArg some (by kernel_rfl))⟩
  f57 := ⟨Tryz.f204.name, by decide, Tryz.func204.trans (congrArg some (by kernel_rfl))⟩
  t0 := Tryz.underlying0
  a0 := Tryz.isAgg0
  z0 := Tryz.sizeOf0
  v0 := Tryz.zeroValue0
  t3 := Tryz.underlying3
  a3 := Tryz.isAgg3
  z3 := Tryz.sizeOf3
  v3 := Tryz.zeroValue3
  t4 := Tryz.underlying4
  a4 := Tryz.isAgg4
  z4 := Tryz.sizeOf4
  v4 := Tryz.zeroValue4
  t5 := Tryz.underlying5
  a5 := Tryz.isAgg5
  z5 := Tryz.sizeOf5
  v5 := Tryz.zeroValue5
  t9 := Tryz.underlying9
  a9 := Tryz.isAgg9
  z9 := Tryz.sizeOf9
  v9 := Tryz.zeroValue9
  t22 := Tryz.underlying27
  a22 := Tryz.isAgg27
  z22 := Tryz.sizeOf27
  v22 := Tryz.zeroValue27
  a24 := Tryz.isAgg3
  z24 := Tryz.sizeOf3
  t25 := Tryz.underlying100
  a25 := Tryz.isAgg100
  z25 := Tryz.sizeOf100
  v25 := Tryz.zeroValue100
  t39 := Tryz.underlying170
  a39 := Tryz.isAgg170
  z39 := Tryz.sizeOf170
  v39 := Tryz.zeroValue170
  t45 := Tryz.underlying209
  a45 := Tryz.isAgg209
  z45 := Tryz.sizeOf209
  v45 := Tryz.zeroValue209
  t46 := Tryz.underlying210
  a46 := Tryz.isAgg210
  z46 := Tryz.sizeOf210
  v46 := Tryz.zeroValue210
  t50 := Tryz.underlying95
  a50 := Tryz.isAgg95
  z50 := Tryz.sizeOf95
  v50 := Tryz.zeroValue95
  t53 := Tryz.underlying216
  a53 := Tryz.isAgg216
  z53 := Tryz.sizeOf216
  v53 := Tryz.zeroValue216
  t55 := Tryz.underlying218
  a55 := Tryz.isAgg218
  z55 := Tryz.sizeOf218
  v55 := Tryz.zeroValue218
  t66 := Tryz.underlying242
  a66 := Tryz.isAgg242
  z66 := Tryz.sizeOf242
  v66 := Tryz.zeroValue242
  t70 := Tryz.underlying246
  a70 := Tryz.isAgg246
  z70 := Tryz.sizeOf246
  v70 := Tryz.zeroValue246
  t76 := Tryz.underlying257
  a76 := Tryz.isAgg257
  z76 := Tryz.sizeOf257
  v76 := Tryz.zeroValue257
  t77 := Tryz.underlying122
  a77 := Tryz.isAgg122
  z77 := Tryz.sizeOf122
  v77 := Tryz.zeroValue122 }
open Go.RowKit Go.Lib Go.Sort in
/-- **slices.SortFunc, IN THE DOCUMENTATION's OWN TERMS: A PERMUTATION OF WHAT THE ROW HELD, SORTED BY 'cmp(a, b) < 0'.** Which of two equals comes first is left open ("The sort is not guaranteed to be stable"). (LAID AT THE INSTANCE 'slices.SortFunc[[]int,int]': no walk: one application.) -/
theorem Tryz.slices_SortFunc {α : Type} [Inhabited α] (enc : α → Value) (h1 : OneCell enc) (cf : α → α → Int) (hO : SWO (ltOf cf)) (g : Nat) (cb : Array Value) (blk off cap : Nat) (d : Array α) (w : World) (eg : ∀ args w, (callFunc g args).run Tryz.prog w = .ok (.enter g args) w) (hcmp : CmpLays1 Tryz.prog g cb enc cf blk off d.size w) (hH : Holds enc w blk off d) (hblk : blk < w.heap.size) (hsz : d.size < 4611686018427387904) :
    Calls Tryz.prog 35 #[.slice (some ⟨blk, off, none⟩) d.size cap, .func (.func g) #[] cb] w fun e w' =>
      e = .returned (.tuple #[]) ∧ ∃ d' n os, PermIn 0 d.size d d' ∧ SortedIn (ltOf cf) 0 d.size d' ∧ w' = sortWorld enc w blk off n d' os := Any.slices_SortFunc Tryz.laysSlF6_f35 enc h1 cf hO g cb blk off cap d w eg hcmp hH hblk hsz
def Tryz.laysSlF06_f35_ren : Go.Shelf.Ren := ⟨fun | 6 => 35 | 15 => 101 | 14 => 100 | 28 => 160 | 29 => 161 | 20 => 152 | 21 => 153 | 22 => 154 | 23 => 155 | 24 => 156 | 25 => 157 | 26 => 158 | 27 => 159 | 46 => 188 | 47 => 189 | 48 => 190 | 49 => 191 | 50 => 192 | 57 => 204 | n => n, fun | 22 => 27 | 24 => 3 | 25 => 100 | 3 => 3 | 39 => 170 | 0 => 0 | 53 => 216 | 55 => 218 | 4 => 4 | 46 => 210 | 45 => 209 | 50 => 95 | 5 => 5 | 9 => 9 | 66 => 242 | 70 => 246 | 76 => 257 | 77 => 122 | n => n, fun | n => n⟩
theorem Tryz.laysSlF06_f35 : Go.Proofs.SlLaysF0.n6 Tryz.prog Tryz.laysSlF06_f35_ren := {
  mixed := by kernel_rfl
  f6 := ⟨Tryz.f35.name, by decide, Tryz.func35.trans (congrArg some (by kernel_rfl))⟩
  f14 := ⟨Tryz.f100.name, by decide, Tryz.func100.trans (congrArg some (by kernel_rfl))⟩
  f15 := Tryz.func101.trans (congrArg some (by kernel_rfl))
  f20 := ⟨Tryz.f152.name, by decide, Tryz.func152.trans (congrArg some (by kernel_rfl))⟩
  f21 := ⟨Tryz.f153.name, by decide, Tryz.func153.trans (congrArg some (by kernel_rfl))⟩
  f22 := ⟨Tryz.f154.name, by decide, Tryz.func154.trans (congrArg some (by kernel_rfl))⟩
  f23 := ⟨Tryz.f155.name, by decide, Tryz.func155.trans (congrArg some (by kernel_rfl))⟩
  f24 := ⟨Tryz.f156.name, by decide, Tryz.func156.trans (congrArg some (by kernel_rfl))⟩
  f25 := ⟨Tryz.f157.name, by decide, Tryz.func157.trans (congrArg some (by kernel_rfl))⟩
  f26 := ⟨Tryz.f158.name, by decide, Tryz.func158.trans (congrArg some (by kernel_rfl))⟩
  f27 := ⟨Tryz.f159.name, by decide, Tryz.func159.trans (congrArg some (by kernel_rfl))⟩
  f28 := Tryz.func160.trans (congrArg some (by kernel_rfl))
  f29 := Tryz.func161.trans (congrArg some (by kernel_rfl))
  f46 := ⟨Tryz.f188.name, by decide, Tryz.func188.trans (congrArg some (by kernel_rfl))⟩
  f47 := Tryz.func189.trans (congrArg some (by kernel_rfl))
  f48 := Tryz.func190.trans (congrArg some (by kernel_rfl))
  f49 := ⟨Tryz.f191.name, by decide, Tryz.func191.trans (congrArg some (by kernel_rfl))⟩
  f50 := ⟨Tryz.f192.name, by decide, Tryz.func192.trans (congrArg some (by kernel_rfl))⟩
  f57 := ⟨Tryz.f204.name, by decide, Tryz.func204.trans (congrArg some (by kernel_rfl))⟩
  t0 := Tryz.underlying0
  a0 := Tryz.isAgg0
  z0 := Tryz.sizeOf0
  v0 := Tryz.zeroValue0
  t3 := Tryz.underlying3
  a3 := Tryz.isAgg3
  z3 := Tryz.sizeOf3
  v3 := Tryz.zeroValue3
  t4 := Tryz.underlying4
  a4 := Tryz.isAgg4
  z4 := Tryz.sizeOf4
  v4 := Tryz.zeroValue4
  t5 := Tryz.underlying5
  a5 := Tryz.isAgg5
  z5 := Tryz.sizeOf5
  v5 := Tryz.zeroValue5
  t9 := Tryz.underlying9
  a9 := Tryz.isAgg9
  z9 := Tryz.sizeOf9
  v9 := Tryz.zeroValue9
  t22 := Tryz.underlying27
  a22 := Tryz.isAgg27
  z22 := Tryz.sizeOf27
  v22 := Tryz.zeroValue27
  t25 := Tryz.underlying100
  a25 := Tryz.isAgg100
  z25 := Tryz.sizeOf100
  v25 := Tryz.zeroValue100
  t39 := Tryz.underlying170
  a39 := Tryz.isAgg170
  z39 := Tryz.sizeOf170
  v39 := Tryz.zeroValue170
  t45 := Tryz.underlying209
  a45 := Tryz.isAgg209
  z45 := Tryz.sizeOf209
  v45 := Tryz.zeroValue209
  t46 := Tryz.underlying210
  a46 := Tryz.isAgg210
  z46 := Tryz.sizeOf210
  v46 := Tryz.zeroValue210
  t50 := Tryz.underlying95
  a50 := Tryz.isAgg95
  z50 := Tryz.sizeOf95
  v50 := Tryz.zeroValue95
  t53 := Tryz.underlying216
  a53 := Tryz.isAgg216
  z53 := Tryz.sizeOf216
  v53 := Tryz.zeroValue216
  t55 := Tryz.underlying218
  a55 := Tryz.isAgg218
  z55 := Tryz.sizeOf218
  v55 := Tryz.zeroValue218
  t66 := Tryz.underlying242
  a66 := Tryz.isAgg242
  z66 := Tryz.sizeOf242
  v66 := Tryz.zeroValue242
  t70 := Tryz.underlying246
  a70 := Tryz.isAgg246
  z70 := Tryz.sizeOf246
  v70 := Tryz.zeroValue246
  t76 := Tryz.underlying257
  a76 := Tryz.isAgg257
  z76 := Tryz.sizeOf257
  v76 := Tryz.zeroValue257
  t77 := Tryz.underlying122
  a77 := Tryz.isAgg122
  z77 := Tryz.sizeOf122
  v77 := Tryz.zeroValue122 }
open Go.RowKit Go.Lib Go.Sort in
/-- **slices.SortFunc AT NO ELEMENT, A nil SLICE TOO: nothing turns.** (LAID AT THE INSTANCE 'slices.SortFunc[[]int,int]': no walk: one application.) -/
theorem Tryz.slices_SortFunc_none {α : Type} [Inhabited α] (p : Option Addr) (cap : Nat) (fv : Value) (w : World) :
    Calls Tryz.prog 35 #[.slice p 0 cap, fv] w fun e w' => e = .returned (.tuple #[]) ∧ w' = w := AnyF.slices_SortFunc_none Tryz.laysSlF06_f35 p cap fv w
end Go.Proofs
