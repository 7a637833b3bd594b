import Derived.Test.YtkmhjcjpohpiaaaGreatWb
import Derived.Test.YtkmhjcjpohpiaaaGreatProg
/- Facts on the types of this program, by program: sizes, zero values, fields. -/
namespace Go.Proofs.YtkmhjcjpohpiaaaGreat
open Go.Vc
set_option maxRecDepth 100000
theorem Tryz.mixed : Tryz.prog.follows .mixedOrders = true := by kernel_rfl
theorem Tryz.ti3 : TI Tryz.prog 3 (Value.int .i64 0) 1 8 := show (Tryz.prog.info? 3).map (fun i => (i.zero, i.size, i.bytes)) = some (some (Value.int .i64 0), 1, 8) by kernel_rfl
theorem Tryz.size3 : SizeIs Tryz.prog 3 1 := Tryz.ti3.size
theorem Tryz.plain3 : Plain Tryz.prog 3 := ⟨_, Tryz.underlying3, by simp, by simp⟩
theorem Tryz.ti4 : TI Tryz.prog 4 (Value.bool false) 1 1 := show (Tryz.prog.info? 4).map (fun i => (i.zero, i.size, i.bytes)) = some (some (Value.bool false), 1, 1) by kernel_rfl
theorem Tryz.size4 : SizeIs Tryz.prog 4 1 := Tryz.ti4.size
theorem Tryz.plain4 : Plain Tryz.prog 4 := ⟨_, Tryz.underlying4, by simp, by simp⟩
theorem Tryz.ti22 : TI Tryz.prog 22 (Value.slice none 0 0) 1 24 := show (Tryz.prog.info? 22).map (fun i => (i.zero, i.size, i.bytes)) = some (some (Value.slice none 0 0), 1, 24) by kernel_rfl
theorem Tryz.size22 : SizeIs Tryz.prog 22 1 := Tryz.ti22.size
theorem Tryz.plain22 : Plain Tryz.prog 22 := ⟨_, Tryz.underlying22, by simp, by simp⟩
theorem Tryz.ti23 : TI Tryz.prog 23 (Value.slice none 0 0) 1 24 := show (Tryz.prog.info? 23).map (fun i => (i.zero, i.size, i.bytes)) = some (some (Value.slice none 0 0), 1, 24) by kernel_rfl
theorem Tryz.size23 : SizeIs Tryz.prog 23 1 := Tryz.ti23.size
theorem Tryz.plain23 : Plain Tryz.prog 23 := ⟨_, Tryz.underlying23, by simp, by simp⟩
theorem Tryz.ti25 : TI Tryz.prog 25 (Value.agg #[(Value.int .i64 0), (Value.slice none 0 0), (Value.slice none 0 0), (Value.int .i64 0)]) 4 64 := show (Tryz.prog.info? 25).map (fun i => (i.zero, i.size, i.bytes)) = some (some (Value.agg #[(Value.int .i64 0), (Value.slice none 0 0), (Value.slice none 0 0), (Value.int .i64 0)]), 4, 64) by kernel_rfl
theorem Tryz.size25 : SizeIs Tryz.prog 25 4 := Tryz.ti25.size
theorem Tryz.agg25 : AggIs Tryz.prog 25 4 := .struct Tryz.underlying25 Tryz.size25
theorem Tryz.build25 : BuildIs Tryz.prog 25 [(0, 1), (1, 1), (2, 1), (3, 1)] [(Value.int .i64 0), (Value.slice none 0 0), (Value.slice none 0 0), (Value.int .i64 0)] := .struct Tryz.underlying25 Tryz.ti25 rfl (by kernel_rfl)
theorem Tryz.field25_0 : FieldIs Tryz.prog 25 0 0 := ⟨_, _, 1, Tryz.underlying25, rfl, rfl, Tryz.size3, by decide⟩
theorem Tryz.field25_1 : FieldIs Tryz.prog 25 1 1 := ⟨_, _, 1, Tryz.underlying25, rfl, rfl, Tryz.size22, by decide⟩
theorem Tryz.field25_2 : FieldIs Tryz.prog 25 2 2 := ⟨_, _, 1, Tryz.underlying25, rfl, rfl, Tryz.size23, by decide⟩
theorem Tryz.field25_3 : FieldIs Tryz.prog 25 3 3 := ⟨_, _, 1, Tryz.underlying25, rfl, rfl, Tryz.size3, by decide⟩
theorem Tryz.ti42 : TI Tryz.prog 42 (Value.agg #[(Value.int .i64 0), (Value.int .i64 0)]) 2 16 := show (Tryz.prog.info? 42).map (fun i => (i.zero, i.size, i.bytes)) = some (some (Value.agg #[(Value.int .i64 0), (Value.int .i64 0)]), 2, 16) by kernel_rfl
theorem Tryz.size42 : SizeIs Tryz.prog 42 2 := Tryz.ti42.size
theorem Tryz.agg42 : AggIs Tryz.prog 42 2 := .struct Tryz.underlying42 Tryz.size42
theorem Tryz.build42 : BuildIs Tryz.prog 42 [(0, 1), (1, 1)] [(Value.int .i64 0), (Value.int .i64 0)] := .struct Tryz.underlying42 Tryz.ti42 rfl (by kernel_rfl)
theorem Tryz.eq42 : FlatInts Tryz.prog 42 [.i64, .i64] := ⟨by kernel_rfl, by kernel_rfl, by kernel_rfl, fieldIntsB_ok (by kernel_rfl)⟩
theorem Tryz.ti55 : TI Tryz.prog 55 (Value.agg #[(Value.int .i64 0), (Value.slice none 0 0), (Value.int .i64 0)]) 3 40 := show (Tryz.prog.info? 55).map (fun i => (i.zero, i.size, i.bytes)) = some (some (Value.agg #[(Value.int .i64 0), (Value.slice none 0 0), (Value.int .i64 0)]), 3, 40) by kernel_rfl
theorem Tryz.size55 : SizeIs Tryz.prog 55 3 := Tryz.ti55.size
theorem Tryz.agg55 : AggIs Tryz.prog 55 3 := .struct Tryz.underlying55 Tryz.size55
theorem Tryz.build55 : BuildIs Tryz.prog 55 [(0, 1), (1, 1), (2, 1)] [(Value.int .i64 0), (Value.slice none 0 0), (Value.int .i64 0)] := .struct Tryz.underlying55 Tryz.ti55 rfl (by kernel_rfl)
theorem Tryz.field55_0 : FieldIs Tryz.prog 55 0 0 := ⟨_, _, 1, Tryz.underlying55, rfl, rfl, Tryz.size3, by decide⟩
theorem Tryz.field55_1 : FieldIs Tryz.prog 55 1 1 := ⟨_, _, 1, Tryz.underlying55, rfl, rfl, Tryz.size23, by decide⟩
theorem Tryz.field55_2 : FieldIs Tryz.prog 55 2 2 := ⟨_, _, 1, Tryz.underlying55, rfl, rfl, Tryz.size3, by decide⟩
theorem Tryz.ti65 : TI Tryz.prog 65 (Value.agg #[(Value.int .i64 0), (Value.int .i64 0), (Value.int .i64 0)]) 3 24 := show (Tryz.prog.info? 65).map (fun i => (i.zero, i.size, i.bytes)) = some (some (Value.agg #[(Value.int .i64 0), (Value.int .i64 0), (Value.int .i64 0)]), 3, 24) by kernel_rfl
theorem Tryz.size65 : SizeIs Tryz.prog 65 3 := Tryz.ti65.size
theorem Tryz.agg65 : AggIs Tryz.prog 65 3 := .struct Tryz.underlying65 Tryz.size65
theorem Tryz.build65 : BuildIs Tryz.prog 65 [(0, 1), (1, 1), (2, 1)] [(Value.int .i64 0), (Value.int .i64 0), (Value.int .i64 0)] := .struct Tryz.underlying65 Tryz.ti65 rfl (by kernel_rfl)
theorem Tryz.field65_0 : FieldIs Tryz.prog 65 0 0 := ⟨_, _, 1, Tryz.underlying65, rfl, rfl, Tryz.size3, by decide⟩
theorem Tryz.field65_1 : FieldIs Tryz.prog 65 1 1 := ⟨_, _, 1, Tryz.underlying65, rfl, rfl, Tryz.size3, by decide⟩
theorem Tryz.field65_2 : FieldIs Tryz.prog 65 2 2 := ⟨_, _, 1, Tryz.underlying65, rfl, rfl, Tryz.size3, by decide⟩
theorem Tryz.eq65 : FlatInts Tryz.prog 65 [.i64, .i64, .i64] := ⟨by kernel_rfl, by kernel_rfl, by kernel_rfl, fieldIntsB_ok (by kernel_rfl)⟩
theorem Tryz.ti71 : TI Tryz.prog 71 (Value.agg #[(Value.int .i64 0), (Value.int .i64 0), (Value.int .i64 0)]) 3 24 := show (Tryz.prog.info? 71).map (fun i => (i.zero, i.size, i.bytes)) = some (some (Value.agg #[(Value.int .i64 0), (Value.int .i64 0), (Value.int .i64 0)]), 3, 24) by kernel_rfl
theorem Tryz.size71 : SizeIs Tryz.prog 71 3 := Tryz.ti71.size
theorem Tryz.agg71 : AggIs Tryz.prog 71 3 := .array Tryz.underlying71 Tryz.size71
theorem Tryz.ti72 : TI Tryz.prog 72 Value.nilFunc 1 8 := show (Tryz.prog.info? 72).map (fun i => (i.zero, i.size, i.bytes)) = some (some Value.nilFunc, 1, 8) by kernel_rfl
theorem Tryz.size72 : SizeIs Tryz.prog 72 1 := Tryz.ti72.size
theorem Tryz.plain72 : Plain Tryz.prog 72 := ⟨_, Tryz.underlying72, by simp, by simp⟩
theorem Tryz.ti86 : TI Tryz.prog 86 (Value.pointer none) 1 8 := show (Tryz.prog.info? 86).map (fun i => (i.zero, i.size, i.bytes)) = some (some (Value.pointer none), 1, 8) by kernel_rfl
theorem Tryz.size86 : SizeIs Tryz.prog 86 1 := Tryz.ti86.size
theorem Tryz.plain86 : Plain Tryz.prog 86 := ⟨_, Tryz.underlying86, by simp, by simp⟩
theorem Tryz.plain90 : Plain Tryz.prog 90 := ⟨_, Tryz.underlying90, by simp, by simp⟩
theorem Tryz.ti91 : TI Tryz.prog 91 (Value.agg #[(Value.int .i64 0), (Value.int .i64 0)]) 2 16 := show (Tryz.prog.info? 91).map (fun i => (i.zero, i.size, i.bytes)) = some (some (Value.agg #[(Value.int .i64 0), (Value.int .i64 0)]), 2, 16) by kernel_rfl
theorem Tryz.build91 : BuildIs Tryz.prog 91 [(0, 1), (1, 1)] [(Value.int .i64 0), (Value.int .i64 0)] := .array Tryz.underlying91 Tryz.ti91 rfl Tryz.ti3
theorem Tryz.ti97 : TI Tryz.prog 97 (Value.map none) 1 8 := show (Tryz.prog.info? 97).map (fun i => (i.zero, i.size, i.bytes)) = some (some (Value.map none), 1, 8) by kernel_rfl
theorem Tryz.size97 : SizeIs Tryz.prog 97 1 := Tryz.ti97.size
theorem Tryz.plain97 : Plain Tryz.prog 97 := ⟨_, Tryz.underlying97, by simp, by simp⟩
theorem Tryz.ti98 : TI Tryz.prog 98 (Value.map none) 1 8 := show (Tryz.prog.info? 98).map (fun i => (i.zero, i.size, i.bytes)) = some (some (Value.map none), 1, 8) by kernel_rfl
theorem Tryz.size98 : SizeIs Tryz.prog 98 1 := Tryz.ti98.size
theorem Tryz.plain98 : Plain Tryz.prog 98 := ⟨_, Tryz.underlying98, by simp, by simp⟩
theorem Tryz.ti100 : TI Tryz.prog 100 (Value.agg #[(Value.slice none 0 0), (Value.slice none 0 0), (Value.map none), (Value.map none), (Value.bool false)]) 5 72 := show (Tryz.prog.info? 100).map (fun i => (i.zero, i.size, i.bytes)) = some (some (Value.agg #[(Value.slice none 0 0), (Value.slice none 0 0), (Value.map none), (Value.map none), (Value.bool false)]), 5, 72) by kernel_rfl
theorem Tryz.build100 : BuildIs Tryz.prog 100 [(0, 1), (1, 1), (2, 1), (3, 1), (4, 1)] [(Value.slice none 0 0), (Value.slice none 0 0), (Value.map none), (Value.map none), (Value.bool false)] := .struct Tryz.underlying100 Tryz.ti100 rfl (by kernel_rfl)
theorem Tryz.field100_0 : FieldIs Tryz.prog 100 0 0 := ⟨_, _, 1, Tryz.underlying100, rfl, rfl, Tryz.size22, by decide⟩
theorem Tryz.field100_1 : FieldIs Tryz.prog 100 1 1 := ⟨_, _, 1, Tryz.underlying100, rfl, rfl, Tryz.size23, by decide⟩
theorem Tryz.field100_2 : FieldIs Tryz.prog 100 2 2 := ⟨_, _, 1, Tryz.underlying100, rfl, rfl, Tryz.size97, by decide⟩
theorem Tryz.field100_3 : FieldIs Tryz.prog 100 3 3 := ⟨_, _, 1, Tryz.underlying100, rfl, rfl, Tryz.size98, by decide⟩
theorem Tryz.field100_4 : FieldIs Tryz.prog 100 4 4 := ⟨_, _, 1, Tryz.underlying100, rfl, rfl, Tryz.size4, by decide⟩
theorem Tryz.ti106 : TI Tryz.prog 106 Value.nilFunc 1 8 := show (Tryz.prog.info? 106).map (fun i => (i.zero, i.size, i.bytes)) = some (some Value.nilFunc, 1, 8) by kernel_rfl
theorem Tryz.size106 : SizeIs Tryz.prog 106 1 := Tryz.ti106.size
theorem Tryz.plain106 : Plain Tryz.prog 106 := ⟨_, Tryz.underlying106, by simp, by simp⟩
theorem Tryz.ti107 : TI Tryz.prog 107 Value.nilFunc 1 8 := show (Tryz.prog.info? 107).map (fun i => (i.zero, i.size, i.bytes)) = some (some Value.nilFunc, 1, 8) by kernel_rfl
theorem Tryz.size107 : SizeIs Tryz.prog 107 1 := Tryz.ti107.size
theorem Tryz.plain107 : Plain Tryz.prog 107 := ⟨_, Tryz.underlying107, by simp, by simp⟩
theorem Tryz.ti119 : TI Tryz.prog 119 (Value.map none) 1 8 := show (Tryz.prog.info? 119).map (fun i => (i.zero, i.size, i.bytes)) = some (some (Value.map none), 1, 8) by kernel_rfl
theorem Tryz.size119 : SizeIs Tryz.prog 119 1 := Tryz.ti119.size
theorem Tryz.plain119 : Plain Tryz.prog 119 := ⟨_, Tryz.underlying119, by simp, by simp⟩
theorem Tryz.ti146 : TI Tryz.prog 146 (Value.map none) 1 8 := show (Tryz.prog.info? 146).map (fun i => (i.zero, i.size, i.bytes)) = some (some (Value.map none), 1, 8) by kernel_rfl
theorem Tryz.size146 : SizeIs Tryz.prog 146 1 := Tryz.ti146.size
theorem Tryz.plain146 : Plain Tryz.prog 146 := ⟨_, Tryz.underlying146, by simp, by simp⟩
theorem Tryz.ti147 : TI Tryz.prog 147 Value.nilFunc 1 8 := show (Tryz.prog.info? 147).map (fun i => (i.zero, i.size, i.bytes)) = some (some Value.nilFunc, 1, 8) by kernel_rfl
theorem Tryz.size147 : SizeIs Tryz.prog 147 1 := Tryz.ti147.size
theorem Tryz.plain147 : Plain Tryz.prog 147 := ⟨_, Tryz.underlying147, by simp, by simp⟩
end Go.Proofs.YtkmhjcjpohpiaaaGreat
