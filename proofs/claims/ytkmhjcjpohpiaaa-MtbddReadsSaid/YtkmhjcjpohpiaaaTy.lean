/- Facts on the types of this program, by program: sizes, zero values, fields. -/
import Derived.Test.YtkmhjcjpohpiaaaWb
import Derived.Test.YtkmhjcjpohpiaaaProg
namespace Go.Proofs.Ytkmhjcjpohpiaaa
open Go.Vc
set_option maxRecDepth 100000
theorem Try.mixed : Try.prog.follows .mixedOrders = true := by kernel_rfl
theorem Try.ti1 : TI Try.prog 1 Value.nilFunc 1 8 := show (Try.prog.info? 1).map (fun i => (i.zero, i.size, i.bytes)) = some (some Value.nilFunc, 1, 8) by kernel_rfl
theorem Try.size1 : SizeIs Try.prog 1 1 := Try.ti1.size
theorem Try.plain1 : Plain Try.prog 1 := ⟨_, Try.underlying1, by simp, by simp⟩
theorem Try.ti2 : TI Try.prog 2 (Value.int .i64 0) 1 8 := show (Try.prog.info? 2).map (fun i => (i.zero, i.size, i.bytes)) = some (some (Value.int .i64 0), 1, 8) by kernel_rfl
theorem Try.size2 : SizeIs Try.prog 2 1 := Try.ti2.size
theorem Try.plain2 : Plain Try.prog 2 := ⟨_, Try.underlying2, by simp, by simp⟩
theorem Try.ti3 : TI Try.prog 3 (Value.int .i64 0) 1 8 := show (Try.prog.info? 3).map (fun i => (i.zero, i.size, i.bytes)) = some (some (Value.int .i64 0), 1, 8) by kernel_rfl
theorem Try.size3 : SizeIs Try.prog 3 1 := Try.ti3.size
theorem Try.plain3 : Plain Try.prog 3 := ⟨_, Try.underlying3, by simp, by simp⟩
theorem Try.ti4 : TI Try.prog 4 (Value.bool false) 1 1 := show (Try.prog.info? 4).map (fun i => (i.zero, i.size, i.bytes)) = some (some (Value.bool false), 1, 1) by kernel_rfl
theorem Try.size4 : SizeIs Try.prog 4 1 := Try.ti4.size
theorem Try.plain4 : Plain Try.prog 4 := ⟨_, Try.underlying4, by simp, by simp⟩
theorem Try.ti5 : TI Try.prog 5 (Value.int .u8 0) 1 1 := show (Try.prog.info? 5).map (fun i => (i.zero, i.size, i.bytes)) = some (some (Value.int .u8 0), 1, 1) by kernel_rfl
theorem Try.size5 : SizeIs Try.prog 5 1 := Try.ti5.size
theorem Try.plain5 : Plain Try.prog 5 := ⟨_, Try.underlying5, by simp, by simp⟩
theorem Try.ti6 : TI Try.prog 6 (Value.int .u8 0) 1 1 := show (Try.prog.info? 6).map (fun i => (i.zero, i.size, i.bytes)) = some (some (Value.int .u8 0), 1, 1) by kernel_rfl
theorem Try.size6 : SizeIs Try.prog 6 1 := Try.ti6.size
theorem Try.plain6 : Plain Try.prog 6 := ⟨_, Try.underlying6, by simp, by simp⟩
theorem Try.ti7 : TI Try.prog 7 (Value.agg #[(Value.int .i64 0), (Value.int .i64 0), (Value.bool false), (Value.int .u8 0)]) 4 24 := show (Try.prog.info? 7).map (fun i => (i.zero, i.size, i.bytes)) = some (some (Value.agg #[(Value.int .i64 0), (Value.int .i64 0), (Value.bool false), (Value.int .u8 0)]), 4, 24) by kernel_rfl
theorem Try.size7 : SizeIs Try.prog 7 4 := Try.ti7.size
theorem Try.agg7 : AggIs Try.prog 7 4 := .struct Try.underlying7 Try.size7
theorem Try.build7 : BuildIs Try.prog 7 [(0, 1), (1, 1), (2, 1), (3, 1)] [(Value.int .i64 0), (Value.int .i64 0), (Value.bool false), (Value.int .u8 0)] := .struct Try.underlying7 Try.ti7 rfl (by kernel_rfl)
theorem Try.field7_0 : FieldIs Try.prog 7 0 0 := ⟨_, _, 1, Try.underlying7, rfl, rfl, Try.size2, by decide⟩
theorem Try.field7_1 : FieldIs Try.prog 7 1 1 := ⟨_, _, 1, Try.underlying7, rfl, rfl, Try.size3, by decide⟩
theorem Try.field7_2 : FieldIs Try.prog 7 2 2 := ⟨_, _, 1, Try.underlying7, rfl, rfl, Try.size4, by decide⟩
theorem Try.field7_3 : FieldIs Try.prog 7 3 3 := ⟨_, _, 1, Try.underlying7, rfl, rfl, Try.size6, by decide⟩
theorem Try.ti8 : TI Try.prog 8 (Value.agg #[(Value.int .i64 0), (Value.int .i64 0), (Value.bool false), (Value.int .u8 0)]) 4 24 := show (Try.prog.info? 8).map (fun i => (i.zero, i.size, i.bytes)) = some (some (Value.agg #[(Value.int .i64 0), (Value.int .i64 0), (Value.bool false), (Value.int .u8 0)]), 4, 24) by kernel_rfl
theorem Try.size8 : SizeIs Try.prog 8 4 := Try.ti8.size
theorem Try.agg8 : AggIs Try.prog 8 4 := .struct Try.underlying8 Try.size8
theorem Try.build8 : BuildIs Try.prog 8 [(0, 1), (1, 1), (2, 1), (3, 1)] [(Value.int .i64 0), (Value.int .i64 0), (Value.bool false), (Value.int .u8 0)] := .struct Try.underlying8 Try.ti8 rfl (by kernel_rfl)
theorem Try.field8_0 : FieldIs Try.prog 8 0 0 := ⟨_, _, 1, Try.underlying8, rfl, rfl, Try.size2, by decide⟩
theorem Try.field8_1 : FieldIs Try.prog 8 1 1 := ⟨_, _, 1, Try.underlying8, rfl, rfl, Try.size3, by decide⟩
theorem Try.field8_2 : FieldIs Try.prog 8 2 2 := ⟨_, _, 1, Try.underlying8, rfl, rfl, Try.size4, by decide⟩
theorem Try.field8_3 : FieldIs Try.prog 8 3 3 := ⟨_, _, 1, Try.underlying8, rfl, rfl, Try.size6, by decide⟩
theorem Try.ti9 : TI Try.prog 9 (Value.string ⟨#[]⟩) 1 16 := show (Try.prog.info? 9).map (fun i => (i.zero, i.size, i.bytes)) = some (some (Value.string ⟨#[]⟩), 1, 16) by kernel_rfl
theorem Try.size9 : SizeIs Try.prog 9 1 := Try.ti9.size
theorem Try.plain9 : Plain Try.prog 9 := ⟨_, Try.underlying9, by simp, by simp⟩
theorem Try.ti10 : TI Try.prog 10 (Value.string ⟨#[]⟩) 1 16 := show (Try.prog.info? 10).map (fun i => (i.zero, i.size, i.bytes)) = some (some (Value.string ⟨#[]⟩), 1, 16) by kernel_rfl
theorem Try.size10 : SizeIs Try.prog 10 1 := Try.ti10.size
theorem Try.plain10 : Plain Try.prog 10 := ⟨_, Try.underlying10, by simp, by simp⟩
theorem Try.ti11 : TI Try.prog 11 (Value.string ⟨#[]⟩) 1 16 := show (Try.prog.info? 11).map (fun i => (i.zero, i.size, i.bytes)) = some (some (Value.string ⟨#[]⟩), 1, 16) by kernel_rfl
theorem Try.size11 : SizeIs Try.prog 11 1 := Try.ti11.size
theorem Try.plain11 : Plain Try.prog 11 := ⟨_, Try.underlying11, by simp, by simp⟩
theorem Try.ti12 : TI Try.prog 12 (Value.int .u64 0) 1 8 := show (Try.prog.info? 12).map (fun i => (i.zero, i.size, i.bytes)) = some (some (Value.int .u64 0), 1, 8) by kernel_rfl
theorem Try.size12 : SizeIs Try.prog 12 1 := Try.ti12.size
theorem Try.plain12 : Plain Try.prog 12 := ⟨_, Try.underlying12, by simp, by simp⟩
theorem Try.ti13 : TI Try.prog 13 (Value.agg #[(Value.string ⟨#[]⟩), (Value.int .u64 0)]) 2 24 := show (Try.prog.info? 13).map (fun i => (i.zero, i.size, i.bytes)) = some (some (Value.agg #[(Value.string ⟨#[]⟩), (Value.int .u64 0)]), 2, 24) by kernel_rfl
theorem Try.size13 : SizeIs Try.prog 13 2 := Try.ti13.size
theorem Try.agg13 : AggIs Try.prog 13 2 := .struct Try.underlying13 Try.size13
theorem Try.build13 : BuildIs Try.prog 13 [(0, 1), (1, 1)] [(Value.string ⟨#[]⟩), (Value.int .u64 0)] := .struct Try.underlying13 Try.ti13 rfl (by kernel_rfl)
theorem Try.field13_0 : FieldIs Try.prog 13 0 0 := ⟨_, _, 1, Try.underlying13, rfl, rfl, Try.size9, by decide⟩
theorem Try.field13_1 : FieldIs Try.prog 13 1 1 := ⟨_, _, 1, Try.underlying13, rfl, rfl, Try.size12, by decide⟩
theorem Try.ti14 : TI Try.prog 14 (Value.agg #[(Value.string ⟨#[]⟩), (Value.int .u64 0)]) 2 24 := show (Try.prog.info? 14).map (fun i => (i.zero, i.size, i.bytes)) = some (some (Value.agg #[(Value.string ⟨#[]⟩), (Value.int .u64 0)]), 2, 24) by kernel_rfl
theorem Try.size14 : SizeIs Try.prog 14 2 := Try.ti14.size
theorem Try.agg14 : AggIs Try.prog 14 2 := .struct Try.underlying14 Try.size14
theorem Try.build14 : BuildIs Try.prog 14 [(0, 1), (1, 1)] [(Value.string ⟨#[]⟩), (Value.int .u64 0)] := .struct Try.underlying14 Try.ti14 rfl (by kernel_rfl)
theorem Try.field14_0 : FieldIs Try.prog 14 0 0 := ⟨_, _, 1, Try.underlying14, rfl, rfl, Try.size9, by decide⟩
theorem Try.field14_1 : FieldIs Try.prog 14 1 1 := ⟨_, _, 1, Try.underlying14, rfl, rfl, Try.size12, by decide⟩
theorem Try.ti15 : TI Try.prog 15 (Value.pointer none) 1 8 := show (Try.prog.info? 15).map (fun i => (i.zero, i.size, i.bytes)) = some (some (Value.pointer none), 1, 8) by kernel_rfl
theorem Try.size15 : SizeIs Try.prog 15 1 := Try.ti15.size
theorem Try.plain15 : Plain Try.prog 15 := ⟨_, Try.underlying15, by simp, by simp⟩
theorem Try.ti16 : TI Try.prog 16 (Value.pointer none) 1 8 := show (Try.prog.info? 16).map (fun i => (i.zero, i.size, i.bytes)) = some (some (Value.pointer none), 1, 8) by kernel_rfl
theorem Try.size16 : SizeIs Try.prog 16 1 := Try.ti16.size
theorem Try.plain16 : Plain Try.prog 16 := ⟨_, Try.underlying16, by simp, by simp⟩
theorem Try.ti17 : TI Try.prog 17 (Value.pointer none) 1 8 := show (Try.prog.info? 17).map (fun i => (i.zero, i.size, i.bytes)) = some (some (Value.pointer none), 1, 8) by kernel_rfl
theorem Try.size17 : SizeIs Try.prog 17 1 := Try.ti17.size
theorem Try.plain17 : Plain Try.prog 17 := ⟨_, Try.underlying17, by simp, by simp⟩
theorem Try.ti18 : TI Try.prog 18 (Value.agg #[(Value.pointer none)]) 1 8 := show (Try.prog.info? 18).map (fun i => (i.zero, i.size, i.bytes)) = some (some (Value.agg #[(Value.pointer none)]), 1, 8) by kernel_rfl
theorem Try.size18 : SizeIs Try.prog 18 1 := Try.ti18.size
theorem Try.agg18 : AggIs Try.prog 18 1 := .struct Try.underlying18 Try.size18
theorem Try.build18 : BuildIs Try.prog 18 [(0, 1)] [(Value.pointer none)] := .struct Try.underlying18 Try.ti18 rfl (by kernel_rfl)
theorem Try.field18_0 : FieldIs Try.prog 18 0 0 := ⟨_, _, 1, Try.underlying18, rfl, rfl, Try.size17, by decide⟩
theorem Try.ti19 : TI Try.prog 19 (Value.agg #[(Value.pointer none)]) 1 8 := show (Try.prog.info? 19).map (fun i => (i.zero, i.size, i.bytes)) = some (some (Value.agg #[(Value.pointer none)]), 1, 8) by kernel_rfl
theorem Try.size19 : SizeIs Try.prog 19 1 := Try.ti19.size
theorem Try.agg19 : AggIs Try.prog 19 1 := .struct Try.underlying19 Try.size19
theorem Try.build19 : BuildIs Try.prog 19 [(0, 1)] [(Value.pointer none)] := .struct Try.underlying19 Try.ti19 rfl (by kernel_rfl)
theorem Try.field19_0 : FieldIs Try.prog 19 0 0 := ⟨_, _, 1, Try.underlying19, rfl, rfl, Try.size17, by decide⟩
theorem Try.ti20 : TI Try.prog 20 Value.nilIface 1 16 := show (Try.prog.info? 20).map (fun i => (i.zero, i.size, i.bytes)) = some (some Value.nilIface, 1, 16) by kernel_rfl
theorem Try.size20 : SizeIs Try.prog 20 1 := Try.ti20.size
theorem Try.plain20 : Plain Try.prog 20 := ⟨_, Try.underlying20, by simp, by simp⟩
theorem Try.ti21 : TI Try.prog 21 (Value.int .i32 0) 1 4 := show (Try.prog.info? 21).map (fun i => (i.zero, i.size, i.bytes)) = some (some (Value.int .i32 0), 1, 4) by kernel_rfl
theorem Try.size21 : SizeIs Try.prog 21 1 := Try.ti21.size
theorem Try.plain21 : Plain Try.prog 21 := ⟨_, Try.underlying21, by simp, by simp⟩
theorem Try.ti22 : TI Try.prog 22 (Value.slice none 0 0) 1 24 := show (Try.prog.info? 22).map (fun i => (i.zero, i.size, i.bytes)) = some (some (Value.slice none 0 0), 1, 24) by kernel_rfl
theorem Try.size22 : SizeIs Try.prog 22 1 := Try.ti22.size
theorem Try.plain22 : Plain Try.prog 22 := ⟨_, Try.underlying22, by simp, by simp⟩
theorem Try.ti23 : TI Try.prog 23 (Value.slice none 0 0) 1 24 := show (Try.prog.info? 23).map (fun i => (i.zero, i.size, i.bytes)) = some (some (Value.slice none 0 0), 1, 24) by kernel_rfl
theorem Try.size23 : SizeIs Try.prog 23 1 := Try.ti23.size
theorem Try.plain23 : Plain Try.prog 23 := ⟨_, Try.underlying23, by simp, by simp⟩
theorem Try.ti24 : TI Try.prog 24 (Value.agg #[(Value.int .i64 0), (Value.slice none 0 0), (Value.slice none 0 0), (Value.int .i64 0)]) 4 64 := show (Try.prog.info? 24).map (fun i => (i.zero, i.size, i.bytes)) = some (some (Value.agg #[(Value.int .i64 0), (Value.slice none 0 0), (Value.slice none 0 0), (Value.int .i64 0)]), 4, 64) by kernel_rfl
theorem Try.size24 : SizeIs Try.prog 24 4 := Try.ti24.size
theorem Try.agg24 : AggIs Try.prog 24 4 := .struct Try.underlying24 Try.size24
theorem Try.build24 : BuildIs Try.prog 24 [(0, 1), (1, 1), (2, 1), (3, 1)] [(Value.int .i64 0), (Value.slice none 0 0), (Value.slice none 0 0), (Value.int .i64 0)] := .struct Try.underlying24 Try.ti24 rfl (by kernel_rfl)
theorem Try.field24_0 : FieldIs Try.prog 24 0 0 := ⟨_, _, 1, Try.underlying24, rfl, rfl, Try.size3, by decide⟩
theorem Try.field24_1 : FieldIs Try.prog 24 1 1 := ⟨_, _, 1, Try.underlying24, rfl, rfl, Try.size22, by decide⟩
theorem Try.field24_2 : FieldIs Try.prog 24 2 2 := ⟨_, _, 1, Try.underlying24, rfl, rfl, Try.size23, by decide⟩
theorem Try.field24_3 : FieldIs Try.prog 24 3 3 := ⟨_, _, 1, Try.underlying24, rfl, rfl, Try.size3, by decide⟩
theorem Try.ti25 : TI Try.prog 25 (Value.agg #[(Value.int .i64 0), (Value.slice none 0 0), (Value.slice none 0 0), (Value.int .i64 0)]) 4 64 := show (Try.prog.info? 25).map (fun i => (i.zero, i.size, i.bytes)) = some (some (Value.agg #[(Value.int .i64 0), (Value.slice none 0 0), (Value.slice none 0 0), (Value.int .i64 0)]), 4, 64) by kernel_rfl
theorem Try.size25 : SizeIs Try.prog 25 4 := Try.ti25.size
theorem Try.agg25 : AggIs Try.prog 25 4 := .struct Try.underlying25 Try.size25
theorem Try.build25 : BuildIs Try.prog 25 [(0, 1), (1, 1), (2, 1), (3, 1)] [(Value.int .i64 0), (Value.slice none 0 0), (Value.slice none 0 0), (Value.int .i64 0)] := .struct Try.underlying25 Try.ti25 rfl (by kernel_rfl)
theorem Try.field25_0 : FieldIs Try.prog 25 0 0 := ⟨_, _, 1, Try.underlying25, rfl, rfl, Try.size3, by decide⟩
theorem Try.field25_1 : FieldIs Try.prog 25 1 1 := ⟨_, _, 1, Try.underlying25, rfl, rfl, Try.size22, by decide⟩
theorem Try.field25_2 : FieldIs Try.prog 25 2 2 := ⟨_, _, 1, Try.underlying25, rfl, rfl, Try.size23, by decide⟩
theorem Try.field25_3 : FieldIs Try.prog 25 3 3 := ⟨_, _, 1, Try.underlying25, rfl, rfl, Try.size3, by decide⟩
theorem Try.ti26 : TI Try.prog 26 Value.nilFunc 1 8 := show (Try.prog.info? 26).map (fun i => (i.zero, i.size, i.bytes)) = some (some Value.nilFunc, 1, 8) by kernel_rfl
theorem Try.size26 : SizeIs Try.prog 26 1 := Try.ti26.size
theorem Try.plain26 : Plain Try.prog 26 := ⟨_, Try.underlying26, by simp, by simp⟩
theorem Try.ti27 : TI Try.prog 27 Value.nilFunc 1 8 := show (Try.prog.info? 27).map (fun i => (i.zero, i.size, i.bytes)) = some (some Value.nilFunc, 1, 8) by kernel_rfl
theorem Try.size27 : SizeIs Try.prog 27 1 := Try.ti27.size
theorem Try.plain27 : Plain Try.prog 27 := ⟨_, Try.underlying27, by simp, by simp⟩
theorem Try.ti28 : TI Try.prog 28 (Value.int .i64 0) 1 8 := show (Try.prog.info? 28).map (fun i => (i.zero, i.size, i.bytes)) = some (some (Value.int .i64 0), 1, 8) by kernel_rfl
theorem Try.size28 : SizeIs Try.prog 28 1 := Try.ti28.size
theorem Try.plain28 : Plain Try.prog 28 := ⟨_, Try.underlying28, by simp, by simp⟩
theorem Try.ti29 : TI Try.prog 29 Value.nilFunc 1 8 := show (Try.prog.info? 29).map (fun i => (i.zero, i.size, i.bytes)) = some (some Value.nilFunc, 1, 8) by kernel_rfl
theorem Try.size29 : SizeIs Try.prog 29 1 := Try.ti29.size
theorem Try.plain29 : Plain Try.prog 29 := ⟨_, Try.underlying29, by simp, by simp⟩
theorem Try.ti30 : TI Try.prog 30 (Value.slice none 0 0) 1 24 := show (Try.prog.info? 30).map (fun i => (i.zero, i.size, i.bytes)) = some (some (Value.slice none 0 0), 1, 24) by kernel_rfl
theorem Try.size30 : SizeIs Try.prog 30 1 := Try.ti30.size
theorem Try.plain30 : Plain Try.prog 30 := ⟨_, Try.underlying30, by simp, by simp⟩
theorem Try.ti32 : TI Try.prog 32 Value.nilFunc 1 8 := show (Try.prog.info? 32).map (fun i => (i.zero, i.size, i.bytes)) = some (some Value.nilFunc, 1, 8) by kernel_rfl
theorem Try.size32 : SizeIs Try.prog 32 1 := Try.ti32.size
theorem Try.plain32 : Plain Try.prog 32 := ⟨_, Try.underlying32, by simp, by simp⟩
theorem Try.ti33 : TI Try.prog 33 Value.nilFunc 1 8 := show (Try.prog.info? 33).map (fun i => (i.zero, i.size, i.bytes)) = some (some Value.nilFunc, 1, 8) by kernel_rfl
theorem Try.size33 : SizeIs Try.prog 33 1 := Try.ti33.size
theorem Try.plain33 : Plain Try.prog 33 := ⟨_, Try.underlying33, by simp, by simp⟩
theorem Try.ti35 : TI Try.prog 35 Value.nilFunc 1 8 := show (Try.prog.info? 35).map (fun i => (i.zero, i.size, i.bytes)) = some (some Value.nilFunc, 1, 8) by kernel_rfl
theorem Try.size35 : SizeIs Try.prog 35 1 := Try.ti35.size
theorem Try.plain35 : Plain Try.prog 35 := ⟨_, Try.underlying35, by simp, by simp⟩
theorem Try.ti36 : TI Try.prog 36 Value.nilFunc 1 8 := show (Try.prog.info? 36).map (fun i => (i.zero, i.size, i.bytes)) = some (some Value.nilFunc, 1, 8) by kernel_rfl
theorem Try.size36 : SizeIs Try.prog 36 1 := Try.ti36.size
theorem Try.plain36 : Plain Try.prog 36 := ⟨_, Try.underlying36, by simp, by simp⟩
theorem Try.ti37 : TI Try.prog 37 Value.nilFunc 1 8 := show (Try.prog.info? 37).map (fun i => (i.zero, i.size, i.bytes)) = some (some Value.nilFunc, 1, 8) by kernel_rfl
theorem Try.size37 : SizeIs Try.prog 37 1 := Try.ti37.size
theorem Try.plain37 : Plain Try.prog 37 := ⟨_, Try.underlying37, by simp, by simp⟩
theorem Try.ti38 : TI Try.prog 38 Value.nilFunc 1 8 := show (Try.prog.info? 38).map (fun i => (i.zero, i.size, i.bytes)) = some (some Value.nilFunc, 1, 8) by kernel_rfl
theorem Try.size38 : SizeIs Try.prog 38 1 := Try.ti38.size
theorem Try.plain38 : Plain Try.prog 38 := ⟨_, Try.underlying38, by simp, by simp⟩
theorem Try.ti39 : TI Try.prog 39 (Value.slice none 0 0) 1 24 := show (Try.prog.info? 39).map (fun i => (i.zero, i.size, i.bytes)) = some (some (Value.slice none 0 0), 1, 24) by kernel_rfl
theorem Try.size39 : SizeIs Try.prog 39 1 := Try.ti39.size
theorem Try.plain39 : Plain Try.prog 39 := ⟨_, Try.underlying39, by simp, by simp⟩
theorem Try.ti41 : TI Try.prog 41 Value.nilFunc 1 8 := show (Try.prog.info? 41).map (fun i => (i.zero, i.size, i.bytes)) = some (some Value.nilFunc, 1, 8) by kernel_rfl
theorem Try.size41 : SizeIs Try.prog 41 1 := Try.ti41.size
theorem Try.plain41 : Plain Try.prog 41 := ⟨_, Try.underlying41, by simp, by simp⟩
theorem Try.ti42 : TI Try.prog 42 Value.nilFunc 1 8 := show (Try.prog.info? 42).map (fun i => (i.zero, i.size, i.bytes)) = some (some Value.nilFunc, 1, 8) by kernel_rfl
theorem Try.size42 : SizeIs Try.prog 42 1 := Try.ti42.size
theorem Try.plain42 : Plain Try.prog 42 := ⟨_, Try.underlying42, by simp, by simp⟩
theorem Try.ti43 : TI Try.prog 43 Value.nilFunc 1 8 := show (Try.prog.info? 43).map (fun i => (i.zero, i.size, i.bytes)) = some (some Value.nilFunc, 1, 8) by kernel_rfl
theorem Try.size43 : SizeIs Try.prog 43 1 := Try.ti43.size
theorem Try.plain43 : Plain Try.prog 43 := ⟨_, Try.underlying43, by simp, by simp⟩
theorem Try.ti44 : TI Try.prog 44 Value.nilFunc 1 8 := show (Try.prog.info? 44).map (fun i => (i.zero, i.size, i.bytes)) = some (some Value.nilFunc, 1, 8) by kernel_rfl
theorem Try.size44 : SizeIs Try.prog 44 1 := Try.ti44.size
theorem Try.plain44 : Plain Try.prog 44 := ⟨_, Try.underlying44, by simp, by simp⟩
theorem Try.ti45 : TI Try.prog 45 Value.nilFunc 1 8 := show (Try.prog.info? 45).map (fun i => (i.zero, i.size, i.bytes)) = some (some Value.nilFunc, 1, 8) by kernel_rfl
theorem Try.size45 : SizeIs Try.prog 45 1 := Try.ti45.size
theorem Try.plain45 : Plain Try.prog 45 := ⟨_, Try.underlying45, by simp, by simp⟩
theorem Try.ti46 : TI Try.prog 46 Value.nilFunc 1 8 := show (Try.prog.info? 46).map (fun i => (i.zero, i.size, i.bytes)) = some (some Value.nilFunc, 1, 8) by kernel_rfl
theorem Try.size46 : SizeIs Try.prog 46 1 := Try.ti46.size
theorem Try.plain46 : Plain Try.prog 46 := ⟨_, Try.underlying46, by simp, by simp⟩
theorem Try.ti47 : TI Try.prog 47 (Value.slice none 0 0) 1 24 := show (Try.prog.info? 47).map (fun i => (i.zero, i.size, i.bytes)) = some (some (Value.slice none 0 0), 1, 24) by kernel_rfl
theorem Try.size47 : SizeIs Try.prog 47 1 := Try.ti47.size
theorem Try.plain47 : Plain Try.prog 47 := ⟨_, Try.underlying47, by simp, by simp⟩
theorem Try.ti49 : TI Try.prog 49 Value.nilFunc 1 8 := show (Try.prog.info? 49).map (fun i => (i.zero, i.size, i.bytes)) = some (some Value.nilFunc, 1, 8) by kernel_rfl
theorem Try.size49 : SizeIs Try.prog 49 1 := Try.ti49.size
theorem Try.plain49 : Plain Try.prog 49 := ⟨_, Try.underlying49, by simp, by simp⟩
theorem Try.ti50 : TI Try.prog 50 (Value.agg #[(Value.int .i64 0), (Value.int .i64 0)]) 2 16 := show (Try.prog.info? 50).map (fun i => (i.zero, i.size, i.bytes)) = some (some (Value.agg #[(Value.int .i64 0), (Value.int .i64 0)]), 2, 16) by kernel_rfl
theorem Try.size50 : SizeIs Try.prog 50 2 := Try.ti50.size
theorem Try.agg50 : AggIs Try.prog 50 2 := .struct Try.underlying50 Try.size50
theorem Try.build50 : BuildIs Try.prog 50 [(0, 1), (1, 1)] [(Value.int .i64 0), (Value.int .i64 0)] := .struct Try.underlying50 Try.ti50 rfl (by kernel_rfl)
theorem Try.field50_0 : FieldIs Try.prog 50 0 0 := ⟨_, _, 1, Try.underlying50, rfl, rfl, Try.size3, by decide⟩
theorem Try.field50_1 : FieldIs Try.prog 50 1 1 := ⟨_, _, 1, Try.underlying50, rfl, rfl, Try.size3, by decide⟩
theorem Try.eq50 : FlatInts Try.prog 50 [.i64, .i64] := ⟨by kernel_rfl, by kernel_rfl, by kernel_rfl, fieldIntsB_ok (by kernel_rfl)⟩
theorem Try.ti51 : TI Try.prog 51 (Value.agg #[(Value.int .i64 0), (Value.int .i64 0)]) 2 16 := show (Try.prog.info? 51).map (fun i => (i.zero, i.size, i.bytes)) = some (some (Value.agg #[(Value.int .i64 0), (Value.int .i64 0)]), 2, 16) by kernel_rfl
theorem Try.size51 : SizeIs Try.prog 51 2 := Try.ti51.size
theorem Try.agg51 : AggIs Try.prog 51 2 := .struct Try.underlying51 Try.size51
theorem Try.build51 : BuildIs Try.prog 51 [(0, 1), (1, 1)] [(Value.int .i64 0), (Value.int .i64 0)] := .struct Try.underlying51 Try.ti51 rfl (by kernel_rfl)
theorem Try.field51_0 : FieldIs Try.prog 51 0 0 := ⟨_, _, 1, Try.underlying51, rfl, rfl, Try.size3, by decide⟩
theorem Try.field51_1 : FieldIs Try.prog 51 1 1 := ⟨_, _, 1, Try.underlying51, rfl, rfl, Try.size3, by decide⟩
theorem Try.eq51 : FlatInts Try.prog 51 [.i64, .i64] := ⟨by kernel_rfl, by kernel_rfl, by kernel_rfl, fieldIntsB_ok (by kernel_rfl)⟩
theorem Try.ti52 : TI Try.prog 52 Value.nilFunc 1 8 := show (Try.prog.info? 52).map (fun i => (i.zero, i.size, i.bytes)) = some (some Value.nilFunc, 1, 8) by kernel_rfl
theorem Try.size52 : SizeIs Try.prog 52 1 := Try.ti52.size
theorem Try.plain52 : Plain Try.prog 52 := ⟨_, Try.underlying52, by simp, by simp⟩
theorem Try.ti53 : TI Try.prog 53 (Value.slice none 0 0) 1 24 := show (Try.prog.info? 53).map (fun i => (i.zero, i.size, i.bytes)) = some (some (Value.slice none 0 0), 1, 24) by kernel_rfl
theorem Try.size53 : SizeIs Try.prog 53 1 := Try.ti53.size
theorem Try.plain53 : Plain Try.prog 53 := ⟨_, Try.underlying53, by simp, by simp⟩
theorem Try.ti55 : TI Try.prog 55 Value.nilFunc 1 8 := show (Try.prog.info? 55).map (fun i => (i.zero, i.size, i.bytes)) = some (some Value.nilFunc, 1, 8) by kernel_rfl
theorem Try.size55 : SizeIs Try.prog 55 1 := Try.ti55.size
theorem Try.plain55 : Plain Try.prog 55 := ⟨_, Try.underlying55, by simp, by simp⟩
theorem Try.ti56 : TI Try.prog 56 (Value.agg #[(Value.int .i64 0), (Value.int .i64 0)]) 2 16 := show (Try.prog.info? 56).map (fun i => (i.zero, i.size, i.bytes)) = some (some (Value.agg #[(Value.int .i64 0), (Value.int .i64 0)]), 2, 16) by kernel_rfl
theorem Try.size56 : SizeIs Try.prog 56 2 := Try.ti56.size
theorem Try.agg56 : AggIs Try.prog 56 2 := .struct Try.underlying56 Try.size56
theorem Try.build56 : BuildIs Try.prog 56 [(0, 1), (1, 1)] [(Value.int .i64 0), (Value.int .i64 0)] := .struct Try.underlying56 Try.ti56 rfl (by kernel_rfl)
theorem Try.field56_0 : FieldIs Try.prog 56 0 0 := ⟨_, _, 1, Try.underlying56, rfl, rfl, Try.size3, by decide⟩
theorem Try.field56_1 : FieldIs Try.prog 56 1 1 := ⟨_, _, 1, Try.underlying56, rfl, rfl, Try.size3, by decide⟩
theorem Try.eq56 : FlatInts Try.prog 56 [.i64, .i64] := ⟨by kernel_rfl, by kernel_rfl, by kernel_rfl, fieldIntsB_ok (by kernel_rfl)⟩
theorem Try.ti57 : TI Try.prog 57 (Value.agg #[(Value.int .i64 0), (Value.int .i64 0)]) 2 16 := show (Try.prog.info? 57).map (fun i => (i.zero, i.size, i.bytes)) = some (some (Value.agg #[(Value.int .i64 0), (Value.int .i64 0)]), 2, 16) by kernel_rfl
theorem Try.size57 : SizeIs Try.prog 57 2 := Try.ti57.size
theorem Try.agg57 : AggIs Try.prog 57 2 := .struct Try.underlying57 Try.size57
theorem Try.build57 : BuildIs Try.prog 57 [(0, 1), (1, 1)] [(Value.int .i64 0), (Value.int .i64 0)] := .struct Try.underlying57 Try.ti57 rfl (by kernel_rfl)
theorem Try.field57_0 : FieldIs Try.prog 57 0 0 := ⟨_, _, 1, Try.underlying57, rfl, rfl, Try.size3, by decide⟩
theorem Try.field57_1 : FieldIs Try.prog 57 1 1 := ⟨_, _, 1, Try.underlying57, rfl, rfl, Try.size3, by decide⟩
theorem Try.eq57 : FlatInts Try.prog 57 [.i64, .i64] := ⟨by kernel_rfl, by kernel_rfl, by kernel_rfl, fieldIntsB_ok (by kernel_rfl)⟩
theorem Try.ti58 : TI Try.prog 58 (Value.agg #[(Value.int .i64 0), (Value.slice none 0 0), (Value.int .i64 0)]) 3 40 := show (Try.prog.info? 58).map (fun i => (i.zero, i.size, i.bytes)) = some (some (Value.agg #[(Value.int .i64 0), (Value.slice none 0 0), (Value.int .i64 0)]), 3, 40) by kernel_rfl
theorem Try.size58 : SizeIs Try.prog 58 3 := Try.ti58.size
theorem Try.agg58 : AggIs Try.prog 58 3 := .struct Try.underlying58 Try.size58
theorem Try.build58 : BuildIs Try.prog 58 [(0, 1), (1, 1), (2, 1)] [(Value.int .i64 0), (Value.slice none 0 0), (Value.int .i64 0)] := .struct Try.underlying58 Try.ti58 rfl (by kernel_rfl)
theorem Try.field58_0 : FieldIs Try.prog 58 0 0 := ⟨_, _, 1, Try.underlying58, rfl, rfl, Try.size3, by decide⟩
theorem Try.field58_1 : FieldIs Try.prog 58 1 1 := ⟨_, _, 1, Try.underlying58, rfl, rfl, Try.size23, by decide⟩
theorem Try.field58_2 : FieldIs Try.prog 58 2 2 := ⟨_, _, 1, Try.underlying58, rfl, rfl, Try.size3, by decide⟩
theorem Try.ti59 : TI Try.prog 59 (Value.agg #[(Value.int .i64 0), (Value.slice none 0 0), (Value.int .i64 0)]) 3 40 := show (Try.prog.info? 59).map (fun i => (i.zero, i.size, i.bytes)) = some (some (Value.agg #[(Value.int .i64 0), (Value.slice none 0 0), (Value.int .i64 0)]), 3, 40) by kernel_rfl
theorem Try.size59 : SizeIs Try.prog 59 3 := Try.ti59.size
theorem Try.agg59 : AggIs Try.prog 59 3 := .struct Try.underlying59 Try.size59
theorem Try.build59 : BuildIs Try.prog 59 [(0, 1), (1, 1), (2, 1)] [(Value.int .i64 0), (Value.slice none 0 0), (Value.int .i64 0)] := .struct Try.underlying59 Try.ti59 rfl (by kernel_rfl)
theorem Try.field59_0 : FieldIs Try.prog 59 0 0 := ⟨_, _, 1, Try.underlying59, rfl, rfl, Try.size3, by decide⟩
theorem Try.field59_1 : FieldIs Try.prog 59 1 1 := ⟨_, _, 1, Try.underlying59, rfl, rfl, Try.size23, by decide⟩
theorem Try.field59_2 : FieldIs Try.prog 59 2 2 := ⟨_, _, 1, Try.underlying59, rfl, rfl, Try.size3, by decide⟩
theorem Try.ti61 : TI Try.prog 61 Value.nilFunc 1 8 := show (Try.prog.info? 61).map (fun i => (i.zero, i.size, i.bytes)) = some (some Value.nilFunc, 1, 8) by kernel_rfl
theorem Try.size61 : SizeIs Try.prog 61 1 := Try.ti61.size
theorem Try.plain61 : Plain Try.prog 61 := ⟨_, Try.underlying61, by simp, by simp⟩
theorem Try.ti62 : TI Try.prog 62 Value.nilFunc 1 8 := show (Try.prog.info? 62).map (fun i => (i.zero, i.size, i.bytes)) = some (some Value.nilFunc, 1, 8) by kernel_rfl
theorem Try.size62 : SizeIs Try.prog 62 1 := Try.ti62.size
theorem Try.plain62 : Plain Try.prog 62 := ⟨_, Try.underlying62, by simp, by simp⟩
theorem Try.ti63 : TI Try.prog 63 Value.nilFunc 1 8 := show (Try.prog.info? 63).map (fun i => (i.zero, i.size, i.bytes)) = some (some Value.nilFunc, 1, 8) by kernel_rfl
theorem Try.size63 : SizeIs Try.prog 63 1 := Try.ti63.size
theorem Try.plain63 : Plain Try.prog 63 := ⟨_, Try.underlying63, by simp, by simp⟩
theorem Try.ti64 : TI Try.prog 64 Value.nilFunc 1 8 := show (Try.prog.info? 64).map (fun i => (i.zero, i.size, i.bytes)) = some (some Value.nilFunc, 1, 8) by kernel_rfl
theorem Try.size64 : SizeIs Try.prog 64 1 := Try.ti64.size
theorem Try.plain64 : Plain Try.prog 64 := ⟨_, Try.underlying64, by simp, by simp⟩
theorem Try.ti65 : TI Try.prog 65 Value.nilFunc 1 8 := show (Try.prog.info? 65).map (fun i => (i.zero, i.size, i.bytes)) = some (some Value.nilFunc, 1, 8) by kernel_rfl
theorem Try.size65 : SizeIs Try.prog 65 1 := Try.ti65.size
theorem Try.plain65 : Plain Try.prog 65 := ⟨_, Try.underlying65, by simp, by simp⟩
theorem Try.ti66 : TI Try.prog 66 Value.nilFunc 1 8 := show (Try.prog.info? 66).map (fun i => (i.zero, i.size, i.bytes)) = some (some Value.nilFunc, 1, 8) by kernel_rfl
theorem Try.size66 : SizeIs Try.prog 66 1 := Try.ti66.size
theorem Try.plain66 : Plain Try.prog 66 := ⟨_, Try.underlying66, by simp, by simp⟩
theorem Try.ti67 : TI Try.prog 67 Value.nilFunc 1 8 := show (Try.prog.info? 67).map (fun i => (i.zero, i.size, i.bytes)) = some (some Value.nilFunc, 1, 8) by kernel_rfl
theorem Try.size67 : SizeIs Try.prog 67 1 := Try.ti67.size
theorem Try.plain67 : Plain Try.prog 67 := ⟨_, Try.underlying67, by simp, by simp⟩
theorem Try.ti68 : TI Try.prog 68 Value.nilFunc 1 8 := show (Try.prog.info? 68).map (fun i => (i.zero, i.size, i.bytes)) = some (some Value.nilFunc, 1, 8) by kernel_rfl
theorem Try.size68 : SizeIs Try.prog 68 1 := Try.ti68.size
theorem Try.plain68 : Plain Try.prog 68 := ⟨_, Try.underlying68, by simp, by simp⟩
theorem Try.ti69 : TI Try.prog 69 Value.nilFunc 1 8 := show (Try.prog.info? 69).map (fun i => (i.zero, i.size, i.bytes)) = some (some Value.nilFunc, 1, 8) by kernel_rfl
theorem Try.size69 : SizeIs Try.prog 69 1 := Try.ti69.size
theorem Try.plain69 : Plain Try.prog 69 := ⟨_, Try.underlying69, by simp, by simp⟩
theorem Try.ti70 : TI Try.prog 70 Value.nilFunc 1 8 := show (Try.prog.info? 70).map (fun i => (i.zero, i.size, i.bytes)) = some (some Value.nilFunc, 1, 8) by kernel_rfl
theorem Try.size70 : SizeIs Try.prog 70 1 := Try.ti70.size
theorem Try.plain70 : Plain Try.prog 70 := ⟨_, Try.underlying70, by simp, by simp⟩
theorem Try.ti71 : TI Try.prog 71 Value.nilFunc 1 8 := show (Try.prog.info? 71).map (fun i => (i.zero, i.size, i.bytes)) = some (some Value.nilFunc, 1, 8) by kernel_rfl
theorem Try.size71 : SizeIs Try.prog 71 1 := Try.ti71.size
theorem Try.plain71 : Plain Try.prog 71 := ⟨_, Try.underlying71, by simp, by simp⟩
theorem Try.ti72 : TI Try.prog 72 Value.nilFunc 1 8 := show (Try.prog.info? 72).map (fun i => (i.zero, i.size, i.bytes)) = some (some Value.nilFunc, 1, 8) by kernel_rfl
theorem Try.size72 : SizeIs Try.prog 72 1 := Try.ti72.size
theorem Try.plain72 : Plain Try.prog 72 := ⟨_, Try.underlying72, by simp, by simp⟩
theorem Try.ti73 : TI Try.prog 73 Value.nilFunc 1 8 := show (Try.prog.info? 73).map (fun i => (i.zero, i.size, i.bytes)) = some (some Value.nilFunc, 1, 8) by kernel_rfl
theorem Try.size73 : SizeIs Try.prog 73 1 := Try.ti73.size
theorem Try.plain73 : Plain Try.prog 73 := ⟨_, Try.underlying73, by simp, by simp⟩
theorem Try.ti74 : TI Try.prog 74 Value.nilFunc 1 8 := show (Try.prog.info? 74).map (fun i => (i.zero, i.size, i.bytes)) = some (some Value.nilFunc, 1, 8) by kernel_rfl
theorem Try.size74 : SizeIs Try.prog 74 1 := Try.ti74.size
theorem Try.plain74 : Plain Try.prog 74 := ⟨_, Try.underlying74, by simp, by simp⟩
theorem Try.ti75 : TI Try.prog 75 Value.nilFunc 1 8 := show (Try.prog.info? 75).map (fun i => (i.zero, i.size, i.bytes)) = some (some Value.nilFunc, 1, 8) by kernel_rfl
theorem Try.size75 : SizeIs Try.prog 75 1 := Try.ti75.size
theorem Try.plain75 : Plain Try.prog 75 := ⟨_, Try.underlying75, by simp, by simp⟩
theorem Try.ti76 : TI Try.prog 76 Value.nilFunc 1 8 := show (Try.prog.info? 76).map (fun i => (i.zero, i.size, i.bytes)) = some (some Value.nilFunc, 1, 8) by kernel_rfl
theorem Try.size76 : SizeIs Try.prog 76 1 := Try.ti76.size
theorem Try.plain76 : Plain Try.prog 76 := ⟨_, Try.underlying76, by simp, by simp⟩
theorem Try.ti77 : TI Try.prog 77 Value.nilFunc 1 8 := show (Try.prog.info? 77).map (fun i => (i.zero, i.size, i.bytes)) = some (some Value.nilFunc, 1, 8) by kernel_rfl
theorem Try.size77 : SizeIs Try.prog 77 1 := Try.ti77.size
theorem Try.plain77 : Plain Try.prog 77 := ⟨_, Try.underlying77, by simp, by simp⟩
theorem Try.ti78 : TI Try.prog 78 Value.nilFunc 1 8 := show (Try.prog.info? 78).map (fun i => (i.zero, i.size, i.bytes)) = some (some Value.nilFunc, 1, 8) by kernel_rfl
theorem Try.size78 : SizeIs Try.prog 78 1 := Try.ti78.size
theorem Try.plain78 : Plain Try.prog 78 := ⟨_, Try.underlying78, by simp, by simp⟩
theorem Try.ti79 : TI Try.prog 79 (Value.agg #[(Value.int .i64 0), (Value.int .i64 0), (Value.int .i64 0)]) 3 24 := show (Try.prog.info? 79).map (fun i => (i.zero, i.size, i.bytes)) = some (some (Value.agg #[(Value.int .i64 0), (Value.int .i64 0), (Value.int .i64 0)]), 3, 24) by kernel_rfl
theorem Try.size79 : SizeIs Try.prog 79 3 := Try.ti79.size
theorem Try.agg79 : AggIs Try.prog 79 3 := .struct Try.underlying79 Try.size79
theorem Try.build79 : BuildIs Try.prog 79 [(0, 1), (1, 1), (2, 1)] [(Value.int .i64 0), (Value.int .i64 0), (Value.int .i64 0)] := .struct Try.underlying79 Try.ti79 rfl (by kernel_rfl)
theorem Try.field79_0 : FieldIs Try.prog 79 0 0 := ⟨_, _, 1, Try.underlying79, rfl, rfl, Try.size3, by decide⟩
theorem Try.field79_1 : FieldIs Try.prog 79 1 1 := ⟨_, _, 1, Try.underlying79, rfl, rfl, Try.size3, by decide⟩
theorem Try.field79_2 : FieldIs Try.prog 79 2 2 := ⟨_, _, 1, Try.underlying79, rfl, rfl, Try.size3, by decide⟩
theorem Try.eq79 : FlatInts Try.prog 79 [.i64, .i64, .i64] := ⟨by kernel_rfl, by kernel_rfl, by kernel_rfl, fieldIntsB_ok (by kernel_rfl)⟩
theorem Try.ti80 : TI Try.prog 80 (Value.agg #[(Value.int .i64 0), (Value.int .i64 0), (Value.int .i64 0)]) 3 24 := show (Try.prog.info? 80).map (fun i => (i.zero, i.size, i.bytes)) = some (some (Value.agg #[(Value.int .i64 0), (Value.int .i64 0), (Value.int .i64 0)]), 3, 24) by kernel_rfl
theorem Try.size80 : SizeIs Try.prog 80 3 := Try.ti80.size
theorem Try.agg80 : AggIs Try.prog 80 3 := .struct Try.underlying80 Try.size80
theorem Try.build80 : BuildIs Try.prog 80 [(0, 1), (1, 1), (2, 1)] [(Value.int .i64 0), (Value.int .i64 0), (Value.int .i64 0)] := .struct Try.underlying80 Try.ti80 rfl (by kernel_rfl)
theorem Try.field80_0 : FieldIs Try.prog 80 0 0 := ⟨_, _, 1, Try.underlying80, rfl, rfl, Try.size3, by decide⟩
theorem Try.field80_1 : FieldIs Try.prog 80 1 1 := ⟨_, _, 1, Try.underlying80, rfl, rfl, Try.size3, by decide⟩
theorem Try.field80_2 : FieldIs Try.prog 80 2 2 := ⟨_, _, 1, Try.underlying80, rfl, rfl, Try.size3, by decide⟩
theorem Try.eq80 : FlatInts Try.prog 80 [.i64, .i64, .i64] := ⟨by kernel_rfl, by kernel_rfl, by kernel_rfl, fieldIntsB_ok (by kernel_rfl)⟩
theorem Try.ti81 : TI Try.prog 81 Value.nilFunc 1 8 := show (Try.prog.info? 81).map (fun i => (i.zero, i.size, i.bytes)) = some (some Value.nilFunc, 1, 8) by kernel_rfl
theorem Try.size81 : SizeIs Try.prog 81 1 := Try.ti81.size
theorem Try.plain81 : Plain Try.prog 81 := ⟨_, Try.underlying81, by simp, by simp⟩
theorem Try.ti82 : TI Try.prog 82 Value.nilFunc 1 8 := show (Try.prog.info? 82).map (fun i => (i.zero, i.size, i.bytes)) = some (some Value.nilFunc, 1, 8) by kernel_rfl
theorem Try.size82 : SizeIs Try.prog 82 1 := Try.ti82.size
theorem Try.plain82 : Plain Try.prog 82 := ⟨_, Try.underlying82, by simp, by simp⟩
theorem Try.ti83 : TI Try.prog 83 Value.nilFunc 1 8 := show (Try.prog.info? 83).map (fun i => (i.zero, i.size, i.bytes)) = some (some Value.nilFunc, 1, 8) by kernel_rfl
theorem Try.size83 : SizeIs Try.prog 83 1 := Try.ti83.size
theorem Try.plain83 : Plain Try.prog 83 := ⟨_, Try.underlying83, by simp, by simp⟩
theorem Try.ti84 : TI Try.prog 84 Value.nilFunc 1 8 := show (Try.prog.info? 84).map (fun i => (i.zero, i.size, i.bytes)) = some (some Value.nilFunc, 1, 8) by kernel_rfl
theorem Try.size84 : SizeIs Try.prog 84 1 := Try.ti84.size
theorem Try.plain84 : Plain Try.prog 84 := ⟨_, Try.underlying84, by simp, by simp⟩
theorem Try.ti86 : TI Try.prog 86 Value.nilFunc 1 8 := show (Try.prog.info? 86).map (fun i => (i.zero, i.size, i.bytes)) = some (some Value.nilFunc, 1, 8) by kernel_rfl
theorem Try.size86 : SizeIs Try.prog 86 1 := Try.ti86.size
theorem Try.plain86 : Plain Try.prog 86 := ⟨_, Try.underlying86, by simp, by simp⟩
theorem Try.ti87 : TI Try.prog 87 Value.nilFunc 1 8 := show (Try.prog.info? 87).map (fun i => (i.zero, i.size, i.bytes)) = some (some Value.nilFunc, 1, 8) by kernel_rfl
theorem Try.size87 : SizeIs Try.prog 87 1 := Try.ti87.size
theorem Try.plain87 : Plain Try.prog 87 := ⟨_, Try.underlying87, by simp, by simp⟩
theorem Try.ti88 : TI Try.prog 88 Value.nilFunc 1 8 := show (Try.prog.info? 88).map (fun i => (i.zero, i.size, i.bytes)) = some (some Value.nilFunc, 1, 8) by kernel_rfl
theorem Try.size88 : SizeIs Try.prog 88 1 := Try.ti88.size
theorem Try.plain88 : Plain Try.prog 88 := ⟨_, Try.underlying88, by simp, by simp⟩
theorem Try.ti89 : TI Try.prog 89 Value.nilFunc 1 8 := show (Try.prog.info? 89).map (fun i => (i.zero, i.size, i.bytes)) = some (some Value.nilFunc, 1, 8) by kernel_rfl
theorem Try.size89 : SizeIs Try.prog 89 1 := Try.ti89.size
theorem Try.plain89 : Plain Try.prog 89 := ⟨_, Try.underlying89, by simp, by simp⟩
theorem Try.ti90 : TI Try.prog 90 Value.nilFunc 1 8 := show (Try.prog.info? 90).map (fun i => (i.zero, i.size, i.bytes)) = some (some Value.nilFunc, 1, 8) by kernel_rfl
theorem Try.size90 : SizeIs Try.prog 90 1 := Try.ti90.size
theorem Try.plain90 : Plain Try.prog 90 := ⟨_, Try.underlying90, by simp, by simp⟩
theorem Try.ti91 : TI Try.prog 91 (Value.pointer none) 1 8 := show (Try.prog.info? 91).map (fun i => (i.zero, i.size, i.bytes)) = some (some (Value.pointer none), 1, 8) by kernel_rfl
theorem Try.size91 : SizeIs Try.prog 91 1 := Try.ti91.size
theorem Try.plain91 : Plain Try.prog 91 := ⟨_, Try.underlying91, by simp, by simp⟩
theorem Try.ti92 : TI Try.prog 92 Value.nilFunc 1 8 := show (Try.prog.info? 92).map (fun i => (i.zero, i.size, i.bytes)) = some (some Value.nilFunc, 1, 8) by kernel_rfl
theorem Try.size92 : SizeIs Try.prog 92 1 := Try.ti92.size
theorem Try.plain92 : Plain Try.prog 92 := ⟨_, Try.underlying92, by simp, by simp⟩
theorem Try.ti93 : TI Try.prog 93 Value.nilFunc 1 8 := show (Try.prog.info? 93).map (fun i => (i.zero, i.size, i.bytes)) = some (some Value.nilFunc, 1, 8) by kernel_rfl
theorem Try.size93 : SizeIs Try.prog 93 1 := Try.ti93.size
theorem Try.plain93 : Plain Try.prog 93 := ⟨_, Try.underlying93, by simp, by simp⟩
theorem Try.ti94 : TI Try.prog 94 Value.nilFunc 1 8 := show (Try.prog.info? 94).map (fun i => (i.zero, i.size, i.bytes)) = some (some Value.nilFunc, 1, 8) by kernel_rfl
theorem Try.size94 : SizeIs Try.prog 94 1 := Try.ti94.size
theorem Try.plain94 : Plain Try.prog 94 := ⟨_, Try.underlying94, by simp, by simp⟩
theorem Try.ti95 : TI Try.prog 95 Value.nilFunc 1 8 := show (Try.prog.info? 95).map (fun i => (i.zero, i.size, i.bytes)) = some (some Value.nilFunc, 1, 8) by kernel_rfl
theorem Try.size95 : SizeIs Try.prog 95 1 := Try.ti95.size
theorem Try.plain95 : Plain Try.prog 95 := ⟨_, Try.underlying95, by simp, by simp⟩
theorem Try.ti96 : TI Try.prog 96 Value.nilFunc 1 8 := show (Try.prog.info? 96).map (fun i => (i.zero, i.size, i.bytes)) = some (some Value.nilFunc, 1, 8) by kernel_rfl
theorem Try.size96 : SizeIs Try.prog 96 1 := Try.ti96.size
theorem Try.plain96 : Plain Try.prog 96 := ⟨_, Try.underlying96, by simp, by simp⟩
theorem Try.ti97 : TI Try.prog 97 (Value.agg #[(Value.int .i64 0), (Value.int .i64 0), (Value.int .i64 0)]) 3 24 := show (Try.prog.info? 97).map (fun i => (i.zero, i.size, i.bytes)) = some (some (Value.agg #[(Value.int .i64 0), (Value.int .i64 0), (Value.int .i64 0)]), 3, 24) by kernel_rfl
theorem Try.size97 : SizeIs Try.prog 97 3 := Try.ti97.size
theorem Try.agg97 : AggIs Try.prog 97 3 := .array Try.underlying97 Try.size97
theorem Try.build97 : BuildIs Try.prog 97 [(0, 1), (1, 1), (2, 1)] [(Value.int .i64 0), (Value.int .i64 0), (Value.int .i64 0)] := .array Try.underlying97 Try.ti97 rfl Try.ti3
theorem Try.ti98 : TI Try.prog 98 Value.nilFunc 1 8 := show (Try.prog.info? 98).map (fun i => (i.zero, i.size, i.bytes)) = some (some Value.nilFunc, 1, 8) by kernel_rfl
theorem Try.size98 : SizeIs Try.prog 98 1 := Try.ti98.size
theorem Try.plain98 : Plain Try.prog 98 := ⟨_, Try.underlying98, by simp, by simp⟩
theorem Try.ti99 : TI Try.prog 99 Value.nilFunc 1 8 := show (Try.prog.info? 99).map (fun i => (i.zero, i.size, i.bytes)) = some (some Value.nilFunc, 1, 8) by kernel_rfl
theorem Try.size99 : SizeIs Try.prog 99 1 := Try.ti99.size
theorem Try.plain99 : Plain Try.prog 99 := ⟨_, Try.underlying99, by simp, by simp⟩
theorem Try.ti100 : TI Try.prog 100 (Value.map none) 1 8 := show (Try.prog.info? 100).map (fun i => (i.zero, i.size, i.bytes)) = some (some (Value.map none), 1, 8) by kernel_rfl
theorem Try.size100 : SizeIs Try.prog 100 1 := Try.ti100.size
theorem Try.plain100 : Plain Try.prog 100 := ⟨_, Try.underlying100, by simp, by simp⟩
theorem Try.ti101 : TI Try.prog 101 Value.nilFunc 1 8 := show (Try.prog.info? 101).map (fun i => (i.zero, i.size, i.bytes)) = some (some Value.nilFunc, 1, 8) by kernel_rfl
theorem Try.size101 : SizeIs Try.prog 101 1 := Try.ti101.size
theorem Try.plain101 : Plain Try.prog 101 := ⟨_, Try.underlying101, by simp, by simp⟩
theorem Try.ti102 : TI Try.prog 102 (Value.slice none 0 0) 1 24 := show (Try.prog.info? 102).map (fun i => (i.zero, i.size, i.bytes)) = some (some (Value.slice none 0 0), 1, 24) by kernel_rfl
theorem Try.size102 : SizeIs Try.prog 102 1 := Try.ti102.size
theorem Try.plain102 : Plain Try.prog 102 := ⟨_, Try.underlying102, by simp, by simp⟩
theorem Try.ti103 : TI Try.prog 103 (Value.agg #[(Value.int .i64 0), (Value.int .i64 0)]) 2 16 := show (Try.prog.info? 103).map (fun i => (i.zero, i.size, i.bytes)) = some (some (Value.agg #[(Value.int .i64 0), (Value.int .i64 0)]), 2, 16) by kernel_rfl
theorem Try.size103 : SizeIs Try.prog 103 2 := Try.ti103.size
theorem Try.agg103 : AggIs Try.prog 103 2 := .array Try.underlying103 Try.size103
theorem Try.build103 : BuildIs Try.prog 103 [(0, 1), (1, 1)] [(Value.int .i64 0), (Value.int .i64 0)] := .array Try.underlying103 Try.ti103 rfl Try.ti3
theorem Try.ti105 : TI Try.prog 105 Value.nilFunc 1 8 := show (Try.prog.info? 105).map (fun i => (i.zero, i.size, i.bytes)) = some (some Value.nilFunc, 1, 8) by kernel_rfl
theorem Try.size105 : SizeIs Try.prog 105 1 := Try.ti105.size
theorem Try.plain105 : Plain Try.prog 105 := ⟨_, Try.underlying105, by simp, by simp⟩
theorem Try.ti106 : TI Try.prog 106 Value.nilFunc 1 8 := show (Try.prog.info? 106).map (fun i => (i.zero, i.size, i.bytes)) = some (some Value.nilFunc, 1, 8) by kernel_rfl
theorem Try.size106 : SizeIs Try.prog 106 1 := Try.ti106.size
theorem Try.plain106 : Plain Try.prog 106 := ⟨_, Try.underlying106, by simp, by simp⟩
theorem Try.ti107 : TI Try.prog 107 Value.nilFunc 1 8 := show (Try.prog.info? 107).map (fun i => (i.zero, i.size, i.bytes)) = some (some Value.nilFunc, 1, 8) by kernel_rfl
theorem Try.size107 : SizeIs Try.prog 107 1 := Try.ti107.size
theorem Try.plain107 : Plain Try.prog 107 := ⟨_, Try.underlying107, by simp, by simp⟩
theorem Try.ti108 : TI Try.prog 108 Value.nilFunc 1 8 := show (Try.prog.info? 108).map (fun i => (i.zero, i.size, i.bytes)) = some (some Value.nilFunc, 1, 8) by kernel_rfl
theorem Try.size108 : SizeIs Try.prog 108 1 := Try.ti108.size
theorem Try.plain108 : Plain Try.prog 108 := ⟨_, Try.underlying108, by simp, by simp⟩
theorem Try.ti109 : TI Try.prog 109 Value.nilFunc 1 8 := show (Try.prog.info? 109).map (fun i => (i.zero, i.size, i.bytes)) = some (some Value.nilFunc, 1, 8) by kernel_rfl
theorem Try.size109 : SizeIs Try.prog 109 1 := Try.ti109.size
theorem Try.plain109 : Plain Try.prog 109 := ⟨_, Try.underlying109, by simp, by simp⟩
theorem Try.ti110 : TI Try.prog 110 (Value.map none) 1 8 := show (Try.prog.info? 110).map (fun i => (i.zero, i.size, i.bytes)) = some (some (Value.map none), 1, 8) by kernel_rfl
theorem Try.size110 : SizeIs Try.prog 110 1 := Try.ti110.size
theorem Try.plain110 : Plain Try.prog 110 := ⟨_, Try.underlying110, by simp, by simp⟩
theorem Try.ti111 : TI Try.prog 111 (Value.map none) 1 8 := show (Try.prog.info? 111).map (fun i => (i.zero, i.size, i.bytes)) = some (some (Value.map none), 1, 8) by kernel_rfl
theorem Try.size111 : SizeIs Try.prog 111 1 := Try.ti111.size
theorem Try.plain111 : Plain Try.prog 111 := ⟨_, Try.underlying111, by simp, by simp⟩
theorem Try.ti112 : TI Try.prog 112 (Value.agg #[(Value.slice none 0 0), (Value.slice none 0 0), (Value.map none), (Value.map none), (Value.bool false)]) 5 72 := show (Try.prog.info? 112).map (fun i => (i.zero, i.size, i.bytes)) = some (some (Value.agg #[(Value.slice none 0 0), (Value.slice none 0 0), (Value.map none), (Value.map none), (Value.bool false)]), 5, 72) by kernel_rfl
theorem Try.size112 : SizeIs Try.prog 112 5 := Try.ti112.size
theorem Try.agg112 : AggIs Try.prog 112 5 := .struct Try.underlying112 Try.size112
theorem Try.build112 : BuildIs Try.prog 112 [(0, 1), (1, 1), (2, 1), (3, 1), (4, 1)] [(Value.slice none 0 0), (Value.slice none 0 0), (Value.map none), (Value.map none), (Value.bool false)] := .struct Try.underlying112 Try.ti112 rfl (by kernel_rfl)
theorem Try.field112_0 : FieldIs Try.prog 112 0 0 := ⟨_, _, 1, Try.underlying112, rfl, rfl, Try.size22, by decide⟩
theorem Try.field112_1 : FieldIs Try.prog 112 1 1 := ⟨_, _, 1, Try.underlying112, rfl, rfl, Try.size23, by decide⟩
theorem Try.field112_2 : FieldIs Try.prog 112 2 2 := ⟨_, _, 1, Try.underlying112, rfl, rfl, Try.size110, by decide⟩
theorem Try.field112_3 : FieldIs Try.prog 112 3 3 := ⟨_, _, 1, Try.underlying112, rfl, rfl, Try.size111, by decide⟩
theorem Try.field112_4 : FieldIs Try.prog 112 4 4 := ⟨_, _, 1, Try.underlying112, rfl, rfl, Try.size4, by decide⟩
theorem Try.ti113 : TI Try.prog 113 (Value.agg #[(Value.slice none 0 0), (Value.slice none 0 0), (Value.map none), (Value.map none), (Value.bool false)]) 5 72 := show (Try.prog.info? 113).map (fun i => (i.zero, i.size, i.bytes)) = some (some (Value.agg #[(Value.slice none 0 0), (Value.slice none 0 0), (Value.map none), (Value.map none), (Value.bool false)]), 5, 72) by kernel_rfl
theorem Try.size113 : SizeIs Try.prog 113 5 := Try.ti113.size
theorem Try.agg113 : AggIs Try.prog 113 5 := .struct Try.underlying113 Try.size113
theorem Try.build113 : BuildIs Try.prog 113 [(0, 1), (1, 1), (2, 1), (3, 1), (4, 1)] [(Value.slice none 0 0), (Value.slice none 0 0), (Value.map none), (Value.map none), (Value.bool false)] := .struct Try.underlying113 Try.ti113 rfl (by kernel_rfl)
theorem Try.field113_0 : FieldIs Try.prog 113 0 0 := ⟨_, _, 1, Try.underlying113, rfl, rfl, Try.size22, by decide⟩
theorem Try.field113_1 : FieldIs Try.prog 113 1 1 := ⟨_, _, 1, Try.underlying113, rfl, rfl, Try.size23, by decide⟩
theorem Try.field113_2 : FieldIs Try.prog 113 2 2 := ⟨_, _, 1, Try.underlying113, rfl, rfl, Try.size110, by decide⟩
theorem Try.field113_3 : FieldIs Try.prog 113 3 3 := ⟨_, _, 1, Try.underlying113, rfl, rfl, Try.size111, by decide⟩
theorem Try.field113_4 : FieldIs Try.prog 113 4 4 := ⟨_, _, 1, Try.underlying113, rfl, rfl, Try.size4, by decide⟩
theorem Try.ti114 : TI Try.prog 114 Value.nilFunc 1 8 := show (Try.prog.info? 114).map (fun i => (i.zero, i.size, i.bytes)) = some (some Value.nilFunc, 1, 8) by kernel_rfl
theorem Try.size114 : SizeIs Try.prog 114 1 := Try.ti114.size
theorem Try.plain114 : Plain Try.prog 114 := ⟨_, Try.underlying114, by simp, by simp⟩
theorem Try.ti115 : TI Try.prog 115 Value.nilFunc 1 8 := show (Try.prog.info? 115).map (fun i => (i.zero, i.size, i.bytes)) = some (some Value.nilFunc, 1, 8) by kernel_rfl
theorem Try.size115 : SizeIs Try.prog 115 1 := Try.ti115.size
theorem Try.plain115 : Plain Try.prog 115 := ⟨_, Try.underlying115, by simp, by simp⟩
theorem Try.ti116 : TI Try.prog 116 Value.nilFunc 1 8 := show (Try.prog.info? 116).map (fun i => (i.zero, i.size, i.bytes)) = some (some Value.nilFunc, 1, 8) by kernel_rfl
theorem Try.size116 : SizeIs Try.prog 116 1 := Try.ti116.size
theorem Try.plain116 : Plain Try.prog 116 := ⟨_, Try.underlying116, by simp, by simp⟩
theorem Try.ti117 : TI Try.prog 117 Value.nilFunc 1 8 := show (Try.prog.info? 117).map (fun i => (i.zero, i.size, i.bytes)) = some (some Value.nilFunc, 1, 8) by kernel_rfl
theorem Try.size117 : SizeIs Try.prog 117 1 := Try.ti117.size
theorem Try.plain117 : Plain Try.prog 117 := ⟨_, Try.underlying117, by simp, by simp⟩
theorem Try.ti118 : TI Try.prog 118 Value.nilFunc 1 8 := show (Try.prog.info? 118).map (fun i => (i.zero, i.size, i.bytes)) = some (some Value.nilFunc, 1, 8) by kernel_rfl
theorem Try.size118 : SizeIs Try.prog 118 1 := Try.ti118.size
theorem Try.plain118 : Plain Try.prog 118 := ⟨_, Try.underlying118, by simp, by simp⟩
theorem Try.ti119 : TI Try.prog 119 Value.nilFunc 1 8 := show (Try.prog.info? 119).map (fun i => (i.zero, i.size, i.bytes)) = some (some Value.nilFunc, 1, 8) by kernel_rfl
theorem Try.size119 : SizeIs Try.prog 119 1 := Try.ti119.size
theorem Try.plain119 : Plain Try.prog 119 := ⟨_, Try.underlying119, by simp, by simp⟩
theorem Try.ti120 : TI Try.prog 120 Value.nilFunc 1 8 := show (Try.prog.info? 120).map (fun i => (i.zero, i.size, i.bytes)) = some (some Value.nilFunc, 1, 8) by kernel_rfl
theorem Try.size120 : SizeIs Try.prog 120 1 := Try.ti120.size
theorem Try.plain120 : Plain Try.prog 120 := ⟨_, Try.underlying120, by simp, by simp⟩
theorem Try.ti121 : TI Try.prog 121 (Value.slice none 0 0) 1 24 := show (Try.prog.info? 121).map (fun i => (i.zero, i.size, i.bytes)) = some (some (Value.slice none 0 0), 1, 24) by kernel_rfl
theorem Try.size121 : SizeIs Try.prog 121 1 := Try.ti121.size
theorem Try.plain121 : Plain Try.prog 121 := ⟨_, Try.underlying121, by simp, by simp⟩
theorem Try.ti122 : TI Try.prog 122 Value.nilFunc 1 8 := show (Try.prog.info? 122).map (fun i => (i.zero, i.size, i.bytes)) = some (some Value.nilFunc, 1, 8) by kernel_rfl
theorem Try.size122 : SizeIs Try.prog 122 1 := Try.ti122.size
theorem Try.plain122 : Plain Try.prog 122 := ⟨_, Try.underlying122, by simp, by simp⟩
theorem Try.ti123 : TI Try.prog 123 Value.nilFunc 1 8 := show (Try.prog.info? 123).map (fun i => (i.zero, i.size, i.bytes)) = some (some Value.nilFunc, 1, 8) by kernel_rfl
theorem Try.size123 : SizeIs Try.prog 123 1 := Try.ti123.size
theorem Try.plain123 : Plain Try.prog 123 := ⟨_, Try.underlying123, by simp, by simp⟩
theorem Try.ti124 : TI Try.prog 124 Value.nilFunc 1 8 := show (Try.prog.info? 124).map (fun i => (i.zero, i.size, i.bytes)) = some (some Value.nilFunc, 1, 8) by kernel_rfl
theorem Try.size124 : SizeIs Try.prog 124 1 := Try.ti124.size
theorem Try.plain124 : Plain Try.prog 124 := ⟨_, Try.underlying124, by simp, by simp⟩
theorem Try.ti125 : TI Try.prog 125 Value.nilFunc 1 8 := show (Try.prog.info? 125).map (fun i => (i.zero, i.size, i.bytes)) = some (some Value.nilFunc, 1, 8) by kernel_rfl
theorem Try.size125 : SizeIs Try.prog 125 1 := Try.ti125.size
theorem Try.plain125 : Plain Try.prog 125 := ⟨_, Try.underlying125, by simp, by simp⟩
theorem Try.ti127 : TI Try.prog 127 Value.nilFunc 1 8 := show (Try.prog.info? 127).map (fun i => (i.zero, i.size, i.bytes)) = some (some Value.nilFunc, 1, 8) by kernel_rfl
theorem Try.size127 : SizeIs Try.prog 127 1 := Try.ti127.size
theorem Try.plain127 : Plain Try.prog 127 := ⟨_, Try.underlying127, by simp, by simp⟩
theorem Try.ti128 : TI Try.prog 128 Value.nilFunc 1 8 := show (Try.prog.info? 128).map (fun i => (i.zero, i.size, i.bytes)) = some (some Value.nilFunc, 1, 8) by kernel_rfl
theorem Try.size128 : SizeIs Try.prog 128 1 := Try.ti128.size
theorem Try.plain128 : Plain Try.prog 128 := ⟨_, Try.underlying128, by simp, by simp⟩
theorem Try.ti129 : TI Try.prog 129 (Value.map none) 1 8 := show (Try.prog.info? 129).map (fun i => (i.zero, i.size, i.bytes)) = some (some (Value.map none), 1, 8) by kernel_rfl
theorem Try.size129 : SizeIs Try.prog 129 1 := Try.ti129.size
theorem Try.plain129 : Plain Try.prog 129 := ⟨_, Try.underlying129, by simp, by simp⟩
theorem Try.ti130 : TI Try.prog 130 Value.nilFunc 1 8 := show (Try.prog.info? 130).map (fun i => (i.zero, i.size, i.bytes)) = some (some Value.nilFunc, 1, 8) by kernel_rfl
theorem Try.size130 : SizeIs Try.prog 130 1 := Try.ti130.size
theorem Try.plain130 : Plain Try.prog 130 := ⟨_, Try.underlying130, by simp, by simp⟩
theorem Try.ti131 : TI Try.prog 131 Value.nilFunc 1 8 := show (Try.prog.info? 131).map (fun i => (i.zero, i.size, i.bytes)) = some (some Value.nilFunc, 1, 8) by kernel_rfl
theorem Try.size131 : SizeIs Try.prog 131 1 := Try.ti131.size
theorem Try.plain131 : Plain Try.prog 131 := ⟨_, Try.underlying131, by simp, by simp⟩
theorem Try.ti132 : TI Try.prog 132 Value.nilFunc 1 8 := show (Try.prog.info? 132).map (fun i => (i.zero, i.size, i.bytes)) = some (some Value.nilFunc, 1, 8) by kernel_rfl
theorem Try.size132 : SizeIs Try.prog 132 1 := Try.ti132.size
theorem Try.plain132 : Plain Try.prog 132 := ⟨_, Try.underlying132, by simp, by simp⟩
theorem Try.ti133 : TI Try.prog 133 Value.nilFunc 1 8 := show (Try.prog.info? 133).map (fun i => (i.zero, i.size, i.bytes)) = some (some Value.nilFunc, 1, 8) by kernel_rfl
theorem Try.size133 : SizeIs Try.prog 133 1 := Try.ti133.size
theorem Try.plain133 : Plain Try.prog 133 := ⟨_, Try.underlying133, by simp, by simp⟩
theorem Try.ti134 : TI Try.prog 134 Value.nilFunc 1 8 := show (Try.prog.info? 134).map (fun i => (i.zero, i.size, i.bytes)) = some (some Value.nilFunc, 1, 8) by kernel_rfl
theorem Try.size134 : SizeIs Try.prog 134 1 := Try.ti134.size
theorem Try.plain134 : Plain Try.prog 134 := ⟨_, Try.underlying134, by simp, by simp⟩
theorem Try.ti136 : TI Try.prog 136 Value.nilFunc 1 8 := show (Try.prog.info? 136).map (fun i => (i.zero, i.size, i.bytes)) = some (some Value.nilFunc, 1, 8) by kernel_rfl
theorem Try.size136 : SizeIs Try.prog 136 1 := Try.ti136.size
theorem Try.plain136 : Plain Try.prog 136 := ⟨_, Try.underlying136, by simp, by simp⟩
theorem Try.ti137 : TI Try.prog 137 (Value.map none) 1 8 := show (Try.prog.info? 137).map (fun i => (i.zero, i.size, i.bytes)) = some (some (Value.map none), 1, 8) by kernel_rfl
theorem Try.size137 : SizeIs Try.prog 137 1 := Try.ti137.size
theorem Try.plain137 : Plain Try.prog 137 := ⟨_, Try.underlying137, by simp, by simp⟩
theorem Try.ti138 : TI Try.prog 138 Value.nilFunc 1 8 := show (Try.prog.info? 138).map (fun i => (i.zero, i.size, i.bytes)) = some (some Value.nilFunc, 1, 8) by kernel_rfl
theorem Try.size138 : SizeIs Try.prog 138 1 := Try.ti138.size
theorem Try.plain138 : Plain Try.prog 138 := ⟨_, Try.underlying138, by simp, by simp⟩
theorem Try.ti139 : TI Try.prog 139 Value.nilFunc 1 8 := show (Try.prog.info? 139).map (fun i => (i.zero, i.size, i.bytes)) = some (some Value.nilFunc, 1, 8) by kernel_rfl
theorem Try.size139 : SizeIs Try.prog 139 1 := Try.ti139.size
theorem Try.plain139 : Plain Try.prog 139 := ⟨_, Try.underlying139, by simp, by simp⟩
theorem Try.ti140 : TI Try.prog 140 Value.nilFunc 1 8 := show (Try.prog.info? 140).map (fun i => (i.zero, i.size, i.bytes)) = some (some Value.nilFunc, 1, 8) by kernel_rfl
theorem Try.size140 : SizeIs Try.prog 140 1 := Try.ti140.size
theorem Try.plain140 : Plain Try.prog 140 := ⟨_, Try.underlying140, by simp, by simp⟩
theorem Try.ti141 : TI Try.prog 141 (Value.slice none 0 0) 1 24 := show (Try.prog.info? 141).map (fun i => (i.zero, i.size, i.bytes)) = some (some (Value.slice none 0 0), 1, 24) by kernel_rfl
theorem Try.size141 : SizeIs Try.prog 141 1 := Try.ti141.size
theorem Try.plain141 : Plain Try.prog 141 := ⟨_, Try.underlying141, by simp, by simp⟩
theorem Try.ti142 : TI Try.prog 142 Value.nilFunc 1 8 := show (Try.prog.info? 142).map (fun i => (i.zero, i.size, i.bytes)) = some (some Value.nilFunc, 1, 8) by kernel_rfl
theorem Try.size142 : SizeIs Try.prog 142 1 := Try.ti142.size
theorem Try.plain142 : Plain Try.prog 142 := ⟨_, Try.underlying142, by simp, by simp⟩
theorem Try.ti143 : TI Try.prog 143 Value.nilFunc 1 8 := show (Try.prog.info? 143).map (fun i => (i.zero, i.size, i.bytes)) = some (some Value.nilFunc, 1, 8) by kernel_rfl
theorem Try.size143 : SizeIs Try.prog 143 1 := Try.ti143.size
theorem Try.plain143 : Plain Try.prog 143 := ⟨_, Try.underlying143, by simp, by simp⟩
theorem Try.ti144 : TI Try.prog 144 Value.nilFunc 1 8 := show (Try.prog.info? 144).map (fun i => (i.zero, i.size, i.bytes)) = some (some Value.nilFunc, 1, 8) by kernel_rfl
theorem Try.size144 : SizeIs Try.prog 144 1 := Try.ti144.size
theorem Try.plain144 : Plain Try.prog 144 := ⟨_, Try.underlying144, by simp, by simp⟩
theorem Try.ti145 : TI Try.prog 145 Value.nilFunc 1 8 := show (Try.prog.info? 145).map (fun i => (i.zero, i.size, i.bytes)) = some (some Value.nilFunc, 1, 8) by kernel_rfl
theorem Try.size145 : SizeIs Try.prog 145 1 := Try.ti145.size
theorem Try.plain145 : Plain Try.prog 145 := ⟨_, Try.underlying145, by simp, by simp⟩
theorem Try.ti146 : TI Try.prog 146 (Value.int .u64 0) 1 8 := show (Try.prog.info? 146).map (fun i => (i.zero, i.size, i.bytes)) = some (some (Value.int .u64 0), 1, 8) by kernel_rfl
theorem Try.size146 : SizeIs Try.prog 146 1 := Try.ti146.size
theorem Try.plain146 : Plain Try.prog 146 := ⟨_, Try.underlying146, by simp, by simp⟩
theorem Try.ti147 : TI Try.prog 147 Value.nilFunc 1 8 := show (Try.prog.info? 147).map (fun i => (i.zero, i.size, i.bytes)) = some (some Value.nilFunc, 1, 8) by kernel_rfl
theorem Try.size147 : SizeIs Try.prog 147 1 := Try.ti147.size
theorem Try.plain147 : Plain Try.prog 147 := ⟨_, Try.underlying147, by simp, by simp⟩
theorem Try.ti148 : TI Try.prog 148 Value.nilFunc 1 8 := show (Try.prog.info? 148).map (fun i => (i.zero, i.size, i.bytes)) = some (some Value.nilFunc, 1, 8) by kernel_rfl
theorem Try.size148 : SizeIs Try.prog 148 1 := Try.ti148.size
theorem Try.plain148 : Plain Try.prog 148 := ⟨_, Try.underlying148, by simp, by simp⟩
theorem Try.ti149 : TI Try.prog 149 Value.nilFunc 1 8 := show (Try.prog.info? 149).map (fun i => (i.zero, i.size, i.bytes)) = some (some Value.nilFunc, 1, 8) by kernel_rfl
theorem Try.size149 : SizeIs Try.prog 149 1 := Try.ti149.size
theorem Try.plain149 : Plain Try.prog 149 := ⟨_, Try.underlying149, by simp, by simp⟩
theorem Try.ti150 : TI Try.prog 150 (Value.map none) 1 8 := show (Try.prog.info? 150).map (fun i => (i.zero, i.size, i.bytes)) = some (some (Value.map none), 1, 8) by kernel_rfl
theorem Try.size150 : SizeIs Try.prog 150 1 := Try.ti150.size
theorem Try.plain150 : Plain Try.prog 150 := ⟨_, Try.underlying150, by simp, by simp⟩
theorem Try.ti151 : TI Try.prog 151 Value.nilFunc 1 8 := show (Try.prog.info? 151).map (fun i => (i.zero, i.size, i.bytes)) = some (some Value.nilFunc, 1, 8) by kernel_rfl
theorem Try.size151 : SizeIs Try.prog 151 1 := Try.ti151.size
theorem Try.plain151 : Plain Try.prog 151 := ⟨_, Try.underlying151, by simp, by simp⟩
theorem Try.ti152 : TI Try.prog 152 Value.nilFunc 1 8 := show (Try.prog.info? 152).map (fun i => (i.zero, i.size, i.bytes)) = some (some Value.nilFunc, 1, 8) by kernel_rfl
theorem Try.size152 : SizeIs Try.prog 152 1 := Try.ti152.size
theorem Try.plain152 : Plain Try.prog 152 := ⟨_, Try.underlying152, by simp, by simp⟩
theorem Try.ti153 : TI Try.prog 153 Value.nilFunc 1 8 := show (Try.prog.info? 153).map (fun i => (i.zero, i.size, i.bytes)) = some (some Value.nilFunc, 1, 8) by kernel_rfl
theorem Try.size153 : SizeIs Try.prog 153 1 := Try.ti153.size
theorem Try.plain153 : Plain Try.prog 153 := ⟨_, Try.underlying153, by simp, by simp⟩
theorem Try.ti154 : TI Try.prog 154 Value.nilFunc 1 8 := show (Try.prog.info? 154).map (fun i => (i.zero, i.size, i.bytes)) = some (some Value.nilFunc, 1, 8) by kernel_rfl
theorem Try.size154 : SizeIs Try.prog 154 1 := Try.ti154.size
theorem Try.plain154 : Plain Try.prog 154 := ⟨_, Try.underlying154, by simp, by simp⟩
theorem Try.ti155 : TI Try.prog 155 Value.nilFunc 1 8 := show (Try.prog.info? 155).map (fun i => (i.zero, i.size, i.bytes)) = some (some Value.nilFunc, 1, 8) by kernel_rfl
theorem Try.size155 : SizeIs Try.prog 155 1 := Try.ti155.size
theorem Try.plain155 : Plain Try.prog 155 := ⟨_, Try.underlying155, by simp, by simp⟩
theorem Try.ti156 : TI Try.prog 156 (Value.int .i64 0) 1 8 := show (Try.prog.info? 156).map (fun i => (i.zero, i.size, i.bytes)) = some (some (Value.int .i64 0), 1, 8) by kernel_rfl
theorem Try.size156 : SizeIs Try.prog 156 1 := Try.ti156.size
theorem Try.plain156 : Plain Try.prog 156 := ⟨_, Try.underlying156, by simp, by simp⟩
theorem Try.ti158 : TI Try.prog 158 Value.nilFunc 1 8 := show (Try.prog.info? 158).map (fun i => (i.zero, i.size, i.bytes)) = some (some Value.nilFunc, 1, 8) by kernel_rfl
theorem Try.size158 : SizeIs Try.prog 158 1 := Try.ti158.size
theorem Try.plain158 : Plain Try.prog 158 := ⟨_, Try.underlying158, by simp, by simp⟩
theorem Try.ti159 : TI Try.prog 159 Value.nilFunc 1 8 := show (Try.prog.info? 159).map (fun i => (i.zero, i.size, i.bytes)) = some (some Value.nilFunc, 1, 8) by kernel_rfl
theorem Try.size159 : SizeIs Try.prog 159 1 := Try.ti159.size
theorem Try.plain159 : Plain Try.prog 159 := ⟨_, Try.underlying159, by simp, by simp⟩
theorem Try.ti160 : TI Try.prog 160 Value.nilFunc 1 8 := show (Try.prog.info? 160).map (fun i => (i.zero, i.size, i.bytes)) = some (some Value.nilFunc, 1, 8) by kernel_rfl
theorem Try.size160 : SizeIs Try.prog 160 1 := Try.ti160.size
theorem Try.plain160 : Plain Try.prog 160 := ⟨_, Try.underlying160, by simp, by simp⟩
theorem Try.ti161 : TI Try.prog 161 Value.nilFunc 1 8 := show (Try.prog.info? 161).map (fun i => (i.zero, i.size, i.bytes)) = some (some Value.nilFunc, 1, 8) by kernel_rfl
theorem Try.size161 : SizeIs Try.prog 161 1 := Try.ti161.size
theorem Try.plain161 : Plain Try.prog 161 := ⟨_, Try.underlying161, by simp, by simp⟩
theorem Try.ti162 : TI Try.prog 162 Value.nilFunc 1 8 := show (Try.prog.info? 162).map (fun i => (i.zero, i.size, i.bytes)) = some (some Value.nilFunc, 1, 8) by kernel_rfl
theorem Try.size162 : SizeIs Try.prog 162 1 := Try.ti162.size
theorem Try.plain162 : Plain Try.prog 162 := ⟨_, Try.underlying162, by simp, by simp⟩
theorem Try.ti163 : TI Try.prog 163 (Value.int .u32 0) 1 4 := show (Try.prog.info? 163).map (fun i => (i.zero, i.size, i.bytes)) = some (some (Value.int .u32 0), 1, 4) by kernel_rfl
theorem Try.size163 : SizeIs Try.prog 163 1 := Try.ti163.size
theorem Try.plain163 : Plain Try.prog 163 := ⟨_, Try.underlying163, by simp, by simp⟩
theorem Try.ti164 : TI Try.prog 164 Value.nilFunc 1 8 := show (Try.prog.info? 164).map (fun i => (i.zero, i.size, i.bytes)) = some (some Value.nilFunc, 1, 8) by kernel_rfl
theorem Try.size164 : SizeIs Try.prog 164 1 := Try.ti164.size
theorem Try.plain164 : Plain Try.prog 164 := ⟨_, Try.underlying164, by simp, by simp⟩
theorem Try.ti165 : TI Try.prog 165 (Value.int .u64 0) 1 8 := show (Try.prog.info? 165).map (fun i => (i.zero, i.size, i.bytes)) = some (some (Value.int .u64 0), 1, 8) by kernel_rfl
theorem Try.size165 : SizeIs Try.prog 165 1 := Try.ti165.size
theorem Try.plain165 : Plain Try.prog 165 := ⟨_, Try.underlying165, by simp, by simp⟩
theorem Try.ti166 : TI Try.prog 166 Value.nilFunc 1 8 := show (Try.prog.info? 166).map (fun i => (i.zero, i.size, i.bytes)) = some (some Value.nilFunc, 1, 8) by kernel_rfl
theorem Try.size166 : SizeIs Try.prog 166 1 := Try.ti166.size
theorem Try.plain166 : Plain Try.prog 166 := ⟨_, Try.underlying166, by simp, by simp⟩
theorem Try.ti167 : TI Try.prog 167 Value.nilFunc 1 8 := show (Try.prog.info? 167).map (fun i => (i.zero, i.size, i.bytes)) = some (some Value.nilFunc, 1, 8) by kernel_rfl
theorem Try.size167 : SizeIs Try.prog 167 1 := Try.ti167.size
theorem Try.plain167 : Plain Try.prog 167 := ⟨_, Try.underlying167, by simp, by simp⟩
theorem Try.ti168 : TI Try.prog 168 Value.nilFunc 1 8 := show (Try.prog.info? 168).map (fun i => (i.zero, i.size, i.bytes)) = some (some Value.nilFunc, 1, 8) by kernel_rfl
theorem Try.size168 : SizeIs Try.prog 168 1 := Try.ti168.size
theorem Try.plain168 : Plain Try.prog 168 := ⟨_, Try.underlying168, by simp, by simp⟩
theorem Try.ti169 : TI Try.prog 169 Value.nilFunc 1 8 := show (Try.prog.info? 169).map (fun i => (i.zero, i.size, i.bytes)) = some (some Value.nilFunc, 1, 8) by kernel_rfl
theorem Try.size169 : SizeIs Try.prog 169 1 := Try.ti169.size
theorem Try.plain169 : Plain Try.prog 169 := ⟨_, Try.underlying169, by simp, by simp⟩
theorem Try.ti170 : TI Try.prog 170 Value.nilFunc 1 8 := show (Try.prog.info? 170).map (fun i => (i.zero, i.size, i.bytes)) = some (some Value.nilFunc, 1, 8) by kernel_rfl
theorem Try.size170 : SizeIs Try.prog 170 1 := Try.ti170.size
theorem Try.plain170 : Plain Try.prog 170 := ⟨_, Try.underlying170, by simp, by simp⟩
theorem Try.ti171 : TI Try.prog 171 Value.nilFunc 1 8 := show (Try.prog.info? 171).map (fun i => (i.zero, i.size, i.bytes)) = some (some Value.nilFunc, 1, 8) by kernel_rfl
theorem Try.size171 : SizeIs Try.prog 171 1 := Try.ti171.size
theorem Try.plain171 : Plain Try.prog 171 := ⟨_, Try.underlying171, by simp, by simp⟩
theorem Try.ti172 : TI Try.prog 172 (Value.int .u64 0) 1 8 := show (Try.prog.info? 172).map (fun i => (i.zero, i.size, i.bytes)) = some (some (Value.int .u64 0), 1, 8) by kernel_rfl
theorem Try.size172 : SizeIs Try.prog 172 1 := Try.ti172.size
theorem Try.plain172 : Plain Try.prog 172 := ⟨_, Try.underlying172, by simp, by simp⟩
theorem Try.ti173 : TI Try.prog 173 Value.nilFunc 1 8 := show (Try.prog.info? 173).map (fun i => (i.zero, i.size, i.bytes)) = some (some Value.nilFunc, 1, 8) by kernel_rfl
theorem Try.size173 : SizeIs Try.prog 173 1 := Try.ti173.size
theorem Try.plain173 : Plain Try.prog 173 := ⟨_, Try.underlying173, by simp, by simp⟩
theorem Try.ti174 : TI Try.prog 174 Value.nilFunc 1 8 := show (Try.prog.info? 174).map (fun i => (i.zero, i.size, i.bytes)) = some (some Value.nilFunc, 1, 8) by kernel_rfl
theorem Try.size174 : SizeIs Try.prog 174 1 := Try.ti174.size
theorem Try.plain174 : Plain Try.prog 174 := ⟨_, Try.underlying174, by simp, by simp⟩
theorem Try.ti175 : TI Try.prog 175 Value.nilFunc 1 8 := show (Try.prog.info? 175).map (fun i => (i.zero, i.size, i.bytes)) = some (some Value.nilFunc, 1, 8) by kernel_rfl
theorem Try.size175 : SizeIs Try.prog 175 1 := Try.ti175.size
theorem Try.plain175 : Plain Try.prog 175 := ⟨_, Try.underlying175, by simp, by simp⟩
theorem Try.ti176 : TI Try.prog 176 (Value.pointer none) 1 8 := show (Try.prog.info? 176).map (fun i => (i.zero, i.size, i.bytes)) = some (some (Value.pointer none), 1, 8) by kernel_rfl
theorem Try.size176 : SizeIs Try.prog 176 1 := Try.ti176.size
theorem Try.plain176 : Plain Try.prog 176 := ⟨_, Try.underlying176, by simp, by simp⟩
theorem Try.ti177 : TI Try.prog 177 Value.nilFunc 1 8 := show (Try.prog.info? 177).map (fun i => (i.zero, i.size, i.bytes)) = some (some Value.nilFunc, 1, 8) by kernel_rfl
theorem Try.size177 : SizeIs Try.prog 177 1 := Try.ti177.size
theorem Try.plain177 : Plain Try.prog 177 := ⟨_, Try.underlying177, by simp, by simp⟩
theorem Try.ti178 : TI Try.prog 178 Value.nilFunc 1 8 := show (Try.prog.info? 178).map (fun i => (i.zero, i.size, i.bytes)) = some (some Value.nilFunc, 1, 8) by kernel_rfl
theorem Try.size178 : SizeIs Try.prog 178 1 := Try.ti178.size
theorem Try.plain178 : Plain Try.prog 178 := ⟨_, Try.underlying178, by simp, by simp⟩
theorem Try.ti179 : TI Try.prog 179 Value.nilFunc 1 8 := show (Try.prog.info? 179).map (fun i => (i.zero, i.size, i.bytes)) = some (some Value.nilFunc, 1, 8) by kernel_rfl
theorem Try.size179 : SizeIs Try.prog 179 1 := Try.ti179.size
theorem Try.plain179 : Plain Try.prog 179 := ⟨_, Try.underlying179, by simp, by simp⟩
theorem Try.ti180 : TI Try.prog 180 Value.nilFunc 1 8 := show (Try.prog.info? 180).map (fun i => (i.zero, i.size, i.bytes)) = some (some Value.nilFunc, 1, 8) by kernel_rfl
theorem Try.size180 : SizeIs Try.prog 180 1 := Try.ti180.size
theorem Try.plain180 : Plain Try.prog 180 := ⟨_, Try.underlying180, by simp, by simp⟩
theorem Try.ti181 : TI Try.prog 181 Value.nilFunc 1 8 := show (Try.prog.info? 181).map (fun i => (i.zero, i.size, i.bytes)) = some (some Value.nilFunc, 1, 8) by kernel_rfl
theorem Try.size181 : SizeIs Try.prog 181 1 := Try.ti181.size
theorem Try.plain181 : Plain Try.prog 181 := ⟨_, Try.underlying181, by simp, by simp⟩
theorem Try.ti182 : TI Try.prog 182 Value.nilFunc 1 8 := show (Try.prog.info? 182).map (fun i => (i.zero, i.size, i.bytes)) = some (some Value.nilFunc, 1, 8) by kernel_rfl
theorem Try.size182 : SizeIs Try.prog 182 1 := Try.ti182.size
theorem Try.plain182 : Plain Try.prog 182 := ⟨_, Try.underlying182, by simp, by simp⟩
theorem Try.ti183 : TI Try.prog 183 Value.nilFunc 1 8 := show (Try.prog.info? 183).map (fun i => (i.zero, i.size, i.bytes)) = some (some Value.nilFunc, 1, 8) by kernel_rfl
theorem Try.size183 : SizeIs Try.prog 183 1 := Try.ti183.size
theorem Try.plain183 : Plain Try.prog 183 := ⟨_, Try.underlying183, by simp, by simp⟩
theorem Try.ti184 : TI Try.prog 184 Value.nilFunc 1 8 := show (Try.prog.info? 184).map (fun i => (i.zero, i.size, i.bytes)) = some (some Value.nilFunc, 1, 8) by kernel_rfl
theorem Try.size184 : SizeIs Try.prog 184 1 := Try.ti184.size
theorem Try.plain184 : Plain Try.prog 184 := ⟨_, Try.underlying184, by simp, by simp⟩
theorem Try.ti185 : TI Try.prog 185 (Value.pointer none) 1 8 := show (Try.prog.info? 185).map (fun i => (i.zero, i.size, i.bytes)) = some (some (Value.pointer none), 1, 8) by kernel_rfl
theorem Try.size185 : SizeIs Try.prog 185 1 := Try.ti185.size
theorem Try.plain185 : Plain Try.prog 185 := ⟨_, Try.underlying185, by simp, by simp⟩
theorem Try.ti187 : TI Try.prog 187 Value.nilFunc 1 8 := show (Try.prog.info? 187).map (fun i => (i.zero, i.size, i.bytes)) = some (some Value.nilFunc, 1, 8) by kernel_rfl
theorem Try.size187 : SizeIs Try.prog 187 1 := Try.ti187.size
theorem Try.plain187 : Plain Try.prog 187 := ⟨_, Try.underlying187, by simp, by simp⟩
theorem Try.ti188 : TI Try.prog 188 Value.nilFunc 1 8 := show (Try.prog.info? 188).map (fun i => (i.zero, i.size, i.bytes)) = some (some Value.nilFunc, 1, 8) by kernel_rfl
theorem Try.size188 : SizeIs Try.prog 188 1 := Try.ti188.size
theorem Try.plain188 : Plain Try.prog 188 := ⟨_, Try.underlying188, by simp, by simp⟩
theorem Try.ti189 : TI Try.prog 189 Value.nilFunc 1 8 := show (Try.prog.info? 189).map (fun i => (i.zero, i.size, i.bytes)) = some (some Value.nilFunc, 1, 8) by kernel_rfl
theorem Try.size189 : SizeIs Try.prog 189 1 := Try.ti189.size
theorem Try.plain189 : Plain Try.prog 189 := ⟨_, Try.underlying189, by simp, by simp⟩
theorem Try.ti190 : TI Try.prog 190 Value.nilFunc 1 8 := show (Try.prog.info? 190).map (fun i => (i.zero, i.size, i.bytes)) = some (some Value.nilFunc, 1, 8) by kernel_rfl
theorem Try.size190 : SizeIs Try.prog 190 1 := Try.ti190.size
theorem Try.plain190 : Plain Try.prog 190 := ⟨_, Try.underlying190, by simp, by simp⟩
theorem Try.ti191 : TI Try.prog 191 Value.nilFunc 1 8 := show (Try.prog.info? 191).map (fun i => (i.zero, i.size, i.bytes)) = some (some Value.nilFunc, 1, 8) by kernel_rfl
theorem Try.size191 : SizeIs Try.prog 191 1 := Try.ti191.size
theorem Try.plain191 : Plain Try.prog 191 := ⟨_, Try.underlying191, by simp, by simp⟩
theorem Try.ti192 : TI Try.prog 192 Value.nilFunc 1 8 := show (Try.prog.info? 192).map (fun i => (i.zero, i.size, i.bytes)) = some (some Value.nilFunc, 1, 8) by kernel_rfl
theorem Try.size192 : SizeIs Try.prog 192 1 := Try.ti192.size
theorem Try.plain192 : Plain Try.prog 192 := ⟨_, Try.underlying192, by simp, by simp⟩
theorem Try.ti193 : TI Try.prog 193 (Value.agg #[(Value.pointer none), (Value.pointer none), (Value.pointer none), (Value.string ⟨#[]⟩)]) 4 40 := show (Try.prog.info? 193).map (fun i => (i.zero, i.size, i.bytes)) = some (some (Value.agg #[(Value.pointer none), (Value.pointer none), (Value.pointer none), (Value.string ⟨#[]⟩)]), 4, 40) by kernel_rfl
theorem Try.size193 : SizeIs Try.prog 193 4 := Try.ti193.size
theorem Try.agg193 : AggIs Try.prog 193 4 := .struct Try.underlying193 Try.size193
theorem Try.build193 : BuildIs Try.prog 193 [(0, 1), (1, 1), (2, 1), (3, 1)] [(Value.pointer none), (Value.pointer none), (Value.pointer none), (Value.string ⟨#[]⟩)] := .struct Try.underlying193 Try.ti193 rfl (by kernel_rfl)
theorem Try.field193_0 : FieldIs Try.prog 193 0 0 := ⟨_, _, 1, Try.underlying193, rfl, rfl, Try.size17, by decide⟩
theorem Try.field193_1 : FieldIs Try.prog 193 1 1 := ⟨_, _, 1, Try.underlying193, rfl, rfl, Try.size17, by decide⟩
theorem Try.field193_2 : FieldIs Try.prog 193 2 2 := ⟨_, _, 1, Try.underlying193, rfl, rfl, Try.size17, by decide⟩
theorem Try.field193_3 : FieldIs Try.prog 193 3 3 := ⟨_, _, 1, Try.underlying193, rfl, rfl, Try.size9, by decide⟩
theorem Try.ti194 : TI Try.prog 194 (Value.agg #[(Value.pointer none), (Value.pointer none), (Value.pointer none), (Value.string ⟨#[]⟩)]) 4 40 := show (Try.prog.info? 194).map (fun i => (i.zero, i.size, i.bytes)) = some (some (Value.agg #[(Value.pointer none), (Value.pointer none), (Value.pointer none), (Value.string ⟨#[]⟩)]), 4, 40) by kernel_rfl
theorem Try.size194 : SizeIs Try.prog 194 4 := Try.ti194.size
theorem Try.agg194 : AggIs Try.prog 194 4 := .struct Try.underlying194 Try.size194
theorem Try.build194 : BuildIs Try.prog 194 [(0, 1), (1, 1), (2, 1), (3, 1)] [(Value.pointer none), (Value.pointer none), (Value.pointer none), (Value.string ⟨#[]⟩)] := .struct Try.underlying194 Try.ti194 rfl (by kernel_rfl)
theorem Try.field194_0 : FieldIs Try.prog 194 0 0 := ⟨_, _, 1, Try.underlying194, rfl, rfl, Try.size17, by decide⟩
theorem Try.field194_1 : FieldIs Try.prog 194 1 1 := ⟨_, _, 1, Try.underlying194, rfl, rfl, Try.size17, by decide⟩
theorem Try.field194_2 : FieldIs Try.prog 194 2 2 := ⟨_, _, 1, Try.underlying194, rfl, rfl, Try.size17, by decide⟩
theorem Try.field194_3 : FieldIs Try.prog 194 3 3 := ⟨_, _, 1, Try.underlying194, rfl, rfl, Try.size9, by decide⟩
theorem Try.ti198 : TI Try.prog 198 Value.nilFunc 1 8 := show (Try.prog.info? 198).map (fun i => (i.zero, i.size, i.bytes)) = some (some Value.nilFunc, 1, 8) by kernel_rfl
theorem Try.size198 : SizeIs Try.prog 198 1 := Try.ti198.size
theorem Try.plain198 : Plain Try.prog 198 := ⟨_, Try.underlying198, by simp, by simp⟩
theorem Try.ti199 : TI Try.prog 199 (Value.int .u8 0) 1 1 := show (Try.prog.info? 199).map (fun i => (i.zero, i.size, i.bytes)) = some (some (Value.int .u8 0), 1, 1) by kernel_rfl
theorem Try.size199 : SizeIs Try.prog 199 1 := Try.ti199.size
theorem Try.plain199 : Plain Try.prog 199 := ⟨_, Try.underlying199, by simp, by simp⟩
theorem Try.ti200 : TI Try.prog 200 (Value.int .u8 0) 1 1 := show (Try.prog.info? 200).map (fun i => (i.zero, i.size, i.bytes)) = some (some (Value.int .u8 0), 1, 1) by kernel_rfl
theorem Try.size200 : SizeIs Try.prog 200 1 := Try.ti200.size
theorem Try.plain200 : Plain Try.prog 200 := ⟨_, Try.underlying200, by simp, by simp⟩
theorem Try.ti201 : TI Try.prog 201 Value.nilFunc 1 8 := show (Try.prog.info? 201).map (fun i => (i.zero, i.size, i.bytes)) = some (some Value.nilFunc, 1, 8) by kernel_rfl
theorem Try.size201 : SizeIs Try.prog 201 1 := Try.ti201.size
theorem Try.plain201 : Plain Try.prog 201 := ⟨_, Try.underlying201, by simp, by simp⟩
theorem Try.ti202 : TI Try.prog 202 (Value.pointer none) 1 8 := show (Try.prog.info? 202).map (fun i => (i.zero, i.size, i.bytes)) = some (some (Value.pointer none), 1, 8) by kernel_rfl
theorem Try.size202 : SizeIs Try.prog 202 1 := Try.ti202.size
theorem Try.plain202 : Plain Try.prog 202 := ⟨_, Try.underlying202, by simp, by simp⟩
theorem Try.ti203 : TI Try.prog 203 (Value.int .i32 0) 1 4 := show (Try.prog.info? 203).map (fun i => (i.zero, i.size, i.bytes)) = some (some (Value.int .i32 0), 1, 4) by kernel_rfl
theorem Try.size203 : SizeIs Try.prog 203 1 := Try.ti203.size
theorem Try.plain203 : Plain Try.prog 203 := ⟨_, Try.underlying203, by simp, by simp⟩
theorem Try.ti204 : TI Try.prog 204 (Value.int .i32 0) 1 4 := show (Try.prog.info? 204).map (fun i => (i.zero, i.size, i.bytes)) = some (some (Value.int .i32 0), 1, 4) by kernel_rfl
theorem Try.size204 : SizeIs Try.prog 204 1 := Try.ti204.size
theorem Try.plain204 : Plain Try.prog 204 := ⟨_, Try.underlying204, by simp, by simp⟩
theorem Try.ti205 : TI Try.prog 205 (Value.agg #[(Value.int .u64 0), (Value.int .u64 0), (Value.int .u32 0), (Value.int .u8 0), (Value.int .u8 0), (Value.int .u8 0), (Value.int .u8 0), Value.nilFunc, (Value.pointer none), (Value.int .i32 0), (Value.int .i32 0)]) 11 48 := show (Try.prog.info? 205).map (fun i => (i.zero, i.size, i.bytes)) = some (some (Value.agg #[(Value.int .u64 0), (Value.int .u64 0), (Value.int .u32 0), (Value.int .u8 0), (Value.int .u8 0), (Value.int .u8 0), (Value.int .u8 0), Value.nilFunc, (Value.pointer none), (Value.int .i32 0), (Value.int .i32 0)]), 11, 48) by kernel_rfl
theorem Try.size205 : SizeIs Try.prog 205 11 := Try.ti205.size
theorem Try.agg205 : AggIs Try.prog 205 11 := .struct Try.underlying205 Try.size205
theorem Try.build205 : BuildIs Try.prog 205 [(0, 1), (1, 1), (2, 1), (3, 1), (4, 1), (5, 1), (6, 1), (7, 1), (8, 1), (9, 1), (10, 1)] [(Value.int .u64 0), (Value.int .u64 0), (Value.int .u32 0), (Value.int .u8 0), (Value.int .u8 0), (Value.int .u8 0), (Value.int .u8 0), Value.nilFunc, (Value.pointer none), (Value.int .i32 0), (Value.int .i32 0)] := .struct Try.underlying205 Try.ti205 rfl (by kernel_rfl)
theorem Try.field205_0 : FieldIs Try.prog 205 0 0 := ⟨_, _, 1, Try.underlying205, rfl, rfl, Try.size12, by decide⟩
theorem Try.field205_1 : FieldIs Try.prog 205 1 1 := ⟨_, _, 1, Try.underlying205, rfl, rfl, Try.size12, by decide⟩
theorem Try.field205_2 : FieldIs Try.prog 205 2 2 := ⟨_, _, 1, Try.underlying205, rfl, rfl, Try.size163, by decide⟩
theorem Try.field205_3 : FieldIs Try.prog 205 3 3 := ⟨_, _, 1, Try.underlying205, rfl, rfl, Try.size199, by decide⟩
theorem Try.field205_4 : FieldIs Try.prog 205 4 4 := ⟨_, _, 1, Try.underlying205, rfl, rfl, Try.size5, by decide⟩
theorem Try.field205_5 : FieldIs Try.prog 205 5 5 := ⟨_, _, 1, Try.underlying205, rfl, rfl, Try.size5, by decide⟩
theorem Try.field205_6 : FieldIs Try.prog 205 6 6 := ⟨_, _, 1, Try.underlying205, rfl, rfl, Try.size200, by decide⟩
theorem Try.field205_7 : FieldIs Try.prog 205 7 7 := ⟨_, _, 1, Try.underlying205, rfl, rfl, Try.size201, by decide⟩
theorem Try.field205_8 : FieldIs Try.prog 205 8 8 := ⟨_, _, 1, Try.underlying205, rfl, rfl, Try.size202, by decide⟩
theorem Try.field205_9 : FieldIs Try.prog 205 9 9 := ⟨_, _, 1, Try.underlying205, rfl, rfl, Try.size203, by decide⟩
theorem Try.field205_10 : FieldIs Try.prog 205 10 10 := ⟨_, _, 1, Try.underlying205, rfl, rfl, Try.size204, by decide⟩
theorem Try.ti206 : TI Try.prog 206 (Value.agg #[(Value.int .u64 0), (Value.int .u64 0), (Value.int .u32 0), (Value.int .u8 0), (Value.int .u8 0), (Value.int .u8 0), (Value.int .u8 0), Value.nilFunc, (Value.pointer none), (Value.int .i32 0), (Value.int .i32 0)]) 11 48 := show (Try.prog.info? 206).map (fun i => (i.zero, i.size, i.bytes)) = some (some (Value.agg #[(Value.int .u64 0), (Value.int .u64 0), (Value.int .u32 0), (Value.int .u8 0), (Value.int .u8 0), (Value.int .u8 0), (Value.int .u8 0), Value.nilFunc, (Value.pointer none), (Value.int .i32 0), (Value.int .i32 0)]), 11, 48) by kernel_rfl
theorem Try.size206 : SizeIs Try.prog 206 11 := Try.ti206.size
theorem Try.agg206 : AggIs Try.prog 206 11 := .struct Try.underlying206 Try.size206
theorem Try.build206 : BuildIs Try.prog 206 [(0, 1), (1, 1), (2, 1), (3, 1), (4, 1), (5, 1), (6, 1), (7, 1), (8, 1), (9, 1), (10, 1)] [(Value.int .u64 0), (Value.int .u64 0), (Value.int .u32 0), (Value.int .u8 0), (Value.int .u8 0), (Value.int .u8 0), (Value.int .u8 0), Value.nilFunc, (Value.pointer none), (Value.int .i32 0), (Value.int .i32 0)] := .struct Try.underlying206 Try.ti206 rfl (by kernel_rfl)
theorem Try.field206_0 : FieldIs Try.prog 206 0 0 := ⟨_, _, 1, Try.underlying206, rfl, rfl, Try.size12, by decide⟩
theorem Try.field206_1 : FieldIs Try.prog 206 1 1 := ⟨_, _, 1, Try.underlying206, rfl, rfl, Try.size12, by decide⟩
theorem Try.field206_2 : FieldIs Try.prog 206 2 2 := ⟨_, _, 1, Try.underlying206, rfl, rfl, Try.size163, by decide⟩
theorem Try.field206_3 : FieldIs Try.prog 206 3 3 := ⟨_, _, 1, Try.underlying206, rfl, rfl, Try.size199, by decide⟩
theorem Try.field206_4 : FieldIs Try.prog 206 4 4 := ⟨_, _, 1, Try.underlying206, rfl, rfl, Try.size5, by decide⟩
theorem Try.field206_5 : FieldIs Try.prog 206 5 5 := ⟨_, _, 1, Try.underlying206, rfl, rfl, Try.size5, by decide⟩
theorem Try.field206_6 : FieldIs Try.prog 206 6 6 := ⟨_, _, 1, Try.underlying206, rfl, rfl, Try.size200, by decide⟩
theorem Try.field206_7 : FieldIs Try.prog 206 7 7 := ⟨_, _, 1, Try.underlying206, rfl, rfl, Try.size201, by decide⟩
theorem Try.field206_8 : FieldIs Try.prog 206 8 8 := ⟨_, _, 1, Try.underlying206, rfl, rfl, Try.size202, by decide⟩
theorem Try.field206_9 : FieldIs Try.prog 206 9 9 := ⟨_, _, 1, Try.underlying206, rfl, rfl, Try.size203, by decide⟩
theorem Try.field206_10 : FieldIs Try.prog 206 10 10 := ⟨_, _, 1, Try.underlying206, rfl, rfl, Try.size204, by decide⟩
end Go.Proofs.Ytkmhjcjpohpiaaa
