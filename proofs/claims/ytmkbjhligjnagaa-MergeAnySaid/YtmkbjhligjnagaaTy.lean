/- Facts on the types of this program, by program: sizes, zero values, fields. -/
import Derived.Test.YtmkbjhligjnagaaWb
import Derived.Test.YtmkbjhligjnagaaProg
namespace Go.Proofs.Ytmkbjhligjnagaa
open Go.Vc
set_option maxRecDepth 100000
theorem Try.mixed : Try.prog.follows .mixedOrders = true := by kernel_rfl
theorem Try.ti1 : TI Try.prog 1 Value.nilFunc 1 8 := show (Try.prog.info? 1).map (fun i => (i.zero, i.size, i.bytes)) = some (some Value.nilFunc, 1, 8) by kernel_rfl
theorem Try.size1 : SizeIs Try.prog 1 1 := Try.ti1.size
theorem Try.plain1 : Plain Try.prog 1 := ⟨_, Try.underlying1, by simp, by simp⟩
theorem Try.ti2 : TI Try.prog 2 (Value.int .i64 0) 1 8 := show (Try.prog.info? 2).map (fun i => (i.zero, i.size, i.bytes)) = some (some (Value.int .i64 0), 1, 8) by kernel_rfl
theorem Try.size2 : SizeIs Try.prog 2 1 := Try.ti2.size
theorem Try.plain2 : Plain Try.prog 2 := ⟨_, Try.underlying2, by simp, by simp⟩
theorem Try.ti3 : TI Try.prog 3 (Value.int .i64 0) 1 8 := show (Try.prog.info? 3).map (fun i => (i.zero, i.size, i.bytes)) = some (some (Value.int .i64 0), 1, 8) by kernel_rfl
theorem Try.size3 : SizeIs Try.prog 3 1 := Try.ti3.size
theorem Try.plain3 : Plain Try.prog 3 := ⟨_, Try.underlying3, by simp, by simp⟩
theorem Try.ti4 : TI Try.prog 4 (Value.bool false) 1 1 := show (Try.prog.info? 4).map (fun i => (i.zero, i.size, i.bytes)) = some (some (Value.bool false), 1, 1) by kernel_rfl
theorem Try.size4 : SizeIs Try.prog 4 1 := Try.ti4.size
theorem Try.plain4 : Plain Try.prog 4 := ⟨_, Try.underlying4, by simp, by simp⟩
theorem Try.ti5 : TI Try.prog 5 (Value.int .u8 0) 1 1 := show (Try.prog.info? 5).map (fun i => (i.zero, i.size, i.bytes)) = some (some (Value.int .u8 0), 1, 1) by kernel_rfl
theorem Try.size5 : SizeIs Try.prog 5 1 := Try.ti5.size
theorem Try.plain5 : Plain Try.prog 5 := ⟨_, Try.underlying5, by simp, by simp⟩
theorem Try.ti6 : TI Try.prog 6 (Value.int .u8 0) 1 1 := show (Try.prog.info? 6).map (fun i => (i.zero, i.size, i.bytes)) = some (some (Value.int .u8 0), 1, 1) by kernel_rfl
theorem Try.size6 : SizeIs Try.prog 6 1 := Try.ti6.size
theorem Try.plain6 : Plain Try.prog 6 := ⟨_, Try.underlying6, by simp, by simp⟩
theorem Try.ti7 : TI Try.prog 7 (Value.agg #[(Value.int .i64 0), (Value.int .i64 0), (Value.bool false), (Value.int .u8 0)]) 4 24 := show (Try.prog.info? 7).map (fun i => (i.zero, i.size, i.bytes)) = some (some (Value.agg #[(Value.int .i64 0), (Value.int .i64 0), (Value.bool false), (Value.int .u8 0)]), 4, 24) by kernel_rfl
theorem Try.size7 : SizeIs Try.prog 7 4 := Try.ti7.size
theorem Try.agg7 : AggIs Try.prog 7 4 := .struct Try.underlying7 Try.size7
theorem Try.build7 : BuildIs Try.prog 7 [(0, 1), (1, 1), (2, 1), (3, 1)] [(Value.int .i64 0), (Value.int .i64 0), (Value.bool false), (Value.int .u8 0)] := .struct Try.underlying7 Try.ti7 rfl (by kernel_rfl)
theorem Try.field7_0 : FieldIs Try.prog 7 0 0 := ⟨_, _, 1, Try.underlying7, rfl, rfl, Try.size2, by decide⟩
theorem Try.field7_1 : FieldIs Try.prog 7 1 1 := ⟨_, _, 1, Try.underlying7, rfl, rfl, Try.size3, by decide⟩
theorem Try.field7_2 : FieldIs Try.prog 7 2 2 := ⟨_, _, 1, Try.underlying7, rfl, rfl, Try.size4, by decide⟩
theorem Try.field7_3 : FieldIs Try.prog 7 3 3 := ⟨_, _, 1, Try.underlying7, rfl, rfl, Try.size6, by decide⟩
theorem Try.ti8 : TI Try.prog 8 (Value.agg #[(Value.int .i64 0), (Value.int .i64 0), (Value.bool false), (Value.int .u8 0)]) 4 24 := show (Try.prog.info? 8).map (fun i => (i.zero, i.size, i.bytes)) = some (some (Value.agg #[(Value.int .i64 0), (Value.int .i64 0), (Value.bool false), (Value.int .u8 0)]), 4, 24) by kernel_rfl
theorem Try.size8 : SizeIs Try.prog 8 4 := Try.ti8.size
theorem Try.agg8 : AggIs Try.prog 8 4 := .struct Try.underlying8 Try.size8
theorem Try.build8 : BuildIs Try.prog 8 [(0, 1), (1, 1), (2, 1), (3, 1)] [(Value.int .i64 0), (Value.int .i64 0), (Value.bool false), (Value.int .u8 0)] := .struct Try.underlying8 Try.ti8 rfl (by kernel_rfl)
theorem Try.field8_0 : FieldIs Try.prog 8 0 0 := ⟨_, _, 1, Try.underlying8, rfl, rfl, Try.size2, by decide⟩
theorem Try.field8_1 : FieldIs Try.prog 8 1 1 := ⟨_, _, 1, Try.underlying8, rfl, rfl, Try.size3, by decide⟩
theorem Try.field8_2 : FieldIs Try.prog 8 2 2 := ⟨_, _, 1, Try.underlying8, rfl, rfl, Try.size4, by decide⟩
theorem Try.field8_3 : FieldIs Try.prog 8 3 3 := ⟨_, _, 1, Try.underlying8, rfl, rfl, Try.size6, by decide⟩
theorem Try.ti9 : TI Try.prog 9 (Value.string ⟨#[]⟩) 1 16 := show (Try.prog.info? 9).map (fun i => (i.zero, i.size, i.bytes)) = some (some (Value.string ⟨#[]⟩), 1, 16) by kernel_rfl
theorem Try.size9 : SizeIs Try.prog 9 1 := Try.ti9.size
theorem Try.plain9 : Plain Try.prog 9 := ⟨_, Try.underlying9, by simp, by simp⟩
theorem Try.ti10 : TI Try.prog 10 (Value.string ⟨#[]⟩) 1 16 := show (Try.prog.info? 10).map (fun i => (i.zero, i.size, i.bytes)) = some (some (Value.string ⟨#[]⟩), 1, 16) by kernel_rfl
theorem Try.size10 : SizeIs Try.prog 10 1 := Try.ti10.size
theorem Try.plain10 : Plain Try.prog 10 := ⟨_, Try.underlying10, by simp, by simp⟩
theorem Try.ti11 : TI Try.prog 11 (Value.string ⟨#[]⟩) 1 16 := show (Try.prog.info? 11).map (fun i => (i.zero, i.size, i.bytes)) = some (some (Value.string ⟨#[]⟩), 1, 16) by kernel_rfl
theorem Try.size11 : SizeIs Try.prog 11 1 := Try.ti11.size
theorem Try.plain11 : Plain Try.prog 11 := ⟨_, Try.underlying11, by simp, by simp⟩
theorem Try.ti12 : TI Try.prog 12 (Value.int .u64 0) 1 8 := show (Try.prog.info? 12).map (fun i => (i.zero, i.size, i.bytes)) = some (some (Value.int .u64 0), 1, 8) by kernel_rfl
theorem Try.size12 : SizeIs Try.prog 12 1 := Try.ti12.size
theorem Try.plain12 : Plain Try.prog 12 := ⟨_, Try.underlying12, by simp, by simp⟩
theorem Try.ti13 : TI Try.prog 13 (Value.agg #[(Value.string ⟨#[]⟩), (Value.int .u64 0)]) 2 24 := show (Try.prog.info? 13).map (fun i => (i.zero, i.size, i.bytes)) = some (some (Value.agg #[(Value.string ⟨#[]⟩), (Value.int .u64 0)]), 2, 24) by kernel_rfl
theorem Try.size13 : SizeIs Try.prog 13 2 := Try.ti13.size
theorem Try.agg13 : AggIs Try.prog 13 2 := .struct Try.underlying13 Try.size13
theorem Try.build13 : BuildIs Try.prog 13 [(0, 1), (1, 1)] [(Value.string ⟨#[]⟩), (Value.int .u64 0)] := .struct Try.underlying13 Try.ti13 rfl (by kernel_rfl)
theorem Try.field13_0 : FieldIs Try.prog 13 0 0 := ⟨_, _, 1, Try.underlying13, rfl, rfl, Try.size9, by decide⟩
theorem Try.field13_1 : FieldIs Try.prog 13 1 1 := ⟨_, _, 1, Try.underlying13, rfl, rfl, Try.size12, by decide⟩
theorem Try.ti14 : TI Try.prog 14 (Value.agg #[(Value.string ⟨#[]⟩), (Value.int .u64 0)]) 2 24 := show (Try.prog.info? 14).map (fun i => (i.zero, i.size, i.bytes)) = some (some (Value.agg #[(Value.string ⟨#[]⟩), (Value.int .u64 0)]), 2, 24) by kernel_rfl
theorem Try.size14 : SizeIs Try.prog 14 2 := Try.ti14.size
theorem Try.agg14 : AggIs Try.prog 14 2 := .struct Try.underlying14 Try.size14
theorem Try.build14 : BuildIs Try.prog 14 [(0, 1), (1, 1)] [(Value.string ⟨#[]⟩), (Value.int .u64 0)] := .struct Try.underlying14 Try.ti14 rfl (by kernel_rfl)
theorem Try.field14_0 : FieldIs Try.prog 14 0 0 := ⟨_, _, 1, Try.underlying14, rfl, rfl, Try.size9, by decide⟩
theorem Try.field14_1 : FieldIs Try.prog 14 1 1 := ⟨_, _, 1, Try.underlying14, rfl, rfl, Try.size12, by decide⟩
theorem Try.ti15 : TI Try.prog 15 (Value.pointer none) 1 8 := show (Try.prog.info? 15).map (fun i => (i.zero, i.size, i.bytes)) = some (some (Value.pointer none), 1, 8) by kernel_rfl
theorem Try.size15 : SizeIs Try.prog 15 1 := Try.ti15.size
theorem Try.plain15 : Plain Try.prog 15 := ⟨_, Try.underlying15, by simp, by simp⟩
theorem Try.ti16 : TI Try.prog 16 (Value.pointer none) 1 8 := show (Try.prog.info? 16).map (fun i => (i.zero, i.size, i.bytes)) = some (some (Value.pointer none), 1, 8) by kernel_rfl
theorem Try.size16 : SizeIs Try.prog 16 1 := Try.ti16.size
theorem Try.plain16 : Plain Try.prog 16 := ⟨_, Try.underlying16, by simp, by simp⟩
theorem Try.ti17 : TI Try.prog 17 (Value.pointer none) 1 8 := show (Try.prog.info? 17).map (fun i => (i.zero, i.size, i.bytes)) = some (some (Value.pointer none), 1, 8) by kernel_rfl
theorem Try.size17 : SizeIs Try.prog 17 1 := Try.ti17.size
theorem Try.plain17 : Plain Try.prog 17 := ⟨_, Try.underlying17, by simp, by simp⟩
theorem Try.ti18 : TI Try.prog 18 (Value.agg #[(Value.pointer none)]) 1 8 := show (Try.prog.info? 18).map (fun i => (i.zero, i.size, i.bytes)) = some (some (Value.agg #[(Value.pointer none)]), 1, 8) by kernel_rfl
theorem Try.size18 : SizeIs Try.prog 18 1 := Try.ti18.size
theorem Try.agg18 : AggIs Try.prog 18 1 := .struct Try.underlying18 Try.size18
theorem Try.build18 : BuildIs Try.prog 18 [(0, 1)] [(Value.pointer none)] := .struct Try.underlying18 Try.ti18 rfl (by kernel_rfl)
theorem Try.field18_0 : FieldIs Try.prog 18 0 0 := ⟨_, _, 1, Try.underlying18, rfl, rfl, Try.size17, by decide⟩
theorem Try.ti19 : TI Try.prog 19 (Value.agg #[(Value.pointer none)]) 1 8 := show (Try.prog.info? 19).map (fun i => (i.zero, i.size, i.bytes)) = some (some (Value.agg #[(Value.pointer none)]), 1, 8) by kernel_rfl
theorem Try.size19 : SizeIs Try.prog 19 1 := Try.ti19.size
theorem Try.agg19 : AggIs Try.prog 19 1 := .struct Try.underlying19 Try.size19
theorem Try.build19 : BuildIs Try.prog 19 [(0, 1)] [(Value.pointer none)] := .struct Try.underlying19 Try.ti19 rfl (by kernel_rfl)
theorem Try.field19_0 : FieldIs Try.prog 19 0 0 := ⟨_, _, 1, Try.underlying19, rfl, rfl, Try.size17, by decide⟩
theorem Try.ti20 : TI Try.prog 20 Value.nilIface 1 16 := show (Try.prog.info? 20).map (fun i => (i.zero, i.size, i.bytes)) = some (some Value.nilIface, 1, 16) by kernel_rfl
theorem Try.size20 : SizeIs Try.prog 20 1 := Try.ti20.size
theorem Try.plain20 : Plain Try.prog 20 := ⟨_, Try.underlying20, by simp, by simp⟩
theorem Try.ti21 : TI Try.prog 21 (Value.int .i32 0) 1 4 := show (Try.prog.info? 21).map (fun i => (i.zero, i.size, i.bytes)) = some (some (Value.int .i32 0), 1, 4) by kernel_rfl
theorem Try.size21 : SizeIs Try.prog 21 1 := Try.ti21.size
theorem Try.plain21 : Plain Try.prog 21 := ⟨_, Try.underlying21, by simp, by simp⟩
theorem Try.ti22 : TI Try.prog 22 (Value.slice none 0 0) 1 24 := show (Try.prog.info? 22).map (fun i => (i.zero, i.size, i.bytes)) = some (some (Value.slice none 0 0), 1, 24) by kernel_rfl
theorem Try.size22 : SizeIs Try.prog 22 1 := Try.ti22.size
theorem Try.plain22 : Plain Try.prog 22 := ⟨_, Try.underlying22, by simp, by simp⟩
theorem Try.ti23 : TI Try.prog 23 (Value.slice none 0 0) 1 24 := show (Try.prog.info? 23).map (fun i => (i.zero, i.size, i.bytes)) = some (some (Value.slice none 0 0), 1, 24) by kernel_rfl
theorem Try.size23 : SizeIs Try.prog 23 1 := Try.ti23.size
theorem Try.plain23 : Plain Try.prog 23 := ⟨_, Try.underlying23, by simp, by simp⟩
theorem Try.ti24 : TI Try.prog 24 Value.nilFunc 1 8 := show (Try.prog.info? 24).map (fun i => (i.zero, i.size, i.bytes)) = some (some Value.nilFunc, 1, 8) by kernel_rfl
theorem Try.size24 : SizeIs Try.prog 24 1 := Try.ti24.size
theorem Try.plain24 : Plain Try.prog 24 := ⟨_, Try.underlying24, by simp, by simp⟩
theorem Try.ti25 : TI Try.prog 25 Value.nilFunc 1 8 := show (Try.prog.info? 25).map (fun i => (i.zero, i.size, i.bytes)) = some (some Value.nilFunc, 1, 8) by kernel_rfl
theorem Try.size25 : SizeIs Try.prog 25 1 := Try.ti25.size
theorem Try.plain25 : Plain Try.prog 25 := ⟨_, Try.underlying25, by simp, by simp⟩
theorem Try.ti26 : TI Try.prog 26 (Value.int .i64 0) 1 8 := show (Try.prog.info? 26).map (fun i => (i.zero, i.size, i.bytes)) = some (some (Value.int .i64 0), 1, 8) by kernel_rfl
theorem Try.size26 : SizeIs Try.prog 26 1 := Try.ti26.size
theorem Try.plain26 : Plain Try.prog 26 := ⟨_, Try.underlying26, by simp, by simp⟩
theorem Try.ti27 : TI Try.prog 27 Value.nilFunc 1 8 := show (Try.prog.info? 27).map (fun i => (i.zero, i.size, i.bytes)) = some (some Value.nilFunc, 1, 8) by kernel_rfl
theorem Try.size27 : SizeIs Try.prog 27 1 := Try.ti27.size
theorem Try.plain27 : Plain Try.prog 27 := ⟨_, Try.underlying27, by simp, by simp⟩
theorem Try.ti28 : TI Try.prog 28 Value.nilFunc 1 8 := show (Try.prog.info? 28).map (fun i => (i.zero, i.size, i.bytes)) = some (some Value.nilFunc, 1, 8) by kernel_rfl
theorem Try.size28 : SizeIs Try.prog 28 1 := Try.ti28.size
theorem Try.plain28 : Plain Try.prog 28 := ⟨_, Try.underlying28, by simp, by simp⟩
theorem Try.ti29 : TI Try.prog 29 (Value.slice none 0 0) 1 24 := show (Try.prog.info? 29).map (fun i => (i.zero, i.size, i.bytes)) = some (some (Value.slice none 0 0), 1, 24) by kernel_rfl
theorem Try.size29 : SizeIs Try.prog 29 1 := Try.ti29.size
theorem Try.plain29 : Plain Try.prog 29 := ⟨_, Try.underlying29, by simp, by simp⟩
theorem Try.ti30 : TI Try.prog 30 (Value.slice none 0 0) 1 24 := show (Try.prog.info? 30).map (fun i => (i.zero, i.size, i.bytes)) = some (some (Value.slice none 0 0), 1, 24) by kernel_rfl
theorem Try.size30 : SizeIs Try.prog 30 1 := Try.ti30.size
theorem Try.plain30 : Plain Try.prog 30 := ⟨_, Try.underlying30, by simp, by simp⟩
theorem Try.ti31 : TI Try.prog 31 (Value.slice none 0 0) 1 24 := show (Try.prog.info? 31).map (fun i => (i.zero, i.size, i.bytes)) = some (some (Value.slice none 0 0), 1, 24) by kernel_rfl
theorem Try.size31 : SizeIs Try.prog 31 1 := Try.ti31.size
theorem Try.plain31 : Plain Try.prog 31 := ⟨_, Try.underlying31, by simp, by simp⟩
theorem Try.ti33 : TI Try.prog 33 Value.nilFunc 1 8 := show (Try.prog.info? 33).map (fun i => (i.zero, i.size, i.bytes)) = some (some Value.nilFunc, 1, 8) by kernel_rfl
theorem Try.size33 : SizeIs Try.prog 33 1 := Try.ti33.size
theorem Try.plain33 : Plain Try.prog 33 := ⟨_, Try.underlying33, by simp, by simp⟩
theorem Try.ti35 : TI Try.prog 35 Value.nilFunc 1 8 := show (Try.prog.info? 35).map (fun i => (i.zero, i.size, i.bytes)) = some (some Value.nilFunc, 1, 8) by kernel_rfl
theorem Try.size35 : SizeIs Try.prog 35 1 := Try.ti35.size
theorem Try.plain35 : Plain Try.prog 35 := ⟨_, Try.underlying35, by simp, by simp⟩
theorem Try.ti36 : TI Try.prog 36 Value.nilFunc 1 8 := show (Try.prog.info? 36).map (fun i => (i.zero, i.size, i.bytes)) = some (some Value.nilFunc, 1, 8) by kernel_rfl
theorem Try.size36 : SizeIs Try.prog 36 1 := Try.ti36.size
theorem Try.plain36 : Plain Try.prog 36 := ⟨_, Try.underlying36, by simp, by simp⟩
theorem Try.ti37 : TI Try.prog 37 Value.nilFunc 1 8 := show (Try.prog.info? 37).map (fun i => (i.zero, i.size, i.bytes)) = some (some Value.nilFunc, 1, 8) by kernel_rfl
theorem Try.size37 : SizeIs Try.prog 37 1 := Try.ti37.size
theorem Try.plain37 : Plain Try.prog 37 := ⟨_, Try.underlying37, by simp, by simp⟩
theorem Try.ti38 : TI Try.prog 38 (Value.agg #[(Value.int .i64 0), (Value.int .i64 0), (Value.slice none 0 0)]) 3 40 := show (Try.prog.info? 38).map (fun i => (i.zero, i.size, i.bytes)) = some (some (Value.agg #[(Value.int .i64 0), (Value.int .i64 0), (Value.slice none 0 0)]), 3, 40) by kernel_rfl
theorem Try.size38 : SizeIs Try.prog 38 3 := Try.ti38.size
theorem Try.agg38 : AggIs Try.prog 38 3 := .struct Try.underlying38 Try.size38
theorem Try.build38 : BuildIs Try.prog 38 [(0, 1), (1, 1), (2, 1)] [(Value.int .i64 0), (Value.int .i64 0), (Value.slice none 0 0)] := .struct Try.underlying38 Try.ti38 rfl (by kernel_rfl)
theorem Try.field38_0 : FieldIs Try.prog 38 0 0 := ⟨_, _, 1, Try.underlying38, rfl, rfl, Try.size3, by decide⟩
theorem Try.field38_1 : FieldIs Try.prog 38 1 1 := ⟨_, _, 1, Try.underlying38, rfl, rfl, Try.size3, by decide⟩
theorem Try.field38_2 : FieldIs Try.prog 38 2 2 := ⟨_, _, 1, Try.underlying38, rfl, rfl, Try.size29, by decide⟩
theorem Try.ti39 : TI Try.prog 39 (Value.agg #[(Value.int .i64 0), (Value.int .i64 0), (Value.slice none 0 0)]) 3 40 := show (Try.prog.info? 39).map (fun i => (i.zero, i.size, i.bytes)) = some (some (Value.agg #[(Value.int .i64 0), (Value.int .i64 0), (Value.slice none 0 0)]), 3, 40) by kernel_rfl
theorem Try.size39 : SizeIs Try.prog 39 3 := Try.ti39.size
theorem Try.agg39 : AggIs Try.prog 39 3 := .struct Try.underlying39 Try.size39
theorem Try.build39 : BuildIs Try.prog 39 [(0, 1), (1, 1), (2, 1)] [(Value.int .i64 0), (Value.int .i64 0), (Value.slice none 0 0)] := .struct Try.underlying39 Try.ti39 rfl (by kernel_rfl)
theorem Try.field39_0 : FieldIs Try.prog 39 0 0 := ⟨_, _, 1, Try.underlying39, rfl, rfl, Try.size3, by decide⟩
theorem Try.field39_1 : FieldIs Try.prog 39 1 1 := ⟨_, _, 1, Try.underlying39, rfl, rfl, Try.size3, by decide⟩
theorem Try.field39_2 : FieldIs Try.prog 39 2 2 := ⟨_, _, 1, Try.underlying39, rfl, rfl, Try.size29, by decide⟩
theorem Try.ti41 : TI Try.prog 41 Value.nilFunc 1 8 := show (Try.prog.info? 41).map (fun i => (i.zero, i.size, i.bytes)) = some (some Value.nilFunc, 1, 8) by kernel_rfl
theorem Try.size41 : SizeIs Try.prog 41 1 := Try.ti41.size
theorem Try.plain41 : Plain Try.prog 41 := ⟨_, Try.underlying41, by simp, by simp⟩
theorem Try.ti42 : TI Try.prog 42 Value.nilFunc 1 8 := show (Try.prog.info? 42).map (fun i => (i.zero, i.size, i.bytes)) = some (some Value.nilFunc, 1, 8) by kernel_rfl
theorem Try.size42 : SizeIs Try.prog 42 1 := Try.ti42.size
theorem Try.plain42 : Plain Try.prog 42 := ⟨_, Try.underlying42, by simp, by simp⟩
theorem Try.ti43 : TI Try.prog 43 Value.nilFunc 1 8 := show (Try.prog.info? 43).map (fun i => (i.zero, i.size, i.bytes)) = some (some Value.nilFunc, 1, 8) by kernel_rfl
theorem Try.size43 : SizeIs Try.prog 43 1 := Try.ti43.size
theorem Try.plain43 : Plain Try.prog 43 := ⟨_, Try.underlying43, by simp, by simp⟩
theorem Try.ti44 : TI Try.prog 44 Value.nilFunc 1 8 := show (Try.prog.info? 44).map (fun i => (i.zero, i.size, i.bytes)) = some (some Value.nilFunc, 1, 8) by kernel_rfl
theorem Try.size44 : SizeIs Try.prog 44 1 := Try.ti44.size
theorem Try.plain44 : Plain Try.prog 44 := ⟨_, Try.underlying44, by simp, by simp⟩
theorem Try.ti45 : TI Try.prog 45 Value.nilFunc 1 8 := show (Try.prog.info? 45).map (fun i => (i.zero, i.size, i.bytes)) = some (some Value.nilFunc, 1, 8) by kernel_rfl
theorem Try.size45 : SizeIs Try.prog 45 1 := Try.ti45.size
theorem Try.plain45 : Plain Try.prog 45 := ⟨_, Try.underlying45, by simp, by simp⟩
theorem Try.ti46 : TI Try.prog 46 (Value.slice none 0 0) 1 24 := show (Try.prog.info? 46).map (fun i => (i.zero, i.size, i.bytes)) = some (some (Value.slice none 0 0), 1, 24) by kernel_rfl
theorem Try.size46 : SizeIs Try.prog 46 1 := Try.ti46.size
theorem Try.plain46 : Plain Try.prog 46 := ⟨_, Try.underlying46, by simp, by simp⟩
theorem Try.ti47 : TI Try.prog 47 Value.nilFunc 1 8 := show (Try.prog.info? 47).map (fun i => (i.zero, i.size, i.bytes)) = some (some Value.nilFunc, 1, 8) by kernel_rfl
theorem Try.size47 : SizeIs Try.prog 47 1 := Try.ti47.size
theorem Try.plain47 : Plain Try.prog 47 := ⟨_, Try.underlying47, by simp, by simp⟩
theorem Try.ti48 : TI Try.prog 48 Value.nilFunc 1 8 := show (Try.prog.info? 48).map (fun i => (i.zero, i.size, i.bytes)) = some (some Value.nilFunc, 1, 8) by kernel_rfl
theorem Try.size48 : SizeIs Try.prog 48 1 := Try.ti48.size
theorem Try.plain48 : Plain Try.prog 48 := ⟨_, Try.underlying48, by simp, by simp⟩
theorem Try.ti49 : TI Try.prog 49 Value.nilFunc 1 8 := show (Try.prog.info? 49).map (fun i => (i.zero, i.size, i.bytes)) = some (some Value.nilFunc, 1, 8) by kernel_rfl
theorem Try.size49 : SizeIs Try.prog 49 1 := Try.ti49.size
theorem Try.plain49 : Plain Try.prog 49 := ⟨_, Try.underlying49, by simp, by simp⟩
theorem Try.ti50 : TI Try.prog 50 Value.nilFunc 1 8 := show (Try.prog.info? 50).map (fun i => (i.zero, i.size, i.bytes)) = some (some Value.nilFunc, 1, 8) by kernel_rfl
theorem Try.size50 : SizeIs Try.prog 50 1 := Try.ti50.size
theorem Try.plain50 : Plain Try.prog 50 := ⟨_, Try.underlying50, by simp, by simp⟩
theorem Try.ti52 : TI Try.prog 52 Value.nilFunc 1 8 := show (Try.prog.info? 52).map (fun i => (i.zero, i.size, i.bytes)) = some (some Value.nilFunc, 1, 8) by kernel_rfl
theorem Try.size52 : SizeIs Try.prog 52 1 := Try.ti52.size
theorem Try.plain52 : Plain Try.prog 52 := ⟨_, Try.underlying52, by simp, by simp⟩
theorem Try.ti53 : TI Try.prog 53 Value.nilFunc 1 8 := show (Try.prog.info? 53).map (fun i => (i.zero, i.size, i.bytes)) = some (some Value.nilFunc, 1, 8) by kernel_rfl
theorem Try.size53 : SizeIs Try.prog 53 1 := Try.ti53.size
theorem Try.plain53 : Plain Try.prog 53 := ⟨_, Try.underlying53, by simp, by simp⟩
theorem Try.ti54 : TI Try.prog 54 Value.nilFunc 1 8 := show (Try.prog.info? 54).map (fun i => (i.zero, i.size, i.bytes)) = some (some Value.nilFunc, 1, 8) by kernel_rfl
theorem Try.size54 : SizeIs Try.prog 54 1 := Try.ti54.size
theorem Try.plain54 : Plain Try.prog 54 := ⟨_, Try.underlying54, by simp, by simp⟩
theorem Try.ti55 : TI Try.prog 55 Value.nilFunc 1 8 := show (Try.prog.info? 55).map (fun i => (i.zero, i.size, i.bytes)) = some (some Value.nilFunc, 1, 8) by kernel_rfl
theorem Try.size55 : SizeIs Try.prog 55 1 := Try.ti55.size
theorem Try.plain55 : Plain Try.prog 55 := ⟨_, Try.underlying55, by simp, by simp⟩
theorem Try.ti56 : TI Try.prog 56 Value.nilFunc 1 8 := show (Try.prog.info? 56).map (fun i => (i.zero, i.size, i.bytes)) = some (some Value.nilFunc, 1, 8) by kernel_rfl
theorem Try.size56 : SizeIs Try.prog 56 1 := Try.ti56.size
theorem Try.plain56 : Plain Try.prog 56 := ⟨_, Try.underlying56, by simp, by simp⟩
theorem Try.ti57 : TI Try.prog 57 Value.nilFunc 1 8 := show (Try.prog.info? 57).map (fun i => (i.zero, i.size, i.bytes)) = some (some Value.nilFunc, 1, 8) by kernel_rfl
theorem Try.size57 : SizeIs Try.prog 57 1 := Try.ti57.size
theorem Try.plain57 : Plain Try.prog 57 := ⟨_, Try.underlying57, by simp, by simp⟩
theorem Try.ti59 : TI Try.prog 59 Value.nilFunc 1 8 := show (Try.prog.info? 59).map (fun i => (i.zero, i.size, i.bytes)) = some (some Value.nilFunc, 1, 8) by kernel_rfl
theorem Try.size59 : SizeIs Try.prog 59 1 := Try.ti59.size
theorem Try.plain59 : Plain Try.prog 59 := ⟨_, Try.underlying59, by simp, by simp⟩
theorem Try.ti60 : TI Try.prog 60 Value.nilFunc 1 8 := show (Try.prog.info? 60).map (fun i => (i.zero, i.size, i.bytes)) = some (some Value.nilFunc, 1, 8) by kernel_rfl
theorem Try.size60 : SizeIs Try.prog 60 1 := Try.ti60.size
theorem Try.plain60 : Plain Try.prog 60 := ⟨_, Try.underlying60, by simp, by simp⟩
theorem Try.ti61 : TI Try.prog 61 Value.nilFunc 1 8 := show (Try.prog.info? 61).map (fun i => (i.zero, i.size, i.bytes)) = some (some Value.nilFunc, 1, 8) by kernel_rfl
theorem Try.size61 : SizeIs Try.prog 61 1 := Try.ti61.size
theorem Try.plain61 : Plain Try.prog 61 := ⟨_, Try.underlying61, by simp, by simp⟩
theorem Try.ti62 : TI Try.prog 62 Value.nilFunc 1 8 := show (Try.prog.info? 62).map (fun i => (i.zero, i.size, i.bytes)) = some (some Value.nilFunc, 1, 8) by kernel_rfl
theorem Try.size62 : SizeIs Try.prog 62 1 := Try.ti62.size
theorem Try.plain62 : Plain Try.prog 62 := ⟨_, Try.underlying62, by simp, by simp⟩
theorem Try.ti63 : TI Try.prog 63 Value.nilFunc 1 8 := show (Try.prog.info? 63).map (fun i => (i.zero, i.size, i.bytes)) = some (some Value.nilFunc, 1, 8) by kernel_rfl
theorem Try.size63 : SizeIs Try.prog 63 1 := Try.ti63.size
theorem Try.plain63 : Plain Try.prog 63 := ⟨_, Try.underlying63, by simp, by simp⟩
theorem Try.ti64 : TI Try.prog 64 (Value.map none) 1 8 := show (Try.prog.info? 64).map (fun i => (i.zero, i.size, i.bytes)) = some (some (Value.map none), 1, 8) by kernel_rfl
theorem Try.size64 : SizeIs Try.prog 64 1 := Try.ti64.size
theorem Try.plain64 : Plain Try.prog 64 := ⟨_, Try.underlying64, by simp, by simp⟩
theorem Try.ti65 : TI Try.prog 65 (Value.agg #[(Value.int .i64 0), (Value.int .i64 0), (Value.int .i64 0)]) 3 24 := show (Try.prog.info? 65).map (fun i => (i.zero, i.size, i.bytes)) = some (some (Value.agg #[(Value.int .i64 0), (Value.int .i64 0), (Value.int .i64 0)]), 3, 24) by kernel_rfl
theorem Try.size65 : SizeIs Try.prog 65 3 := Try.ti65.size
theorem Try.agg65 : AggIs Try.prog 65 3 := .struct Try.underlying65 Try.size65
theorem Try.build65 : BuildIs Try.prog 65 [(0, 1), (1, 1), (2, 1)] [(Value.int .i64 0), (Value.int .i64 0), (Value.int .i64 0)] := .struct Try.underlying65 Try.ti65 rfl (by kernel_rfl)
theorem Try.field65_0 : FieldIs Try.prog 65 0 0 := ⟨_, _, 1, Try.underlying65, rfl, rfl, Try.size3, by decide⟩
theorem Try.field65_1 : FieldIs Try.prog 65 1 1 := ⟨_, _, 1, Try.underlying65, rfl, rfl, Try.size3, by decide⟩
theorem Try.field65_2 : FieldIs Try.prog 65 2 2 := ⟨_, _, 1, Try.underlying65, rfl, rfl, Try.size3, by decide⟩
theorem Try.eq65 : FlatInts Try.prog 65 [.i64, .i64, .i64] := ⟨by kernel_rfl, by kernel_rfl, by kernel_rfl, fieldIntsB_ok (by kernel_rfl)⟩
theorem Try.ti66 : TI Try.prog 66 (Value.agg #[(Value.int .i64 0), (Value.int .i64 0), (Value.int .i64 0)]) 3 24 := show (Try.prog.info? 66).map (fun i => (i.zero, i.size, i.bytes)) = some (some (Value.agg #[(Value.int .i64 0), (Value.int .i64 0), (Value.int .i64 0)]), 3, 24) by kernel_rfl
theorem Try.size66 : SizeIs Try.prog 66 3 := Try.ti66.size
theorem Try.agg66 : AggIs Try.prog 66 3 := .struct Try.underlying66 Try.size66
theorem Try.build66 : BuildIs Try.prog 66 [(0, 1), (1, 1), (2, 1)] [(Value.int .i64 0), (Value.int .i64 0), (Value.int .i64 0)] := .struct Try.underlying66 Try.ti66 rfl (by kernel_rfl)
theorem Try.field66_0 : FieldIs Try.prog 66 0 0 := ⟨_, _, 1, Try.underlying66, rfl, rfl, Try.size3, by decide⟩
theorem Try.field66_1 : FieldIs Try.prog 66 1 1 := ⟨_, _, 1, Try.underlying66, rfl, rfl, Try.size3, by decide⟩
theorem Try.field66_2 : FieldIs Try.prog 66 2 2 := ⟨_, _, 1, Try.underlying66, rfl, rfl, Try.size3, by decide⟩
theorem Try.eq66 : FlatInts Try.prog 66 [.i64, .i64, .i64] := ⟨by kernel_rfl, by kernel_rfl, by kernel_rfl, fieldIntsB_ok (by kernel_rfl)⟩
theorem Try.ti67 : TI Try.prog 67 (Value.agg #[(Value.int .i64 0), (Value.int .i64 0)]) 2 16 := show (Try.prog.info? 67).map (fun i => (i.zero, i.size, i.bytes)) = some (some (Value.agg #[(Value.int .i64 0), (Value.int .i64 0)]), 2, 16) by kernel_rfl
theorem Try.size67 : SizeIs Try.prog 67 2 := Try.ti67.size
theorem Try.agg67 : AggIs Try.prog 67 2 := .array Try.underlying67 Try.size67
theorem Try.build67 : BuildIs Try.prog 67 [(0, 1), (1, 1)] [(Value.int .i64 0), (Value.int .i64 0)] := .array Try.underlying67 Try.ti67 rfl Try.ti3
theorem Try.ti68 : TI Try.prog 68 Value.nilFunc 1 8 := show (Try.prog.info? 68).map (fun i => (i.zero, i.size, i.bytes)) = some (some Value.nilFunc, 1, 8) by kernel_rfl
theorem Try.size68 : SizeIs Try.prog 68 1 := Try.ti68.size
theorem Try.plain68 : Plain Try.prog 68 := ⟨_, Try.underlying68, by simp, by simp⟩
theorem Try.ti69 : TI Try.prog 69 Value.nilFunc 1 8 := show (Try.prog.info? 69).map (fun i => (i.zero, i.size, i.bytes)) = some (some Value.nilFunc, 1, 8) by kernel_rfl
theorem Try.size69 : SizeIs Try.prog 69 1 := Try.ti69.size
theorem Try.plain69 : Plain Try.prog 69 := ⟨_, Try.underlying69, by simp, by simp⟩
theorem Try.ti70 : TI Try.prog 70 Value.nilFunc 1 8 := show (Try.prog.info? 70).map (fun i => (i.zero, i.size, i.bytes)) = some (some Value.nilFunc, 1, 8) by kernel_rfl
theorem Try.size70 : SizeIs Try.prog 70 1 := Try.ti70.size
theorem Try.plain70 : Plain Try.prog 70 := ⟨_, Try.underlying70, by simp, by simp⟩
theorem Try.ti72 : TI Try.prog 72 Value.nilFunc 1 8 := show (Try.prog.info? 72).map (fun i => (i.zero, i.size, i.bytes)) = some (some Value.nilFunc, 1, 8) by kernel_rfl
theorem Try.size72 : SizeIs Try.prog 72 1 := Try.ti72.size
theorem Try.plain72 : Plain Try.prog 72 := ⟨_, Try.underlying72, by simp, by simp⟩
theorem Try.ti73 : TI Try.prog 73 Value.nilFunc 1 8 := show (Try.prog.info? 73).map (fun i => (i.zero, i.size, i.bytes)) = some (some Value.nilFunc, 1, 8) by kernel_rfl
theorem Try.size73 : SizeIs Try.prog 73 1 := Try.ti73.size
theorem Try.plain73 : Plain Try.prog 73 := ⟨_, Try.underlying73, by simp, by simp⟩
theorem Try.ti74 : TI Try.prog 74 Value.nilFunc 1 8 := show (Try.prog.info? 74).map (fun i => (i.zero, i.size, i.bytes)) = some (some Value.nilFunc, 1, 8) by kernel_rfl
theorem Try.size74 : SizeIs Try.prog 74 1 := Try.ti74.size
theorem Try.plain74 : Plain Try.prog 74 := ⟨_, Try.underlying74, by simp, by simp⟩
theorem Try.ti75 : TI Try.prog 75 Value.nilFunc 1 8 := show (Try.prog.info? 75).map (fun i => (i.zero, i.size, i.bytes)) = some (some Value.nilFunc, 1, 8) by kernel_rfl
theorem Try.size75 : SizeIs Try.prog 75 1 := Try.ti75.size
theorem Try.plain75 : Plain Try.prog 75 := ⟨_, Try.underlying75, by simp, by simp⟩
theorem Try.ti76 : TI Try.prog 76 Value.nilFunc 1 8 := show (Try.prog.info? 76).map (fun i => (i.zero, i.size, i.bytes)) = some (some Value.nilFunc, 1, 8) by kernel_rfl
theorem Try.size76 : SizeIs Try.prog 76 1 := Try.ti76.size
theorem Try.plain76 : Plain Try.prog 76 := ⟨_, Try.underlying76, by simp, by simp⟩
theorem Try.ti77 : TI Try.prog 77 Value.nilFunc 1 8 := show (Try.prog.info? 77).map (fun i => (i.zero, i.size, i.bytes)) = some (some Value.nilFunc, 1, 8) by kernel_rfl
theorem Try.size77 : SizeIs Try.prog 77 1 := Try.ti77.size
theorem Try.plain77 : Plain Try.prog 77 := ⟨_, Try.underlying77, by simp, by simp⟩
theorem Try.ti78 : TI Try.prog 78 Value.nilFunc 1 8 := show (Try.prog.info? 78).map (fun i => (i.zero, i.size, i.bytes)) = some (some Value.nilFunc, 1, 8) by kernel_rfl
theorem Try.size78 : SizeIs Try.prog 78 1 := Try.ti78.size
theorem Try.plain78 : Plain Try.prog 78 := ⟨_, Try.underlying78, by simp, by simp⟩
theorem Try.ti79 : TI Try.prog 79 Value.nilFunc 1 8 := show (Try.prog.info? 79).map (fun i => (i.zero, i.size, i.bytes)) = some (some Value.nilFunc, 1, 8) by kernel_rfl
theorem Try.size79 : SizeIs Try.prog 79 1 := Try.ti79.size
theorem Try.plain79 : Plain Try.prog 79 := ⟨_, Try.underlying79, by simp, by simp⟩
theorem Try.ti80 : TI Try.prog 80 (Value.pointer none) 1 8 := show (Try.prog.info? 80).map (fun i => (i.zero, i.size, i.bytes)) = some (some (Value.pointer none), 1, 8) by kernel_rfl
theorem Try.size80 : SizeIs Try.prog 80 1 := Try.ti80.size
theorem Try.plain80 : Plain Try.prog 80 := ⟨_, Try.underlying80, by simp, by simp⟩
theorem Try.ti81 : TI Try.prog 81 (Value.agg #[(Value.slice none 0 0), (Value.map none)]) 2 32 := show (Try.prog.info? 81).map (fun i => (i.zero, i.size, i.bytes)) = some (some (Value.agg #[(Value.slice none 0 0), (Value.map none)]), 2, 32) by kernel_rfl
theorem Try.size81 : SizeIs Try.prog 81 2 := Try.ti81.size
theorem Try.agg81 : AggIs Try.prog 81 2 := .struct Try.underlying81 Try.size81
theorem Try.build81 : BuildIs Try.prog 81 [(0, 1), (1, 1)] [(Value.slice none 0 0), (Value.map none)] := .struct Try.underlying81 Try.ti81 rfl (by kernel_rfl)
theorem Try.field81_0 : FieldIs Try.prog 81 0 0 := ⟨_, _, 1, Try.underlying81, rfl, rfl, Try.size29, by decide⟩
theorem Try.field81_1 : FieldIs Try.prog 81 1 1 := ⟨_, _, 1, Try.underlying81, rfl, rfl, Try.size64, by decide⟩
theorem Try.ti82 : TI Try.prog 82 (Value.agg #[(Value.slice none 0 0), (Value.map none)]) 2 32 := show (Try.prog.info? 82).map (fun i => (i.zero, i.size, i.bytes)) = some (some (Value.agg #[(Value.slice none 0 0), (Value.map none)]), 2, 32) by kernel_rfl
theorem Try.size82 : SizeIs Try.prog 82 2 := Try.ti82.size
theorem Try.agg82 : AggIs Try.prog 82 2 := .struct Try.underlying82 Try.size82
theorem Try.build82 : BuildIs Try.prog 82 [(0, 1), (1, 1)] [(Value.slice none 0 0), (Value.map none)] := .struct Try.underlying82 Try.ti82 rfl (by kernel_rfl)
theorem Try.field82_0 : FieldIs Try.prog 82 0 0 := ⟨_, _, 1, Try.underlying82, rfl, rfl, Try.size29, by decide⟩
theorem Try.field82_1 : FieldIs Try.prog 82 1 1 := ⟨_, _, 1, Try.underlying82, rfl, rfl, Try.size64, by decide⟩
theorem Try.ti83 : TI Try.prog 83 Value.nilFunc 1 8 := show (Try.prog.info? 83).map (fun i => (i.zero, i.size, i.bytes)) = some (some Value.nilFunc, 1, 8) by kernel_rfl
theorem Try.size83 : SizeIs Try.prog 83 1 := Try.ti83.size
theorem Try.plain83 : Plain Try.prog 83 := ⟨_, Try.underlying83, by simp, by simp⟩
theorem Try.ti84 : TI Try.prog 84 (Value.pointer none) 1 8 := show (Try.prog.info? 84).map (fun i => (i.zero, i.size, i.bytes)) = some (some (Value.pointer none), 1, 8) by kernel_rfl
theorem Try.size84 : SizeIs Try.prog 84 1 := Try.ti84.size
theorem Try.plain84 : Plain Try.prog 84 := ⟨_, Try.underlying84, by simp, by simp⟩
theorem Try.ti85 : TI Try.prog 85 (Value.agg #[(Value.slice none 0 0), (Value.int .i64 0), (Value.int .i64 0), (Value.slice none 0 0), (Value.slice none 0 0)]) 5 88 := show (Try.prog.info? 85).map (fun i => (i.zero, i.size, i.bytes)) = some (some (Value.agg #[(Value.slice none 0 0), (Value.int .i64 0), (Value.int .i64 0), (Value.slice none 0 0), (Value.slice none 0 0)]), 5, 88) by kernel_rfl
theorem Try.size85 : SizeIs Try.prog 85 5 := Try.ti85.size
theorem Try.agg85 : AggIs Try.prog 85 5 := .struct Try.underlying85 Try.size85
theorem Try.build85 : BuildIs Try.prog 85 [(0, 1), (1, 1), (2, 1), (3, 1), (4, 1)] [(Value.slice none 0 0), (Value.int .i64 0), (Value.int .i64 0), (Value.slice none 0 0), (Value.slice none 0 0)] := .struct Try.underlying85 Try.ti85 rfl (by kernel_rfl)
theorem Try.field85_0 : FieldIs Try.prog 85 0 0 := ⟨_, _, 1, Try.underlying85, rfl, rfl, Try.size23, by decide⟩
theorem Try.field85_1 : FieldIs Try.prog 85 1 1 := ⟨_, _, 1, Try.underlying85, rfl, rfl, Try.size3, by decide⟩
theorem Try.field85_2 : FieldIs Try.prog 85 2 2 := ⟨_, _, 1, Try.underlying85, rfl, rfl, Try.size3, by decide⟩
theorem Try.field85_3 : FieldIs Try.prog 85 3 3 := ⟨_, _, 1, Try.underlying85, rfl, rfl, Try.size30, by decide⟩
theorem Try.field85_4 : FieldIs Try.prog 85 4 4 := ⟨_, _, 1, Try.underlying85, rfl, rfl, Try.size29, by decide⟩
theorem Try.ti86 : TI Try.prog 86 (Value.agg #[(Value.slice none 0 0), (Value.int .i64 0), (Value.int .i64 0), (Value.slice none 0 0), (Value.slice none 0 0)]) 5 88 := show (Try.prog.info? 86).map (fun i => (i.zero, i.size, i.bytes)) = some (some (Value.agg #[(Value.slice none 0 0), (Value.int .i64 0), (Value.int .i64 0), (Value.slice none 0 0), (Value.slice none 0 0)]), 5, 88) by kernel_rfl
theorem Try.size86 : SizeIs Try.prog 86 5 := Try.ti86.size
theorem Try.agg86 : AggIs Try.prog 86 5 := .struct Try.underlying86 Try.size86
theorem Try.build86 : BuildIs Try.prog 86 [(0, 1), (1, 1), (2, 1), (3, 1), (4, 1)] [(Value.slice none 0 0), (Value.int .i64 0), (Value.int .i64 0), (Value.slice none 0 0), (Value.slice none 0 0)] := .struct Try.underlying86 Try.ti86 rfl (by kernel_rfl)
theorem Try.field86_0 : FieldIs Try.prog 86 0 0 := ⟨_, _, 1, Try.underlying86, rfl, rfl, Try.size23, by decide⟩
theorem Try.field86_1 : FieldIs Try.prog 86 1 1 := ⟨_, _, 1, Try.underlying86, rfl, rfl, Try.size3, by decide⟩
theorem Try.field86_2 : FieldIs Try.prog 86 2 2 := ⟨_, _, 1, Try.underlying86, rfl, rfl, Try.size3, by decide⟩
theorem Try.field86_3 : FieldIs Try.prog 86 3 3 := ⟨_, _, 1, Try.underlying86, rfl, rfl, Try.size30, by decide⟩
theorem Try.field86_4 : FieldIs Try.prog 86 4 4 := ⟨_, _, 1, Try.underlying86, rfl, rfl, Try.size29, by decide⟩
theorem Try.ti87 : TI Try.prog 87 Value.nilFunc 1 8 := show (Try.prog.info? 87).map (fun i => (i.zero, i.size, i.bytes)) = some (some Value.nilFunc, 1, 8) by kernel_rfl
theorem Try.size87 : SizeIs Try.prog 87 1 := Try.ti87.size
theorem Try.plain87 : Plain Try.prog 87 := ⟨_, Try.underlying87, by simp, by simp⟩
theorem Try.ti88 : TI Try.prog 88 Value.nilFunc 1 8 := show (Try.prog.info? 88).map (fun i => (i.zero, i.size, i.bytes)) = some (some Value.nilFunc, 1, 8) by kernel_rfl
theorem Try.size88 : SizeIs Try.prog 88 1 := Try.ti88.size
theorem Try.plain88 : Plain Try.prog 88 := ⟨_, Try.underlying88, by simp, by simp⟩
theorem Try.ti89 : TI Try.prog 89 Value.nilFunc 1 8 := show (Try.prog.info? 89).map (fun i => (i.zero, i.size, i.bytes)) = some (some Value.nilFunc, 1, 8) by kernel_rfl
theorem Try.size89 : SizeIs Try.prog 89 1 := Try.ti89.size
theorem Try.plain89 : Plain Try.prog 89 := ⟨_, Try.underlying89, by simp, by simp⟩
theorem Try.ti90 : TI Try.prog 90 Value.nilFunc 1 8 := show (Try.prog.info? 90).map (fun i => (i.zero, i.size, i.bytes)) = some (some Value.nilFunc, 1, 8) by kernel_rfl
theorem Try.size90 : SizeIs Try.prog 90 1 := Try.ti90.size
theorem Try.plain90 : Plain Try.prog 90 := ⟨_, Try.underlying90, by simp, by simp⟩
theorem Try.ti91 : TI Try.prog 91 Value.nilFunc 1 8 := show (Try.prog.info? 91).map (fun i => (i.zero, i.size, i.bytes)) = some (some Value.nilFunc, 1, 8) by kernel_rfl
theorem Try.size91 : SizeIs Try.prog 91 1 := Try.ti91.size
theorem Try.plain91 : Plain Try.prog 91 := ⟨_, Try.underlying91, by simp, by simp⟩
theorem Try.ti92 : TI Try.prog 92 Value.nilFunc 1 8 := show (Try.prog.info? 92).map (fun i => (i.zero, i.size, i.bytes)) = some (some Value.nilFunc, 1, 8) by kernel_rfl
theorem Try.size92 : SizeIs Try.prog 92 1 := Try.ti92.size
theorem Try.plain92 : Plain Try.prog 92 := ⟨_, Try.underlying92, by simp, by simp⟩
theorem Try.ti93 : TI Try.prog 93 Value.nilFunc 1 8 := show (Try.prog.info? 93).map (fun i => (i.zero, i.size, i.bytes)) = some (some Value.nilFunc, 1, 8) by kernel_rfl
theorem Try.size93 : SizeIs Try.prog 93 1 := Try.ti93.size
theorem Try.plain93 : Plain Try.prog 93 := ⟨_, Try.underlying93, by simp, by simp⟩
theorem Try.ti94 : TI Try.prog 94 Value.nilFunc 1 8 := show (Try.prog.info? 94).map (fun i => (i.zero, i.size, i.bytes)) = some (some Value.nilFunc, 1, 8) by kernel_rfl
theorem Try.size94 : SizeIs Try.prog 94 1 := Try.ti94.size
theorem Try.plain94 : Plain Try.prog 94 := ⟨_, Try.underlying94, by simp, by simp⟩
theorem Try.ti95 : TI Try.prog 95 Value.nilFunc 1 8 := show (Try.prog.info? 95).map (fun i => (i.zero, i.size, i.bytes)) = some (some Value.nilFunc, 1, 8) by kernel_rfl
theorem Try.size95 : SizeIs Try.prog 95 1 := Try.ti95.size
theorem Try.plain95 : Plain Try.prog 95 := ⟨_, Try.underlying95, by simp, by simp⟩
theorem Try.ti96 : TI Try.prog 96 Value.nilFunc 1 8 := show (Try.prog.info? 96).map (fun i => (i.zero, i.size, i.bytes)) = some (some Value.nilFunc, 1, 8) by kernel_rfl
theorem Try.size96 : SizeIs Try.prog 96 1 := Try.ti96.size
theorem Try.plain96 : Plain Try.prog 96 := ⟨_, Try.underlying96, by simp, by simp⟩
theorem Try.ti97 : TI Try.prog 97 Value.nilFunc 1 8 := show (Try.prog.info? 97).map (fun i => (i.zero, i.size, i.bytes)) = some (some Value.nilFunc, 1, 8) by kernel_rfl
theorem Try.size97 : SizeIs Try.prog 97 1 := Try.ti97.size
theorem Try.plain97 : Plain Try.prog 97 := ⟨_, Try.underlying97, by simp, by simp⟩
theorem Try.ti98 : TI Try.prog 98 Value.nilFunc 1 8 := show (Try.prog.info? 98).map (fun i => (i.zero, i.size, i.bytes)) = some (some Value.nilFunc, 1, 8) by kernel_rfl
theorem Try.size98 : SizeIs Try.prog 98 1 := Try.ti98.size
theorem Try.plain98 : Plain Try.prog 98 := ⟨_, Try.underlying98, by simp, by simp⟩
theorem Try.ti99 : TI Try.prog 99 Value.nilFunc 1 8 := show (Try.prog.info? 99).map (fun i => (i.zero, i.size, i.bytes)) = some (some Value.nilFunc, 1, 8) by kernel_rfl
theorem Try.size99 : SizeIs Try.prog 99 1 := Try.ti99.size
theorem Try.plain99 : Plain Try.prog 99 := ⟨_, Try.underlying99, by simp, by simp⟩
theorem Try.ti100 : TI Try.prog 100 (Value.int .u64 0) 1 8 := show (Try.prog.info? 100).map (fun i => (i.zero, i.size, i.bytes)) = some (some (Value.int .u64 0), 1, 8) by kernel_rfl
theorem Try.size100 : SizeIs Try.prog 100 1 := Try.ti100.size
theorem Try.plain100 : Plain Try.prog 100 := ⟨_, Try.underlying100, by simp, by simp⟩
theorem Try.ti101 : TI Try.prog 101 Value.nilFunc 1 8 := show (Try.prog.info? 101).map (fun i => (i.zero, i.size, i.bytes)) = some (some Value.nilFunc, 1, 8) by kernel_rfl
theorem Try.size101 : SizeIs Try.prog 101 1 := Try.ti101.size
theorem Try.plain101 : Plain Try.prog 101 := ⟨_, Try.underlying101, by simp, by simp⟩
theorem Try.ti102 : TI Try.prog 102 Value.nilFunc 1 8 := show (Try.prog.info? 102).map (fun i => (i.zero, i.size, i.bytes)) = some (some Value.nilFunc, 1, 8) by kernel_rfl
theorem Try.size102 : SizeIs Try.prog 102 1 := Try.ti102.size
theorem Try.plain102 : Plain Try.prog 102 := ⟨_, Try.underlying102, by simp, by simp⟩
theorem Try.ti103 : TI Try.prog 103 (Value.int .i64 0) 1 8 := show (Try.prog.info? 103).map (fun i => (i.zero, i.size, i.bytes)) = some (some (Value.int .i64 0), 1, 8) by kernel_rfl
theorem Try.size103 : SizeIs Try.prog 103 1 := Try.ti103.size
theorem Try.plain103 : Plain Try.prog 103 := ⟨_, Try.underlying103, by simp, by simp⟩
theorem Try.ti105 : TI Try.prog 105 Value.nilFunc 1 8 := show (Try.prog.info? 105).map (fun i => (i.zero, i.size, i.bytes)) = some (some Value.nilFunc, 1, 8) by kernel_rfl
theorem Try.size105 : SizeIs Try.prog 105 1 := Try.ti105.size
theorem Try.plain105 : Plain Try.prog 105 := ⟨_, Try.underlying105, by simp, by simp⟩
theorem Try.ti106 : TI Try.prog 106 Value.nilFunc 1 8 := show (Try.prog.info? 106).map (fun i => (i.zero, i.size, i.bytes)) = some (some Value.nilFunc, 1, 8) by kernel_rfl
theorem Try.size106 : SizeIs Try.prog 106 1 := Try.ti106.size
theorem Try.plain106 : Plain Try.prog 106 := ⟨_, Try.underlying106, by simp, by simp⟩
theorem Try.ti107 : TI Try.prog 107 Value.nilFunc 1 8 := show (Try.prog.info? 107).map (fun i => (i.zero, i.size, i.bytes)) = some (some Value.nilFunc, 1, 8) by kernel_rfl
theorem Try.size107 : SizeIs Try.prog 107 1 := Try.ti107.size
theorem Try.plain107 : Plain Try.prog 107 := ⟨_, Try.underlying107, by simp, by simp⟩
theorem Try.ti108 : TI Try.prog 108 Value.nilFunc 1 8 := show (Try.prog.info? 108).map (fun i => (i.zero, i.size, i.bytes)) = some (some Value.nilFunc, 1, 8) by kernel_rfl
theorem Try.size108 : SizeIs Try.prog 108 1 := Try.ti108.size
theorem Try.plain108 : Plain Try.prog 108 := ⟨_, Try.underlying108, by simp, by simp⟩
theorem Try.ti109 : TI Try.prog 109 Value.nilFunc 1 8 := show (Try.prog.info? 109).map (fun i => (i.zero, i.size, i.bytes)) = some (some Value.nilFunc, 1, 8) by kernel_rfl
theorem Try.size109 : SizeIs Try.prog 109 1 := Try.ti109.size
theorem Try.plain109 : Plain Try.prog 109 := ⟨_, Try.underlying109, by simp, by simp⟩
theorem Try.ti110 : TI Try.prog 110 Value.nilFunc 1 8 := show (Try.prog.info? 110).map (fun i => (i.zero, i.size, i.bytes)) = some (some Value.nilFunc, 1, 8) by kernel_rfl
theorem Try.size110 : SizeIs Try.prog 110 1 := Try.ti110.size
theorem Try.plain110 : Plain Try.prog 110 := ⟨_, Try.underlying110, by simp, by simp⟩
theorem Try.ti111 : TI Try.prog 111 (Value.int .u32 0) 1 4 := show (Try.prog.info? 111).map (fun i => (i.zero, i.size, i.bytes)) = some (some (Value.int .u32 0), 1, 4) by kernel_rfl
theorem Try.size111 : SizeIs Try.prog 111 1 := Try.ti111.size
theorem Try.plain111 : Plain Try.prog 111 := ⟨_, Try.underlying111, by simp, by simp⟩
theorem Try.ti112 : TI Try.prog 112 Value.nilFunc 1 8 := show (Try.prog.info? 112).map (fun i => (i.zero, i.size, i.bytes)) = some (some Value.nilFunc, 1, 8) by kernel_rfl
theorem Try.size112 : SizeIs Try.prog 112 1 := Try.ti112.size
theorem Try.plain112 : Plain Try.prog 112 := ⟨_, Try.underlying112, by simp, by simp⟩
theorem Try.ti113 : TI Try.prog 113 (Value.int .u64 0) 1 8 := show (Try.prog.info? 113).map (fun i => (i.zero, i.size, i.bytes)) = some (some (Value.int .u64 0), 1, 8) by kernel_rfl
theorem Try.size113 : SizeIs Try.prog 113 1 := Try.ti113.size
theorem Try.plain113 : Plain Try.prog 113 := ⟨_, Try.underlying113, by simp, by simp⟩
theorem Try.ti114 : TI Try.prog 114 Value.nilFunc 1 8 := show (Try.prog.info? 114).map (fun i => (i.zero, i.size, i.bytes)) = some (some Value.nilFunc, 1, 8) by kernel_rfl
theorem Try.size114 : SizeIs Try.prog 114 1 := Try.ti114.size
theorem Try.plain114 : Plain Try.prog 114 := ⟨_, Try.underlying114, by simp, by simp⟩
theorem Try.ti115 : TI Try.prog 115 Value.nilFunc 1 8 := show (Try.prog.info? 115).map (fun i => (i.zero, i.size, i.bytes)) = some (some Value.nilFunc, 1, 8) by kernel_rfl
theorem Try.size115 : SizeIs Try.prog 115 1 := Try.ti115.size
theorem Try.plain115 : Plain Try.prog 115 := ⟨_, Try.underlying115, by simp, by simp⟩
theorem Try.ti116 : TI Try.prog 116 Value.nilFunc 1 8 := show (Try.prog.info? 116).map (fun i => (i.zero, i.size, i.bytes)) = some (some Value.nilFunc, 1, 8) by kernel_rfl
theorem Try.size116 : SizeIs Try.prog 116 1 := Try.ti116.size
theorem Try.plain116 : Plain Try.prog 116 := ⟨_, Try.underlying116, by simp, by simp⟩
theorem Try.ti117 : TI Try.prog 117 Value.nilFunc 1 8 := show (Try.prog.info? 117).map (fun i => (i.zero, i.size, i.bytes)) = some (some Value.nilFunc, 1, 8) by kernel_rfl
theorem Try.size117 : SizeIs Try.prog 117 1 := Try.ti117.size
theorem Try.plain117 : Plain Try.prog 117 := ⟨_, Try.underlying117, by simp, by simp⟩
theorem Try.ti118 : TI Try.prog 118 Value.nilFunc 1 8 := show (Try.prog.info? 118).map (fun i => (i.zero, i.size, i.bytes)) = some (some Value.nilFunc, 1, 8) by kernel_rfl
theorem Try.size118 : SizeIs Try.prog 118 1 := Try.ti118.size
theorem Try.plain118 : Plain Try.prog 118 := ⟨_, Try.underlying118, by simp, by simp⟩
theorem Try.ti119 : TI Try.prog 119 (Value.int .u64 0) 1 8 := show (Try.prog.info? 119).map (fun i => (i.zero, i.size, i.bytes)) = some (some (Value.int .u64 0), 1, 8) by kernel_rfl
theorem Try.size119 : SizeIs Try.prog 119 1 := Try.ti119.size
theorem Try.plain119 : Plain Try.prog 119 := ⟨_, Try.underlying119, by simp, by simp⟩
theorem Try.ti120 : TI Try.prog 120 Value.nilFunc 1 8 := show (Try.prog.info? 120).map (fun i => (i.zero, i.size, i.bytes)) = some (some Value.nilFunc, 1, 8) by kernel_rfl
theorem Try.size120 : SizeIs Try.prog 120 1 := Try.ti120.size
theorem Try.plain120 : Plain Try.prog 120 := ⟨_, Try.underlying120, by simp, by simp⟩
theorem Try.ti121 : TI Try.prog 121 Value.nilFunc 1 8 := show (Try.prog.info? 121).map (fun i => (i.zero, i.size, i.bytes)) = some (some Value.nilFunc, 1, 8) by kernel_rfl
theorem Try.size121 : SizeIs Try.prog 121 1 := Try.ti121.size
theorem Try.plain121 : Plain Try.prog 121 := ⟨_, Try.underlying121, by simp, by simp⟩
theorem Try.ti122 : TI Try.prog 122 Value.nilFunc 1 8 := show (Try.prog.info? 122).map (fun i => (i.zero, i.size, i.bytes)) = some (some Value.nilFunc, 1, 8) by kernel_rfl
theorem Try.size122 : SizeIs Try.prog 122 1 := Try.ti122.size
theorem Try.plain122 : Plain Try.prog 122 := ⟨_, Try.underlying122, by simp, by simp⟩
theorem Try.ti123 : TI Try.prog 123 (Value.pointer none) 1 8 := show (Try.prog.info? 123).map (fun i => (i.zero, i.size, i.bytes)) = some (some (Value.pointer none), 1, 8) by kernel_rfl
theorem Try.size123 : SizeIs Try.prog 123 1 := Try.ti123.size
theorem Try.plain123 : Plain Try.prog 123 := ⟨_, Try.underlying123, by simp, by simp⟩
theorem Try.ti124 : TI Try.prog 124 Value.nilFunc 1 8 := show (Try.prog.info? 124).map (fun i => (i.zero, i.size, i.bytes)) = some (some Value.nilFunc, 1, 8) by kernel_rfl
theorem Try.size124 : SizeIs Try.prog 124 1 := Try.ti124.size
theorem Try.plain124 : Plain Try.prog 124 := ⟨_, Try.underlying124, by simp, by simp⟩
theorem Try.ti125 : TI Try.prog 125 Value.nilFunc 1 8 := show (Try.prog.info? 125).map (fun i => (i.zero, i.size, i.bytes)) = some (some Value.nilFunc, 1, 8) by kernel_rfl
theorem Try.size125 : SizeIs Try.prog 125 1 := Try.ti125.size
theorem Try.plain125 : Plain Try.prog 125 := ⟨_, Try.underlying125, by simp, by simp⟩
theorem Try.ti126 : TI Try.prog 126 Value.nilFunc 1 8 := show (Try.prog.info? 126).map (fun i => (i.zero, i.size, i.bytes)) = some (some Value.nilFunc, 1, 8) by kernel_rfl
theorem Try.size126 : SizeIs Try.prog 126 1 := Try.ti126.size
theorem Try.plain126 : Plain Try.prog 126 := ⟨_, Try.underlying126, by simp, by simp⟩
theorem Try.ti127 : TI Try.prog 127 (Value.pointer none) 1 8 := show (Try.prog.info? 127).map (fun i => (i.zero, i.size, i.bytes)) = some (some (Value.pointer none), 1, 8) by kernel_rfl
theorem Try.size127 : SizeIs Try.prog 127 1 := Try.ti127.size
theorem Try.plain127 : Plain Try.prog 127 := ⟨_, Try.underlying127, by simp, by simp⟩
theorem Try.ti128 : TI Try.prog 128 Value.nilFunc 1 8 := show (Try.prog.info? 128).map (fun i => (i.zero, i.size, i.bytes)) = some (some Value.nilFunc, 1, 8) by kernel_rfl
theorem Try.size128 : SizeIs Try.prog 128 1 := Try.ti128.size
theorem Try.plain128 : Plain Try.prog 128 := ⟨_, Try.underlying128, by simp, by simp⟩
theorem Try.ti129 : TI Try.prog 129 Value.nilFunc 1 8 := show (Try.prog.info? 129).map (fun i => (i.zero, i.size, i.bytes)) = some (some Value.nilFunc, 1, 8) by kernel_rfl
theorem Try.size129 : SizeIs Try.prog 129 1 := Try.ti129.size
theorem Try.plain129 : Plain Try.prog 129 := ⟨_, Try.underlying129, by simp, by simp⟩
theorem Try.ti130 : TI Try.prog 130 Value.nilFunc 1 8 := show (Try.prog.info? 130).map (fun i => (i.zero, i.size, i.bytes)) = some (some Value.nilFunc, 1, 8) by kernel_rfl
theorem Try.size130 : SizeIs Try.prog 130 1 := Try.ti130.size
theorem Try.plain130 : Plain Try.prog 130 := ⟨_, Try.underlying130, by simp, by simp⟩
theorem Try.ti131 : TI Try.prog 131 (Value.agg #[(Value.pointer none), (Value.pointer none), (Value.pointer none), (Value.string ⟨#[]⟩)]) 4 40 := show (Try.prog.info? 131).map (fun i => (i.zero, i.size, i.bytes)) = some (some (Value.agg #[(Value.pointer none), (Value.pointer none), (Value.pointer none), (Value.string ⟨#[]⟩)]), 4, 40) by kernel_rfl
theorem Try.size131 : SizeIs Try.prog 131 4 := Try.ti131.size
theorem Try.agg131 : AggIs Try.prog 131 4 := .struct Try.underlying131 Try.size131
theorem Try.build131 : BuildIs Try.prog 131 [(0, 1), (1, 1), (2, 1), (3, 1)] [(Value.pointer none), (Value.pointer none), (Value.pointer none), (Value.string ⟨#[]⟩)] := .struct Try.underlying131 Try.ti131 rfl (by kernel_rfl)
theorem Try.field131_0 : FieldIs Try.prog 131 0 0 := ⟨_, _, 1, Try.underlying131, rfl, rfl, Try.size17, by decide⟩
theorem Try.field131_1 : FieldIs Try.prog 131 1 1 := ⟨_, _, 1, Try.underlying131, rfl, rfl, Try.size17, by decide⟩
theorem Try.field131_2 : FieldIs Try.prog 131 2 2 := ⟨_, _, 1, Try.underlying131, rfl, rfl, Try.size17, by decide⟩
theorem Try.field131_3 : FieldIs Try.prog 131 3 3 := ⟨_, _, 1, Try.underlying131, rfl, rfl, Try.size9, by decide⟩
theorem Try.ti132 : TI Try.prog 132 (Value.agg #[(Value.pointer none), (Value.pointer none), (Value.pointer none), (Value.string ⟨#[]⟩)]) 4 40 := show (Try.prog.info? 132).map (fun i => (i.zero, i.size, i.bytes)) = some (some (Value.agg #[(Value.pointer none), (Value.pointer none), (Value.pointer none), (Value.string ⟨#[]⟩)]), 4, 40) by kernel_rfl
theorem Try.size132 : SizeIs Try.prog 132 4 := Try.ti132.size
theorem Try.agg132 : AggIs Try.prog 132 4 := .struct Try.underlying132 Try.size132
theorem Try.build132 : BuildIs Try.prog 132 [(0, 1), (1, 1), (2, 1), (3, 1)] [(Value.pointer none), (Value.pointer none), (Value.pointer none), (Value.string ⟨#[]⟩)] := .struct Try.underlying132 Try.ti132 rfl (by kernel_rfl)
theorem Try.field132_0 : FieldIs Try.prog 132 0 0 := ⟨_, _, 1, Try.underlying132, rfl, rfl, Try.size17, by decide⟩
theorem Try.field132_1 : FieldIs Try.prog 132 1 1 := ⟨_, _, 1, Try.underlying132, rfl, rfl, Try.size17, by decide⟩
theorem Try.field132_2 : FieldIs Try.prog 132 2 2 := ⟨_, _, 1, Try.underlying132, rfl, rfl, Try.size17, by decide⟩
theorem Try.field132_3 : FieldIs Try.prog 132 3 3 := ⟨_, _, 1, Try.underlying132, rfl, rfl, Try.size9, by decide⟩
theorem Try.ti136 : TI Try.prog 136 Value.nilFunc 1 8 := show (Try.prog.info? 136).map (fun i => (i.zero, i.size, i.bytes)) = some (some Value.nilFunc, 1, 8) by kernel_rfl
theorem Try.size136 : SizeIs Try.prog 136 1 := Try.ti136.size
theorem Try.plain136 : Plain Try.prog 136 := ⟨_, Try.underlying136, by simp, by simp⟩
theorem Try.ti137 : TI Try.prog 137 (Value.int .u8 0) 1 1 := show (Try.prog.info? 137).map (fun i => (i.zero, i.size, i.bytes)) = some (some (Value.int .u8 0), 1, 1) by kernel_rfl
theorem Try.size137 : SizeIs Try.prog 137 1 := Try.ti137.size
theorem Try.plain137 : Plain Try.prog 137 := ⟨_, Try.underlying137, by simp, by simp⟩
theorem Try.ti138 : TI Try.prog 138 (Value.int .u8 0) 1 1 := show (Try.prog.info? 138).map (fun i => (i.zero, i.size, i.bytes)) = some (some (Value.int .u8 0), 1, 1) by kernel_rfl
theorem Try.size138 : SizeIs Try.prog 138 1 := Try.ti138.size
theorem Try.plain138 : Plain Try.prog 138 := ⟨_, Try.underlying138, by simp, by simp⟩
theorem Try.ti139 : TI Try.prog 139 Value.nilFunc 1 8 := show (Try.prog.info? 139).map (fun i => (i.zero, i.size, i.bytes)) = some (some Value.nilFunc, 1, 8) by kernel_rfl
theorem Try.size139 : SizeIs Try.prog 139 1 := Try.ti139.size
theorem Try.plain139 : Plain Try.prog 139 := ⟨_, Try.underlying139, by simp, by simp⟩
theorem Try.ti140 : TI Try.prog 140 (Value.pointer none) 1 8 := show (Try.prog.info? 140).map (fun i => (i.zero, i.size, i.bytes)) = some (some (Value.pointer none), 1, 8) by kernel_rfl
theorem Try.size140 : SizeIs Try.prog 140 1 := Try.ti140.size
theorem Try.plain140 : Plain Try.prog 140 := ⟨_, Try.underlying140, by simp, by simp⟩
theorem Try.ti141 : TI Try.prog 141 (Value.int .i32 0) 1 4 := show (Try.prog.info? 141).map (fun i => (i.zero, i.size, i.bytes)) = some (some (Value.int .i32 0), 1, 4) by kernel_rfl
theorem Try.size141 : SizeIs Try.prog 141 1 := Try.ti141.size
theorem Try.plain141 : Plain Try.prog 141 := ⟨_, Try.underlying141, by simp, by simp⟩
theorem Try.ti142 : TI Try.prog 142 (Value.int .i32 0) 1 4 := show (Try.prog.info? 142).map (fun i => (i.zero, i.size, i.bytes)) = some (some (Value.int .i32 0), 1, 4) by kernel_rfl
theorem Try.size142 : SizeIs Try.prog 142 1 := Try.ti142.size
theorem Try.plain142 : Plain Try.prog 142 := ⟨_, Try.underlying142, by simp, by simp⟩
theorem Try.ti143 : TI Try.prog 143 (Value.agg #[(Value.int .u64 0), (Value.int .u64 0), (Value.int .u32 0), (Value.int .u8 0), (Value.int .u8 0), (Value.int .u8 0), (Value.int .u8 0), Value.nilFunc, (Value.pointer none), (Value.int .i32 0), (Value.int .i32 0)]) 11 48 := show (Try.prog.info? 143).map (fun i => (i.zero, i.size, i.bytes)) = some (some (Value.agg #[(Value.int .u64 0), (Value.int .u64 0), (Value.int .u32 0), (Value.int .u8 0), (Value.int .u8 0), (Value.int .u8 0), (Value.int .u8 0), Value.nilFunc, (Value.pointer none), (Value.int .i32 0), (Value.int .i32 0)]), 11, 48) by kernel_rfl
theorem Try.size143 : SizeIs Try.prog 143 11 := Try.ti143.size
theorem Try.agg143 : AggIs Try.prog 143 11 := .struct Try.underlying143 Try.size143
theorem Try.build143 : BuildIs Try.prog 143 [(0, 1), (1, 1), (2, 1), (3, 1), (4, 1), (5, 1), (6, 1), (7, 1), (8, 1), (9, 1), (10, 1)] [(Value.int .u64 0), (Value.int .u64 0), (Value.int .u32 0), (Value.int .u8 0), (Value.int .u8 0), (Value.int .u8 0), (Value.int .u8 0), Value.nilFunc, (Value.pointer none), (Value.int .i32 0), (Value.int .i32 0)] := .struct Try.underlying143 Try.ti143 rfl (by kernel_rfl)
theorem Try.field143_0 : FieldIs Try.prog 143 0 0 := ⟨_, _, 1, Try.underlying143, rfl, rfl, Try.size12, by decide⟩
theorem Try.field143_1 : FieldIs Try.prog 143 1 1 := ⟨_, _, 1, Try.underlying143, rfl, rfl, Try.size12, by decide⟩
theorem Try.field143_2 : FieldIs Try.prog 143 2 2 := ⟨_, _, 1, Try.underlying143, rfl, rfl, Try.size111, by decide⟩
theorem Try.field143_3 : FieldIs Try.prog 143 3 3 := ⟨_, _, 1, Try.underlying143, rfl, rfl, Try.size137, by decide⟩
theorem Try.field143_4 : FieldIs Try.prog 143 4 4 := ⟨_, _, 1, Try.underlying143, rfl, rfl, Try.size5, by decide⟩
theorem Try.field143_5 : FieldIs Try.prog 143 5 5 := ⟨_, _, 1, Try.underlying143, rfl, rfl, Try.size5, by decide⟩
theorem Try.field143_6 : FieldIs Try.prog 143 6 6 := ⟨_, _, 1, Try.underlying143, rfl, rfl, Try.size138, by decide⟩
theorem Try.field143_7 : FieldIs Try.prog 143 7 7 := ⟨_, _, 1, Try.underlying143, rfl, rfl, Try.size139, by decide⟩
theorem Try.field143_8 : FieldIs Try.prog 143 8 8 := ⟨_, _, 1, Try.underlying143, rfl, rfl, Try.size140, by decide⟩
theorem Try.field143_9 : FieldIs Try.prog 143 9 9 := ⟨_, _, 1, Try.underlying143, rfl, rfl, Try.size141, by decide⟩
theorem Try.field143_10 : FieldIs Try.prog 143 10 10 := ⟨_, _, 1, Try.underlying143, rfl, rfl, Try.size142, by decide⟩
theorem Try.ti144 : TI Try.prog 144 (Value.agg #[(Value.int .u64 0), (Value.int .u64 0), (Value.int .u32 0), (Value.int .u8 0), (Value.int .u8 0), (Value.int .u8 0), (Value.int .u8 0), Value.nilFunc, (Value.pointer none), (Value.int .i32 0), (Value.int .i32 0)]) 11 48 := show (Try.prog.info? 144).map (fun i => (i.zero, i.size, i.bytes)) = some (some (Value.agg #[(Value.int .u64 0), (Value.int .u64 0), (Value.int .u32 0), (Value.int .u8 0), (Value.int .u8 0), (Value.int .u8 0), (Value.int .u8 0), Value.nilFunc, (Value.pointer none), (Value.int .i32 0), (Value.int .i32 0)]), 11, 48) by kernel_rfl
theorem Try.size144 : SizeIs Try.prog 144 11 := Try.ti144.size
theorem Try.agg144 : AggIs Try.prog 144 11 := .struct Try.underlying144 Try.size144
theorem Try.build144 : BuildIs Try.prog 144 [(0, 1), (1, 1), (2, 1), (3, 1), (4, 1), (5, 1), (6, 1), (7, 1), (8, 1), (9, 1), (10, 1)] [(Value.int .u64 0), (Value.int .u64 0), (Value.int .u32 0), (Value.int .u8 0), (Value.int .u8 0), (Value.int .u8 0), (Value.int .u8 0), Value.nilFunc, (Value.pointer none), (Value.int .i32 0), (Value.int .i32 0)] := .struct Try.underlying144 Try.ti144 rfl (by kernel_rfl)
theorem Try.field144_0 : FieldIs Try.prog 144 0 0 := ⟨_, _, 1, Try.underlying144, rfl, rfl, Try.size12, by decide⟩
theorem Try.field144_1 : FieldIs Try.prog 144 1 1 := ⟨_, _, 1, Try.underlying144, rfl, rfl, Try.size12, by decide⟩
theorem Try.field144_2 : FieldIs Try.prog 144 2 2 := ⟨_, _, 1, Try.underlying144, rfl, rfl, Try.size111, by decide⟩
theorem Try.field144_3 : FieldIs Try.prog 144 3 3 := ⟨_, _, 1, Try.underlying144, rfl, rfl, Try.size137, by decide⟩
theorem Try.field144_4 : FieldIs Try.prog 144 4 4 := ⟨_, _, 1, Try.underlying144, rfl, rfl, Try.size5, by decide⟩
theorem Try.field144_5 : FieldIs Try.prog 144 5 5 := ⟨_, _, 1, Try.underlying144, rfl, rfl, Try.size5, by decide⟩
theorem Try.field144_6 : FieldIs Try.prog 144 6 6 := ⟨_, _, 1, Try.underlying144, rfl, rfl, Try.size138, by decide⟩
theorem Try.field144_7 : FieldIs Try.prog 144 7 7 := ⟨_, _, 1, Try.underlying144, rfl, rfl, Try.size139, by decide⟩
theorem Try.field144_8 : FieldIs Try.prog 144 8 8 := ⟨_, _, 1, Try.underlying144, rfl, rfl, Try.size140, by decide⟩
theorem Try.field144_9 : FieldIs Try.prog 144 9 9 := ⟨_, _, 1, Try.underlying144, rfl, rfl, Try.size141, by decide⟩
theorem Try.field144_10 : FieldIs Try.prog 144 10 10 := ⟨_, _, 1, Try.underlying144, rfl, rfl, Try.size142, by decide⟩
end Go.Proofs.Ytmkbjhligjnagaa
