import Derived.Test.YtkmhjcjpohpiaaaWb
import Derived.Test.YtkmhjcjpohpiaaaProg
/- Facts on the types of this program, by program: sizes, zero values, fields. -/
namespace Go.Proofs.Ytkmhjcjpohpiaaa
open Go.Vc
set_option maxRecDepth 100000
theorem Try.mixed:Try.prog.follows .mixedOrders=true:=by kernel_rfl
theorem Try.ti3:TI Try.prog 3 (Value.int .i64 0) 1 8:=show (Try.prog.info? 3).map (fun i=>(i.zero,i.size,i.bytes))=some (some (Value.int .i64 0),1,8) by kernel_rfl
theorem Try.size3:SizeIs Try.prog 3 1:=Try.ti3.size
theorem Try.plain3:Plain Try.prog 3:=⟨_,Try.underlying3,by simp,by simp⟩
theorem Try.ti4:TI Try.prog 4 (Value.bool false) 1 1:=show (Try.prog.info? 4).map (fun i=>(i.zero,i.size,i.bytes))=some (some (Value.bool false),1,1) by kernel_rfl
theorem Try.size4:SizeIs Try.prog 4 1:=Try.ti4.size
theorem Try.plain4:Plain Try.prog 4:=⟨_,Try.underlying4,by simp,by simp⟩
theorem Try.ti22:TI Try.prog 22 (Value.slice none 0 0) 1 24:=show (Try.prog.info? 22).map (fun i=>(i.zero,i.size,i.bytes))=some (some (Value.slice none 0 0),1,24) by kernel_rfl
theorem Try.size22:SizeIs Try.prog 22 1:=Try.ti22.size
theorem Try.plain22:Plain Try.prog 22:=⟨_,Try.underlying22,by simp,by simp⟩
theorem Try.ti23:TI Try.prog 23 (Value.slice none 0 0) 1 24:=show (Try.prog.info? 23).map (fun i=>(i.zero,i.size,i.bytes))=some (some (Value.slice none 0 0),1,24) by kernel_rfl
theorem Try.size23:SizeIs Try.prog 23 1:=Try.ti23.size
theorem Try.plain23:Plain Try.prog 23:=⟨_,Try.underlying23,by simp,by simp⟩
theorem Try.ti25:TI Try.prog 25 (Value.agg #[(Value.int .i64 0),(Value.slice none 0 0),(Value.slice none 0 0),(Value.int .i64 0)]) 4 64:=show (Try.prog.info? 25).map (fun i=>(i.zero,i.size,i.bytes))=some (some (Value.agg #[(Value.int .i64 0),(Value.slice none 0 0),(Value.slice none 0 0),(Value.int .i64 0)]),4,64) by kernel_rfl
theorem Try.size25:SizeIs Try.prog 25 4:=Try.ti25.size
theorem Try.agg25:AggIs Try.prog 25 4:=.struct Try.underlying25 Try.size25
theorem Try.build25:BuildIs Try.prog 25 [(0,1),(1,1),(2,1),(3,1)] [(Value.int .i64 0),(Value.slice none 0 0),(Value.slice none 0 0),(Value.int .i64 0)]:=.struct Try.underlying25 Try.ti25 rfl (by kernel_rfl)
theorem Try.field25_0:FieldIs Try.prog 25 0 0:=⟨_,_,1,Try.underlying25,rfl,rfl,Try.size3,by decide⟩
theorem Try.field25_1:FieldIs Try.prog 25 1 1:=⟨_,_,1,Try.underlying25,rfl,rfl,Try.size22,by decide⟩
theorem Try.field25_2:FieldIs Try.prog 25 2 2:=⟨_,_,1,Try.underlying25,rfl,rfl,Try.size23,by decide⟩
theorem Try.field25_3:FieldIs Try.prog 25 3 3:=⟨_,_,1,Try.underlying25,rfl,rfl,Try.size3,by decide⟩
theorem Try.ti57:TI Try.prog 57 (Value.agg #[(Value.int .i64 0),(Value.int .i64 0)]) 2 16:=show (Try.prog.info? 57).map (fun i=>(i.zero,i.size,i.bytes))=some (some (Value.agg #[(Value.int .i64 0),(Value.int .i64 0)]),2,16) by kernel_rfl
theorem Try.size57:SizeIs Try.prog 57 2:=Try.ti57.size
theorem Try.agg57:AggIs Try.prog 57 2:=.struct Try.underlying57 Try.size57
theorem Try.build57:BuildIs Try.prog 57 [(0,1),(1,1)] [(Value.int .i64 0),(Value.int .i64 0)]:=.struct Try.underlying57 Try.ti57 rfl (by kernel_rfl)
theorem Try.field57_0:FieldIs Try.prog 57 0 0:=⟨_,_,1,Try.underlying57,rfl,rfl,Try.size3,by decide⟩
theorem Try.field57_1:FieldIs Try.prog 57 1 1:=⟨_,_,1,Try.underlying57,rfl,rfl,Try.size3,by decide⟩
theorem Try.eq57:FlatInts Try.prog 57 [.i64,.i64]:=⟨by kernel_rfl,by kernel_rfl,by kernel_rfl,fieldIntsB_ok (by kernel_rfl)⟩
theorem Try.ti59:TI Try.prog 59 (Value.agg #[(Value.int .i64 0),(Value.slice none 0 0),(Value.int .i64 0)]) 3 40:=show (Try.prog.info? 59).map (fun i=>(i.zero,i.size,i.bytes))=some (some (Value.agg #[(Value.int .i64 0),(Value.slice none 0 0),(Value.int .i64 0)]),3,40) by kernel_rfl
theorem Try.size59:SizeIs Try.prog 59 3:=Try.ti59.size
theorem Try.agg59:AggIs Try.prog 59 3:=.struct Try.underlying59 Try.size59
theorem Try.build59:BuildIs Try.prog 59 [(0,1),(1,1),(2,1)] [(Value.int .i64 0),(Value.slice none 0 0),(Value.int .i64 0)]:=.struct Try.underlying59 Try.ti59 rfl (by kernel_rfl)
theorem Try.field59_0:FieldIs Try.prog 59 0 0:=⟨_,_,1,Try.underlying59,rfl,rfl,Try.size3,by decide⟩
theorem Try.field59_1:FieldIs Try.prog 59 1 1:=⟨_,_,1,Try.underlying59,rfl,rfl,Try.size23,by decide⟩
theorem Try.field59_2:FieldIs Try.prog 59 2 2:=⟨_,_,1,Try.underlying59,rfl,rfl,Try.size3,by decide⟩
theorem Try.ti80:TI Try.prog 80 (Value.agg #[(Value.int .i64 0),(Value.int .i64 0),(Value.int .i64 0)]) 3 24:=show (Try.prog.info? 80).map (fun i=>(i.zero,i.size,i.bytes))=some (some (Value.agg #[(Value.int .i64 0),(Value.int .i64 0),(Value.int .i64 0)]),3,24) by kernel_rfl
theorem Try.size80:SizeIs Try.prog 80 3:=Try.ti80.size
theorem Try.agg80:AggIs Try.prog 80 3:=.struct Try.underlying80 Try.size80
theorem Try.build80:BuildIs Try.prog 80 [(0,1),(1,1),(2,1)] [(Value.int .i64 0),(Value.int .i64 0),(Value.int .i64 0)]:=.struct Try.underlying80 Try.ti80 rfl (by kernel_rfl)
theorem Try.field80_0:FieldIs Try.prog 80 0 0:=⟨_,_,1,Try.underlying80,rfl,rfl,Try.size3,by decide⟩
theorem Try.field80_1:FieldIs Try.prog 80 1 1:=⟨_,_,1,Try.underlying80,rfl,rfl,Try.size3,by decide⟩
theorem Try.field80_2:FieldIs Try.prog 80 2 2:=⟨_,_,1,Try.underlying80,rfl,rfl,Try.size3,by decide⟩
theorem Try.eq80:FlatInts Try.prog 80 [.i64,.i64,.i64]:=⟨by kernel_rfl,by kernel_rfl,by kernel_rfl,fieldIntsB_ok (by kernel_rfl)⟩
theorem Try.ti91:TI Try.prog 91 (Value.pointer none) 1 8:=show (Try.prog.info? 91).map (fun i=>(i.zero,i.size,i.bytes))=some (some (Value.pointer none),1,8) by kernel_rfl
theorem Try.size91:SizeIs Try.prog 91 1:=Try.ti91.size
theorem Try.plain91:Plain Try.prog 91:=⟨_,Try.underlying91,by simp,by simp⟩
theorem Try.ti93:TI Try.prog 93 Value.nilFunc 1 8:=show (Try.prog.info? 93).map (fun i=>(i.zero,i.size,i.bytes))=some (some Value.nilFunc,1,8) by kernel_rfl
theorem Try.size93:SizeIs Try.prog 93 1:=Try.ti93.size
theorem Try.plain93:Plain Try.prog 93:=⟨_,Try.underlying93,by simp,by simp⟩
theorem Try.ti94:TI Try.prog 94 Value.nilFunc 1 8:=show (Try.prog.info? 94).map (fun i=>(i.zero,i.size,i.bytes))=some (some Value.nilFunc,1,8) by kernel_rfl
theorem Try.size94:SizeIs Try.prog 94 1:=Try.ti94.size
theorem Try.plain94:Plain Try.prog 94:=⟨_,Try.underlying94,by simp,by simp⟩
theorem Try.ti97:TI Try.prog 97 (Value.agg #[(Value.int .i64 0),(Value.int .i64 0),(Value.int .i64 0)]) 3 24:=show (Try.prog.info? 97).map (fun i=>(i.zero,i.size,i.bytes))=some (some (Value.agg #[(Value.int .i64 0),(Value.int .i64 0),(Value.int .i64 0)]),3,24) by kernel_rfl
theorem Try.size97:SizeIs Try.prog 97 3:=Try.ti97.size
theorem Try.agg97:AggIs Try.prog 97 3:=.array Try.underlying97 Try.size97
theorem Try.ti98:TI Try.prog 98 Value.nilFunc 1 8:=show (Try.prog.info? 98).map (fun i=>(i.zero,i.size,i.bytes))=some (some Value.nilFunc,1,8) by kernel_rfl
theorem Try.size98:SizeIs Try.prog 98 1:=Try.ti98.size
theorem Try.plain98:Plain Try.prog 98:=⟨_,Try.underlying98,by simp,by simp⟩
theorem Try.plain102:Plain Try.prog 102:=⟨_,Try.underlying102,by simp,by simp⟩
theorem Try.ti103:TI Try.prog 103 (Value.agg #[(Value.int .i64 0),(Value.int .i64 0)]) 2 16:=show (Try.prog.info? 103).map (fun i=>(i.zero,i.size,i.bytes))=some (some (Value.agg #[(Value.int .i64 0),(Value.int .i64 0)]),2,16) by kernel_rfl
theorem Try.build103:BuildIs Try.prog 103 [(0,1),(1,1)] [(Value.int .i64 0),(Value.int .i64 0)]:=.array Try.underlying103 Try.ti103 rfl Try.ti3
theorem Try.ti110:TI Try.prog 110 (Value.map none) 1 8:=show (Try.prog.info? 110).map (fun i=>(i.zero,i.size,i.bytes))=some (some (Value.map none),1,8) by kernel_rfl
theorem Try.size110:SizeIs Try.prog 110 1:=Try.ti110.size
theorem Try.plain110:Plain Try.prog 110:=⟨_,Try.underlying110,by simp,by simp⟩
theorem Try.ti111:TI Try.prog 111 (Value.map none) 1 8:=show (Try.prog.info? 111).map (fun i=>(i.zero,i.size,i.bytes))=some (some (Value.map none),1,8) by kernel_rfl
theorem Try.size111:SizeIs Try.prog 111 1:=Try.ti111.size
theorem Try.plain111:Plain Try.prog 111:=⟨_,Try.underlying111,by simp,by simp⟩
theorem Try.ti113:TI Try.prog 113 (Value.agg #[(Value.slice none 0 0),(Value.slice none 0 0),(Value.map none),(Value.map none),(Value.bool false)]) 5 72:=show (Try.prog.info? 113).map (fun i=>(i.zero,i.size,i.bytes))=some (some (Value.agg #[(Value.slice none 0 0),(Value.slice none 0 0),(Value.map none),(Value.map none),(Value.bool false)]),5,72) by kernel_rfl
theorem Try.build113:BuildIs Try.prog 113 [(0,1),(1,1),(2,1),(3,1),(4,1)] [(Value.slice none 0 0),(Value.slice none 0 0),(Value.map none),(Value.map none),(Value.bool false)]:=.struct Try.underlying113 Try.ti113 rfl (by kernel_rfl)
theorem Try.field113_0:FieldIs Try.prog 113 0 0:=⟨_,_,1,Try.underlying113,rfl,rfl,Try.size22,by decide⟩
theorem Try.field113_1:FieldIs Try.prog 113 1 1:=⟨_,_,1,Try.underlying113,rfl,rfl,Try.size23,by decide⟩
theorem Try.field113_2:FieldIs Try.prog 113 2 2:=⟨_,_,1,Try.underlying113,rfl,rfl,Try.size110,by decide⟩
theorem Try.field113_3:FieldIs Try.prog 113 3 3:=⟨_,_,1,Try.underlying113,rfl,rfl,Try.size111,by decide⟩
theorem Try.field113_4:FieldIs Try.prog 113 4 4:=⟨_,_,1,Try.underlying113,rfl,rfl,Try.size4,by decide⟩
theorem Try.ti120:TI Try.prog 120 Value.nilFunc 1 8:=show (Try.prog.info? 120).map (fun i=>(i.zero,i.size,i.bytes))=some (some Value.nilFunc,1,8) by kernel_rfl
theorem Try.size120:SizeIs Try.prog 120 1:=Try.ti120.size
theorem Try.plain120:Plain Try.prog 120:=⟨_,Try.underlying120,by simp,by simp⟩
theorem Try.ti137:TI Try.prog 137 (Value.map none) 1 8:=show (Try.prog.info? 137).map (fun i=>(i.zero,i.size,i.bytes))=some (some (Value.map none),1,8) by kernel_rfl
theorem Try.size137:SizeIs Try.prog 137 1:=Try.ti137.size
theorem Try.plain137:Plain Try.prog 137:=⟨_,Try.underlying137,by simp,by simp⟩
theorem Try.ti150:TI Try.prog 150 (Value.map none) 1 8:=show (Try.prog.info? 150).map (fun i=>(i.zero,i.size,i.bytes))=some (some (Value.map none),1,8) by kernel_rfl
theorem Try.size150:SizeIs Try.prog 150 1:=Try.ti150.size
theorem Try.plain150:Plain Try.prog 150:=⟨_,Try.underlying150,by simp,by simp⟩
theorem Try.ti151:TI Try.prog 151 Value.nilFunc 1 8:=show (Try.prog.info? 151).map (fun i=>(i.zero,i.size,i.bytes))=some (some Value.nilFunc,1,8) by kernel_rfl
theorem Try.size151:SizeIs Try.prog 151 1:=Try.ti151.size
theorem Try.plain151:Plain Try.prog 151:=⟨_,Try.underlying151,by simp,by simp⟩
end Go.Proofs.Ytkmhjcjpohpiaaa
