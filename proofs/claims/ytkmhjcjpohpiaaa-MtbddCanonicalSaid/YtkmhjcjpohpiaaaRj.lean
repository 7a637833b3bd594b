import Derived.Test.YtkmhjcjpohpiaaaMw
import Derived.Test.YtkmhjcjpohpiaaaMtN
import Derived.Test.YtkmhjcjpohpiaaaRg
/- Walks of mtbdd: what each function returns. Printed by a program out of notes. -/
namespace Go.Proofs.Ytkmhjcjpohpiaaa
open Go.Vc
open Classical
set_option maxRecDepth 100000
set_option maxHeartbeats 4000000
theorem o0_c {V:HV} {x y:Int} (hx:inR x) (hy:inR y) :
    FnC Try.prog 108 [(Value.int .i64 x),(Value.int .i64 y)] V [] (fun v _ _=>v=(.int .i64 (opV 0 x y))):=by
 refine fn_intro (N:=8) Try.func108 (by kernel_rfl) rfl rfl rfl (Nat.le_of_ble_eq_true rfl) ?_
 intro w0 D
 have hx1:=hx.1
 have hx2:=hx.2
 have hy1:=hy.1
 have hy2:=hy.2
 have hfm:=flr_mul hx hy
 refine vc_seq ?_
 refine vc_region ?_
 refine oq (qv_as (Value.int .i64 0) rfl) ?_
 refine ops_nil ?_
 refine vc_seq ?_
 refine vc_region ?_
 refine oq (qv_mv (Value.int .i64 x) rfl) ?_
 refine oq (qv_mv (Value.int .i64 y) rfl) ?_
 refine oq (qv_add rfl rfl (by omega)) ?_
 refine oq (qv_as (.int .i64 (x+y)) rfl) ?_
 refine ops_nil ?_
 refine vc_ret ?_
 exact rq1 (.int .i64 (opV 0 x y)) (congrArg (Value.int .i64) (show (x+y)=(opV 0 x y) from by rfl)) rfl
theorem o1_c {V:HV} {x y:Int} (hx:inR x) (hy:inR y) :
    FnC Try.prog 109 [(Value.int .i64 x),(Value.int .i64 y)] V [] (fun v _ _=>v=(.int .i64 (opV 1 x y))):=by
 refine fn_intro (N:=8) Try.func109 (by kernel_rfl) rfl rfl rfl (Nat.le_of_ble_eq_true rfl) ?_
 intro w0 D
 have hx1:=hx.1
 have hx2:=hx.2
 have hy1:=hy.1
 have hy2:=hy.2
 have hfm:=flr_mul hx hy
 refine vc_seq ?_
 refine vc_region ?_
 refine oq (qv_as (Value.int .i64 0) rfl) ?_
 refine ops_nil ?_
 refine vc_seq ?_
 refine vc_region ?_
 refine oq (qv_mv (Value.int .i64 x) rfl) ?_
 refine oq (qv_mv (Value.int .i64 y) rfl) ?_
 refine oq (qv_sub rfl rfl (by omega)) ?_
 refine oq (qv_as (.int .i64 (x - y)) rfl) ?_
 refine ops_nil ?_
 refine vc_ret ?_
 exact rq1 (.int .i64 (opV 1 x y)) (congrArg (Value.int .i64) (show (x - y)=(opV 1 x y) from by rfl)) rfl
theorem o2_c {V:HV} {x y:Int} (hx:inR x) (hy:inR y) :
    FnC Try.prog 110 [(Value.int .i64 x),(Value.int .i64 y)] V [] (fun v _ _=>v=(.int .i64 (opV 2 x y))):=by
 refine fn_intro (N:=22) Try.func110 (by kernel_rfl) rfl rfl rfl (Nat.le_of_ble_eq_true rfl) ?_
 intro w0 D
 have hx1:=hx.1
 have hx2:=hx.2
 have hy1:=hy.1
 have hy2:=hy.2
 have hfm:=flr_mul hx hy
 refine vc_seq ?_
 refine vc_region ?_
 refine oq (qv_as (Value.int .i64 0) rfl) ?_
 refine ops_nil ?_
 refine vc_seq ?_
 refine vc_seq ?_
 refine vc_region ?_
 refine oq (qv_mv (Value.int .i64 x) rfl) ?_
 refine oq (qv_neq rfl rfl) ?_
 refine oq (qv_mv (.bool (decide (x ≠ 0))) rfl) ?_
 by_cases g1:x ≠ 0
 refine og (qv_mv (Value.int .i64 y) rfl) (want_t g1 rfl rfl rfl) ?_
 refine og (qv_mv (Value.int .i64 y) rfl) (want_t g1 rfl rfl rfl) ?_
 refine og (qv_neg rfl (by omega)) (want_t g1 rfl rfl rfl) ?_
 refine og (qv_max rfl rfl) (want_t g1 rfl rfl rfl) ?_
 refine og (qv_mv (Value.int .i64 x) rfl) (want_t g1 rfl rfl rfl) ?_
 refine og (qv_mv (Value.int .i64 x) rfl) (want_t g1 rfl rfl rfl) ?_
 refine og (qv_neg rfl (by omega)) (want_t g1 rfl rfl rfl) ?_
 refine og (qv_max rfl rfl) (want_t g1 rfl rfl rfl) ?_
 refine og (qv_quo rfl rfl (by omega) (by omega)) (want_t g1 rfl rfl rfl) ?_
 refine og (qv_gtr rfl rfl) (want_t g1 rfl rfl rfl) ?_
 refine oq (qv_pick_t g1 rfl (rfl:ev _ _=(.bool (decide ((1099511627776 / (if x < (-x) then -x else x)) < (if y < (-y) then -y else y)))))) ?_
 refine ops_nil ?_
 refine vc_if rfl (fun c1=>?_) (fun c1=>?_)
 refine vc_seq ?_
 refine vc_region ?_
 refine oq (qv_as (Value.int .i64 1099511627777) rfl) ?_
 refine ops_nil ?_
 refine vc_ret ?_
 exact rq1 (.int .i64 (opV 2 x y)) (congrArg (Value.int .i64) (show 1099511627777=(opV 2 x y) from by rw [op2a rfl ⟨g1,c1⟩])) rfl
 refine vc_skip ?_
 refine vc_seq ?_
 have hmb:=mul_bd (x:=x) (y:=y) (fun q=>by first | exact absurd q.1 (by assumption) | exact absurd q.2 (by assumption))
 refine vc_region ?_
 refine oq (qv_mv (Value.int .i64 x) rfl) ?_
 refine oq (qv_mv (Value.int .i64 y) rfl) ?_
 refine oq (qv_mul rfl rfl (by omega)) ?_
 refine oq (qv_as (.int .i64 (x * y)) rfl) ?_
 refine ops_nil ?_
 refine vc_ret ?_
 exact rq1 (.int .i64 (opV 2 x y)) (congrArg (Value.int .i64) (show (x * y)=(opV 2 x y) from by rw [op2b rfl (fun q=>by first | exact absurd q.1 (by assumption) | exact absurd q.2 (by assumption))])) rfl
 refine os (want_tn g1 rfl rfl rfl) ?_
 refine os (want_tn g1 rfl rfl rfl) ?_
 refine os (want_tn g1 rfl rfl rfl) ?_
 refine os (want_tn g1 rfl rfl rfl) ?_
 refine os (want_tn g1 rfl rfl rfl) ?_
 refine os (want_tn g1 rfl rfl rfl) ?_
 refine os (want_tn g1 rfl rfl rfl) ?_
 refine os (want_tn g1 rfl rfl rfl) ?_
 refine os (want_tn g1 rfl rfl rfl) ?_
 refine os (want_tn g1 rfl rfl rfl) ?_
 refine oq (qv_pick_f g1 rfl (rfl:ev _ _=(Value.bool false))) ?_
 refine ops_nil ?_
 refine vc_ff rfl ?_
 refine vc_skip ?_
 refine vc_seq ?_
 have hmb:=mul_bd (x:=x) (y:=y) (fun q=>by first | exact absurd q.1 (by assumption) | exact absurd q.2 (by assumption))
 refine vc_region ?_
 refine oq (qv_mv (Value.int .i64 x) rfl) ?_
 refine oq (qv_mv (Value.int .i64 y) rfl) ?_
 refine oq (qv_mul rfl rfl (by omega)) ?_
 refine oq (qv_as (.int .i64 (x * y)) rfl) ?_
 refine ops_nil ?_
 refine vc_ret ?_
 exact rq1 (.int .i64 (opV 2 x y)) (congrArg (Value.int .i64) (show (x * y)=(opV 2 x y) from by rw [op2b rfl (fun q=>by first | exact absurd q.1 (by assumption) | exact absurd q.2 (by assumption))])) rfl
theorem o4_c {V:HV} {x y:Int} (hx:inR x) (hy:inR y) :
    FnC Try.prog 112 [(Value.int .i64 x),(Value.int .i64 y)] V [] (fun v _ _=>v=(.int .i64 (opV 4 x y))):=by
 refine fn_intro (N:=16) Try.func112 (by kernel_rfl) rfl rfl rfl (Nat.le_of_ble_eq_true rfl) ?_
 intro w0 D
 have hx1:=hx.1
 have hx2:=hx.2
 have hy1:=hy.1
 have hy2:=hy.2
 have hfm:=flr_mul hx hy
 refine vc_seq ?_
 refine vc_region ?_
 refine oq (qv_as (Value.int .i64 0) rfl) ?_
 refine ops_nil ?_
 refine vc_seq ?_
 refine vc_region ?_
 refine oq (qv_mv (Value.int .i64 y) rfl) ?_
 refine oq (qv_neq rfl rfl) ?_
 refine oq (qv_call (v:=(.int .i64 (if y ≠ 0 then 1 else 0))) (flag_c) rfl rfl) ?_
 refine oq (qv_mv (Value.int .i64 x) rfl) ?_
 refine oq (qv_mv (Value.int .i64 y) rfl) ?_
 refine oq (qv_mv (Value.int .i64 x) rfl) ?_
 refine oq (qv_mv (Value.int .i64 y) rfl) ?_
 refine oq (qv_call (v:=(.int .i64 (flr x y))) (floor_c hx hy) rfl rfl) ?_
 refine oq (qv_mul rfl rfl (by omega)) ?_
 refine oq (qv_sub rfl rfl (by omega)) ?_
 refine oq (qv_mul rfl rfl (by by_cases q:y ≠ 0 <;> first | (rw [if_pos q]; omega) | (rw [if_neg q]; omega))) ?_
 refine oq (qv_as (.int .i64 ((if y ≠ 0 then 1 else 0) * (x - (y * (flr x y))))) rfl) ?_
 refine ops_nil ?_
 refine vc_ret ?_
 exact rq1 (.int .i64 (opV 4 x y)) (congrArg (Value.int .i64) (show ((if y ≠ 0 then 1 else 0) * (x - (y * (flr x y))))=(opV 4 x y) from by by_cases q:y=0 <;> first | (rw [op4a rfl q,if_neg (by omega)]; omega) | (rw [op4b rfl q,if_pos q]; omega))) rfl
theorem o5_c {V:HV} {x y:Int} (hx:inR x) (hy:inR y) :
    FnC Try.prog 113 [(Value.int .i64 x),(Value.int .i64 y)] V [] (fun v _ _=>v=(.int .i64 (opV 5 x y))):=by
 refine fn_intro (N:=8) Try.func113 (by kernel_rfl) rfl rfl rfl (Nat.le_of_ble_eq_true rfl) ?_
 intro w0 D
 have hx1:=hx.1
 have hx2:=hx.2
 have hy1:=hy.1
 have hy2:=hy.2
 have hfm:=flr_mul hx hy
 refine vc_seq ?_
 refine vc_region ?_
 refine oq (qv_as (Value.int .i64 0) rfl) ?_
 refine ops_nil ?_
 refine vc_seq ?_
 refine vc_region ?_
 refine oq (qv_mv (Value.int .i64 x) rfl) ?_
 refine oq (qv_mv (Value.int .i64 y) rfl) ?_
 refine oq (qv_min rfl rfl) ?_
 refine oq (qv_as (.int .i64 (if y < x then y else x)) rfl) ?_
 refine ops_nil ?_
 refine vc_ret ?_
 exact rq1 (.int .i64 (opV 5 x y)) (congrArg (Value.int .i64) (show (if y < x then y else x)=(opV 5 x y) from by rfl)) rfl
theorem o6_c {V:HV} {x y:Int} (hx:inR x) (hy:inR y) :
    FnC Try.prog 114 [(Value.int .i64 x),(Value.int .i64 y)] V [] (fun v _ _=>v=(.int .i64 (opV 6 x y))):=by
 refine fn_intro (N:=8) Try.func114 (by kernel_rfl) rfl rfl rfl (Nat.le_of_ble_eq_true rfl) ?_
 intro w0 D
 have hx1:=hx.1
 have hx2:=hx.2
 have hy1:=hy.1
 have hy2:=hy.2
 have hfm:=flr_mul hx hy
 refine vc_seq ?_
 refine vc_region ?_
 refine oq (qv_as (Value.int .i64 0) rfl) ?_
 refine ops_nil ?_
 refine vc_seq ?_
 refine vc_region ?_
 refine oq (qv_mv (Value.int .i64 x) rfl) ?_
 refine oq (qv_mv (Value.int .i64 y) rfl) ?_
 refine oq (qv_max rfl rfl) ?_
 refine oq (qv_as (.int .i64 (if x < y then y else x)) rfl) ?_
 refine ops_nil ?_
 refine vc_ret ?_
 exact rq1 (.int .i64 (opV 6 x y)) (congrArg (Value.int .i64) (show (if x < y then y else x)=(opV 6 x y) from by rfl)) rfl
theorem o7_c {V:HV} {x y:Int} (hx:inR x) (hy:inR y) :
    FnC Try.prog 115 [(Value.int .i64 x),(Value.int .i64 y)] V [] (fun v _ _=>v=(.int .i64 (opV 7 x y))):=by
 refine fn_intro (N:=9) Try.func115 (by kernel_rfl) rfl rfl rfl (Nat.le_of_ble_eq_true rfl) ?_
 intro w0 D
 have hx1:=hx.1
 have hx2:=hx.2
 have hy1:=hy.1
 have hy2:=hy.2
 have hfm:=flr_mul hx hy
 refine vc_seq ?_
 refine vc_region ?_
 refine oq (qv_as (Value.int .i64 0) rfl) ?_
 refine ops_nil ?_
 refine vc_seq ?_
 refine vc_region ?_
 refine oq (qv_mv (Value.int .i64 x) rfl) ?_
 refine oq (qv_mv (Value.int .i64 y) rfl) ?_
 refine oq (qv_lss rfl rfl) ?_
 refine oq (qv_call (v:=(.int .i64 (if x < y then 1 else 0))) (flag_c) rfl rfl) ?_
 refine oq (qv_as (.int .i64 (if x < y then 1 else 0)) rfl) ?_
 refine ops_nil ?_
 refine vc_ret ?_
 exact rq1 (.int .i64 (opV 7 x y)) (congrArg (Value.int .i64) (show (if x < y then 1 else 0)=(opV 7 x y) from by rfl)) rfl
theorem o8_c {V:HV} {x y:Int} (hx:inR x) (hy:inR y) :
    FnC Try.prog 116 [(Value.int .i64 x),(Value.int .i64 y)] V [] (fun v _ _=>v=(.int .i64 (opV 8 x y))):=by
 refine fn_intro (N:=9) Try.func116 (by kernel_rfl) rfl rfl rfl (Nat.le_of_ble_eq_true rfl) ?_
 intro w0 D
 have hx1:=hx.1
 have hx2:=hx.2
 have hy1:=hy.1
 have hy2:=hy.2
 have hfm:=flr_mul hx hy
 refine vc_seq ?_
 refine vc_region ?_
 refine oq (qv_as (Value.int .i64 0) rfl) ?_
 refine ops_nil ?_
 refine vc_seq ?_
 refine vc_region ?_
 refine oq (qv_mv (Value.int .i64 x) rfl) ?_
 refine oq (qv_mv (Value.int .i64 y) rfl) ?_
 refine oq (qv_eql rfl rfl) ?_
 refine oq (qv_call (v:=(.int .i64 (if x=y then 1 else 0))) (flag_c) rfl rfl) ?_
 refine oq (qv_as (.int .i64 (if x=y then 1 else 0)) rfl) ?_
 refine ops_nil ?_
 refine vc_ret ?_
 exact rq1 (.int .i64 (opV 8 x y)) (congrArg (Value.int .i64) (show (if x=y then 1 else 0)=(opV 8 x y) from by rfl)) rfl
/-- The functions of the operations. -/
def opFid (op:Int):Nat:=if op=0 then 108 else if op=1 then 109 else if op=2 then 110 else if op=3 then 111 else if op=4 then 112 else if op=5 then 113 else if op=6 then 114 else if op=7 then 115 else 116
def opFs:List Value:=[.func (.func 108) #[] #[],.func (.func 109) #[] #[],.func (.func 110) #[] #[],.func (.func 111) #[] #[],.func (.func 112) #[] #[],.func (.func 113) #[] #[],.func (.func 114) #[] #[],.func (.func 115) #[] #[],.func (.func 116) #[] #[]]
theorem op_el {op:Int} (h0:0≤op) (h8:op≤8):gv opFs op=.func (.func (opFid op)) #[] #[]:=by
  rcases (by omega:op=0 ∨ op=1 ∨ op=2 ∨ op=3 ∨ op=4 ∨ op=5 ∨ op=6 ∨ op=7 ∨ op=8) with rfl | rfl | rfl | rfl | rfl | rfl | rfl | rfl | rfl <;> rfl
theorem op_c {V:HV} {op x y:Int} (h0:0≤op) (h8:op≤8) (hx:inR x) (hy:inR y):FnC Try.prog (opFid op) [.int .i64 x,.int .i64 y] V [] (fun v _ _=>v=.int .i64 (opV op x y)):=by
  rcases (by omega:op=0 ∨ op=1 ∨ op=2 ∨ op=3 ∨ op=4 ∨ op=5 ∨ op=6 ∨ op=7 ∨ op=8) with rfl | rfl | rfl | rfl | rfl | rfl | rfl | rfl | rfl
  exact o0_c hx hy
  exact o1_c hx hy
  exact o2_c hx hy
  exact floor_c hx hy
  exact o4_c hx hy
  exact o5_c hx hy
  exact o6_c hx hy
  exact o7_c hx hy
  exact o8_c hx hy
theorem operations_c {V:HV} :
    FnC Try.prog 81 [] V [] (fun v _ σ'=>∃ b,v=.slice (some ⟨b,0,none⟩) 9 9∧σ' = [Arr 120 b opFs]):=by
 refine fn_intro (N:=2) Try.func81 (by kernel_rfl) rfl rfl rfl (Nat.le_of_ble_eq_true rfl) ?_
 intro w0 D
 refine vc_seq ?_
 refine vc_region ?_
 refine oq (qv_as (Value.slice none 0 0) rfl) ?_
 refine ops_nil ?_
 refine vc_seq ?_
 refine vc_region ?_
 refine ops_lit (n:=9) (s:=1) (cs:=[(Value.func (.func 108) #[] #[]),(Value.func (.func 109) #[] #[]),(Value.func (.func 110) #[] #[]),(Value.func (.func 111) #[] #[]),(Value.func (.func 112) #[] #[]),(Value.func (.func 113) #[] #[]),(Value.func (.func 114) #[] #[]),(Value.func (.func 115) #[] #[]),(Value.func (.func 116) #[] #[])]) Try.underlying121 Try.ti120 (Nat.le_of_ble_eq_true rfl) rfl rfl rfl (Nat.le_of_ble_eq_true rfl) rfl (fun b1=>?_)
 refine oq (qv_as (.slice (some ⟨b1,0,none⟩) 9 9) rfl) ?_
 refine ops_nil ?_
 refine vc_ret ?_
 refine rq1 (.slice (some ⟨b1,0,none⟩) 9 9) rfl ?_
 exact ⟨b1,rfl,rfl⟩
theorem Apply1_c {V:HV} {op x y z:Int} {pf:Nat} (h0:0≤op) (h8:op≤8) (hx:inR x) (hy:inR y) (hf:Cells V pf [(Value.func (.func (opFid op)) #[] #[])]) :
    FnC Try.prog 82 [(.agg #[(Value.int .i64 x),(Value.int .i64 y),(Value.int .i64 z)]),(Value.pointer (some ⟨pf,0,none⟩))] V [] (fun v _ _=>v=(.int .i64 (opV op x y))):=by
 refine fn_intro (N:=10) Try.func82 (by kernel_rfl) rfl rfl rfl (Nat.le_of_ble_eq_true rfl) ?_
 intro w0 D
 refine vc_seq ?_
 refine vc_region ?_
 refine ops_box (v:=(.agg #[(Value.int .i64 x),(Value.int .i64 y),(Value.int .i64 z)])) (cs:=[(Value.int .i64 x),(Value.int .i64 y),(Value.int .i64 z)]) rfl rfl (fun b1=>?_)
 refine oq (qv_as (Value.int .i64 0) rfl) ?_
 refine ops_nil ?_
 refine vc_seq ?_
 refine vc_res (σ':=[(Arr 97 b1 [(Value.int .i64 x),(Value.int .i64 y),(Value.int .i64 z)])]) rfl ?_
 refine vc_region ?_
 refine oq (qv_ldp (v:=(Value.func (.func (opFid op)) #[] #[])) Try.plain120 rfl (inVc hf) rfl) ?_
 refine oq (qv_iaa (i:=0) (off:=0) Try.underlying97 Try.size3 rfl rfl (by omega) (by omega) rfl) ?_
 refine oq (qv_ldp (v:=(Value.int .i64 x)) Try.plain3 rfl (inOc (k:=0) rfl) rfl) ?_
 refine oq (qv_iaa (i:=1) (off:=0) Try.underlying97 Try.size3 rfl rfl (by omega) (by omega) rfl) ?_
 refine oq (qv_ldp (v:=(Value.int .i64 y)) Try.plain3 rfl (inOc (k:=0) rfl) rfl) ?_
 refine oq (qv_call (v:=(.int .i64 (opV op x y))) (op_c h0 h8 hx hy) rfl rfl) ?_
 refine oq (qv_as (.int .i64 (opV op x y)) rfl) ?_
 refine ops_nil ?_
 refine vc_ret ?_
 exact rq1 (.int .i64 (opV op x y)) rfl rfl
theorem Apply_c {V:HV} {la na:Value} {A:Mg} (hA:Mt V la na A) {lb nb:Value} {B:Mg} (hB:Mt V lb nb B) {op:Int} :
    FnC Try.prog 32 [(Value.int .i64 op),(.agg #[(.int .i64 A.v),la,na,(.int .i64 A.r)]),(.agg #[(.int .i64 B.v),lb,nb,(.int .i64 B.r)])] V [] (fun v V' σ'=>σ' = []∧MRs V' v (apD op A B) (apE op A B)):=by
 refine fn_intro (N:=36) Try.func32 (by kernel_rfl) rfl rfl rfl (Nat.le_of_ble_eq_true rfl) ?_
 intro w0 D
 have hbl:=Ints.bound hA.l
 have hbn:=SlS.bound hA.n
 refine vc_seq ?_
 refine vc_region ?_
 refine ops_box (v:=(.agg #[(.int .i64 A.v),la,na,(.int .i64 A.r)])) (cs:=[(.int .i64 A.v),la,na,(.int .i64 A.r)]) rfl rfl (fun b1=>?_)
 refine ops_box (v:=(.agg #[(.int .i64 B.v),lb,nb,(.int .i64 B.r)])) (cs:=[(.int .i64 B.v),lb,nb,(.int .i64 B.r)]) rfl rfl (fun b2=>?_)
 refine ops_alloc Try.ti25 rfl (fun b3=>?_)
 refine oq (qv_as (Value.int .i64 0) rfl) ?_
 refine ops_nil ?_
 refine vc_seq ?_
 refine vc_seq ?_
 let ζ1:Asrt:=Arr 25 b3 [(Value.int .i64 0),(Value.slice none 0 0),(Value.slice none 0 0),(Value.int .i64 0)]
 let ζ4:Asrt:=Arr 25 b1 [(.int .i64 A.v),la,na,(.int .i64 A.r)]
 let ζ5:Asrt:=Arr 25 b2 [(.int .i64 B.v),lb,nb,(.int .i64 B.r)]
 refine vc_res (σ':=[ζ4,ζ5,ζ1]) rfl ?_
 refine vc_region ?_
 refine oq (qv_ldm (vs:=[(.int .i64 A.v),la,na,(.int .i64 A.r)]) Try.agg25 rfl (inOc (k:=0) rfl) rfl rfl) ?_
 refine oq (qv_ldm (vs:=[(.int .i64 B.v),lb,nb,(.int .i64 B.r)]) Try.agg25 rfl (inOc (k:=1) rfl) rfl rfl) ?_
 refine ops_lit (n:=2) (s:=4) (cs:=[(.int .i64 A.v),la,na,(.int .i64 A.r),(.int .i64 B.v),lb,nb,(.int .i64 B.r)]) Try.underlying102 Try.ti25 (Nat.le_of_ble_eq_true rfl) rfl rfl rfl (Nat.le_of_ble_eq_true rfl) rfl (fun b4=>?_)
 let ζ2:Asrt:=Arr 25 b1 [(Value.int .i64 (A.v)),la,na,(Value.int .i64 (A.r))]
 let ζ3:Asrt:=Arr 25 b2 [(Value.int .i64 (B.v)),lb,nb,(Value.int .i64 (B.r))]
 refine ops_freeze (b:=b4) (o:=.cells ([(Value.int .i64 (A.v)),la,na,(Value.int .i64 (A.r)),(Value.int .i64 (B.v)),lb,nb,(Value.int .i64 (B.r))]:List Value).toArray 25 (0,0)) (σr:=[ζ2,ζ3,ζ1]) (List.perm_middle (l₁:=[ζ2,ζ3,ζ1]) (l₂:=[])) (fun Vf1 hVf1 hb1=>?_)
 have hc1:Cells Vf1 b4 [(.int .i64 A.v),la,na,(.int .i64 A.r),(.int .i64 B.v),lb,nb,(.int .i64 B.r)]:=⟨_,_,hb1⟩
 have hA:=hA.mono hVf1
 have hB:=hB.mono hVf1
 refine oq (qv_call (v:=(.int .i64 (vE [A,B]))) (checked_c (Mdl.two hc1 hA hB) (by show 1≤2; omega)) rfl rfl) ?_
 refine oq (qv_as (.int .i64 (vE [A,B])) rfl) ?_
 refine ops_nil ?_
 refine vc_seq ?_
 refine vc_region ?_
 refine oq (qv_mv (.int .i64 (vE [A,B])) rfl) ?_
 refine oq (qv_neq rfl rfl) ?_
 refine ops_nil ?_
 refine vc_if rfl (fun c1=>?_) (fun c1=>?_)
 refine vc_seq ?_
 refine vc_region ?_
 refine oq (qv_build (out:=[(Value.int .i64 0),(Value.slice none 0 0),(Value.slice none 0 0),(Value.int .i64 0)]) Try.build25 [] rfl rfl) ?_
 refine oq (qv_mv (.int .i64 (vE [A,B])) rfl) ?_
 refine ops_stw (k:=2) (vs:=[(Value.int .i64 0),(Value.slice none 0 0),(Value.slice none 0 0),(Value.int .i64 0)]) Try.size25 rfl rfl rfl rfl rfl rfl ?_
 refine oq (qv_as (.int .i64 (vE [A,B])) rfl) ?_
 refine ops_nil ?_
 refine vc_freeze (b:=b3) (o:=.cells ([(Value.int .i64 0),(Value.slice none 0 0),(Value.slice none 0 0),(Value.int .i64 0)]:List Value).toArray 25 (0,0)) (σr:=[ζ2,ζ3]) (List.perm_middle (l₁:=[ζ2,ζ3]) (l₂:=[])) (fun Vf2 hVf2 hb2=>?_)
 have hc2:Cells Vf2 b3 [(Value.int .i64 0),(Value.slice none 0 0),(Value.slice none 0 0),(Value.int .i64 0)]:=⟨_,_,hb2⟩
 have hA:=hA.mono hVf2
 have hB:=hB.mono hVf2
 have hc1:=hc1.mono hVf2
 refine vc_drop [] [ζ4,ζ5] (.refl _) ?_
 refine vc_ret ?_
 refine rs2 _ (.int .i64 (vE [A,B])) (rv_c (vs:=[(Value.int .i64 0),(Value.slice none 0 0),(Value.slice none 0 0),(Value.int .i64 0)]) Try.agg25 rfl (inVc hc2) rfl rfl) (rv_t rfl) ?_
 have e:=ap_v (A:=A) (B:=B) (op:=op) (by omega)
 subst ζ1 ζ4 ζ5 ζ2 ζ3
 rw [e.1,e.2]
 exact ⟨rfl,MRs.zero⟩
 refine vc_skip ?_
 refine vc_seq ?_
 refine vc_seq ?_
 have hz:vE [A,B]=0:=by omega
 have hcm:Cmb [A,B]:=cmb_of (vE_ok.1 hz).1 (vE_ok.1 hz).2 (by show 1≤2; omega) (by show 2≤3; omega)
 refine vc_region ?_
 refine oq (qv_mv (Value.int .i64 op) rfl) ?_
 refine oq (qv_lss rfl rfl) ?_
 refine oq (qv_mv (.bool (decide (op < 0))) rfl) ?_
 by_cases g1:op < 0
 refine os (want_fn g1 rfl rfl rfl) ?_
 refine os (want_fn g1 rfl rfl rfl) ?_
 refine oq (qv_pick_t g1 rfl (rfl:ev _ _=(Value.bool true))) ?_
 refine ops_nil ?_
 refine vc_tt rfl ?_
 refine vc_seq ?_
 refine vc_region ?_
 refine oq (qv_build (out:=[(Value.int .i64 0),(Value.slice none 0 0),(Value.slice none 0 0),(Value.int .i64 0)]) Try.build25 [] rfl rfl) ?_
 refine ops_stw (k:=2) (vs:=[(Value.int .i64 0),(Value.slice none 0 0),(Value.slice none 0 0),(Value.int .i64 0)]) Try.size25 rfl rfl rfl rfl rfl rfl ?_
 refine oq (qv_as (Value.int .i64 3) rfl) ?_
 refine ops_nil ?_
 refine vc_freeze (b:=b3) (o:=.cells ([(Value.int .i64 0),(Value.slice none 0 0),(Value.slice none 0 0),(Value.int .i64 0)]:List Value).toArray 25 (0,0)) (σr:=[ζ2,ζ3]) (List.perm_middle (l₁:=[ζ2,ζ3]) (l₂:=[])) (fun Vf3 hVf3 hb3=>?_)
 have hc3:Cells Vf3 b3 [(Value.int .i64 0),(Value.slice none 0 0),(Value.slice none 0 0),(Value.int .i64 0)]:=⟨_,_,hb3⟩
 have hA:=hA.mono hVf3
 have hB:=hB.mono hVf3
 have hc1:=hc1.mono hVf3
 refine vc_drop [] [ζ4,ζ5] (.refl _) ?_
 refine vc_ret ?_
 refine rs2 _ (Value.int .i64 3) (rv_c (vs:=[(Value.int .i64 0),(Value.slice none 0 0),(Value.slice none 0 0),(Value.int .i64 0)]) Try.agg25 rfl (inVc hc3) rfl rfl) (rv_t rfl) ?_
 have e:=ap_3 (A:=A) (B:=B) (op:=op) hz (by omega)
 subst ζ1 ζ4 ζ5 ζ2 ζ3
 rw [e.1,e.2]
 exact ⟨rfl,MRs.zero⟩
 refine og (qv_mv (Value.int .i64 op) rfl) (want_f g1 rfl rfl rfl) ?_
 refine og (qv_geq rfl rfl) (want_f g1 rfl rfl rfl) ?_
 refine oq (qv_pick_f g1 rfl (rfl:ev _ _=(.bool (decide (9≤op))))) ?_
 refine ops_nil ?_
 refine vc_if rfl (fun c2=>?_) (fun c2=>?_)
 refine vc_seq ?_
 refine vc_region ?_
 refine oq (qv_build (out:=[(Value.int .i64 0),(Value.slice none 0 0),(Value.slice none 0 0),(Value.int .i64 0)]) Try.build25 [] rfl rfl) ?_
 refine ops_stw (k:=2) (vs:=[(Value.int .i64 0),(Value.slice none 0 0),(Value.slice none 0 0),(Value.int .i64 0)]) Try.size25 rfl rfl rfl rfl rfl rfl ?_
 refine oq (qv_as (Value.int .i64 3) rfl) ?_
 refine ops_nil ?_
 refine vc_freeze (b:=b3) (o:=.cells ([(Value.int .i64 0),(Value.slice none 0 0),(Value.slice none 0 0),(Value.int .i64 0)]:List Value).toArray 25 (0,0)) (σr:=[ζ2,ζ3]) (List.perm_middle (l₁:=[ζ2,ζ3]) (l₂:=[])) (fun Vf4 hVf4 hb4=>?_)
 have hc4:Cells Vf4 b3 [(Value.int .i64 0),(Value.slice none 0 0),(Value.slice none 0 0),(Value.int .i64 0)]:=⟨_,_,hb4⟩
 have hA:=hA.mono hVf4
 have hB:=hB.mono hVf4
 have hc1:=hc1.mono hVf4
 refine vc_drop [] [ζ4,ζ5] (.refl _) ?_
 refine vc_ret ?_
 refine rs2 _ (Value.int .i64 3) (rv_c (vs:=[(Value.int .i64 0),(Value.slice none 0 0),(Value.slice none 0 0),(Value.int .i64 0)]) Try.agg25 rfl (inVc hc4) rfl rfl) (rv_t rfl) ?_
 have e:=ap_3 (A:=A) (B:=B) (op:=op) hz (by omega)
 subst ζ1 ζ4 ζ5 ζ2 ζ3
 rw [e.1,e.2]
 exact ⟨rfl,MRs.zero⟩
 refine vc_skip ?_
 refine vc_seq ?_
 have h0:0≤op:=by omega
 have h8:op≤8:=by omega
 refine vc_region ?_
 refine ops_call (σa:=[]) (σr:=[ζ4,ζ5,ζ1]) (operations_c) rfl rfl (.refl _) (fun r1 V1 sg1 hV1 hp1=>?_)
 obtain ⟨bo,rfl,rfl⟩:=hp1
 have hA:=hA.mono hV1
 have hB:=hB.mono hV1
 have hc1:=hc1.mono hV1
 refine oq (qv_mv (Value.int .i64 op) rfl) ?_
 refine oq (qv_ia (v:=(.slice (some ⟨bo,0,none⟩) 9 9)) (i:=op) Try.underlying121 Try.size120 rfl (inO (k:=0) rfl rfl (Nat.le_refl _) (by omega)) rfl (by omega) (by show op < 9; omega)) ?_
 let ζ6:Value:=Value.func (.func (opFid op)) #[] #[]
 refine oq (qv_ldv (u:=ζ6) (v:=(.slice (some ⟨bo,0,none⟩) 9 9)) (i:=op) Try.plain120 rfl (inO (k:=0) rfl rfl (Nat.le_refl _) (by omega)) (by omega) (by show op < 9; omega) (op_el (by omega) (by omega))) ?_
 refine ops_alloc Try.ti120 rfl (fun b5=>?_)
 refine ops_stp (k:=4) (off:=0) (cs:=[Value.nilFunc]) Try.size120 rfl (rfl:ev _ _=ζ6) rfl rfl (Nat.le_of_ble_eq_true rfl) ?_
 refine ops_nil ?_
 refine vc_seq ?_
 refine vc_res (σ':=[(Arr 120 bo opFs),ζ4,ζ5,ζ1,(Arr 120 b5 [ζ6])]) rfl ?_
 refine vc_freeze (b:=b5) (o:=.cells ([ζ6]:List Value).toArray 120 (0,0)) (σr:=[(Arr 120 bo opFs),ζ2,ζ3,ζ1]) (List.perm_middle (l₁:=[(Arr 120 bo opFs),ζ2,ζ3,ζ1]) (l₂:=[])) (fun Vf5 hVf5 hb5=>?_)
 have hc5:Cells Vf5 b5 [ζ6]:=⟨_,_,hb5⟩
 have hA:=hA.mono hVf5
 have hB:=hB.mono hVf5
 have hc1:=hc1.mono hVf5
 refine vc_region ?_
 skip
 refine oq (qv_func (cs:=[(Value.pointer (some ⟨b5,0,none⟩))]) rfl) ?_
 refine oq (qv_ldm (vs:=[(.int .i64 A.v),la,na,(.int .i64 A.r)]) Try.agg25 rfl (inOc (k:=1) rfl) rfl rfl) ?_
 refine oq (qv_ldm (vs:=[(.int .i64 B.v),lb,nb,(.int .i64 B.r)]) Try.agg25 rfl (inOc (k:=2) rfl) rfl rfl) ?_
 refine ops_lit (n:=2) (s:=4) (cs:=[(.int .i64 A.v),la,na,(.int .i64 A.r),(.int .i64 B.v),lb,nb,(.int .i64 B.r)]) Try.underlying102 Try.ti25 (Nat.le_of_ble_eq_true rfl) rfl rfl rfl (Nat.le_of_ble_eq_true rfl) rfl (fun b6=>?_)
 refine ops_freeze (b:=b6) (o:=.cells ([(Value.int .i64 (A.v)),la,na,(Value.int .i64 (A.r)),(Value.int .i64 (B.v)),lb,nb,(Value.int .i64 (B.r))]:List Value).toArray 25 (0,0)) (σr:=[(Arr 120 bo opFs),ζ2,ζ3,ζ1]) (List.perm_middle (l₁:=[(Arr 120 bo opFs),ζ2,ζ3,ζ1]) (l₂:=[])) (fun Vf6 hVf6 hb6=>?_)
 have hc6:Cells Vf6 b6 [(.int .i64 A.v),la,na,(.int .i64 A.r),(.int .i64 B.v),lb,nb,(.int .i64 B.r)]:=⟨_,_,hb6⟩
 have hA:=hA.mono hVf6
 have hB:=hB.mono hVf6
 have hc1:=hc1.mono hVf6
 have hc5:=hc5.mono hVf6
 subst ζ1 ζ4 ζ5 ζ2 ζ3 ζ6
 refine ops_call (σa:=[]) (σr:=[(Arr 120 bo opFs),(Arr 25 b1 [(.int .i64 A.v),la,na,(.int .i64 A.r)]),(Arr 25 b2 [(.int .i64 B.v),lb,nb,(.int .i64 B.r)]),(Arr 25 b3 [(Value.int .i64 0),(Value.slice none 0 0),(Value.slice none 0 0),(Value.int .i64 0)])]) (by have h:=made_c (Ds:=[A,B]) (vars:=A.v) (F:=fun x y _=>opV op x y) (fid:=82) (fcaps:=[(Value.pointer (some ⟨b5,0,none⟩))]) (Mdl.two hc6 hA hB) hcm.ok hcm.sv hcm.rg (by show 1≤2; omega) hcm.rt (fun W q x y z hx hy _=>Apply1_c h0 h8 hx hy (hc5.mono q)); rw [cT2] at h; exact h) rfl rfl (.refl _) (fun r2 V2 sg2 hV2 hp2=>?_)
 obtain ⟨rfl,lv1,nv1,rfl,hMt⟩:=hp2
 have hA:=hA.mono hV2
 have hB:=hB.mono hV2
 have hc1:=hc1.mono hV2
 have hc5:=hc5.mono hV2
 have hc6:=hc6.mono hV2
 refine oq (qv_ext (.agg #[(.int .i64 ((mkD A.v (tabv A.v fun e=>opV op (vl A e) (vl B e))).v)),lv1,nv1,(.int .i64 ((mkD A.v (tabv A.v fun e=>opV op (vl A e) (vl B e))).r))]) rfl rfl) ?_
 refine oq (qv_ext (.int .i64 (mkE A.v (tabv A.v fun e=>opV op (vl A e) (vl B e)))) rfl rfl) ?_
 refine ops_stw (k:=3) (vs:=[(.int .i64 ((mkD A.v (tabv A.v fun e=>opV op (vl A e) (vl B e))).v)),lv1,nv1,(.int .i64 ((mkD A.v (tabv A.v fun e=>opV op (vl A e) (vl B e))).r))]) Try.size25 rfl rfl rfl (allc rfl (allc (Sl.one hMt.l) (allc (SlS.one hMt.n) (allc rfl rfl)))) rfl rfl ?_
 refine oq (qv_as (.int .i64 (mkE A.v (tabv A.v fun e=>opV op (vl A e) (vl B e)))) rfl) ?_
 refine ops_nil ?_
 refine vc_freeze (b:=b3) (o:=.cells ([(Value.int .i64 ((mkD A.v (tabv A.v fun e=>opV op (vl A e) (vl B e))).v)),lv1,nv1,(Value.int .i64 ((mkD A.v (tabv A.v fun e=>opV op (vl A e) (vl B e))).r))]:List Value).toArray 25 (0,0)) (σr:=[(Arr 120 bo opFs),(Arr 25 b1 [(Value.int .i64 (A.v)),la,na,(Value.int .i64 (A.r))]),(Arr 25 b2 [(Value.int .i64 (B.v)),lb,nb,(Value.int .i64 (B.r))])]) (List.perm_middle (l₁:=[(Arr 120 bo opFs),(Arr 25 b1 [(Value.int .i64 (A.v)),la,na,(Value.int .i64 (A.r))]),(Arr 25 b2 [(Value.int .i64 (B.v)),lb,nb,(Value.int .i64 (B.r))])]) (l₂:=[])) (fun Vf7 hVf7 hb7=>?_)
 have hc7:Cells Vf7 b3 [(.int .i64 ((mkD A.v (tabv A.v fun e=>opV op (vl A e) (vl B e))).v)),lv1,nv1,(.int .i64 ((mkD A.v (tabv A.v fun e=>opV op (vl A e) (vl B e))).r))]:=⟨_,_,hb7⟩
 have hA:=hA.mono hVf7
 have hB:=hB.mono hVf7
 have hc1:=hc1.mono hVf7
 have hc5:=hc5.mono hVf7
 have hc6:=hc6.mono hVf7
 have hMt:=hMt.mono hVf7
 refine vc_drop [] [(Arr 120 bo opFs),(Arr 25 b1 [(.int .i64 A.v),la,na,(.int .i64 A.r)]),(Arr 25 b2 [(.int .i64 B.v),lb,nb,(.int .i64 B.r)])] (.refl _) ?_
 refine vc_ret ?_
 refine rs2 _ (.int .i64 (mkE A.v (tabv A.v fun e=>opV op (vl A e) (vl B e)))) (rv_c (vs:=[(.int .i64 ((mkD A.v (tabv A.v fun e=>opV op (vl A e) (vl B e))).v)),lv1,nv1,(.int .i64 ((mkD A.v (tabv A.v fun e=>opV op (vl A e) (vl B e))).r))]) Try.agg25 rfl (inVc hc7) rfl rfl) (rv_t rfl) ?_
 have e:=ap_0 (A:=A) (B:=B) (op:=op) hz (by omega)
 rw [e.1,e.2]
 exact ⟨rfl,lv1,nv1,rfl,hMt⟩
end Go.Proofs.Ytkmhjcjpohpiaaa
