import Derived.Test.YtkmhjcjpohpiaaaMn
import Derived.Test.YtkmhjcjpohpiaaaWn
/- Walks of mtbdd: what each function returns. Printed by a program out of notes. -/
namespace Go.Proofs.Ytkmhjcjpohpiaaa
open Go.Vc
open Classical
set_option maxRecDepth 100000
set_option maxHeartbeats 4000000
theorem IndexI_c {V:HV} {a:Value} {X:List Int} {z:Int} (hX:Ints .i64 V a X) :
    FnC Try.prog 120 [a,(Value.int .i64 z)] V [] (fun v _ _=>v=(.int .i64 (firstI (fun i=>gi X i=z) X.length))):=by
 refine fn_intro (N:=19) Try.func120 (by kernel_rfl) rfl rfl rfl (Nat.le_of_ble_eq_true rfl) ?_
 intro w0 D
 have hb:=hX.bound
 refine vc_seq ?_
 refine vc_region ?_
 refine oq (qv_as (Value.int .i64 0) rfl) ?_
 refine ops_nil ?_
 refine vc_seq ?_
 refine vc_seq ?_
 refine vc_region ?_
 refine oq (qv_mv a rfl) ?_
 refine oq (qv_lenI Try.underlying22 rfl hX) ?_
 refine oq (qv_mv (Value.int .i64 0) rfl) ?_
 refine ops_nil ?_
 refine vc_block ?_
 refine vc_loop (α:=Int) (fun (xx:Int)=>[(0,a),(1,(Value.int .i64 z)),(7,(.int .i64 ((X.length:Int)))),(8,(Value.int .i64 xx))]) (fun (xx:Int) V' σ'=>V=V'∧[]=σ'∧0≤xx∧xx≤X.length∧∀ x:Int,0≤x→x < xx→¬ gi X x=z) (fun (xx:Int)=>(X.length - xx).toNat) (0) ?_ ?_ ?_
 exact ⟨rfl,rfl,rfl,rfl,trivial⟩
 exact ⟨rfl,rfl,by omega,by omega,fun x a b=>by omega⟩
 rintro i e1 V0l σ0l hI0
 obtain ⟨rfl,rfl,i1,i2,hi⟩:V=V0l∧[]=σ0l∧0≤i∧i≤X.length∧∀ x:Int,0≤x→x < i→¬ gi X x=z:=hI0
 refine vc_seq ?_
 refine vc_region ?_
 refine oq (qv_lss rfl rfl) ?_
 refine ops_nil ?_
 refine vc_seq ?_
 refine vc_if rfl (fun c1=>?_) (fun c1=>?_)
 refine vc_skip ?_
 refine vc_seq ?_
 refine vc_block ?_
 refine vc_seq ?_
 refine vc_region ?_
 refine oq (qv_mv (Value.int .i64 i) rfl) ?_
 refine oq (qv_as (Value.int .i64 i) rfl) ?_
 refine ops_nil ?_
 refine vc_seq ?_
 refine vc_region ?_
 refine oq (qv_mv (Value.int .i64 z) rfl) ?_
 refine oq (qv_mv a rfl) ?_
 refine oq (qv_mv (Value.int .i64 i) rfl) ?_
 refine oq (qv_iai (v:=a) (i:=i) Try.underlying22 Try.size3 rfl (inVi hX) rfl (by omega) (by omega)) ?_
 refine oq (qv_ldi (v:=a) (i:=i) Try.plain3 rfl (inVi hX) (by omega) (by omega)) ?_
 refine oq (qv_eql rfl rfl) ?_
 refine ops_nil ?_
 refine vc_if rfl (fun c2=>?_) (fun c2=>?_)
 refine vc_seq ?_
 refine vc_region ?_
 refine oq (qv_mv (Value.int .i64 i) rfl) ?_
 refine oq (qv_as (Value.int .i64 i) rfl) ?_
 refine ops_nil ?_
 refine vc_ret ?_
 refine blockQ_ret ?_
 refine blockQ_ret ?_
 exact rq1 (.int .i64 (firstI (fun i=>gi X i=z) X.length)) (congrArg (Value.int .i64) (show i=(firstI (fun i=>gi X i=z) X.length) from by exact (firstI_some (by omega) (by omega) hi X.length (by omega)).symm)) rfl
 refine vc_skip ?_
 refine vc_region ?_
 refine oq (qv_add rfl rfl (by omega)) ?_
 refine oq (qv_mv (.int .i64 (i+1)) rfl) ?_
 refine ops_nil ?_
 refine ⟨(i+1),⟨rfl,rfl,rfl,(congrArg (Value.int .i64) (show (i+1)=((i+1)) from by omega)),trivial⟩,⟨rfl,rfl,by omega,by omega,all_snoc hi (by omega)⟩,by omega⟩
 refine vc_exit ?_
 refine blockQ_hit ?_
 refine vc_seq ?_
 refine vc_region ?_
 refine oq (qv_as (.int .i64 ((-1))) rfl) ?_
 refine ops_nil ?_
 refine vc_ret ?_
 exact rq1 (.int .i64 (firstI (fun i=>gi X i=z) X.length)) (congrArg (Value.int .i64) (show ((-1))=(firstI (fun i=>gi X i=z) X.length) from by exact (firstI_none X.length (fun x a b=>hi x a (by omega))).symm)) rfl
theorem ContainsI_c {V:HV} {a:Value} {X:List Int} {z:Int} (hX:Ints .i64 V a X) :
    FnC Try.prog 97 [a,(Value.int .i64 z)] V [] (fun v _ _=>v=(.bool (decide (∃ i:Int,0≤i∧i < X.length∧gi X i=z)))):=by
 refine fn_intro (N:=9) Try.func97 (by kernel_rfl) rfl rfl rfl (Nat.le_of_ble_eq_true rfl) ?_
 intro w0 D
 refine vc_seq ?_
 refine vc_region ?_
 refine oq (qv_as (Value.bool false) rfl) ?_
 refine ops_nil ?_
 refine vc_seq ?_
 refine vc_region ?_
 refine oq (qv_mv a rfl) ?_
 refine oq (qv_mv (Value.int .i64 z) rfl) ?_
 refine oq (qv_call (v:=(.int .i64 (firstI (fun i=>gi X i=z) X.length))) (IndexI_c hX) rfl rfl) ?_
 refine oq (qv_geq rfl rfl) ?_
 refine oq (qv_as (.bool (decide (0≤(firstI (fun i=>gi X i=z) X.length)))) rfl) ?_
 refine ops_nil ?_
 refine vc_ret ?_
 exact rq1 (.bool (decide (∃ i:Int,0≤i∧i < X.length∧gi X i=z))) (congrArg Value.bool (decide_eq_decide.2 (show (0≤(firstI (fun i=>gi X i=z) X.length)) ↔ (∃ i:Int,0≤i∧i < X.length∧gi X i=z) from by exact firstI_ex X.length))) rfl
theorem IndexF_c {V:HV} {a:Value} {X:List Fk} {n:Fk} (hX:Fks V a X) :
    FnC Try.prog 96 [a,(.agg #[(.int .i64 n.v),(.int .i64 n.l),(.int .i64 n.h)])] V [] (fun v _ _=>v=(.int .i64 (firstI (fun i=>fk X i=n) X.length))):=by
 refine fn_intro (N:=19) Try.func96 (by kernel_rfl) rfl rfl rfl (Nat.le_of_ble_eq_true rfl) ?_
 intro w0 D
 have hb:=SlS.bound hX
 refine vc_seq ?_
 refine vc_region ?_
 refine ops_box (v:=(.agg #[(.int .i64 n.v),(.int .i64 n.l),(.int .i64 n.h)])) (cs:=[(.int .i64 n.v),(.int .i64 n.l),(.int .i64 n.h)]) rfl rfl (fun b1=>?_)
 refine oq (qv_as (Value.int .i64 0) rfl) ?_
 refine ops_nil ?_
 refine vc_seq ?_
 refine vc_seq ?_
 let ζ1:Asrt:=Arr 80 b1 [(.int .i64 n.v),(.int .i64 n.l),(.int .i64 n.h)]
 refine vc_res (σ':=[ζ1]) rfl ?_
 refine vc_region ?_
 refine oq (qv_mv a rfl) ?_
 refine oq (qv_lenSS Try.underlying23 rfl hX) ?_
 refine oq (qv_mv (Value.int .i64 0) rfl) ?_
 refine ops_nil ?_
 refine vc_block ?_
 refine vc_loop (α:=Int) (fun (xx:Int)=>[(0,a),(1,(.agg #[(.int .i64 n.v),(.int .i64 n.l),(.int .i64 n.h)])),(3,(Value.pointer (some ⟨b1,0,none⟩))),(7,(.int .i64 ((X.length:Int)))),(8,(Value.int .i64 xx))]) (fun (xx:Int) V' σ'=>V=V'∧[ζ1]=σ'∧0≤xx∧xx≤X.length∧∀ x:Int,0≤x→x < xx→¬ fk X x=n) (fun (xx:Int)=>(X.length - xx).toNat) (0) ?_ ?_ ?_
 exact ⟨rfl,rfl,rfl,rfl,rfl,trivial⟩
 exact ⟨rfl,rfl,by omega,by omega,fun x a b=>by omega⟩
 rintro i e1 V0l σ0l hI0
 obtain ⟨rfl,rfl,i1,i2,hi⟩:V=V0l∧[ζ1]=σ0l∧0≤i∧i≤X.length∧∀ x:Int,0≤x→x < i→¬ fk X x=n:=hI0
 refine vc_seq ?_
 refine vc_region ?_
 refine oq (qv_lss rfl rfl) ?_
 refine ops_nil ?_
 refine vc_seq ?_
 refine vc_if rfl (fun c1=>?_) (fun c1=>?_)
 refine vc_skip ?_
 refine vc_seq ?_
 refine vc_block ?_
 refine vc_seq ?_
 refine vc_region ?_
 refine oq (qv_mv (Value.int .i64 i) rfl) ?_
 refine oq (qv_as (Value.int .i64 i) rfl) ?_
 refine ops_nil ?_
 refine vc_seq ?_
 refine vc_region_any Try.mixed (by kernel_rfl) ?_
 refine qq (qv_ldm (vs:=[(.int .i64 n.v),(.int .i64 n.l),(.int .i64 n.h)]) Try.agg80 rfl (inOc (k:=0) rfl) rfl rfl) ?_
 refine qq (qv_mv a rfl) ?_
 refine qq (qv_mv (Value.int .i64 i) rfl) ?_
 refine qq (qv_ias (v:=a) (i:=i) Try.underlying23 Try.size80 rfl hX rfl (by omega) (by omega)) ?_
 refine qq (qv_lds (v:=a) (i:=i) (vs:=[(.int .i64 ((fk X (i)).v)),(.int .i64 ((fk X (i)).l)),(.int .i64 ((fk X (i)).h))]) Try.agg80 rfl hX (by omega) (by omega) (fks_at (by omega) (by omega))) ?_
 refine qq (qv_eqls Try.eq80 [n.v,n.l,n.h] [(fk X (i)).v,(fk X (i)).l,(fk X (i)).h] rfl rfl rfl rfl rfl rfl eq3) ?_
 refine qops_nil ?_
 refine vc_if rfl (fun c2=>?_) (fun c2=>?_)
 refine vc_seq ?_
 refine vc_region ?_
 refine oq (qv_mv (Value.int .i64 i) rfl) ?_
 refine oq (qv_as (Value.int .i64 i) rfl) ?_
 refine ops_nil ?_
 refine vc_ret ?_
 refine blockQ_ret ?_
 refine blockQ_ret ?_
 exact rq1 (.int .i64 (firstI (fun i=>fk X i=n) X.length)) (congrArg (Value.int .i64) (show i=(firstI (fun i=>fk X i=n) X.length) from by exact (firstI_some (by omega) (fk_eq3 c2).symm hi X.length (by omega)).symm)) rfl
 refine vc_skip ?_
 refine vc_region ?_
 refine oq (qv_add rfl rfl (by omega)) ?_
 refine oq (qv_mv (.int .i64 (i+1)) rfl) ?_
 refine ops_nil ?_
 subst ζ1
 refine ⟨(i+1),⟨rfl,rfl,rfl,rfl,(congrArg (Value.int .i64) (show (i+1)=((i+1)) from by omega)),trivial⟩,⟨rfl,rfl,by omega,by omega,all_snoc hi (fun q=>c2 (by rw [← q]; exact ⟨rfl,rfl,rfl⟩))⟩,by omega⟩
 refine vc_exit ?_
 refine blockQ_hit ?_
 refine vc_seq ?_
 refine vc_region ?_
 refine oq (qv_as (.int .i64 ((-1))) rfl) ?_
 refine ops_nil ?_
 refine vc_ret ?_
 exact rq1 (.int .i64 (firstI (fun i=>fk X i=n) X.length)) (congrArg (Value.int .i64) (show ((-1))=(firstI (fun i=>fk X i=n) X.length) from by exact (firstI_none X.length (fun x a b=>hi x a (by omega))).symm)) rfl
theorem ContainsF_c {V:HV} {a:Value} {X:List Fk} {n:Fk} (hX:Fks V a X) :
    FnC Try.prog 49 [a,(.agg #[(.int .i64 n.v),(.int .i64 n.l),(.int .i64 n.h)])] V [] (fun v _ _=>v=(.bool (decide (∃ i:Int,0≤i∧i < X.length∧fk X i=n)))):=by
 refine fn_intro (N:=9) Try.func49 (by kernel_rfl) rfl rfl rfl (Nat.le_of_ble_eq_true rfl) ?_
 intro w0 D
 refine vc_seq ?_
 refine vc_region ?_
 refine ops_box (v:=(.agg #[(.int .i64 n.v),(.int .i64 n.l),(.int .i64 n.h)])) (cs:=[(.int .i64 n.v),(.int .i64 n.l),(.int .i64 n.h)]) rfl rfl (fun b1=>?_)
 refine oq (qv_as (Value.bool false) rfl) ?_
 refine ops_nil ?_
 refine vc_seq ?_
 refine vc_res (σ':=[(Arr 80 b1 [(.int .i64 n.v),(.int .i64 n.l),(.int .i64 n.h)])]) rfl ?_
 refine vc_region ?_
 refine oq (qv_mv a rfl) ?_
 refine oq (qv_ldm (vs:=[(.int .i64 n.v),(.int .i64 n.l),(.int .i64 n.h)]) Try.agg80 rfl (inOc (k:=0) rfl) rfl rfl) ?_
 refine oq (qv_call (v:=(.int .i64 (firstI (fun i=>fk X i=n) X.length))) (IndexF_c (n:=n) hX) rfl rfl) ?_
 refine oq (qv_geq rfl rfl) ?_
 refine oq (qv_as (.bool (decide (0≤(firstI (fun i=>fk X i=n) X.length)))) rfl) ?_
 refine ops_nil ?_
 refine vc_ret ?_
 exact rq1 (.bool (decide (∃ i:Int,0≤i∧i < X.length∧fk X i=n))) (congrArg Value.bool (decide_eq_decide.2 (show (0≤(firstI (fun i=>fk X i=n) X.length)) ↔ (∃ i:Int,0≤i∧i < X.length∧fk X i=n) from by exact firstI_ex X.length))) rfl
theorem IndexB_c {V:HV} {a:Value} {X:List Bool} {z:Bool} (hX:Bls V a X) :
    FnC Try.prog 99 [a,(.bool (decide (z=true)))] V [] (fun v _ _=>v=(.int .i64 (firstI (fun i=>gb X i=z) X.length))):=by
 refine fn_intro (N:=19) Try.func99 (by kernel_rfl) rfl rfl rfl (Nat.le_of_ble_eq_true rfl) ?_
 intro w0 D
 have hb:=hX.bound
 refine vc_seq ?_
 refine vc_region ?_
 refine oq (qv_as (Value.int .i64 0) rfl) ?_
 refine ops_nil ?_
 refine vc_seq ?_
 refine vc_seq ?_
 refine vc_region ?_
 refine oq (qv_mv a rfl) ?_
 refine oq (qv_lenB Try.underlying30 rfl hX) ?_
 refine oq (qv_mv (Value.int .i64 0) rfl) ?_
 refine ops_nil ?_
 refine vc_block ?_
 refine vc_loop (α:=Int) (fun (xx:Int)=>[(0,a),(1,(.bool (decide (z=true)))),(7,(.int .i64 ((X.length:Int)))),(8,(Value.int .i64 xx))]) (fun (xx:Int) V' σ'=>V=V'∧[]=σ'∧0≤xx∧xx≤X.length∧∀ x:Int,0≤x→x < xx→¬ gb X x=z) (fun (xx:Int)=>(X.length - xx).toNat) (0) ?_ ?_ ?_
 exact ⟨rfl,rfl,rfl,rfl,trivial⟩
 exact ⟨rfl,rfl,by omega,by omega,fun x a b=>by omega⟩
 rintro i e1 V0l σ0l hI0
 obtain ⟨rfl,rfl,i1,i2,hi⟩:V=V0l∧[]=σ0l∧0≤i∧i≤X.length∧∀ x:Int,0≤x→x < i→¬ gb X x=z:=hI0
 refine vc_seq ?_
 refine vc_region ?_
 refine oq (qv_lss rfl rfl) ?_
 refine ops_nil ?_
 refine vc_seq ?_
 refine vc_if rfl (fun c1=>?_) (fun c1=>?_)
 refine vc_skip ?_
 refine vc_seq ?_
 refine vc_block ?_
 refine vc_seq ?_
 refine vc_region ?_
 refine oq (qv_mv (Value.int .i64 i) rfl) ?_
 refine oq (qv_as (Value.int .i64 i) rfl) ?_
 refine ops_nil ?_
 refine vc_seq ?_
 refine vc_region ?_
 refine oq (qv_mv (.bool (decide (z=true))) rfl) ?_
 refine oq (qv_mv a rfl) ?_
 refine oq (qv_mv (Value.int .i64 i) rfl) ?_
 refine oq (qv_iab (v:=a) (i:=i) Try.underlying30 Try.size4 rfl (inVb hX) rfl (by omega) (by omega)) ?_
 refine oq (qv_ldb (v:=a) (i:=i) Try.plain4 rfl (inVb hX) (by omega) (by omega)) ?_
 refine oq (qv_iffb Try.underlying4 rfl rfl) ?_
 refine ops_nil ?_
 refine vc_if rfl (fun c2=>?_) (fun c2=>?_)
 refine vc_seq ?_
 refine vc_region ?_
 refine oq (qv_mv (Value.int .i64 i) rfl) ?_
 refine oq (qv_as (Value.int .i64 i) rfl) ?_
 refine ops_nil ?_
 refine vc_ret ?_
 refine blockQ_ret ?_
 refine blockQ_ret ?_
 exact rq1 (.int .i64 (firstI (fun i=>gb X i=z) X.length)) (congrArg (Value.int .i64) (show i=(firstI (fun i=>gb X i=z) X.length) from by exact (firstI_some (by omega) (Bool.eq_iff_iff.2 c2.symm) hi X.length (by omega)).symm)) rfl
 refine vc_skip ?_
 refine vc_region ?_
 refine oq (qv_add rfl rfl (by omega)) ?_
 refine oq (qv_mv (.int .i64 (i+1)) rfl) ?_
 refine ops_nil ?_
 refine ⟨(i+1),⟨rfl,rfl,rfl,(congrArg (Value.int .i64) (show (i+1)=((i+1)) from by omega)),trivial⟩,⟨rfl,rfl,by omega,by omega,all_snoc hi (fun q=>c2 (by rw [q]))⟩,by omega⟩
 refine vc_exit ?_
 refine blockQ_hit ?_
 refine vc_seq ?_
 refine vc_region ?_
 refine oq (qv_as (.int .i64 ((-1))) rfl) ?_
 refine ops_nil ?_
 refine vc_ret ?_
 exact rq1 (.int .i64 (firstI (fun i=>gb X i=z) X.length)) (congrArg (Value.int .i64) (show ((-1))=(firstI (fun i=>gb X i=z) X.length) from by exact (firstI_none X.length (fun x a b=>hi x a (by omega))).symm)) rfl
theorem ContainsB_c {V:HV} {a:Value} {X:List Bool} {z:Bool} (hX:Bls V a X) :
    FnC Try.prog 52 [a,(.bool (decide (z=true)))] V [] (fun v _ _=>v=(.bool (decide (∃ i:Int,0≤i∧i < X.length∧gb X i=z)))):=by
 refine fn_intro (N:=9) Try.func52 (by kernel_rfl) rfl rfl rfl (Nat.le_of_ble_eq_true rfl) ?_
 intro w0 D
 refine vc_seq ?_
 refine vc_region ?_
 refine oq (qv_as (Value.bool false) rfl) ?_
 refine ops_nil ?_
 refine vc_seq ?_
 refine vc_region ?_
 refine oq (qv_mv a rfl) ?_
 refine oq (qv_mv (.bool (decide (z=true))) rfl) ?_
 refine oq (qv_call (v:=(.int .i64 (firstI (fun i=>gb X i=z) X.length))) (IndexB_c (z:=z) hX) rfl rfl) ?_
 refine oq (qv_geq rfl rfl) ?_
 refine oq (qv_as (.bool (decide (0≤(firstI (fun i=>gb X i=z) X.length)))) rfl) ?_
 refine ops_nil ?_
 refine vc_ret ?_
 exact rq1 (.bool (decide (∃ i:Int,0≤i∧i < X.length∧gb X i=z))) (congrArg Value.bool (decide_eq_decide.2 (show (0≤(firstI (fun i=>gb X i=z) X.length)) ↔ (∃ i:Int,0≤i∧i < X.length∧gb X i=z) from by exact firstI_ex X.length))) rfl
theorem isNaN_c {V:HV} {x:Int} :
    FnC Try.prog 127 [(Value.int .i64 x)] V [] (fun v _ _=>v=(Value.bool false)):=by
 refine fn_intro (N:=6) Try.func127 (by kernel_rfl) rfl rfl rfl (Nat.le_of_ble_eq_true rfl) ?_
 intro w0 D
 refine vc_seq ?_
 refine vc_region ?_
 refine oq (qv_as (Value.bool false) rfl) ?_
 refine ops_nil ?_
 refine vc_seq ?_
 refine vc_region ?_
 refine oq (qv_mv (Value.int .i64 x) rfl) ?_
 refine oq (qv_mv (Value.int .i64 x) rfl) ?_
 refine oq (qv_neq rfl rfl) ?_
 refine oq (qv_as (.bool (decide (x ≠ x))) rfl) ?_
 refine ops_nil ?_
 refine vc_ret ?_
 exact rq1 (Value.bool false) (congrArg Value.bool (decide_eq_false (show ¬ (x ≠ x) from by exact fun q=>q rfl))) rfl
theorem Less_c {V:HV} {x y:Int} :
    FnC Try.prog 98 [(Value.int .i64 x),(Value.int .i64 y)] V [] (fun v _ _=>v=(.bool (decide (x < y)))):=by
 refine fn_intro (N:=17) Try.func98 (by kernel_rfl) rfl rfl rfl (Nat.le_of_ble_eq_true rfl) ?_
 intro w0 D
 refine vc_seq ?_
 refine vc_region ?_
 refine oq (qv_as (Value.bool false) rfl) ?_
 refine ops_nil ?_
 refine vc_seq ?_
 refine vc_region ?_
 refine oq (qv_mv (Value.int .i64 x) rfl) ?_
 refine oq (qv_call (v:=(Value.bool false)) (isNaN_c) rfl rfl) ?_
 refine oq (qv_mv (Value.bool false) rfl) ?_
 refine os (want_tnc rfl rfl rfl) ?_
 refine os (want_tnc rfl rfl rfl) ?_
 refine os (want_tnc rfl rfl rfl) ?_
 refine oq (qv_pick_fc rfl (rfl:ev _ _=(Value.bool false))) ?_
 refine oq (qv_mv (Value.bool false) rfl) ?_
 refine og (qv_mv (Value.int .i64 x) rfl) (want_fc rfl rfl rfl) ?_
 refine og (qv_mv (Value.int .i64 y) rfl) (want_fc rfl rfl rfl) ?_
 refine og (qv_lss rfl rfl) (want_fc rfl rfl rfl) ?_
 refine oq (qv_pick_fc rfl (rfl:ev _ _=(.bool (decide (x < y))))) ?_
 refine oq (qv_as (.bool (decide (x < y))) rfl) ?_
 refine ops_nil ?_
 refine vc_ret ?_
 exact rq1 (.bool (decide (x < y))) rfl rfl
theorem IsSorted_c {V:HV} {a:Value} {X:List Int} (hX:Ints .i64 V a X) :
    FnC Try.prog 51 [a] V [] (fun v _ _=>v=(.bool (decide (srtB X)))):=by
 refine fn_intro (N:=21) Try.func51 (by kernel_rfl) rfl rfl rfl (Nat.le_of_ble_eq_true rfl) ?_
 intro w0 D
 have hb:=hX.bound
 refine vc_seq ?_
 refine vc_region ?_
 refine oq (qv_as (Value.bool false) rfl) ?_
 refine ops_nil ?_
 refine vc_seq ?_
 refine vc_seq ?_
 refine vc_region ?_
 refine oq (qv_mv a rfl) ?_
 refine oq (qv_lenI Try.underlying22 rfl hX) ?_
 refine oq (qv_sub rfl rfl (by omega)) ?_
 refine oq (qv_as (.int .i64 (((X.length:Int)) - 1)) rfl) ?_
 refine ops_nil ?_
 refine vc_block ?_
 refine vc_loop (α:=Int) (fun (xx:Int)=>[(0,a),(3,(Value.int .i64 xx))]) (fun (xx:Int) V' σ'=>V=V'∧[]=σ'∧-1≤xx∧xx < X.length∧∀ x:Int,xx < x→0 < x→x < X.length→gi X (x - 1)≤gi X x) (fun (xx:Int)=>(xx+1).toNat) (((X.length:Int) - 1)) ?_ ?_ ?_
 exact ⟨rfl,(congrArg (Value.int .i64) (show (((X.length:Int)) - 1)=((((X.length:Int) - 1))) from by first | omega | simp)),trivial⟩
 exact ⟨rfl,rfl,by omega,by omega,fun x a b c=>by omega⟩
 rintro i e1 V0l σ0l hI0
 obtain ⟨rfl,rfl,i1,i2,hi⟩:V=V0l∧[]=σ0l∧-1≤i∧i < X.length∧∀ x:Int,i < x→0 < x→x < X.length→gi X (x - 1)≤gi X x:=hI0
 refine vc_seq ?_
 refine vc_seq ?_
 refine vc_region ?_
 refine oq (qv_mv (Value.int .i64 i) rfl) ?_
 refine oq (qv_gtr rfl rfl) ?_
 refine ops_nil ?_
 refine vc_if rfl (fun c1=>?_) (fun c1=>?_)
 refine vc_skip ?_
 refine vc_seq ?_
 refine vc_block ?_
 refine vc_seq ?_
 refine vc_region_any Try.mixed (by kernel_rfl) ?_
 refine qq (qv_mv a rfl) ?_
 refine qq (qv_mv (Value.int .i64 i) rfl) ?_
 refine qq (qv_iai (v:=a) (i:=i) Try.underlying22 Try.size3 rfl (inVi hX) rfl (by omega) (by omega)) ?_
 refine qq (qv_ldi (v:=a) (i:=i) Try.plain3 rfl (inVi hX) (by omega) (by omega)) ?_
 refine qq (qv_mv a rfl) ?_
 refine qq (qv_mv (Value.int .i64 i) rfl) ?_
 refine qq (qv_sub rfl rfl (by omega)) ?_
 refine qq (qv_iai (v:=a) (i:=i - 1) Try.underlying22 Try.size3 rfl (inVi hX) rfl (by omega) (by omega)) ?_
 refine qq (qv_ldi (v:=a) (i:=i - 1) Try.plain3 rfl (inVi hX) (by omega) (by omega)) ?_
 refine qq (qv_call (v:=(.bool (decide (gi X (i) < gi X (i - 1))))) (Less_c) rfl rfl) ?_
 refine qops_nil ?_
 refine vc_if rfl (fun c2=>?_) (fun c2=>?_)
 refine vc_seq ?_
 refine vc_region ?_
 refine oq (qv_as (Value.bool false) rfl) ?_
 refine ops_nil ?_
 refine vc_ret ?_
 refine blockQ_ret ?_
 refine blockQ_ret ?_
 exact rq1 (.bool (decide (srtB X))) (congrArg Value.bool (decide_eq_false (show ¬ (srtB X) from by exact fun q=>by have:=q i (by omega) (by omega); omega)).symm) rfl
 refine vc_skip ?_
 refine vc_region ?_
 refine oq (qv_mv (Value.int .i64 i) rfl) ?_
 refine oq (qv_sub rfl rfl (by omega)) ?_
 refine oq (qv_as (.int .i64 (i - 1)) rfl) ?_
 refine ops_nil ?_
 refine ⟨(i - 1),⟨rfl,(congrArg (Value.int .i64) (show (i - 1)=((i - 1)) from by omega)),trivial⟩,⟨rfl,rfl,by omega,by omega,fun x a b c=>by
     by_cases e:x=i
     subst e; omega
     exact hi x (by omega) b c⟩,by omega⟩
 refine vc_exit ?_
 refine blockQ_hit ?_
 refine vc_seq ?_
 refine vc_region ?_
 refine oq (qv_as (Value.bool true) rfl) ?_
 refine ops_nil ?_
 refine vc_ret ?_
 exact rq1 (.bool (decide (srtB X))) (congrArg Value.bool (decide_eq_true (show (srtB X) from by exact fun x a b=>hi x (by omega) a b)).symm) rfl
theorem inRangeR_c {V:HV} {z:Int} :
    FnC Try.prog 39 [(Value.int .i64 z)] V [] (fun v _ _=>v=(.bool (decide (inR z)))):=by
 refine fn_intro (N:=9) Try.func39 (by kernel_rfl) rfl rfl rfl (Nat.le_of_ble_eq_true rfl) ?_
 intro w0 D
 refine vc_seq ?_
 refine vc_region ?_
 refine oq (qv_as (Value.bool false) rfl) ?_
 refine ops_nil ?_
 refine vc_seq ?_
 refine vc_region ?_
 refine oq (qv_mv (Value.int .i64 z) rfl) ?_
 refine oq (qv_geq rfl rfl) ?_
 refine oq (qv_mv (.bool (decide (((-1099511627776))≤z))) rfl) ?_
 by_cases g1:((-1099511627776))≤z
 refine og (qv_mv (Value.int .i64 z) rfl) (want_t g1 rfl rfl rfl) ?_
 refine og (qv_leq rfl rfl) (want_t g1 rfl rfl rfl) ?_
 refine oq (qv_pick_t g1 rfl (rfl:ev _ _=(.bool (decide (z≤1099511627776))))) ?_
 refine oq (qv_as (.bool (decide (z≤1099511627776))) rfl) ?_
 refine ops_nil ?_
 refine vc_ret ?_
 exact rq1 (.bool (decide (inR z))) (congrArg Value.bool (decide_eq_decide.2 (show (z≤1099511627776) ↔ (inR z) from by exact ⟨fun q=>⟨by omega,by omega⟩,fun q=>by have:=q.1; have:=q.2; omega⟩))) rfl
 refine os (want_tn g1 rfl rfl rfl) ?_
 refine os (want_tn g1 rfl rfl rfl) ?_
 refine oq (qv_pick_f g1 rfl (rfl:ev _ _=(Value.bool false))) ?_
 refine oq (qv_as (Value.bool false) rfl) ?_
 refine ops_nil ?_
 refine vc_ret ?_
 exact rq1 (.bool (decide (inR z))) (congrArg Value.bool (decide_eq_false (show ¬ (inR z) from by exact fun q=>by have:=q.1; have:=q.2; omega)).symm) rfl
end Go.Proofs.Ytkmhjcjpohpiaaa
