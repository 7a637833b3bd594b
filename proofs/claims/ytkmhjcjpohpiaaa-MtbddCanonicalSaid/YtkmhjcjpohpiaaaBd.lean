import Derived.Test.YtkmhjcjpohpiaaaBc
/- Walks of bdd: what each function returns. Printed by a program out of notes. -/
namespace Go.Proofs.Ytkmhjcjpohpiaaa.Bd
open Go.Vc
open Classical
set_option maxRecDepth 100000
set_option maxHeartbeats 4000000
theorem valid_c {V:HV} {lv:Value} {nvs:List Value} {Ds:List Dg} (hB:Bdl V lv nvs Ds) (h1:1≤Ds.length) :
    FnC Try.prog 75 [lv] V [] (fun v _ _=>v=(.int .i64 (vE Ds))):=by
 refine fn_intro (N:=31) Try.func75 (by kernel_rfl) rfl rfl rfl (Nat.le_of_ble_eq_true rfl) ?_
 intro w0 D
 have hb:=SlS.bound hB.sl
 refine vc_seq ?_
 refine vc_region ?_
 refine oq (qv_as (Value.int .i64 0) rfl) ?_
 refine ops_nil ?_
 refine vc_seq ?_
 refine vc_seq ?_
 refine vc_region ?_
 refine oq (qv_mv lv rfl) ?_
 refine oq (qv_lenSS Try.underlying141 rfl hB.sl) ?_
 refine oq (qv_mv (Value.int .i64 0) rfl) ?_
 refine ops_nil ?_
 refine vc_block ?_
 refine vc_loop (α:=Int) (fun (xx:Int)=>[(0,lv),(7,lv),(8,(.int .i64 ((Ds.length:Int)))),(9,(Value.int .i64 xx))]) (fun (xx:Int) V' σ'=>V=V'∧[]=σ'∧0≤xx∧xx≤Ds.length∧∀ j:Int,0≤j→j < xx→dOk (dg Ds j)) (fun (xx:Int)=>(Ds.length - xx).toNat) (0) ?_ ?_ ?_
 exact ⟨rfl,rfl,rfl,rfl,trivial⟩
 exact ⟨rfl,rfl,by omega,by omega,fun j a b=>by omega⟩
 rintro i e1 V0l σ0l hI0
 obtain ⟨rfl,rfl,i1,i2,hv⟩:V=V0l∧[]=σ0l∧0≤i∧i≤Ds.length∧∀ j:Int,0≤j→j < i→dOk (dg Ds j):=hI0
 refine vc_seq ?_
 refine vc_region ?_
 refine oq (qv_lss rfl rfl) ?_
 refine ops_nil ?_
 refine vc_seq ?_
 refine vc_if rfl (fun c1=>?_) (fun c1=>?_)
 refine vc_skip ?_
 refine vc_seq ?_
 refine vc_block ?_
 refine vc_seq ?_
 refine vc_region ?_
 refine oq (qv_ias (v:=lv) (i:=i) Try.underlying141 Try.size59 rfl hB.sl rfl (by omega) (by omega)) ?_
 refine oq (qv_lds (v:=lv) (i:=i) (vs:=[(.int .i64 ((dg Ds (i)).v)),(gv nvs (i)),(.int .i64 ((dg Ds (i)).r))]) Try.agg59 rfl hB.sl (by omega) (by omega) (bdls_at (by omega) (by omega))) ?_
 refine ops_alloc Try.ti59 rfl (fun b1=>?_)
 refine ops_stw (k:=0) (vs:=[(.int .i64 ((dg Ds (i)).v)),(gv nvs (i)),(.int .i64 ((dg Ds (i)).r))]) Try.size59 rfl rfl rfl (allc rfl (allc (SlS.one (hB.at_ (i) (by omega) (by omega))) (allc rfl rfl))) rfl rfl ?_
 refine ops_nil ?_
 refine vc_seq ?_
 refine vc_res (σ':=[(Arr 59 b1 [(.int .i64 ((dg Ds (i)).v)),(gv nvs (i)),(.int .i64 ((dg Ds (i)).r))])]) rfl ?_
 refine vc_region ?_
 refine oq (qv_ldm (vs:=[(.int .i64 ((dg Ds (i)).v)),(gv nvs (i)),(.int .i64 ((dg Ds (i)).r))]) Try.agg59 rfl (inOc (k:=0) rfl) rfl rfl) ?_
 refine oq (qv_call (v:=(.int .i64 (chkC (dg Ds (i)).v (dg Ds (i)).N (dg Ds (i)).r))) (Check_c (hB.at_ i (by omega) (by omega))) rfl rfl) ?_
 refine oq (qv_neq rfl rfl) ?_
 refine ops_nil ?_
 refine vc_if rfl (fun c2=>?_) (fun c2=>?_)
 refine vc_seq ?_
 refine vc_region ?_
 refine oq (qv_as (Value.int .i64 1) rfl) ?_
 refine ops_nil ?_
 refine vc_ret ?_
 refine blockQ_ret ?_
 refine blockQ_ret ?_
 exact rq1 (.int .i64 (vE Ds)) (congrArg (Value.int .i64) (show 1=(vE Ds) from by exact (vE_1 fun q=>absurd (chk_0 (q i (by omega) (by omega))) (by assumption)).symm)) rfl
 refine vc_skip ?_
 refine vc_drop [] [(Arr 59 b1 [(Value.int .i64 ((dg Ds (i)).v)),(gv nvs (i)),(Value.int .i64 ((dg Ds (i)).r))])] ((List.perm_middle (l₁:=[]) (l₂:=[])).trans (List.perm_append_comm (l₁:=[(Arr 59 b1 [(Value.int .i64 ((dg Ds (i)).v)),(gv nvs (i)),(Value.int .i64 ((dg Ds (i)).r))])]))) ?_
 refine vc_region ?_
 refine oq (qv_add rfl rfl (by omega)) ?_
 refine oq (qv_mv (.int .i64 (i+1)) rfl) ?_
 refine ops_nil ?_
 refine ⟨(i+1),⟨rfl,rfl,rfl,(congrArg (Value.int .i64) (show (i+1)=((i+1)) from by omega)),trivial⟩,⟨rfl,rfl,by omega,by omega,all_snoc hv (chk_ok.1 (Decidable.not_not.1 (by assumption)))⟩,by omega⟩
 refine vc_exit ?_
 refine blockQ_hit ?_
 refine vc_seq ?_
 refine vc_seq ?_
 have hV:Vld Ds:=fun x a b=>hv x a (by omega)
 refine vc_region ?_
 refine oq (qv_mv lv rfl) ?_
 refine oq (qv_lenSS Try.underlying141 rfl hB.sl) ?_
 refine oq (qv_mv (Value.int .i64 0) rfl) ?_
 refine ops_nil ?_
 refine vc_block ?_
 refine vc_loop (α:=Int) (fun (xx:Int)=>[(0,lv),(7,lv),(8,(.int .i64 ((Ds.length:Int)))),(9,(Value.int .i64 i)),(10,(.bool (decide (i < ((Ds.length:Int)))))),(17,lv),(18,(.int .i64 ((Ds.length:Int)))),(19,(Value.int .i64 xx))]) (fun (xx:Int) V' σ'=>V=V'∧[]=σ'∧0≤xx∧xx≤Ds.length∧∀ k:Int,0≤k→k < xx→(dg Ds k).v=(dg Ds 0).v) (fun (xx:Int)=>(Ds.length - xx).toNat) (0) ?_ ?_ ?_
 exact ⟨rfl,rfl,rfl,rfl,rfl,rfl,rfl,rfl,trivial⟩
 exact ⟨rfl,rfl,by omega,by omega,fun j a b=>by omega⟩
 rintro j e2 V1l σ1l hI1
 obtain ⟨rfl,rfl,i3,i4,hs⟩:V=V1l∧[]=σ1l∧0≤j∧j≤Ds.length∧∀ k:Int,0≤k→k < j→(dg Ds k).v=(dg Ds 0).v:=hI1
 refine vc_seq ?_
 refine vc_region ?_
 refine oq (qv_lss rfl rfl) ?_
 refine ops_nil ?_
 refine vc_seq ?_
 refine vc_if rfl (fun c3=>?_) (fun c3=>?_)
 refine vc_skip ?_
 refine vc_seq ?_
 refine vc_block ?_
 refine vc_seq ?_
 refine vc_region ?_
 refine oq (qv_ias (v:=lv) (i:=j) Try.underlying141 Try.size59 rfl hB.sl rfl (by omega) (by omega)) ?_
 refine oq (qv_lds (v:=lv) (i:=j) (vs:=[(.int .i64 ((dg Ds (j)).v)),(gv nvs (j)),(.int .i64 ((dg Ds (j)).r))]) Try.agg59 rfl hB.sl (by omega) (by omega) (bdls_at (by omega) (by omega))) ?_
 refine ops_alloc Try.ti59 rfl (fun b2=>?_)
 refine ops_stw (k:=0) (vs:=[(.int .i64 ((dg Ds (j)).v)),(gv nvs (j)),(.int .i64 ((dg Ds (j)).r))]) Try.size59 rfl rfl rfl (allc rfl (allc (SlS.one (hB.at_ (j) (by omega) (by omega))) (allc rfl rfl))) rfl rfl ?_
 refine ops_nil ?_
 refine vc_seq ?_
 refine vc_res (σ':=[(Arr 59 b2 [(.int .i64 ((dg Ds (j)).v)),(gv nvs (j)),(.int .i64 ((dg Ds (j)).r))])]) rfl ?_
 refine vc_region_any Try.mixed (by kernel_rfl) ?_
 refine qq (qv_fa (off:=0) Try.field59_0 rfl) ?_
 refine qq (qv_ldp (v:=(.int .i64 ((dg Ds (j)).v))) Try.plain3 rfl (inOc (k:=0) rfl) rfl) ?_
 refine qq (qv_mv lv rfl) ?_
 refine qq (qv_ias (v:=lv) (i:=0) Try.underlying141 Try.size59 rfl hB.sl rfl (by omega) (by omega)) ?_
 refine qq (qv_fas Try.field59_0 rfl hB.sl (by omega) (by omega)) ?_
 refine qq (qv_ldf (u:=(.int .i64 ((dg Ds (0)).v))) (v:=lv) (i:=0) Try.plain3 rfl hB.sl (by omega) (by omega) (by omega) (bdls_el (o:=0) (by omega) (by omega) (by omega) rfl)) ?_
 refine qq (qv_neq rfl rfl) ?_
 refine qops_nil ?_
 refine vc_if rfl (fun c4=>?_) (fun c4=>?_)
 refine vc_seq ?_
 refine vc_region ?_
 refine oq (qv_as (Value.int .i64 2) rfl) ?_
 refine ops_nil ?_
 refine vc_ret ?_
 refine blockQ_ret ?_
 refine blockQ_ret ?_
 exact rq1 (.int .i64 (vE Ds)) (congrArg (Value.int .i64) (show 2=(vE Ds) from by exact (vE_2 hV fun q=>absurd (q j (by omega) (by omega)) (by assumption)).symm)) rfl
 refine vc_skip ?_
 refine vc_drop [] [(Arr 59 b2 [(Value.int .i64 ((dg Ds (j)).v)),(gv nvs (j)),(Value.int .i64 ((dg Ds (j)).r))])] ((List.perm_middle (l₁:=[]) (l₂:=[])).trans (List.perm_append_comm (l₁:=[(Arr 59 b2 [(Value.int .i64 ((dg Ds (j)).v)),(gv nvs (j)),(Value.int .i64 ((dg Ds (j)).r))])]))) ?_
 refine vc_region ?_
 refine oq (qv_add rfl rfl (by omega)) ?_
 refine oq (qv_mv (.int .i64 (j+1)) rfl) ?_
 refine ops_nil ?_
 refine ⟨(j+1),⟨rfl,rfl,rfl,rfl,rfl,rfl,rfl,(congrArg (Value.int .i64) (show (j+1)=((j+1)) from by omega)),trivial⟩,⟨rfl,rfl,by omega,by omega,all_snoc hs (Decidable.not_not.1 (by assumption))⟩,by omega⟩
 refine vc_exit ?_
 refine blockQ_hit ?_
 refine vc_seq ?_
 refine vc_region ?_
 refine oq (qv_as (Value.int .i64 0) rfl) ?_
 refine ops_nil ?_
 refine vc_ret ?_
 exact rq1 (.int .i64 (vE Ds)) (congrArg (Value.int .i64) (show 0=(vE Ds) from by exact (vE_0 hV fun x a b=>hs x a (by omega)).symm)) rfl
end Go.Proofs.Ytkmhjcjpohpiaaa.Bd
