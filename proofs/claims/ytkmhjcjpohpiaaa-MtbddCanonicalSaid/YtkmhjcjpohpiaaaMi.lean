import Derived.Test.YtkmhjcjpohpiaaaMh
import Derived.Test.YtkmhjcjpohpiaaaWn
/- Walks of mtbdd: what each function returns. Printed by a program out of notes. -/
namespace Go.Proofs.Ytkmhjcjpohpiaaa
open Go.Vc
open Classical
set_option maxRecDepth 100000
set_option maxHeartbeats 4000000
theorem checked_c {V:HV} {lv:Value} {lvs nvs:List Value} {Ds:List Mg} (hB:Mdl V lv lvs nvs Ds) (h1:1≤Ds.length) :
    FnC Try.prog 53 [lv] V [] (fun v _ _=>v=(.int .i64 (vE Ds))):=by
 refine fn_intro (N:=31) Try.func53 (by kernel_rfl) rfl rfl rfl (Nat.le_of_ble_eq_true rfl) ?_
 intro w0 D
 have hb:=SlS.bound hB.sl
 refine vc_seq ?_
 refine vc_region ?_
 refine oq (qv_as (Value.int .i64 0) rfl) ?_
 refine ops_nil ?_
 refine vc_seq ?_
 refine vc_seq ?_
 refine vc_region ?_
 refine oq (qv_mv lv rfl) ?_
 refine oq (qv_lenSS Try.underlying102 rfl hB.sl) ?_
 refine oq (qv_mv (Value.int .i64 0) rfl) ?_
 refine ops_nil ?_
 refine vc_block ?_
 refine vc_loop (α:=Int) (fun (xx:Int)=>[(0,lv),(7,lv),(8,(.int .i64 ((Ds.length:Int)))),(9,(Value.int .i64 xx))]) (fun (xx:Int) V' σ'=>V=V'∧[]=σ'∧0≤xx∧xx≤Ds.length∧∀ j:Int,0≤j→j < xx→Ok (dm Ds j)) (fun (xx:Int)=>(Ds.length - xx).toNat) (0) ?_ ?_ ?_
 exact ⟨rfl,rfl,rfl,rfl,trivial⟩
 exact ⟨rfl,rfl,by omega,by omega,fun j a b=>by omega⟩
 rintro i e1 V0l σ0l hI0
 obtain ⟨rfl,rfl,i1,i2,hv⟩:V=V0l∧[]=σ0l∧0≤i∧i≤Ds.length∧∀ j:Int,0≤j→j < i→Ok (dm Ds j):=hI0
 refine vc_seq ?_
 refine vc_region ?_
 refine oq (qv_lss rfl rfl) ?_
 refine ops_nil ?_
 refine vc_seq ?_
 refine vc_if rfl (fun c1=>?_) (fun c1=>?_)
 refine vc_skip ?_
 refine vc_seq ?_
 refine vc_block ?_
 refine vc_seq ?_
 refine vc_region ?_
 refine oq (qv_ias (v:=lv) (i:=i) Try.underlying102 Try.size25 rfl hB.sl rfl (by omega) (by omega)) ?_
 refine oq (qv_lds (v:=lv) (i:=i) (vs:=[(.int .i64 ((dm Ds (i)).v)),(gv lvs (i)),(gv nvs (i)),(.int .i64 ((dm Ds (i)).r))]) Try.agg25 rfl hB.sl (by omega) (by omega) (mdls_at (by omega) (by omega))) ?_
 refine ops_alloc Try.ti25 rfl (fun b1=>?_)
 refine ops_stw (k:=0) (vs:=[(.int .i64 ((dm Ds (i)).v)),(gv lvs (i)),(gv nvs (i)),(.int .i64 ((dm Ds (i)).r))]) Try.size25 rfl rfl rfl (allc rfl (allc (Sl.one (hB.at_ (i) (by omega) (by omega)).l) (allc (SlS.one (hB.at_ (i) (by omega) (by omega)).n) (allc rfl rfl)))) rfl rfl ?_
 refine ops_nil ?_
 refine vc_seq ?_
 refine vc_res (σ':=[(Arr 25 b1 [(.int .i64 ((dm Ds (i)).v)),(gv lvs (i)),(gv nvs (i)),(.int .i64 ((dm Ds (i)).r))])]) rfl ?_
 refine vc_region ?_
 refine oq (qv_ldm (vs:=[(.int .i64 ((dm Ds (i)).v)),(gv lvs (i)),(gv nvs (i)),(.int .i64 ((dm Ds (i)).r))]) Try.agg25 rfl (inOc (k:=0) rfl) rfl rfl) ?_
 refine oq (qv_call (v:=(.int .i64 (chkC (dm Ds (i))))) (Check_c (hB.at_ i (by omega) (by omega))) rfl rfl) ?_
 refine oq (qv_neq rfl rfl) ?_
 refine ops_nil ?_
 refine vc_if rfl (fun c2=>?_) (fun c2=>?_)
 refine vc_seq ?_
 refine vc_region ?_
 refine oq (qv_as (Value.int .i64 1) rfl) ?_
 refine ops_nil ?_
 refine vc_ret ?_
 refine blockQ_ret ?_
 refine blockQ_ret ?_
 exact rq1 (.int .i64 (vE Ds)) (congrArg (Value.int .i64) (show 1=(vE Ds) from by exact (vE_1 fun q=>absurd (chk_0 (q i (by omega) (by omega))) (by assumption)).symm)) rfl
 refine vc_skip ?_
 refine vc_drop [] [(Arr 25 b1 [(Value.int .i64 ((dm Ds (i)).v)),(gv lvs (i)),(gv nvs (i)),(Value.int .i64 ((dm Ds (i)).r))])] ((List.perm_middle (l₁:=[]) (l₂:=[])).trans (List.perm_append_comm (l₁:=[(Arr 25 b1 [(Value.int .i64 ((dm Ds (i)).v)),(gv lvs (i)),(gv nvs (i)),(Value.int .i64 ((dm Ds (i)).r))])]))) ?_
 refine vc_region ?_
 refine oq (qv_add rfl rfl (by omega)) ?_
 refine oq (qv_mv (.int .i64 (i+1)) rfl) ?_
 refine ops_nil ?_
 refine ⟨(i+1),⟨rfl,rfl,rfl,(congrArg (Value.int .i64) (show (i+1)=((i+1)) from by omega)),trivial⟩,⟨rfl,rfl,by omega,by omega,all_snoc hv (chk_ok.1 (Decidable.not_not.1 (by assumption)))⟩,by omega⟩
 refine vc_exit ?_
 refine blockQ_hit ?_
 refine vc_seq ?_
 refine vc_seq ?_
 have hV:Vld Ds:=fun x a b=>hv x a (by omega)
 refine vc_region ?_
 refine oq (qv_mv lv rfl) ?_
 refine oq (qv_lenSS Try.underlying102 rfl hB.sl) ?_
 refine oq (qv_mv (Value.int .i64 0) rfl) ?_
 refine ops_nil ?_
 refine vc_block ?_
 refine vc_loop (α:=Int) (fun (xx:Int)=>[(0,lv),(7,lv),(8,(.int .i64 ((Ds.length:Int)))),(9,(Value.int .i64 i)),(10,(.bool (decide (i < ((Ds.length:Int)))))),(17,lv),(18,(.int .i64 ((Ds.length:Int)))),(19,(Value.int .i64 xx))]) (fun (xx:Int) V' σ'=>V=V'∧[]=σ'∧0≤xx∧xx≤Ds.length∧∀ k:Int,0≤k→k < xx→(dm Ds k).v=(dm Ds 0).v) (fun (xx:Int)=>(Ds.length - xx).toNat) (0) ?_ ?_ ?_
 exact ⟨rfl,rfl,rfl,rfl,rfl,rfl,rfl,rfl,trivial⟩
 exact ⟨rfl,rfl,by omega,by omega,fun j a b=>by omega⟩
 rintro j e2 V1l σ1l hI1
 obtain ⟨rfl,rfl,i3,i4,hs⟩:V=V1l∧[]=σ1l∧0≤j∧j≤Ds.length∧∀ k:Int,0≤k→k < j→(dm Ds k).v=(dm Ds 0).v:=hI1
 refine vc_seq ?_
 refine vc_region ?_
 refine oq (qv_lss rfl rfl) ?_
 refine ops_nil ?_
 refine vc_seq ?_
 refine vc_if rfl (fun c3=>?_) (fun c3=>?_)
 refine vc_skip ?_
 refine vc_seq ?_
 refine vc_block ?_
 refine vc_seq ?_
 refine vc_region ?_
 refine oq (qv_ias (v:=lv) (i:=j) Try.underlying102 Try.size25 rfl hB.sl rfl (by omega) (by omega)) ?_
 refine oq (qv_lds (v:=lv) (i:=j) (vs:=[(.int .i64 ((dm Ds (j)).v)),(gv lvs (j)),(gv nvs (j)),(.int .i64 ((dm Ds (j)).r))]) Try.agg25 rfl hB.sl (by omega) (by omega) (mdls_at (by omega) (by omega))) ?_
 refine ops_alloc Try.ti25 rfl (fun b2=>?_)
 refine ops_stw (k:=0) (vs:=[(.int .i64 ((dm Ds (j)).v)),(gv lvs (j)),(gv nvs (j)),(.int .i64 ((dm Ds (j)).r))]) Try.size25 rfl rfl rfl (allc rfl (allc (Sl.one (hB.at_ (j) (by omega) (by omega)).l) (allc (SlS.one (hB.at_ (j) (by omega) (by omega)).n) (allc rfl rfl)))) rfl rfl ?_
 refine ops_nil ?_
 refine vc_seq ?_
 refine vc_res (σ':=[(Arr 25 b2 [(.int .i64 ((dm Ds (j)).v)),(gv lvs (j)),(gv nvs (j)),(.int .i64 ((dm Ds (j)).r))])]) rfl ?_
 refine vc_region_any Try.mixed (by kernel_rfl) ?_
 refine qq (qv_fa (off:=0) Try.field25_0 rfl) ?_
 refine qq (qv_ldp (v:=(.int .i64 ((dm Ds (j)).v))) Try.plain3 rfl (inOc (k:=0) rfl) rfl) ?_
 refine qq (qv_mv lv rfl) ?_
 refine qq (qv_ias (v:=lv) (i:=0) Try.underlying102 Try.size25 rfl hB.sl rfl (by omega) (by omega)) ?_
 refine qq (qv_fas Try.field25_0 rfl hB.sl (by omega) (by omega)) ?_
 refine qq (qv_ldf (u:=(.int .i64 ((dm Ds (0)).v))) (v:=lv) (i:=0) Try.plain3 rfl hB.sl (by omega) (by omega) (by omega) (mdls_el (o:=0) (by omega) (by omega) (by omega) rfl)) ?_
 refine qq (qv_neq rfl rfl) ?_
 refine qops_nil ?_
 refine vc_if rfl (fun c4=>?_) (fun c4=>?_)
 refine vc_seq ?_
 refine vc_region ?_
 refine oq (qv_as (Value.int .i64 2) rfl) ?_
 refine ops_nil ?_
 refine vc_ret ?_
 refine blockQ_ret ?_
 refine blockQ_ret ?_
 exact rq1 (.int .i64 (vE Ds)) (congrArg (Value.int .i64) (show 2=(vE Ds) from by exact (vE_2 hV fun q=>absurd (q j (by omega) (by omega)) (by assumption)).symm)) rfl
 refine vc_skip ?_
 refine vc_drop [] [(Arr 25 b2 [(Value.int .i64 ((dm Ds (j)).v)),(gv lvs (j)),(gv nvs (j)),(Value.int .i64 ((dm Ds (j)).r))])] ((List.perm_middle (l₁:=[]) (l₂:=[])).trans (List.perm_append_comm (l₁:=[(Arr 25 b2 [(Value.int .i64 ((dm Ds (j)).v)),(gv lvs (j)),(gv nvs (j)),(Value.int .i64 ((dm Ds (j)).r))])]))) ?_
 refine vc_region ?_
 refine oq (qv_add rfl rfl (by omega)) ?_
 refine oq (qv_mv (.int .i64 (j+1)) rfl) ?_
 refine ops_nil ?_
 refine ⟨(j+1),⟨rfl,rfl,rfl,rfl,rfl,rfl,rfl,(congrArg (Value.int .i64) (show (j+1)=((j+1)) from by omega)),trivial⟩,⟨rfl,rfl,by omega,by omega,all_snoc hs (Decidable.not_not.1 (by assumption))⟩,by omega⟩
 refine vc_exit ?_
 refine blockQ_hit ?_
 refine vc_seq ?_
 refine vc_region ?_
 refine oq (qv_as (Value.int .i64 0) rfl) ?_
 refine ops_nil ?_
 refine vc_ret ?_
 exact rq1 (.int .i64 (vE Ds)) (congrArg (Value.int .i64) (show 0=(vE Ds) from by exact (vE_0 hV fun x a b=>hs x a (by omega)).symm)) rfl
theorem Constant_c {V:HV} {vars z:Int} :
    FnC Try.prog 23 [(Value.int .i64 vars),(Value.int .i64 z)] V [] (fun v V' σ'=>σ' = []∧MRs V' v (cnD vars z) (cnE vars z)):=by
 refine fn_intro (N:=22) Try.func23 (by kernel_rfl) rfl rfl rfl (Nat.le_of_ble_eq_true rfl) ?_
 intro w0 D
 refine vc_seq ?_
 refine vc_region ?_
 refine ops_alloc Try.ti25 rfl (fun b1=>?_)
 refine oq (qv_as (Value.int .i64 0) rfl) ?_
 refine ops_nil ?_
 refine vc_seq ?_
 refine vc_seq ?_
 refine vc_res (σ':=[(Arr 25 b1 [(Value.int .i64 0),(Value.slice none 0 0),(Value.slice none 0 0),(Value.int .i64 0)])]) rfl ?_
 refine vc_region ?_
 refine oq (qv_mv (Value.int .i64 vars) rfl) ?_
 refine oq (qv_lss rfl rfl) ?_
 refine oq (qv_mv (.bool (decide (vars < 0))) rfl) ?_
 by_cases g1:vars < 0
 refine os (want_fn g1 rfl rfl rfl) ?_
 refine os (want_fn g1 rfl rfl rfl) ?_
 refine oq (qv_pick_t g1 rfl (rfl:ev _ _=(Value.bool true))) ?_
 refine oq (qv_mv (Value.bool true) rfl) ?_
 refine os (want_fnc rfl rfl rfl) ?_
 refine os (want_fnc rfl rfl rfl) ?_
 refine os (want_fnc rfl rfl rfl) ?_
 refine oq (qv_pick_tc rfl (rfl:ev _ _=(Value.bool true))) ?_
 refine ops_nil ?_
 refine vc_tt rfl ?_
 refine vc_seq ?_
 refine vc_region ?_
 refine oq (qv_build (out:=[(Value.int .i64 0),(Value.slice none 0 0),(Value.slice none 0 0),(Value.int .i64 0)]) Try.build25 [] rfl rfl) ?_
 refine ops_stw (k:=0) (vs:=[(Value.int .i64 0),(Value.slice none 0 0),(Value.slice none 0 0),(Value.int .i64 0)]) Try.size25 rfl rfl rfl rfl rfl rfl ?_
 refine oq (qv_as (Value.int .i64 3) rfl) ?_
 refine ops_nil ?_
 refine vc_freeze (b:=b1) (o:=.cells ([(Value.int .i64 0),(Value.slice none 0 0),(Value.slice none 0 0),(Value.int .i64 0)]:List Value).toArray 25 (0,0)) (σr:=[]) (List.perm_middle (l₁:=[]) (l₂:=[])) (fun Vf1 hVf1 hb1=>?_)
 have hc1:Cells Vf1 b1 [(Value.int .i64 0),(Value.slice none 0 0),(Value.slice none 0 0),(Value.int .i64 0)]:=⟨_,_,hb1⟩
 refine vc_ret ?_
 refine rs2 _ (Value.int .i64 3) (rv_c (vs:=[(Value.int .i64 0),(Value.slice none 0 0),(Value.slice none 0 0),(Value.int .i64 0)]) Try.agg25 rfl (inVc hc1) rfl rfl) (rv_t rfl) ?_
 have e:=cn_3 (vars:=vars) (v:=z) (by first | exact .inr (by assumption) | exact .inl (by omega))
 rw [e.1,e.2]
 exact ⟨rfl,MRs.zero⟩
 refine og (qv_mv (Value.int .i64 vars) rfl) (want_f g1 rfl rfl rfl) ?_
 refine og (qv_gtr rfl rfl) (want_f g1 rfl rfl rfl) ?_
 refine oq (qv_pick_f g1 rfl (rfl:ev _ _=(.bool (decide (40 < vars))))) ?_
 refine oq (qv_mv (.bool (decide (40 < vars))) rfl) ?_
 by_cases g2:40 < vars
 refine os (want_fn g2 rfl rfl rfl) ?_
 refine os (want_fn g2 rfl rfl rfl) ?_
 refine os (want_fn g2 rfl rfl rfl) ?_
 refine oq (qv_pick_t g2 rfl (rfl:ev _ _=(Value.bool true))) ?_
 refine ops_nil ?_
 refine vc_tt rfl ?_
 refine vc_seq ?_
 refine vc_region ?_
 refine oq (qv_build (out:=[(Value.int .i64 0),(Value.slice none 0 0),(Value.slice none 0 0),(Value.int .i64 0)]) Try.build25 [] rfl rfl) ?_
 refine ops_stw (k:=0) (vs:=[(Value.int .i64 0),(Value.slice none 0 0),(Value.slice none 0 0),(Value.int .i64 0)]) Try.size25 rfl rfl rfl rfl rfl rfl ?_
 refine oq (qv_as (Value.int .i64 3) rfl) ?_
 refine ops_nil ?_
 refine vc_freeze (b:=b1) (o:=.cells ([(Value.int .i64 0),(Value.slice none 0 0),(Value.slice none 0 0),(Value.int .i64 0)]:List Value).toArray 25 (0,0)) (σr:=[]) (List.perm_middle (l₁:=[]) (l₂:=[])) (fun Vf2 hVf2 hb2=>?_)
 have hc2:Cells Vf2 b1 [(Value.int .i64 0),(Value.slice none 0 0),(Value.slice none 0 0),(Value.int .i64 0)]:=⟨_,_,hb2⟩
 refine vc_ret ?_
 refine rs2 _ (Value.int .i64 3) (rv_c (vs:=[(Value.int .i64 0),(Value.slice none 0 0),(Value.slice none 0 0),(Value.int .i64 0)]) Try.agg25 rfl (inVc hc2) rfl rfl) (rv_t rfl) ?_
 have e:=cn_3 (vars:=vars) (v:=z) (by first | exact .inr (by assumption) | exact .inl (by omega))
 rw [e.1,e.2]
 exact ⟨rfl,MRs.zero⟩
 refine og (qv_mv (Value.int .i64 z) rfl) (want_f g2 rfl rfl rfl) ?_
 refine og (qv_call (v:=(.bool (decide (inR z)))) (inRange_c) rfl rfl) (want_f g2 rfl rfl rfl) ?_
 refine og (qv_not rfl) (want_f g2 rfl rfl rfl) ?_
 refine oq (qv_pick_f g2 rfl (rfl:ev _ _=(.bool (decide (¬ (inR z)))))) ?_
 refine ops_nil ?_
 refine vc_if rfl (fun c1=>?_) (fun c1=>?_)
 refine vc_seq ?_
 refine vc_region ?_
 refine oq (qv_build (out:=[(Value.int .i64 0),(Value.slice none 0 0),(Value.slice none 0 0),(Value.int .i64 0)]) Try.build25 [] rfl rfl) ?_
 refine ops_stw (k:=0) (vs:=[(Value.int .i64 0),(Value.slice none 0 0),(Value.slice none 0 0),(Value.int .i64 0)]) Try.size25 rfl rfl rfl rfl rfl rfl ?_
 refine oq (qv_as (Value.int .i64 3) rfl) ?_
 refine ops_nil ?_
 refine vc_freeze (b:=b1) (o:=.cells ([(Value.int .i64 0),(Value.slice none 0 0),(Value.slice none 0 0),(Value.int .i64 0)]:List Value).toArray 25 (0,0)) (σr:=[]) (List.perm_middle (l₁:=[]) (l₂:=[])) (fun Vf3 hVf3 hb3=>?_)
 have hc3:Cells Vf3 b1 [(Value.int .i64 0),(Value.slice none 0 0),(Value.slice none 0 0),(Value.int .i64 0)]:=⟨_,_,hb3⟩
 refine vc_ret ?_
 refine rs2 _ (Value.int .i64 3) (rv_c (vs:=[(Value.int .i64 0),(Value.slice none 0 0),(Value.slice none 0 0),(Value.int .i64 0)]) Try.agg25 rfl (inVc hc3) rfl rfl) (rv_t rfl) ?_
 have e:=cn_3 (vars:=vars) (v:=z) (by first | exact .inr (by assumption) | exact .inl (by omega))
 rw [e.1,e.2]
 exact ⟨rfl,MRs.zero⟩
 refine vc_skip ?_
 refine vc_seq ?_
 refine vc_region ?_
 refine oq (qv_mv (Value.int .i64 vars) rfl) ?_
 refine oq (qv_mv (Value.int .i64 z) rfl) ?_
 refine ops_lit (n:=1) (s:=1) (cs:=[(Value.int .i64 z)]) Try.underlying22 Try.ti3 (Nat.le_of_ble_eq_true rfl) rfl rfl rfl (Nat.le_of_ble_eq_true rfl) rfl (fun b2=>?_)
 let ζ1:Value:=.slice (some ⟨b2,0,none⟩) 1 1
 refine oq (qv_build (out:=[(Value.int .i64 vars),ζ1,(Value.slice none 0 0),(Value.int .i64 0)]) Try.build25 [(0,[(Value.int .i64 vars)]),(1,[ζ1])] rfl rfl) ?_
 refine ops_stw (k:=0) (vs:=[(Value.int .i64 vars),ζ1,(Value.slice none 0 0),(Value.int .i64 0)]) Try.size25 rfl rfl rfl rfl rfl rfl ?_
 refine oq (qv_as (Value.int .i64 0) rfl) ?_
 refine ops_nil ?_
 let ζ2:Value:=Value.slice (some ⟨b2,0,none⟩) 1 1
 refine vc_freeze (b:=b2) (o:=.cells ([(Value.int .i64 z)]:List Value).toArray 3 (0,0)) (σr:=[(Arr 25 b1 [(Value.int .i64 vars),ζ2,(Value.slice none 0 0),(Value.int .i64 0)])]) (List.perm_middle (l₁:=[(Arr 25 b1 [(Value.int .i64 vars),ζ2,(Value.slice none 0 0),(Value.int .i64 0)])]) (l₂:=[])) (fun Vf4 hVf4 hb4=>?_)
 have hc4:Cells Vf4 b2 [(Value.int .i64 z)]:=⟨_,_,hb4⟩
 refine vc_freeze (b:=b1) (o:=.cells ([(Value.int .i64 vars),ζ2,(Value.slice none 0 0),(Value.int .i64 0)]:List Value).toArray 25 (0,0)) (σr:=[]) (List.perm_middle (l₁:=[]) (l₂:=[])) (fun Vf5 hVf5 hb5=>?_)
 have hc5:Cells Vf5 b1 [(Value.int .i64 vars),ζ1,(Value.slice none 0 0),(Value.int .i64 0)]:=⟨_,_,hb5⟩
 have hc4:=hc4.mono hVf5
 refine vc_ret ?_
 refine rs2 _ (Value.int .i64 0) (rv_c (vs:=[(Value.int .i64 vars),ζ1,(Value.slice none 0 0),(Value.int .i64 0)]) Try.agg25 rfl (inVc hc5) rfl rfl) (rv_t rfl) ?_
 have e:=cn_0 (vars:=vars) (v:=z) (fun q=>q.elim (fun h=>by omega) (by first | exact fun h=>h (by assumption) | exact fun h=>absurd h (by assumption)))
 subst ζ1 ζ2
 rw [e.1,e.2]
 exact ⟨rfl,_,_,rfl,ints_cells hc4 rfl (Nat.le_refl _) (by omega),Fks.nil⟩
end Go.Proofs.Ytkmhjcjpohpiaaa
