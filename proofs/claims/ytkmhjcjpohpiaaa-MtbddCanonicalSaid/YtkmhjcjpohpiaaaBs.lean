import Derived.Test.YtkmhjcjpohpiaaaBr
/- Walks of bdd: what each function returns. Printed by a program out of notes. -/
namespace Go.Proofs.Ytkmhjcjpohpiaaa.Bd
open Go.Vc
open Classical
set_option maxRecDepth 100000
set_option maxHeartbeats 4000000
theorem child_c {V:HV} {nv:Value} {N:List Fk} {vars root:Int} (hN:Fks V nv N) {i r:Int} (i0:0≤i) (i1:i < N.length) (hv:(fk N i).v < vars) :
    FnC Try.prog 121 [(.agg #[(Value.int .i64 vars),nv,(Value.int .i64 root)]),(Value.int .i64 i),(Value.int .i64 r)] V [] (fun v _ _=>v=(.bool (decide (Chk vars N i r)))):=by
 refine fn_intro (N:=35) Try.func121 (by kernel_rfl) rfl rfl rfl (Nat.le_of_ble_eq_true rfl) ?_
 intro w0 D
 have hb:=SlS.bound hN
 refine vc_seq ?_
 refine vc_region ?_
 refine ops_box (v:=(.agg #[(Value.int .i64 vars),nv,(Value.int .i64 root)])) (cs:=[(Value.int .i64 vars),nv,(Value.int .i64 root)]) rfl rfl (fun b1=>?_)
 refine oq (qv_as (Value.bool false) rfl) ?_
 refine ops_nil ?_
 refine vc_seq ?_
 refine vc_res (σ':=[(Arr 59 b1 [(Value.int .i64 vars),nv,(Value.int .i64 root)])]) rfl ?_
 refine vc_region_any Try.mixed (by kernel_rfl) ?_
 refine qq (qv_mv (Value.int .i64 r) rfl) ?_
 refine qq (qv_geq rfl rfl) ?_
 refine qq (qv_mv (.bool (decide (0≤r))) rfl) ?_
 by_cases g1:0≤r
 refine qg (qv_mv (Value.int .i64 r) rfl) (want_t g1 rfl rfl rfl) ?_
 refine qg (qv_mv (Value.int .i64 i) rfl) (want_t g1 rfl rfl rfl) ?_
 refine qg (qv_add rfl rfl (by omega)) (want_t g1 rfl rfl rfl) ?_
 refine qg (qv_leq rfl rfl) (want_t g1 rfl rfl rfl) ?_
 refine qq (qv_pick_t g1 rfl (rfl:ev _ _=(.bool (decide (r≤(1+i)))))) ?_
 refine qq (qv_mv (.bool (decide (r≤(1+i)))) rfl) ?_
 by_cases g2:r≤(1+i)
 refine qg (qv_mv (Value.int .i64 r) rfl) (want_t g2 rfl rfl rfl) ?_
 refine qg (qv_lss rfl rfl) (want_t g2 rfl rfl rfl) ?_
 refine qg (qv_mv (.bool (decide (r < 2))) rfl) (want_t g2 rfl rfl rfl) ?_
 by_cases g3:r < 2
 refine qs (want_fn g3 rfl rfl rfl) ?_
 refine qs (want_fn g3 rfl rfl rfl) ?_
 refine qs (want_fn g3 rfl rfl rfl) ?_
 refine qs (want_fn g3 rfl rfl rfl) ?_
 refine qs (want_fn g3 rfl rfl rfl) ?_
 refine qs (want_fn g3 rfl rfl rfl) ?_
 refine qs (want_fn g3 rfl rfl rfl) ?_
 refine qs (want_fn g3 rfl rfl rfl) ?_
 refine qs (want_fn g3 rfl rfl rfl) ?_
 refine qs (want_fn g3 rfl rfl rfl) ?_
 refine qs (want_fn g3 rfl rfl rfl) ?_
 refine qs (want_fn g3 rfl rfl rfl) ?_
 refine qs (want_fn g3 rfl rfl rfl) ?_
 refine qs (want_fn g3 rfl rfl rfl) ?_
 refine qg (qv_pick_t g3 rfl (rfl:ev _ _=(Value.bool true))) (want_t g2 rfl rfl rfl) ?_
 refine qq (qv_pick_t g2 rfl (rfl:ev _ _=(Value.bool true))) ?_
 refine qq (qv_as (Value.bool true) rfl) ?_
 refine qops_nil ?_
 refine vc_ret ?_
 exact rq1 (.bool (decide (Chk vars N i r))) (congrArg Value.bool (decide_eq_true (show (Chk vars N i r) from by exact ⟨by omega,by omega,by rw [lev_const (by omega)]; exact hv⟩)).symm) rfl
 refine qg (qv_fa (off:=0) Try.field59_1 rfl) (want_f g3 rfl rfl rfl) ?_
 refine qg (qv_ldp (v:=nv) Try.plain23 rfl (inOc (k:=0) rfl) rfl) (want_f g3 rfl rfl rfl) ?_
 refine qg (qv_mv (Value.int .i64 i) rfl) (want_f g3 rfl rfl rfl) ?_
 refine qg (qv_ias (v:=nv) (i:=i) Try.underlying23 Try.size80 rfl hN rfl (by omega) (by omega)) (want_f g3 rfl rfl rfl) ?_
 refine qg (qv_fas Try.field80_0 rfl hN (by omega) (by omega)) (want_f g3 rfl rfl rfl) ?_
 refine qg (qv_ldf (u:=(.int .i64 ((fk N (i)).v))) (v:=nv) (i:=i) Try.plain3 rfl hN (by omega) (by omega) (by omega) (fks_el (N:=N) (o:=0) (by omega) (by omega) (by omega) rfl)) (want_f g3 rfl rfl rfl) ?_
 refine qg (qv_fa (off:=0) Try.field59_1 rfl) (want_f g3 rfl rfl rfl) ?_
 refine qg (qv_ldp (v:=nv) Try.plain23 rfl (inOc (k:=0) rfl) rfl) (want_f g3 rfl rfl rfl) ?_
 refine qg (qv_mv (Value.int .i64 r) rfl) (want_f g3 rfl rfl rfl) ?_
 refine qg (qv_sub rfl rfl (by omega)) (want_f g3 rfl rfl rfl) ?_
 refine qg (qv_ias (v:=nv) (i:=r - 2) Try.underlying23 Try.size80 rfl hN rfl (by omega) (by omega)) (want_f g3 rfl rfl rfl) ?_
 refine qg (qv_fas Try.field80_0 rfl hN (by omega) (by omega)) (want_f g3 rfl rfl rfl) ?_
 refine qg (qv_ldf (u:=(.int .i64 ((fk N (r - 2)).v))) (v:=nv) (i:=r - 2) Try.plain3 rfl hN (by omega) (by omega) (by omega) (fks_el (N:=N) (o:=0) (by omega) (by omega) (by omega) rfl)) (want_f g3 rfl rfl rfl) ?_
 refine qg (qv_lss rfl rfl) (want_f g3 rfl rfl rfl) ?_
 let ζ1:Value:=.bool (decide (((fk N (i)).v) < ((fk N (r - 2)).v)))
 refine qg (qv_pick_f g3 rfl (rfl:ev _ _=ζ1)) (want_t g2 rfl rfl rfl) ?_
 refine qq (qv_pick_t g2 rfl (rfl:ev _ _=ζ1)) ?_
 refine qq (qv_as ζ1 rfl) ?_
 refine qops_nil ?_
 refine vc_ret ?_
 subst ζ1
 exact rq1 (.bool (decide (Chk vars N i r))) (congrArg Value.bool (decide_eq_decide.2 (show (((fk N (i)).v) < ((fk N (r - 2)).v)) ↔ (Chk vars N i r) from by exact ⟨fun q=>⟨by omega,by omega,by rw [lev_node (by omega)]; exact q⟩,fun q=>by have:=q.2.2; rw [lev_node (by omega)] at this; exact this⟩))) rfl
 refine qs (want_tn g2 rfl rfl rfl) ?_
 refine qs (want_tn g2 rfl rfl rfl) ?_
 refine qs (want_tn g2 rfl rfl rfl) ?_
 refine qs (want_u rfl rfl rfl) ?_
 refine qs (want_u rfl rfl rfl) ?_
 refine qs (want_u rfl rfl rfl) ?_
 refine qs (want_u rfl rfl rfl) ?_
 refine qs (want_u rfl rfl rfl) ?_
 refine qs (want_u rfl rfl rfl) ?_
 refine qs (want_u rfl rfl rfl) ?_
 refine qs (want_u rfl rfl rfl) ?_
 refine qs (want_u rfl rfl rfl) ?_
 refine qs (want_u rfl rfl rfl) ?_
 refine qs (want_u rfl rfl rfl) ?_
 refine qs (want_u rfl rfl rfl) ?_
 refine qs (want_u rfl rfl rfl) ?_
 refine qs (want_u rfl rfl rfl) ?_
 refine qs (want_tn g2 rfl rfl rfl) ?_
 refine qq (qv_pick_f g2 rfl (rfl:ev _ _=(Value.bool false))) ?_
 refine qq (qv_as (Value.bool false) rfl) ?_
 refine qops_nil ?_
 refine vc_ret ?_
 exact rq1 (.bool (decide (Chk vars N i r))) (congrArg Value.bool (decide_eq_false (show ¬ (Chk vars N i r) from by exact fun q=>by first | (have:=q.1; omega) | (have:=q.2.1; omega))).symm) rfl
 refine qs (want_tn g1 rfl rfl rfl) ?_
 refine qs (want_tn g1 rfl rfl rfl) ?_
 refine qs (want_tn g1 rfl rfl rfl) ?_
 refine qs (want_tn g1 rfl rfl rfl) ?_
 refine qq (qv_pick_f g1 rfl (rfl:ev _ _=(Value.bool false))) ?_
 refine qq (qv_mv (Value.bool false) rfl) ?_
 refine qs (want_tnc rfl rfl rfl) ?_
 refine qs (want_tnc rfl rfl rfl) ?_
 refine qs (want_tnc rfl rfl rfl) ?_
 refine qs (want_u rfl rfl rfl) ?_
 refine qs (want_u rfl rfl rfl) ?_
 refine qs (want_u rfl rfl rfl) ?_
 refine qs (want_u rfl rfl rfl) ?_
 refine qs (want_u rfl rfl rfl) ?_
 refine qs (want_u rfl rfl rfl) ?_
 refine qs (want_u rfl rfl rfl) ?_
 refine qs (want_u rfl rfl rfl) ?_
 refine qs (want_u rfl rfl rfl) ?_
 refine qs (want_u rfl rfl rfl) ?_
 refine qs (want_u rfl rfl rfl) ?_
 refine qs (want_u rfl rfl rfl) ?_
 refine qs (want_u rfl rfl rfl) ?_
 refine qs (want_u rfl rfl rfl) ?_
 refine qs (want_tnc rfl rfl rfl) ?_
 refine qq (qv_pick_fc rfl (rfl:ev _ _=(Value.bool false))) ?_
 refine qq (qv_as (Value.bool false) rfl) ?_
 refine qops_nil ?_
 refine vc_ret ?_
 exact rq1 (.bool (decide (Chk vars N i r))) (congrArg Value.bool (decide_eq_false (show ¬ (Chk vars N i r) from by exact fun q=>by first | (have:=q.1; omega) | (have:=q.2.1; omega))).symm) rfl
theorem check_c {V:HV} {nv:Value} {N:List Fk} {vars root:Int} (hN:Fks V nv N) :
    FnC Try.prog 91 [(.agg #[(Value.int .i64 vars),nv,(Value.int .i64 root)])] V [] (fun v _ _=>v=(.int .i64 (chkC vars N root))):=by
 refine fn_intro (N:=108) Try.func91 (by kernel_rfl) rfl rfl rfl (Nat.le_of_ble_eq_true rfl) ?_
 intro w0 D
 have hb:=SlS.bound hN
 refine vc_seq ?_
 refine vc_region ?_
 let ζ3:Value:=.agg #[(Value.int .i64 vars),nv,(Value.int .i64 root)]
 refine ops_box (v:=ζ3) (cs:=[(Value.int .i64 vars),nv,(Value.int .i64 root)]) rfl rfl (fun b1=>?_)
 refine oq (qv_as (Value.int .i64 0) rfl) ?_
 refine ops_nil ?_
 refine vc_seq ?_
 refine vc_seq ?_
 let ζ1:Asrt:=Arr 59 b1 [(Value.int .i64 vars),nv,(Value.int .i64 root)]
 refine vc_res (σ':=[ζ1]) rfl ?_
 refine vc_region ?_
 refine oq (qv_fa (off:=0) Try.field59_0 rfl) ?_
 refine oq (qv_ldp (v:=(Value.int .i64 vars)) Try.plain3 rfl (inOc (k:=0) rfl) rfl) ?_
 refine oq (qv_lss rfl rfl) ?_
 refine oq (qv_mv (.bool (decide (vars < 0))) rfl) ?_
 by_cases g1:vars < 0
 refine os (want_fn g1 rfl rfl rfl) ?_
 refine os (want_fn g1 rfl rfl rfl) ?_
 refine os (want_fn g1 rfl rfl rfl) ?_
 refine oq (qv_pick_t g1 rfl (rfl:ev _ _=(Value.bool true))) ?_
 refine ops_nil ?_
 refine vc_tt rfl ?_
 refine vc_seq ?_
 refine vc_region ?_
 refine oq (qv_as (Value.int .i64 3) rfl) ?_
 refine ops_nil ?_
 refine vc_ret ?_
 subst ζ3 ζ1
 exact rq1 (.int .i64 (chkC vars N root)) (congrArg (Value.int .i64) (show 3=(chkC vars N root) from by rw [chk_3 (by omega)])) rfl
 refine og (qv_fa (off:=0) Try.field59_0 rfl) (want_f g1 rfl rfl rfl) ?_
 refine og (qv_ldp (v:=(Value.int .i64 vars)) Try.plain3 rfl (inOc (k:=0) rfl) rfl) (want_f g1 rfl rfl rfl) ?_
 refine og (qv_gtr rfl rfl) (want_f g1 rfl rfl rfl) ?_
 let ζ5:Value:=.bool (decide (40 < vars))
 refine oq (qv_pick_f g1 rfl (rfl:ev _ _=ζ5)) ?_
 refine ops_nil ?_
 refine vc_if rfl (fun c1=>?_) (fun c1=>?_)
 refine vc_seq ?_
 refine vc_region ?_
 refine oq (qv_as (Value.int .i64 3) rfl) ?_
 refine ops_nil ?_
 refine vc_ret ?_
 subst ζ3 ζ1 ζ5
 exact rq1 (.int .i64 (chkC vars N root)) (congrArg (Value.int .i64) (show 3=(chkC vars N root) from by rw [chk_3 (by omega)])) rfl
 refine vc_skip ?_
 refine vc_seq ?_
 refine vc_seq ?_
 refine vc_region ?_
 refine oq (qv_fa (off:=0) Try.field59_1 rfl) ?_
 refine oq (qv_ldp (v:=nv) Try.plain23 rfl (inOc (k:=0) rfl) rfl) ?_
 refine oq (qv_lenSS Try.underlying23 rfl hN) ?_
 refine oq (qv_gtr rfl rfl) ?_
 refine ops_nil ?_
 refine vc_if rfl (fun c2=>?_) (fun c2=>?_)
 refine vc_seq ?_
 refine vc_region ?_
 refine oq (qv_as (Value.int .i64 4) rfl) ?_
 refine ops_nil ?_
 refine vc_ret ?_
 subst ζ3 ζ1 ζ5
 exact rq1 (.int .i64 (chkC vars N root)) (congrArg (Value.int .i64) (show 4=(chkC vars N root) from by rw [chk_4 (by omega) (by omega)])) rfl
 refine vc_skip ?_
 refine vc_seq ?_
 refine vc_seq ?_
 refine vc_region ?_
 refine oq (qv_fa (off:=0) Try.field59_1 rfl) ?_
 refine oq (qv_ldp (v:=nv) Try.plain23 rfl (inOc (k:=0) rfl) rfl) ?_
 refine oq (qv_lenSS Try.underlying23 rfl hN) ?_
 refine oq (qv_mv (Value.int .i64 0) rfl) ?_
 refine ops_nil ?_
 refine vc_block ?_
 refine vc_loop (α:=Int) (fun (xx:Int)=>[(0,ζ3),(1,(Value.pointer (some ⟨b1,0,none⟩))),(16,ζ5),(20,(.bool (decide (4096 < ((N.length:Int)))))),(22,nv),(23,(.int .i64 ((N.length:Int)))),(24,(Value.int .i64 xx))]) (fun (xx:Int) V' σ'=>V=V'∧[ζ1]=σ'∧0≤xx∧xx≤N.length∧∀ j:Int,0≤j→j < xx→Nok vars N j) (fun (xx:Int)=>(N.length - xx).toNat) (0) ?_ ?_ ?_
 exact ⟨rfl,rfl,rfl,rfl,rfl,rfl,rfl,trivial⟩
 exact ⟨rfl,rfl,by omega,by omega,fun j a b=>by omega⟩
 rintro i e1 V0l σ0l hI0
 obtain ⟨rfl,rfl,i1,i2,hok⟩:V=V0l∧[ζ1]=σ0l∧0≤i∧i≤N.length∧∀ j:Int,0≤j→j < i→Nok vars N j:=hI0
 refine vc_seq ?_
 refine vc_region ?_
 refine oq (qv_lss rfl rfl) ?_
 refine ops_nil ?_
 refine vc_seq ?_
 refine vc_if rfl (fun c3=>?_) (fun c3=>?_)
 refine vc_skip ?_
 refine vc_seq ?_
 refine vc_block ?_
 refine vc_seq ?_
 refine vc_region ?_
 refine oq (qv_mv (Value.int .i64 i) rfl) ?_
 refine oq (qv_ias (v:=nv) (i:=i) Try.underlying23 Try.size80 rfl hN rfl (by omega) (by omega)) ?_
 refine oq (qv_lds (v:=nv) (i:=i) (vs:=[(.int .i64 ((fk N (i)).v)),(.int .i64 ((fk N (i)).l)),(.int .i64 ((fk N (i)).h))]) Try.agg80 rfl hN (by omega) (by omega) (fks_at (N:=N) (by omega) (by omega))) ?_
 refine ops_alloc Try.ti80 rfl (fun b2=>?_)
 refine oq (qv_as (Value.int .i64 i) rfl) ?_
 refine ops_stw (k:=1) (vs:=[(.int .i64 ((fk N (i)).v)),(.int .i64 ((fk N (i)).l)),(.int .i64 ((fk N (i)).h))]) Try.size80 rfl rfl rfl rfl rfl rfl ?_
 refine ops_nil ?_
 refine vc_seq ?_
 refine vc_seq ?_
 let ζ2:Asrt:=Arr 80 b2 [(.int .i64 ((fk N (i)).v)),(.int .i64 ((fk N (i)).l)),(.int .i64 ((fk N (i)).h))]
 refine vc_res (σ':=[ζ1,ζ2]) rfl ?_
 refine vc_region ?_
 refine oq (qv_fa (off:=0) Try.field80_0 rfl) ?_
 refine oq (qv_ldp (v:=(.int .i64 ((fk N (i)).v))) Try.plain3 rfl (inOc (k:=1) rfl) rfl) ?_
 refine oq (qv_lss rfl rfl) ?_
 refine oq (qv_mv (.bool (decide (((fk N (i)).v) < 0))) rfl) ?_
 by_cases g2:((fk N (i)).v) < 0
 refine os (want_fn g2 rfl rfl rfl) ?_
 refine os (want_fn g2 rfl rfl rfl) ?_
 refine os (want_fn g2 rfl rfl rfl) ?_
 refine os (want_fn g2 rfl rfl rfl) ?_
 refine os (want_fn g2 rfl rfl rfl) ?_
 refine oq (qv_pick_t g2 rfl (rfl:ev _ _=(Value.bool true))) ?_
 refine oq (qv_mv (Value.bool true) rfl) ?_
 refine os (want_fnc rfl rfl rfl) ?_
 refine os (want_fnc rfl rfl rfl) ?_
 refine os (want_fnc rfl rfl rfl) ?_
 refine os (want_fnc rfl rfl rfl) ?_
 refine os (want_fnc rfl rfl rfl) ?_
 refine oq (qv_pick_tc rfl (rfl:ev _ _=(Value.bool true))) ?_
 refine oq (qv_mv (Value.bool true) rfl) ?_
 refine os (want_fnc rfl rfl rfl) ?_
 refine os (want_fnc rfl rfl rfl) ?_
 refine os (want_fnc rfl rfl rfl) ?_
 refine os (want_fnc rfl rfl rfl) ?_
 refine os (want_fnc rfl rfl rfl) ?_
 refine os (want_fnc rfl rfl rfl) ?_
 refine oq (qv_pick_tc rfl (rfl:ev _ _=(Value.bool true))) ?_
 refine oq (qv_mv (Value.bool true) rfl) ?_
 refine os (want_fnc rfl rfl rfl) ?_
 refine os (want_fnc rfl rfl rfl) ?_
 refine os (want_fnc rfl rfl rfl) ?_
 refine os (want_fnc rfl rfl rfl) ?_
 refine os (want_fnc rfl rfl rfl) ?_
 refine os (want_fnc rfl rfl rfl) ?_
 refine oq (qv_pick_tc rfl (rfl:ev _ _=(Value.bool true))) ?_
 refine ops_nil ?_
 refine vc_tt rfl ?_
 refine vc_seq ?_
 refine vc_region ?_
 refine oq (qv_as (Value.int .i64 1) rfl) ?_
 refine ops_nil ?_
 refine vc_ret ?_
 refine blockQ_ret ?_
 refine blockQ_ret ?_
 subst ζ3 ζ1 ζ5 ζ2
 exact rq1 (.int .i64 (chkC vars N root)) (congrArg (Value.int .i64) (show 1=(chkC vars N root) from by rw [chk_1 (by omega) (by omega) (fun z=>by first | (have e:=(id_fin hF.1 hF.rf FD z.2.2.2.1).1; omega) | (have e:=(id_fin hF.1 hF.rf FD z.2.2.2.1).2 q (by omega) (by omega); omega) | (have e:=z.2.2.1.2; omega) | (have hn:=fm_nok z.2.2.1.1 (j:=i) (by omega) (by omega); have h1:=hn.1; have h2:=hn.2.1; have h3:=hn.2.2.1; omega) | (have hn:=fm_nok z.2.2.1.1 (j:=i) (by omega) (by omega); exact absurd hn.2.2.2.2.1 (by assumption)) | (have hn:=fm_nok z.2.2.1.1 (j:=i) (by omega) (by omega); exact absurd hn.2.2.2.2.2 (by assumption)) | (have hn:=fm_nok z.2.2.1.1 (j:=i) (by omega) (by omega); exact absurd (fk_eq3 (by assumption)) (hn.2.2.2.1 j (by omega) (by omega))))])) rfl
 refine og (qv_fa (off:=0) Try.field80_0 rfl) (want_f g2 rfl rfl rfl) ?_
 refine og (qv_ldp (v:=(.int .i64 ((fk N (i)).v))) Try.plain3 rfl (inOc (k:=1) rfl) rfl) (want_f g2 rfl rfl rfl) ?_
 refine og (qv_fa (off:=0) Try.field59_0 rfl) (want_f g2 rfl rfl rfl) ?_
 refine og (qv_ldp (v:=(Value.int .i64 vars)) Try.plain3 rfl (inOc (k:=0) rfl) rfl) (want_f g2 rfl rfl rfl) ?_
 refine og (qv_geq rfl rfl) (want_f g2 rfl rfl rfl) ?_
 refine oq (qv_pick_f g2 rfl (rfl:ev _ _=(.bool (decide (vars≤((fk N (i)).v)))))) ?_
 refine oq (qv_mv (.bool (decide (vars≤((fk N (i)).v)))) rfl) ?_
 by_cases g3:vars≤((fk N (i)).v)
 refine os (want_fn g3 rfl rfl rfl) ?_
 refine os (want_fn g3 rfl rfl rfl) ?_
 refine os (want_fn g3 rfl rfl rfl) ?_
 refine os (want_fn g3 rfl rfl rfl) ?_
 refine os (want_fn g3 rfl rfl rfl) ?_
 refine oq (qv_pick_t g3 rfl (rfl:ev _ _=(Value.bool true))) ?_
 refine oq (qv_mv (Value.bool true) rfl) ?_
 refine os (want_fnc rfl rfl rfl) ?_
 refine os (want_fnc rfl rfl rfl) ?_
 refine os (want_fnc rfl rfl rfl) ?_
 refine os (want_fnc rfl rfl rfl) ?_
 refine os (want_fnc rfl rfl rfl) ?_
 refine os (want_fnc rfl rfl rfl) ?_
 refine oq (qv_pick_tc rfl (rfl:ev _ _=(Value.bool true))) ?_
 refine oq (qv_mv (Value.bool true) rfl) ?_
 refine os (want_fnc rfl rfl rfl) ?_
 refine os (want_fnc rfl rfl rfl) ?_
 refine os (want_fnc rfl rfl rfl) ?_
 refine os (want_fnc rfl rfl rfl) ?_
 refine os (want_fnc rfl rfl rfl) ?_
 refine os (want_fnc rfl rfl rfl) ?_
 refine oq (qv_pick_tc rfl (rfl:ev _ _=(Value.bool true))) ?_
 refine ops_nil ?_
 refine vc_tt rfl ?_
 refine vc_seq ?_
 refine vc_region ?_
 refine oq (qv_as (Value.int .i64 1) rfl) ?_
 refine ops_nil ?_
 refine vc_ret ?_
 refine blockQ_ret ?_
 refine blockQ_ret ?_
 subst ζ3 ζ1 ζ5 ζ2
 exact rq1 (.int .i64 (chkC vars N root)) (congrArg (Value.int .i64) (show 1=(chkC vars N root) from by rw [chk_1 (by omega) (by omega) (fun z=>by first | (have e:=(id_fin hF.1 hF.rf FD z.2.2.2.1).1; omega) | (have e:=(id_fin hF.1 hF.rf FD z.2.2.2.1).2 q (by omega) (by omega); omega) | (have e:=z.2.2.1.2; omega) | (have hn:=fm_nok z.2.2.1.1 (j:=i) (by omega) (by omega); have h1:=hn.1; have h2:=hn.2.1; have h3:=hn.2.2.1; omega) | (have hn:=fm_nok z.2.2.1.1 (j:=i) (by omega) (by omega); exact absurd hn.2.2.2.2.1 (by assumption)) | (have hn:=fm_nok z.2.2.1.1 (j:=i) (by omega) (by omega); exact absurd hn.2.2.2.2.2 (by assumption)) | (have hn:=fm_nok z.2.2.1.1 (j:=i) (by omega) (by omega); exact absurd (fk_eq3 (by assumption)) (hn.2.2.2.1 j (by omega) (by omega))))])) rfl
 refine og (qv_fa (off:=0) Try.field80_1 rfl) (want_f g3 rfl rfl rfl) ?_
 refine og (qv_ldp (v:=(.int .i64 ((fk N (i)).l))) Try.plain3 rfl (inOc (k:=1) rfl) rfl) (want_f g3 rfl rfl rfl) ?_
 refine og (qv_fa (off:=0) Try.field80_2 rfl) (want_f g3 rfl rfl rfl) ?_
 refine og (qv_ldp (v:=(.int .i64 ((fk N (i)).h))) Try.plain3 rfl (inOc (k:=1) rfl) rfl) (want_f g3 rfl rfl rfl) ?_
 refine og (qv_eql rfl rfl) (want_f g3 rfl rfl rfl) ?_
 refine oq (qv_pick_f g3 rfl (rfl:ev _ _=(.bool (decide (((fk N (i)).l)=((fk N (i)).h)))))) ?_
 refine oq (qv_mv (.bool (decide (((fk N (i)).l)=((fk N (i)).h)))) rfl) ?_
 by_cases g4:((fk N (i)).l)=((fk N (i)).h)
 refine os (want_fn g4 rfl rfl rfl) ?_
 refine os (want_fn g4 rfl rfl rfl) ?_
 refine os (want_fn g4 rfl rfl rfl) ?_
 refine os (want_fn g4 rfl rfl rfl) ?_
 refine os (want_fn g4 rfl rfl rfl) ?_
 refine os (want_fn g4 rfl rfl rfl) ?_
 refine oq (qv_pick_t g4 rfl (rfl:ev _ _=(Value.bool true))) ?_
 refine oq (qv_mv (Value.bool true) rfl) ?_
 refine os (want_fnc rfl rfl rfl) ?_
 refine os (want_fnc rfl rfl rfl) ?_
 refine os (want_fnc rfl rfl rfl) ?_
 refine os (want_fnc rfl rfl rfl) ?_
 refine os (want_fnc rfl rfl rfl) ?_
 refine os (want_fnc rfl rfl rfl) ?_
 refine oq (qv_pick_tc rfl (rfl:ev _ _=(Value.bool true))) ?_
 refine ops_nil ?_
 refine vc_tt rfl ?_
 refine vc_seq ?_
 refine vc_region ?_
 refine oq (qv_as (Value.int .i64 1) rfl) ?_
 refine ops_nil ?_
 refine vc_ret ?_
 refine blockQ_ret ?_
 refine blockQ_ret ?_
 subst ζ3 ζ1 ζ5 ζ2
 exact rq1 (.int .i64 (chkC vars N root)) (congrArg (Value.int .i64) (show 1=(chkC vars N root) from by rw [chk_1 (by omega) (by omega) (fun z=>by first | (have e:=(id_fin hF.1 hF.rf FD z.2.2.2.1).1; omega) | (have e:=(id_fin hF.1 hF.rf FD z.2.2.2.1).2 q (by omega) (by omega); omega) | (have e:=z.2.2.1.2; omega) | (have hn:=fm_nok z.2.2.1.1 (j:=i) (by omega) (by omega); have h1:=hn.1; have h2:=hn.2.1; have h3:=hn.2.2.1; omega) | (have hn:=fm_nok z.2.2.1.1 (j:=i) (by omega) (by omega); exact absurd hn.2.2.2.2.1 (by assumption)) | (have hn:=fm_nok z.2.2.1.1 (j:=i) (by omega) (by omega); exact absurd hn.2.2.2.2.2 (by assumption)) | (have hn:=fm_nok z.2.2.1.1 (j:=i) (by omega) (by omega); exact absurd (fk_eq3 (by assumption)) (hn.2.2.2.1 j (by omega) (by omega))))])) rfl
 refine og (qv_ldm (vs:=[(Value.int .i64 vars),nv,(Value.int .i64 root)]) Try.agg59 rfl (inOc (k:=0) rfl) rfl rfl) (want_f g4 rfl rfl rfl) ?_
 refine og (qv_mv (Value.int .i64 i) rfl) (want_f g4 rfl rfl rfl) ?_
 refine og (qv_fa (off:=0) Try.field80_1 rfl) (want_f g4 rfl rfl rfl) ?_
 refine og (qv_ldp (v:=(.int .i64 ((fk N (i)).l))) Try.plain3 rfl (inOc (k:=1) rfl) rfl) (want_f g4 rfl rfl rfl) ?_
 refine og (qv_call (v:=(.bool (decide (Chk vars N i ((fk N (i)).l))))) (child_c hN (by omega) (by omega) (by omega)) rfl rfl) (want_f g4 rfl rfl rfl) ?_
 refine og (qv_not rfl) (want_f g4 rfl rfl rfl) ?_
 refine oq (qv_pick_f g4 rfl (rfl:ev _ _=(.bool (decide (¬ (Chk vars N i ((fk N (i)).l))))))) ?_
 refine oq (qv_mv (.bool (decide (¬ (Chk vars N i ((fk N (i)).l))))) rfl) ?_
 by_cases g5:¬ (Chk vars N i ((fk N (i)).l))
 refine os (want_fn g5 rfl rfl rfl) ?_
 refine os (want_fn g5 rfl rfl rfl) ?_
 refine os (want_fn g5 rfl rfl rfl) ?_
 refine os (want_fn g5 rfl rfl rfl) ?_
 refine os (want_fn g5 rfl rfl rfl) ?_
 refine os (want_fn g5 rfl rfl rfl) ?_
 refine oq (qv_pick_t g5 rfl (rfl:ev _ _=(Value.bool true))) ?_
 refine ops_nil ?_
 refine vc_tt rfl ?_
 refine vc_seq ?_
 refine vc_region ?_
 refine oq (qv_as (Value.int .i64 1) rfl) ?_
 refine ops_nil ?_
 refine vc_ret ?_
 refine blockQ_ret ?_
 refine blockQ_ret ?_
 subst ζ3 ζ1 ζ5 ζ2
 exact rq1 (.int .i64 (chkC vars N root)) (congrArg (Value.int .i64) (show 1=(chkC vars N root) from by rw [chk_1 (by omega) (by omega) (fun z=>by first | (have e:=(id_fin hF.1 hF.rf FD z.2.2.2.1).1; omega) | (have e:=(id_fin hF.1 hF.rf FD z.2.2.2.1).2 q (by omega) (by omega); omega) | (have e:=z.2.2.1.2; omega) | (have hn:=fm_nok z.2.2.1.1 (j:=i) (by omega) (by omega); have h1:=hn.1; have h2:=hn.2.1; have h3:=hn.2.2.1; omega) | (have hn:=fm_nok z.2.2.1.1 (j:=i) (by omega) (by omega); exact absurd hn.2.2.2.2.1 (by assumption)) | (have hn:=fm_nok z.2.2.1.1 (j:=i) (by omega) (by omega); exact absurd hn.2.2.2.2.2 (by assumption)) | (have hn:=fm_nok z.2.2.1.1 (j:=i) (by omega) (by omega); exact absurd (fk_eq3 (by assumption)) (hn.2.2.2.1 j (by omega) (by omega))))])) rfl
 refine og (qv_ldm (vs:=[(Value.int .i64 vars),nv,(Value.int .i64 root)]) Try.agg59 rfl (inOc (k:=0) rfl) rfl rfl) (want_f g5 rfl rfl rfl) ?_
 refine og (qv_mv (Value.int .i64 i) rfl) (want_f g5 rfl rfl rfl) ?_
 refine og (qv_fa (off:=0) Try.field80_2 rfl) (want_f g5 rfl rfl rfl) ?_
 refine og (qv_ldp (v:=(.int .i64 ((fk N (i)).h))) Try.plain3 rfl (inOc (k:=1) rfl) rfl) (want_f g5 rfl rfl rfl) ?_
 refine og (qv_call (v:=(.bool (decide (Chk vars N i ((fk N (i)).h))))) (child_c hN (by omega) (by omega) (by omega)) rfl rfl) (want_f g5 rfl rfl rfl) ?_
 refine og (qv_not rfl) (want_f g5 rfl rfl rfl) ?_
 refine oq (qv_pick_f g5 rfl (rfl:ev _ _=(.bool (decide (¬ (Chk vars N i ((fk N (i)).h))))))) ?_
 refine ops_nil ?_
 refine vc_if rfl (fun c4=>?_) (fun c4=>?_)
 refine vc_seq ?_
 refine vc_region ?_
 refine oq (qv_as (Value.int .i64 1) rfl) ?_
 refine ops_nil ?_
 refine vc_ret ?_
 refine blockQ_ret ?_
 refine blockQ_ret ?_
 subst ζ3 ζ1 ζ5 ζ2
 exact rq1 (.int .i64 (chkC vars N root)) (congrArg (Value.int .i64) (show 1=(chkC vars N root) from by rw [chk_1 (by omega) (by omega) (fun z=>by first | (have e:=(id_fin hF.1 hF.rf FD z.2.2.2.1).1; omega) | (have e:=(id_fin hF.1 hF.rf FD z.2.2.2.1).2 q (by omega) (by omega); omega) | (have e:=z.2.2.1.2; omega) | (have hn:=fm_nok z.2.2.1.1 (j:=i) (by omega) (by omega); have h1:=hn.1; have h2:=hn.2.1; have h3:=hn.2.2.1; omega) | (have hn:=fm_nok z.2.2.1.1 (j:=i) (by omega) (by omega); exact absurd hn.2.2.2.2.1 (by assumption)) | (have hn:=fm_nok z.2.2.1.1 (j:=i) (by omega) (by omega); exact absurd hn.2.2.2.2.2 (by assumption)) | (have hn:=fm_nok z.2.2.1.1 (j:=i) (by omega) (by omega); exact absurd (fk_eq3 (by assumption)) (hn.2.2.2.1 j (by omega) (by omega))))])) rfl
 refine vc_skip ?_
 refine vc_seq ?_
 have hcl:Chk vars N i (fk N (i)).l:=Decidable.not_not.1 (by assumption)
 have hch:Chk vars N i (fk N (i)).h:=Decidable.not_not.1 (by assumption)
 have hg1:0≤(fk N (i)).v∧(fk N (i)).v < vars∧(fk N (i)).l ≠ (fk N (i)).h:=⟨by omega,by omega,by omega⟩
 refine vc_region ?_
 refine oq (qv_mv (Value.int .i64 i) rfl) ?_
 refine oq (qv_mv (Value.int .i64 0) rfl) ?_
 refine ops_nil ?_
 refine vc_block ?_
 refine vc_loop (α:=Int) (fun (xx:Int)=>[(0,ζ3),(1,(Value.pointer (some ⟨b1,0,none⟩))),(3,(Value.int .i64 i)),(4,(Value.pointer (some ⟨b2,0,none⟩))),(16,ζ5),(20,(.bool (decide (4096 < ((N.length:Int)))))),(22,nv),(23,(.int .i64 ((N.length:Int)))),(24,(Value.int .i64 i)),(25,(.bool (decide (i < ((N.length:Int)))))),(61,(.bool (decide (¬ (Chk vars N i ((fk N (i)).h)))))),(62,(Value.int .i64 i)),(63,(Value.int .i64 xx))]) (fun (xx:Int) V' σ'=>V=V'∧[ζ1,ζ2]=σ'∧0≤xx∧xx≤i∧∀ y:Int,0≤y→y < xx→fk N y ≠ fk N i) (fun (xx:Int)=>(i - xx).toNat) (0) ?_ ?_ ?_
 exact ⟨rfl,rfl,rfl,rfl,rfl,rfl,rfl,rfl,rfl,rfl,rfl,rfl,rfl,trivial⟩
 exact ⟨rfl,rfl,by omega,by omega,fun j a b=>by omega⟩
 rintro j e2 V1l σ1l hI1
 obtain ⟨rfl,rfl,i3,i4,hj⟩:V=V1l∧[ζ1,ζ2]=σ1l∧0≤j∧j≤i∧∀ y:Int,0≤y→y < j→fk N y ≠ fk N i:=hI1
 refine vc_seq ?_
 refine vc_region ?_
 refine oq (qv_lss rfl rfl) ?_
 refine ops_nil ?_
 refine vc_seq ?_
 refine vc_if rfl (fun c5=>?_) (fun c5=>?_)
 refine vc_skip ?_
 refine vc_seq ?_
 refine vc_block ?_
 refine vc_seq ?_
 refine vc_region ?_
 refine oq (qv_mv (Value.int .i64 j) rfl) ?_
 refine oq (qv_as (Value.int .i64 j) rfl) ?_
 refine ops_nil ?_
 refine vc_seq ?_
 refine vc_region_any Try.mixed (by kernel_rfl) ?_
 refine qq (qv_fa (off:=0) Try.field59_1 rfl) ?_
 refine qq (qv_ldp (v:=nv) Try.plain23 rfl (inOc (k:=0) rfl) rfl) ?_
 refine qq (qv_mv (Value.int .i64 j) rfl) ?_
 refine qq (qv_ias (v:=nv) (i:=j) Try.underlying23 Try.size80 rfl hN rfl (by omega) (by omega)) ?_
 refine qq (qv_lds (v:=nv) (i:=j) (vs:=[(.int .i64 ((fk N (j)).v)),(.int .i64 ((fk N (j)).l)),(.int .i64 ((fk N (j)).h))]) Try.agg80 rfl hN (by omega) (by omega) (fks_at (N:=N) (by omega) (by omega))) ?_
 refine qq (qv_ldm (vs:=[(.int .i64 ((fk N (i)).v)),(.int .i64 ((fk N (i)).l)),(.int .i64 ((fk N (i)).h))]) Try.agg80 rfl (inOc (k:=1) rfl) rfl rfl) ?_
 refine qq (qv_eqls Try.eq80 [(fk N (j)).v,(fk N (j)).l,(fk N (j)).h] [(fk N (i)).v,(fk N (i)).l,(fk N (i)).h] rfl rfl rfl rfl rfl rfl eq3) ?_
 refine qops_nil ?_
 refine vc_if rfl (fun c6=>?_) (fun c6=>?_)
 refine vc_seq ?_
 refine vc_region ?_
 refine oq (qv_as (Value.int .i64 1) rfl) ?_
 refine ops_nil ?_
 refine vc_ret ?_
 refine blockQ_ret ?_
 refine blockQ_ret ?_
 refine blockQ_ret ?_
 refine blockQ_ret ?_
 subst ζ3 ζ1 ζ5 ζ2
 exact rq1 (.int .i64 (chkC vars N root)) (congrArg (Value.int .i64) (show 1=(chkC vars N root) from by rw [chk_1 (by omega) (by omega) (fun z=>by first | (have e:=(id_fin hF.1 hF.rf FD z.2.2.2.1).1; omega) | (have e:=(id_fin hF.1 hF.rf FD z.2.2.2.1).2 q (by omega) (by omega); omega) | (have e:=z.2.2.1.2; omega) | (have hn:=fm_nok z.2.2.1.1 (j:=i) (by omega) (by omega); have h1:=hn.1; have h2:=hn.2.1; have h3:=hn.2.2.1; omega) | (have hn:=fm_nok z.2.2.1.1 (j:=i) (by omega) (by omega); exact absurd hn.2.2.2.2.1 (by assumption)) | (have hn:=fm_nok z.2.2.1.1 (j:=i) (by omega) (by omega); exact absurd hn.2.2.2.2.2 (by assumption)) | (have hn:=fm_nok z.2.2.1.1 (j:=i) (by omega) (by omega); exact absurd (fk_eq3 (by assumption)) (hn.2.2.2.1 j (by omega) (by omega))))])) rfl
 refine vc_skip ?_
 refine vc_region ?_
 refine oq (qv_add rfl rfl (by omega)) ?_
 refine oq (qv_mv (.int .i64 (j+1)) rfl) ?_
 refine ops_nil ?_
 subst ζ3 ζ1 ζ5 ζ2
 refine ⟨(j+1),⟨rfl,rfl,rfl,rfl,rfl,rfl,rfl,rfl,rfl,rfl,rfl,rfl,(congrArg (Value.int .i64) (show (j+1)=((j+1)) from by omega)),trivial⟩,⟨rfl,rfl,by omega,by omega,all_snoc hj (fun w=>c6 (by rw [w]; exact ⟨rfl,rfl,rfl⟩))⟩,by omega⟩
 refine vc_exit ?_
 refine blockQ_hit ?_
 have hnok:Nok vars N i:=⟨hg1.1,hg1.2.1,hg1.2.2,fun y y0 y1=>hj y y0 (by omega),hcl,hch⟩
 refine vc_drop [ζ1] [(Arr 80 b2 [(Value.int .i64 ((fk N (i)).v)),(Value.int .i64 ((fk N (i)).l)),(Value.int .i64 ((fk N (i)).h))])] ((List.perm_middle (l₁:=[ζ1]) (l₂:=[])).trans (List.perm_append_comm (l₁:=[(Arr 80 b2 [(Value.int .i64 ((fk N (i)).v)),(Value.int .i64 ((fk N (i)).l)),(Value.int .i64 ((fk N (i)).h))])]))) ?_
 refine vc_region ?_
 refine oq (qv_add rfl rfl (by omega)) ?_
 refine oq (qv_mv (.int .i64 (i+1)) rfl) ?_
 refine ops_nil ?_
 refine ⟨(i+1),⟨rfl,rfl,rfl,rfl,rfl,rfl,(congrArg (Value.int .i64) (show (i+1)=((i+1)) from by omega)),trivial⟩,⟨rfl,rfl,by omega,by omega,all_snoc hok hnok⟩,by omega⟩
 refine vc_exit ?_
 refine blockQ_hit ?_
 refine vc_seq ?_
 refine vc_seq ?_
 refine vc_region ?_
 refine oq (qv_fa (off:=0) Try.field59_2 rfl) ?_
 refine oq (qv_ldp (v:=(Value.int .i64 root)) Try.plain3 rfl (inOc (k:=0) rfl) rfl) ?_
 refine oq (qv_lss rfl rfl) ?_
 refine oq (qv_mv (.bool (decide (root < 0))) rfl) ?_
 by_cases g6:root < 0
 refine os (want_fn g6 rfl rfl rfl) ?_
 refine os (want_fn g6 rfl rfl rfl) ?_
 refine os (want_fn g6 rfl rfl rfl) ?_
 refine os (want_fn g6 rfl rfl rfl) ?_
 refine os (want_fn g6 rfl rfl rfl) ?_
 refine os (want_fn g6 rfl rfl rfl) ?_
 refine os (want_fn g6 rfl rfl rfl) ?_
 refine oq (qv_pick_t g6 rfl (rfl:ev _ _=(Value.bool true))) ?_
 refine ops_nil ?_
 refine vc_tt rfl ?_
 refine vc_seq ?_
 refine vc_region ?_
 refine oq (qv_as (Value.int .i64 1) rfl) ?_
 refine ops_nil ?_
 refine vc_ret ?_
 subst ζ3 ζ1 ζ5
 exact rq1 (.int .i64 (chkC vars N root)) (congrArg (Value.int .i64) (show 1=(chkC vars N root) from by rw [chk_1 (by omega) (by omega) (fun z=>by first | (have e:=(id_fin hF.1 hF.rf FD z.2.2.2.1).1; omega) | (have e:=(id_fin hF.1 hF.rf FD z.2.2.2.1).2 q (by omega) (by omega); omega) | (have e:=z.2.2.1.2; omega) | (have hn:=fm_nok z.2.2.1.1 (j:=i) (by omega) (by omega); have h1:=hn.1; have h2:=hn.2.1; have h3:=hn.2.2.1; omega) | (have hn:=fm_nok z.2.2.1.1 (j:=i) (by omega) (by omega); exact absurd hn.2.2.2.2.1 (by assumption)) | (have hn:=fm_nok z.2.2.1.1 (j:=i) (by omega) (by omega); exact absurd hn.2.2.2.2.2 (by assumption)) | (have hn:=fm_nok z.2.2.1.1 (j:=i) (by omega) (by omega); exact absurd (fk_eq3 (by assumption)) (hn.2.2.2.1 j (by omega) (by omega))))])) rfl
 refine og (qv_fa (off:=0) Try.field59_2 rfl) (want_f g6 rfl rfl rfl) ?_
 refine og (qv_ldp (v:=(Value.int .i64 root)) Try.plain3 rfl (inOc (k:=0) rfl) rfl) (want_f g6 rfl rfl rfl) ?_
 refine og (qv_fa (off:=0) Try.field59_1 rfl) (want_f g6 rfl rfl rfl) ?_
 refine og (qv_ldp (v:=nv) Try.plain23 rfl (inOc (k:=0) rfl) rfl) (want_f g6 rfl rfl rfl) ?_
 refine og (qv_lenSS Try.underlying23 rfl hN) (want_f g6 rfl rfl rfl) ?_
 refine og (qv_add rfl rfl (by omega)) (want_f g6 rfl rfl rfl) ?_
 refine og (qv_gtr rfl rfl) (want_f g6 rfl rfl rfl) ?_
 refine oq (qv_pick_f g6 rfl (rfl:ev _ _=(.bool (decide ((1+((N.length:Int))) < root))))) ?_
 refine ops_nil ?_
 refine vc_if rfl (fun c7=>?_) (fun c7=>?_)
 refine vc_seq ?_
 refine vc_region ?_
 refine oq (qv_as (Value.int .i64 1) rfl) ?_
 refine ops_nil ?_
 refine vc_ret ?_
 subst ζ3 ζ1 ζ5
 exact rq1 (.int .i64 (chkC vars N root)) (congrArg (Value.int .i64) (show 1=(chkC vars N root) from by rw [chk_1 (by omega) (by omega) (fun z=>by first | (have e:=(id_fin hF.1 hF.rf FD z.2.2.2.1).1; omega) | (have e:=(id_fin hF.1 hF.rf FD z.2.2.2.1).2 q (by omega) (by omega); omega) | (have e:=z.2.2.1.2; omega) | (have hn:=fm_nok z.2.2.1.1 (j:=i) (by omega) (by omega); have h1:=hn.1; have h2:=hn.2.1; have h3:=hn.2.2.1; omega) | (have hn:=fm_nok z.2.2.1.1 (j:=i) (by omega) (by omega); exact absurd hn.2.2.2.2.1 (by assumption)) | (have hn:=fm_nok z.2.2.1.1 (j:=i) (by omega) (by omega); exact absurd hn.2.2.2.2.2 (by assumption)) | (have hn:=fm_nok z.2.2.1.1 (j:=i) (by omega) (by omega); exact absurd (fk_eq3 (by assumption)) (hn.2.2.2.1 j (by omega) (by omega))))])) rfl
 refine vc_skip ?_
 refine vc_seq ?_
 have hF:Form vars N root:=⟨nok_fm fun j a b=>hok j a (by omega),by omega,by omega⟩
 refine vc_nil 3 1 ?_
 refine vc_region ?_
 refine oq (qv_ldm (vs:=[(Value.int .i64 vars),nv,(Value.int .i64 root)]) Try.agg59 rfl (inOc (k:=0) rfl) rfl rfl) ?_
 refine oq (qv_fa (off:=0) Try.field59_2 rfl) ?_
 refine oq (qv_ldp (v:=(Value.int .i64 root)) Try.plain3 rfl (inOc (k:=0) rfl) rfl) ?_
 refine ops_call (σa:=[(Gr 3 1 ((Value.slice none 0 0)) 0 ([]))]) (σr:=[ζ1]) (fin_c hF.1 (by omega) (root.toNat+1) _ root root ([],pl0) [] (Value.slice none 0 0) hN hF.rf (by have:=hF.2.1; omega) (lyI0 N) (fin0 N)) rfl rfl (perm_idx _ _ [1,0] rfl rfl) (fun r1 V1 sg1 hV1 hp1=>?_)
 obtain ⟨dn,rfl,FD⟩:=hp1
 have hN:=hN.mono hV1
 let ζ4:Asrt:=Gr 3 1 r1 dn.length ((dn.map (Value.int .i64)))
 refine ops_perm (σ':=[ζ1,ζ4]) (perm_idx _ _ [1,0] rfl rfl) ?_
 refine oq (qv_as r1 rfl) ?_
 refine ops_nil ?_
 refine vc_seq ?_
 refine vc_seq ?_
 refine vc_res (σ':=[ζ1,ζ4]) rfl ?_
 refine vc_region ?_
 refine oq (qv_mv r1 rfl) ?_
 refine oq (qv_lenGi Try.underlying22 rfl (inGi (k:=1) rfl)) ?_
 refine oq (qv_fa (off:=0) Try.field59_1 rfl) ?_
 refine oq (qv_ldp (v:=nv) Try.plain23 rfl (inOc (k:=0) rfl) rfl) ?_
 refine oq (qv_lenSS Try.underlying23 rfl hN) ?_
 refine oq (qv_neq rfl rfl) ?_
 refine ops_nil ?_
 refine vc_if rfl (fun c8=>?_) (fun c8=>?_)
 refine vc_seq ?_
 refine vc_region ?_
 refine oq (qv_as (Value.int .i64 1) rfl) ?_
 refine ops_nil ?_
 refine vc_ret ?_
 subst ζ3 ζ1 ζ5 ζ4
 exact rq1 (.int .i64 (chkC vars N root)) (congrArg (Value.int .i64) (show 1=(chkC vars N root) from by rw [chk_1 (by omega) (by omega) (fun z=>by first | (have e:=(id_fin hF.1 hF.rf FD z.2.2.2.1).1; omega) | (have e:=(id_fin hF.1 hF.rf FD z.2.2.2.1).2 q (by omega) (by omega); omega) | (have e:=z.2.2.1.2; omega) | (have hn:=fm_nok z.2.2.1.1 (j:=i) (by omega) (by omega); have h1:=hn.1; have h2:=hn.2.1; have h3:=hn.2.2.1; omega) | (have hn:=fm_nok z.2.2.1.1 (j:=i) (by omega) (by omega); exact absurd hn.2.2.2.2.1 (by assumption)) | (have hn:=fm_nok z.2.2.1.1 (j:=i) (by omega) (by omega); exact absurd hn.2.2.2.2.2 (by assumption)) | (have hn:=fm_nok z.2.2.1.1 (j:=i) (by omega) (by omega); exact absurd (fk_eq3 (by assumption)) (hn.2.2.2.1 j (by omega) (by omega))))])) rfl
 refine vc_skip ?_
 refine vc_seq ?_
 refine vc_seq ?_
 refine vc_region ?_
 refine oq (qv_mv r1 rfl) ?_
 refine oq (qv_lenGi Try.underlying22 rfl (inGi (k:=1) rfl)) ?_
 refine oq (qv_mv (Value.int .i64 0) rfl) ?_
 refine ops_nil ?_
 refine vc_block ?_
 refine vc_loop (α:=Int) (fun (xx:Int)=>[(0,ζ3),(1,(Value.pointer (some ⟨b1,0,none⟩))),(6,r1),(16,ζ5),(20,(.bool (decide (4096 < ((N.length:Int)))))),(22,nv),(23,(.int .i64 ((N.length:Int)))),(24,(Value.int .i64 i)),(25,(.bool (decide (i < ((N.length:Int)))))),(86,(.bool (decide ((1+((N.length:Int))) < root)))),(96,(.bool (decide (((dn.length:Int)) ≠ ((N.length:Int)))))),(97,r1),(98,(.int .i64 ((dn.length:Int)))),(99,(Value.int .i64 xx))]) (fun (xx:Int) V' σ'=>V1=V'∧[ζ1,ζ4]=σ'∧0≤xx∧xx≤dn.length∧∀ y:Int,0≤y→y < xx→gi dn y=y) (fun (xx:Int)=>(dn.length - xx).toNat) (0) ?_ ?_ ?_
 exact ⟨rfl,rfl,rfl,rfl,rfl,rfl,rfl,rfl,rfl,rfl,rfl,rfl,rfl,rfl,trivial⟩
 exact ⟨rfl,rfl,by omega,by omega,fun j a b=>by omega⟩
 rintro q e3 V2l σ2l hI2
 obtain ⟨rfl,rfl,i5,i6,hq⟩:V1=V2l∧[ζ1,ζ4]=σ2l∧0≤q∧q≤dn.length∧∀ y:Int,0≤y→y < q→gi dn y=y:=hI2
 refine vc_seq ?_
 refine vc_region ?_
 refine oq (qv_lss rfl rfl) ?_
 refine ops_nil ?_
 refine vc_seq ?_
 refine vc_if rfl (fun c9=>?_) (fun c9=>?_)
 refine vc_skip ?_
 refine vc_seq ?_
 refine vc_block ?_
 refine vc_seq ?_
 refine vc_region ?_
 refine oq (qv_mv (Value.int .i64 q) rfl) ?_
 refine oq (qv_iai (v:=r1) (i:=q) Try.underlying22 Try.size3 rfl (inGi (k:=1) rfl) rfl (by omega) (by omega)) ?_
 refine oq (qv_ldi (v:=r1) (i:=q) Try.plain3 rfl (inGi (k:=1) rfl) (by omega) (by omega)) ?_
 refine oq (qv_as (Value.int .i64 q) rfl) ?_
 refine oq (qv_as (.int .i64 (gi dn (q))) rfl) ?_
 refine ops_nil ?_
 refine vc_seq ?_
 refine vc_region ?_
 refine oq (qv_mv (.int .i64 (gi dn (q))) rfl) ?_
 refine oq (qv_mv (Value.int .i64 q) rfl) ?_
 refine oq (qv_neq rfl rfl) ?_
 refine ops_nil ?_
 refine vc_if rfl (fun c10=>?_) (fun c10=>?_)
 refine vc_seq ?_
 refine vc_region ?_
 refine oq (qv_as (Value.int .i64 1) rfl) ?_
 refine ops_nil ?_
 refine vc_ret ?_
 refine blockQ_ret ?_
 refine blockQ_ret ?_
 subst ζ3 ζ1 ζ5 ζ4
 exact rq1 (.int .i64 (chkC vars N root)) (congrArg (Value.int .i64) (show 1=(chkC vars N root) from by rw [chk_1 (by omega) (by omega) (fun z=>by first | (have e:=(id_fin hF.1 hF.rf FD z.2.2.2.1).1; omega) | (have e:=(id_fin hF.1 hF.rf FD z.2.2.2.1).2 q (by omega) (by omega); omega) | (have e:=z.2.2.1.2; omega) | (have hn:=fm_nok z.2.2.1.1 (j:=i) (by omega) (by omega); have h1:=hn.1; have h2:=hn.2.1; have h3:=hn.2.2.1; omega) | (have hn:=fm_nok z.2.2.1.1 (j:=i) (by omega) (by omega); exact absurd hn.2.2.2.2.1 (by assumption)) | (have hn:=fm_nok z.2.2.1.1 (j:=i) (by omega) (by omega); exact absurd hn.2.2.2.2.2 (by assumption)) | (have hn:=fm_nok z.2.2.1.1 (j:=i) (by omega) (by omega); exact absurd (fk_eq3 (by assumption)) (hn.2.2.2.1 j (by omega) (by omega))))])) rfl
 refine vc_skip ?_
 refine vc_region ?_
 refine oq (qv_add rfl rfl (by omega)) ?_
 refine oq (qv_mv (.int .i64 (q+1)) rfl) ?_
 refine ops_nil ?_
 refine ⟨(q+1),⟨rfl,rfl,rfl,rfl,rfl,rfl,rfl,rfl,rfl,rfl,rfl,rfl,rfl,(congrArg (Value.int .i64) (show (q+1)=((q+1)) from by omega)),trivial⟩,⟨rfl,rfl,by omega,by omega,all_snoc hq (by omega)⟩,by omega⟩
 refine vc_exit ?_
 refine blockQ_hit ?_
 refine vc_seq ?_
 refine vc_region ?_
 refine oq (qv_as (Value.int .i64 0) rfl) ?_
 refine ops_nil ?_
 refine vc_ret ?_
 subst ζ3 ζ1 ζ5 ζ4
 exact rq1 (.int .i64 (chkC vars N root)) (congrArg (Value.int .i64) (show 0=(chkC vars N root) from by rw [chk_0 ⟨by omega,by omega,hF,(fin_id hF.1 hF.rf FD (by omega) (fun y a b=>hq y a (by omega))).1,(fin_id hF.1 hF.rf FD (by omega) (fun y a b=>hq y a (by omega))).2⟩])) rfl
end Go.Proofs.Ytkmhjcjpohpiaaa.Bd
