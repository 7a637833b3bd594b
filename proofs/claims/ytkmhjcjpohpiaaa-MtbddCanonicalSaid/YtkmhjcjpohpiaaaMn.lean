import Derived.Test.YtkmhjcjpohpiaaaMl
import Derived.Test.YtkmhjcjpohpiaaaMm
/- Walks of mtbdd: what each function returns. Printed by a program out of notes. -/
namespace Go.Proofs.Ytkmhjcjpohpiaaa
open Go.Vc
open Classical
set_option maxRecDepth 100000
set_option maxHeartbeats 4000000
theorem EqT_c {V:HV} {a b:Value} {A B:List P2} (hA:P2s V a A) (hB:P2s V b B) :
    FnC Try.prog 46 [a,b] V [] (fun v _ _=>v=(.bool (decide (A=B)))):=by
 refine fn_intro (N:=26) Try.func46 (by kernel_rfl) rfl rfl rfl (Nat.le_of_ble_eq_true rfl) ?_
 intro w0 D
 have hb:=SlS.bound hA
 have hb2:=SlS.bound hB
 refine vc_seq ?_
 refine vc_region ?_
 refine oq (qv_as (Value.bool false) rfl) ?_
 refine ops_nil ?_
 refine vc_seq ?_
 refine vc_seq ?_
 refine vc_region ?_
 refine oq (qv_mv a rfl) ?_
 refine oq (qv_lenSS Try.underlying53 rfl hA) ?_
 refine oq (qv_mv b rfl) ?_
 refine oq (qv_lenSS Try.underlying53 rfl hB) ?_
 refine oq (qv_neq rfl rfl) ?_
 refine ops_nil ?_
 refine vc_if rfl (fun c1=>?_) (fun c1=>?_)
 refine vc_seq ?_
 refine vc_region ?_
 refine oq (qv_as (Value.bool false) rfl) ?_
 refine ops_nil ?_
 refine vc_ret ?_
 exact rq1 (.bool (decide (A=B))) (congrArg Value.bool (decide_eq_false (show ¬ (A=B) from by intro hx; subst hx; first | omega | exact absurd ⟨rfl,rfl⟩ (by assumption))).symm) rfl
 refine vc_skip ?_
 refine vc_seq ?_
 refine vc_seq ?_
 refine vc_region ?_
 refine oq (qv_mv a rfl) ?_
 refine oq (qv_lenSS Try.underlying53 rfl hA) ?_
 refine oq (qv_mv (Value.int .i64 0) rfl) ?_
 refine ops_nil ?_
 refine vc_block ?_
 refine vc_loop (α:=Int) (fun (xx:Int)=>[(0,a),(1,b),(10,(.bool (decide (((A.length:Int)) ≠ ((B.length:Int)))))),(12,(.int .i64 ((A.length:Int)))),(13,(Value.int .i64 xx))]) (fun (xx:Int) V' σ'=>V=V'∧[]=σ'∧0≤xx∧xx≤A.length∧∀ x:Int,0≤x→x < xx→p2 A x=p2 B x) (fun (xx:Int)=>(A.length - xx).toNat) (0) ?_ ?_ ?_
 exact ⟨rfl,rfl,rfl,rfl,rfl,trivial⟩
 exact ⟨rfl,rfl,by omega,by omega,fun x a b=>by omega⟩
 rintro i e1 V0l σ0l hI0
 obtain ⟨rfl,rfl,i1,i2,hi⟩:V=V0l∧[]=σ0l∧0≤i∧i≤A.length∧∀ x:Int,0≤x→x < i→p2 A x=p2 B x:=hI0
 refine vc_seq ?_
 refine vc_region ?_
 refine oq (qv_lss rfl rfl) ?_
 refine ops_nil ?_
 refine vc_seq ?_
 refine vc_if rfl (fun c2=>?_) (fun c2=>?_)
 refine vc_skip ?_
 refine vc_seq ?_
 refine vc_block ?_
 refine vc_seq ?_
 refine vc_region ?_
 refine oq (qv_mv (Value.int .i64 i) rfl) ?_
 refine oq (qv_as (Value.int .i64 i) rfl) ?_
 refine ops_nil ?_
 refine vc_seq ?_
 refine vc_region_any Try.mixed (by kernel_rfl) ?_
 refine qq (qv_mv a rfl) ?_
 refine qq (qv_mv (Value.int .i64 i) rfl) ?_
 refine qq (qv_ias (v:=a) (i:=i) Try.underlying53 Try.size57 rfl hA rfl (by omega) (by omega)) ?_
 refine qq (qv_lds (v:=a) (i:=i) (vs:=[(.int .i64 ((p2 A (i)).a)),(.int .i64 ((p2 A (i)).b))]) Try.agg57 rfl hA (by omega) (by omega) (p2s_at (by omega) (by omega))) ?_
 refine qq (qv_mv b rfl) ?_
 refine qq (qv_mv (Value.int .i64 i) rfl) ?_
 refine qq (qv_ias (v:=b) (i:=i) Try.underlying53 Try.size57 rfl hB rfl (by omega) (by omega)) ?_
 refine qq (qv_lds (v:=b) (i:=i) (vs:=[(.int .i64 ((p2 B (i)).a)),(.int .i64 ((p2 B (i)).b))]) Try.agg57 rfl hB (by omega) (by omega) (p2s_at (by omega) (by omega))) ?_
 refine qq (qv_neqs Try.eq57 [(p2 A (i)).a,(p2 A (i)).b] [(p2 B (i)).a,(p2 B (i)).b] rfl rfl rfl rfl rfl rfl eq2) ?_
 refine qops_nil ?_
 refine vc_if rfl (fun c3=>?_) (fun c3=>?_)
 refine vc_seq ?_
 refine vc_region ?_
 refine oq (qv_as (Value.bool false) rfl) ?_
 refine ops_nil ?_
 refine vc_ret ?_
 refine blockQ_ret ?_
 refine blockQ_ret ?_
 exact rq1 (.bool (decide (A=B))) (congrArg Value.bool (decide_eq_false (show ¬ (A=B) from by intro hx; subst hx; first | omega | exact absurd ⟨rfl,rfl⟩ (by assumption))).symm) rfl
 refine vc_skip ?_
 refine vc_region ?_
 refine oq (qv_add rfl rfl (by omega)) ?_
 refine oq (qv_mv (.int .i64 (i+1)) rfl) ?_
 refine ops_nil ?_
 refine ⟨(i+1),⟨rfl,rfl,rfl,rfl,(congrArg (Value.int .i64) (show (i+1)=((i+1)) from by omega)),trivial⟩,⟨rfl,rfl,by omega,by omega,all_snoc hi (p2_eq (Decidable.not_not.1 (by assumption)))⟩,by omega⟩
 refine vc_exit ?_
 refine blockQ_hit ?_
 refine vc_seq ?_
 refine vc_region ?_
 refine oq (qv_as (Value.bool true) rfl) ?_
 refine ops_nil ?_
 refine vc_ret ?_
 exact rq1 (.bool (decide (A=B))) (congrArg Value.bool (decide_eq_true (show (A=B) from by exact ext_p2 (by omega) (fun x a b=>hi x a (by omega)))).symm) rfl
theorem same_c {V:HV} {la na:Value} {A:Mg} (hA:Mt V la na A) {lb nb:Value} {B:Mg} (hB:Mt V lb nb B) :
    FnC Try.prog 24 [(.agg #[(.int .i64 A.v),la,na,(.int .i64 A.r)]),(.agg #[(.int .i64 B.v),lb,nb,(.int .i64 B.r)])] V [] (fun v _ _=>v=(.bool (decide (A=B)))):=by
 refine fn_intro (N:=31) Try.func24 (by kernel_rfl) rfl rfl rfl (Nat.le_of_ble_eq_true rfl) ?_
 intro w0 D
 refine vc_seq ?_
 refine vc_region ?_
 refine ops_box (v:=(.agg #[(.int .i64 A.v),la,na,(.int .i64 A.r)])) (cs:=[(.int .i64 A.v),la,na,(.int .i64 A.r)]) rfl rfl (fun b1=>?_)
 refine ops_box (v:=(.agg #[(.int .i64 B.v),lb,nb,(.int .i64 B.r)])) (cs:=[(.int .i64 B.v),lb,nb,(.int .i64 B.r)]) rfl rfl (fun b2=>?_)
 refine oq (qv_as (Value.bool false) rfl) ?_
 refine ops_nil ?_
 refine vc_seq ?_
 refine vc_res (σ':=[(Arr 25 b1 [(.int .i64 A.v),la,na,(.int .i64 A.r)]),(Arr 25 b2 [(.int .i64 B.v),lb,nb,(.int .i64 B.r)])]) rfl ?_
 refine vc_region ?_
 refine oq (qv_fa (off:=0) Try.field25_0 rfl) ?_
 refine oq (qv_ldp (v:=(.int .i64 A.v)) Try.plain3 rfl (inOc (k:=0) rfl) rfl) ?_
 refine oq (qv_fa (off:=0) Try.field25_0 rfl) ?_
 refine oq (qv_ldp (v:=(.int .i64 B.v)) Try.plain3 rfl (inOc (k:=1) rfl) rfl) ?_
 refine oq (qv_eql rfl rfl) ?_
 refine oq (qv_mv (.bool (decide (A.v=B.v))) rfl) ?_
 by_cases g1:A.v=B.v
 refine og (qv_fa (off:=0) Try.field25_3 rfl) (want_t g1 rfl rfl rfl) ?_
 refine og (qv_ldp (v:=(.int .i64 A.r)) Try.plain3 rfl (inOc (k:=0) rfl) rfl) (want_t g1 rfl rfl rfl) ?_
 refine og (qv_fa (off:=0) Try.field25_3 rfl) (want_t g1 rfl rfl rfl) ?_
 refine og (qv_ldp (v:=(.int .i64 B.r)) Try.plain3 rfl (inOc (k:=1) rfl) rfl) (want_t g1 rfl rfl rfl) ?_
 refine og (qv_eql rfl rfl) (want_t g1 rfl rfl rfl) ?_
 refine oq (qv_pick_t g1 rfl (rfl:ev _ _=(.bool (decide (A.r=B.r))))) ?_
 refine oq (qv_mv (.bool (decide (A.r=B.r))) rfl) ?_
 by_cases g2:A.r=B.r
 refine og (qv_fa (off:=0) Try.field25_1 rfl) (want_t g2 rfl rfl rfl) ?_
 refine og (qv_ldp (v:=la) Try.plain22 rfl (inOc (k:=0) rfl) rfl) (want_t g2 rfl rfl rfl) ?_
 refine og (qv_fa (off:=0) Try.field25_1 rfl) (want_t g2 rfl rfl rfl) ?_
 refine og (qv_ldp (v:=lb) Try.plain22 rfl (inOc (k:=1) rfl) rfl) (want_t g2 rfl rfl rfl) ?_
 refine og (qv_call (v:=(.bool (decide (A.L=B.L)))) (EqI_c hA.l hB.l) rfl rfl) (want_t g2 rfl rfl rfl) ?_
 refine oq (qv_pick_t g2 rfl (rfl:ev _ _=(.bool (decide (A.L=B.L))))) ?_
 refine oq (qv_mv (.bool (decide (A.L=B.L))) rfl) ?_
 by_cases g3:A.L=B.L
 refine og (qv_fa (off:=0) Try.field25_2 rfl) (want_t g3 rfl rfl rfl) ?_
 refine og (qv_ldp (v:=na) Try.plain23 rfl (inOc (k:=0) rfl) rfl) (want_t g3 rfl rfl rfl) ?_
 refine og (qv_fa (off:=0) Try.field25_2 rfl) (want_t g3 rfl rfl rfl) ?_
 refine og (qv_ldp (v:=nb) Try.plain23 rfl (inOc (k:=1) rfl) rfl) (want_t g3 rfl rfl rfl) ?_
 refine og (qv_call (v:=(.bool (decide (A.N=B.N)))) (EqF_c hA.n hB.n) rfl rfl) (want_t g3 rfl rfl rfl) ?_
 refine oq (qv_pick_t g3 rfl (rfl:ev _ _=(.bool (decide (A.N=B.N))))) ?_
 refine oq (qv_as (.bool (decide (A.N=B.N))) rfl) ?_
 refine ops_nil ?_
 refine vc_ret ?_
 exact rq1 (.bool (decide (A=B))) (congrArg Value.bool (decide_eq_decide.2 (show (A.N=B.N) ↔ (A=B) from by first | exact ⟨fun q=>mg_ext (by omega) (by assumption) q (by omega),fun q=>by rw [q]⟩ | exact ⟨fun q=>mg_ext (by omega) q (by assumption) (by omega),fun q=>by rw [q]⟩))) rfl
 refine os (want_tn g3 rfl rfl rfl) ?_
 refine os (want_tn g3 rfl rfl rfl) ?_
 refine os (want_tn g3 rfl rfl rfl) ?_
 refine os (want_tn g3 rfl rfl rfl) ?_
 refine os (want_tn g3 rfl rfl rfl) ?_
 refine oq (qv_pick_f g3 rfl (rfl:ev _ _=(Value.bool false))) ?_
 refine oq (qv_as (Value.bool false) rfl) ?_
 refine ops_nil ?_
 refine vc_ret ?_
 exact rq1 (.bool (decide (A=B))) (congrArg Value.bool (decide_eq_false (show ¬ (A=B) from by exact fun q=>by subst q; first | exact absurd rfl (by assumption) | omega)).symm) rfl
 refine os (want_tn g2 rfl rfl rfl) ?_
 refine os (want_tn g2 rfl rfl rfl) ?_
 refine os (want_tn g2 rfl rfl rfl) ?_
 refine os (want_tn g2 rfl rfl rfl) ?_
 refine os (want_tn g2 rfl rfl rfl) ?_
 refine oq (qv_pick_f g2 rfl (rfl:ev _ _=(Value.bool false))) ?_
 refine oq (qv_mv (Value.bool false) rfl) ?_
 refine os (want_tnc rfl rfl rfl) ?_
 refine os (want_tnc rfl rfl rfl) ?_
 refine os (want_tnc rfl rfl rfl) ?_
 refine os (want_tnc rfl rfl rfl) ?_
 refine os (want_tnc rfl rfl rfl) ?_
 refine oq (qv_pick_fc rfl (rfl:ev _ _=(Value.bool false))) ?_
 refine oq (qv_as (Value.bool false) rfl) ?_
 refine ops_nil ?_
 refine vc_ret ?_
 exact rq1 (.bool (decide (A=B))) (congrArg Value.bool (decide_eq_false (show ¬ (A=B) from by exact fun q=>by subst q; first | exact absurd rfl (by assumption) | omega)).symm) rfl
 refine os (want_tn g1 rfl rfl rfl) ?_
 refine os (want_tn g1 rfl rfl rfl) ?_
 refine os (want_tn g1 rfl rfl rfl) ?_
 refine os (want_tn g1 rfl rfl rfl) ?_
 refine os (want_tn g1 rfl rfl rfl) ?_
 refine oq (qv_pick_f g1 rfl (rfl:ev _ _=(Value.bool false))) ?_
 refine oq (qv_mv (Value.bool false) rfl) ?_
 refine os (want_tnc rfl rfl rfl) ?_
 refine os (want_tnc rfl rfl rfl) ?_
 refine os (want_tnc rfl rfl rfl) ?_
 refine os (want_tnc rfl rfl rfl) ?_
 refine os (want_tnc rfl rfl rfl) ?_
 refine oq (qv_pick_fc rfl (rfl:ev _ _=(Value.bool false))) ?_
 refine oq (qv_mv (Value.bool false) rfl) ?_
 refine os (want_tnc rfl rfl rfl) ?_
 refine os (want_tnc rfl rfl rfl) ?_
 refine os (want_tnc rfl rfl rfl) ?_
 refine os (want_tnc rfl rfl rfl) ?_
 refine os (want_tnc rfl rfl rfl) ?_
 refine oq (qv_pick_fc rfl (rfl:ev _ _=(Value.bool false))) ?_
 refine oq (qv_as (Value.bool false) rfl) ?_
 refine ops_nil ?_
 refine vc_ret ?_
 exact rq1 (.bool (decide (A=B))) (congrArg Value.bool (decide_eq_false (show ¬ (A=B) from by exact fun q=>by subst q; first | exact absurd rfl (by assumption) | omega)).symm) rfl
theorem known_c {V:HV} :
    FnC Try.prog 11 [] V [] (fun v _ _=>v=(Value.bool true)):=by
 refine fn_intro (N:=79) Try.func11 (by kernel_rfl) rfl rfl rfl (Nat.le_of_ble_eq_true rfl) ?_
 intro w0 D
 refine vc_seq ?_
 refine vc_region ?_
 refine oq (qv_as (Value.bool false) rfl) ?_
 refine ops_nil ?_
 refine vc_seq ?_
 refine vc_region ?_
 refine ops_lit (n:=4) (s:=1) (cs:=[(Value.int .i64 5),(Value.int .i64 7),(Value.int .i64 5),(Value.int .i64 5)]) Try.underlying22 Try.ti3 (Nat.le_of_ble_eq_true rfl) rfl rfl rfl (Nat.le_of_ble_eq_true rfl) rfl (fun b1=>?_)
 refine ops_freeze (b:=b1) (o:=.cells ([(Value.int .i64 5),(Value.int .i64 7),(Value.int .i64 5),(Value.int .i64 5)]:List Value).toArray 3 (0,0)) (σr:=[]) (List.perm_middle (l₁:=[]) (l₂:=[])) (fun Vf1 hVf1 hb1=>?_)
 have hc1:Cells Vf1 b1 [(Value.int .i64 5),(Value.int .i64 7),(Value.int .i64 5),(Value.int .i64 5)]:=⟨_,_,hb1⟩
 refine ops_call (σa:=[]) (σr:=[]) (by have h:=FromTable_c (vars:=2) (t:=T0) (tv:=(.slice (some ⟨b1,0,none⟩) 4 4)) (ints_cells (n:=4) (c:=4) hc1 rfl (Nat.le_refl _) (by omega)); rw [x0_ft.1,x0_ft.2] at h; exact h) rfl rfl (.refl _) (fun r1 V1 sg1 hV1 hp1=>?_)
 obtain ⟨rfl,lv1,nv1,rfl,hMt⟩:=hp1
 have hc1:=hc1.mono hV1
 refine oq (qv_mv (.tuple #[(.agg #[(.int .i64 ((X0).v)),lv1,nv1,(.int .i64 ((X0).r))]),(Value.int .i64 0)]) rfl) ?_
 refine oq (qv_ext (.agg #[(.int .i64 ((X0).v)),lv1,nv1,(.int .i64 ((X0).r))]) rfl rfl) ?_
 refine oq (qv_ext (Value.int .i64 0) rfl rfl) ?_
 refine ops_alloc Try.ti25 rfl (fun b2=>?_)
 refine ops_stw (k:=0) (vs:=[(.int .i64 ((X0).v)),lv1,nv1,(.int .i64 ((X0).r))]) Try.size25 rfl rfl rfl (allc rfl (allc (Sl.one hMt.l) (allc (SlS.one hMt.n) (allc rfl rfl)))) rfl rfl ?_
 refine oq (qv_as (Value.int .i64 0) rfl) ?_
 refine ops_nil ?_
 refine vc_seq ?_
 refine vc_res (σ':=[(Arr 25 b2 [(.int .i64 ((X0).v)),lv1,nv1,(.int .i64 ((X0).r))])]) rfl ?_
 refine vc_region ?_
 refine oq (qv_ldm (vs:=[(.int .i64 ((X0).v)),lv1,nv1,(.int .i64 ((X0).r))]) Try.agg25 rfl (inOc (k:=0) rfl) rfl rfl) ?_
 refine ops_call (σa:=[]) (σr:=[(Arr 25 b2 [(.int .i64 ((X0).v)),lv1,nv1,(.int .i64 ((X0).r))])]) (by have h:=Histogram_c (A:=X0) hMt; rw [vE1_0 x0_ok,x0_hg] at h; exact h) rfl rfl (.refl _) (fun r2 V2 sg2 hV2 hp2=>?_)
 obtain ⟨rfl,u1,rfl,hP⟩:=hp2
 have hc1:=hc1.mono hV2
 have hMt:=hMt.mono hV2
 refine oq (qv_mv (.tuple #[u1,(Value.int .i64 0)]) rfl) ?_
 refine oq (qv_ext u1 rfl rfl) ?_
 refine oq (qv_ext (Value.int .i64 0) rfl rfl) ?_
 refine oq (qv_as u1 rfl) ?_
 refine oq (qv_as (Value.int .i64 0) rfl) ?_
 refine ops_nil ?_
 refine vc_seq ?_
 refine vc_region ?_
 refine oq (qv_ldm (vs:=[(.int .i64 ((X0).v)),lv1,nv1,(.int .i64 ((X0).r))]) Try.agg25 rfl (inOc (k:=0) rfl) rfl rfl) ?_
 refine ops_call (σa:=[]) (σr:=[(Arr 25 b2 [(.int .i64 ((X0).v)),lv1,nv1,(.int .i64 ((X0).r))])]) (by have h:=SumOut_c (A:=X0) (i:=1) hMt; rw [y0_bo.1,y0_bo.2] at h; exact h) rfl rfl (.refl _) (fun r3 V3 sg3 hV3 hp3=>?_)
 obtain ⟨rfl,lv1b,nv1b,rfl,hMtb⟩:=hp3
 have hc1:=hc1.mono hV3
 have hMt:=hMt.mono hV3
 have hP:=hP.mono hV3
 refine oq (qv_mv (.tuple #[(.agg #[(.int .i64 ((Y0).v)),lv1b,nv1b,(.int .i64 ((Y0).r))]),(Value.int .i64 0)]) rfl) ?_
 refine oq (qv_ext (.agg #[(.int .i64 ((Y0).v)),lv1b,nv1b,(.int .i64 ((Y0).r))]) rfl rfl) ?_
 refine oq (qv_ext (Value.int .i64 0) rfl rfl) ?_
 refine ops_alloc Try.ti25 rfl (fun b3=>?_)
 refine ops_stw (k:=1) (vs:=[(.int .i64 ((Y0).v)),lv1b,nv1b,(.int .i64 ((Y0).r))]) Try.size25 rfl rfl rfl (allc rfl (allc (Sl.one hMtb.l) (allc (SlS.one hMtb.n) (allc rfl rfl)))) rfl rfl ?_
 refine oq (qv_as (Value.int .i64 0) rfl) ?_
 refine ops_nil ?_
 refine vc_seq ?_
 refine vc_res (σ':=[(Arr 25 b2 [(.int .i64 ((X0).v)),lv1,nv1,(.int .i64 ((X0).r))]),(Arr 25 b3 [(.int .i64 ((Y0).v)),lv1b,nv1b,(.int .i64 ((Y0).r))])]) rfl ?_
 refine vc_region ?_
 refine ops_call (σa:=[]) (σr:=[(Arr 25 b2 [(.int .i64 ((X0).v)),lv1,nv1,(.int .i64 ((X0).r))]),(Arr 25 b3 [(.int .i64 ((Y0).v)),lv1b,nv1b,(.int .i64 ((Y0).r))])]) (by have h:=Constant_c (V:=V3) (vars:=3) (z:=-4); rw [w0_cn.1,w0_cn.2] at h; exact h) rfl rfl (.refl _) (fun r4 V4 sg4 hV4 hp4=>?_)
 obtain ⟨rfl,lv1c,nv1c,rfl,hMtc⟩:=hp4
 have hc1:=hc1.mono hV4
 have hMt:=hMt.mono hV4
 have hP:=hP.mono hV4
 have hMtb:=hMtb.mono hV4
 refine oq (qv_mv (.tuple #[(.agg #[(.int .i64 ((W0).v)),lv1c,nv1c,(.int .i64 ((W0).r))]),(Value.int .i64 0)]) rfl) ?_
 refine oq (qv_ext (.agg #[(.int .i64 ((W0).v)),lv1c,nv1c,(.int .i64 ((W0).r))]) rfl rfl) ?_
 refine oq (qv_ext (Value.int .i64 0) rfl rfl) ?_
 refine ops_alloc Try.ti25 rfl (fun b4=>?_)
 refine ops_stw (k:=2) (vs:=[(.int .i64 ((W0).v)),lv1c,nv1c,(.int .i64 ((W0).r))]) Try.size25 rfl rfl rfl (allc rfl (allc (Sl.one hMtc.l) (allc (SlS.one hMtc.n) (allc rfl rfl)))) rfl rfl ?_
 refine oq (qv_as (Value.int .i64 0) rfl) ?_
 refine ops_nil ?_
 refine vc_seq ?_
 refine vc_res (σ':=[(Arr 25 b2 [(.int .i64 ((X0).v)),lv1,nv1,(.int .i64 ((X0).r))]),(Arr 25 b3 [(.int .i64 ((Y0).v)),lv1b,nv1b,(.int .i64 ((Y0).r))]),(Arr 25 b4 [(.int .i64 ((W0).v)),lv1c,nv1c,(.int .i64 ((W0).r))])]) rfl ?_
 refine vc_region ?_
 refine oq (qv_mv (Value.int .i64 0) rfl) ?_
 refine oq (qv_mv (Value.int .i64 0) rfl) ?_
 refine oq (qv_add rfl rfl (by omega)) ?_
 refine oq (qv_mv (Value.int .i64 0) rfl) ?_
 refine oq (qv_add rfl rfl (by omega)) ?_
 refine oq (qv_mv (Value.int .i64 0) rfl) ?_
 refine oq (qv_add rfl rfl (by omega)) ?_
 refine oq (qv_eql rfl rfl) ?_
 refine oq (qv_mv (.bool (decide ((((0+0)+0)+0)=0))) rfl) ?_
 by_cases g1:(((0+0)+0)+0)=0
 refine og (qv_ldm (vs:=[(.int .i64 ((X0).v)),lv1,nv1,(.int .i64 ((X0).r))]) Try.agg25 rfl (inOc (k:=0) rfl) rfl rfl) (want_t g1 rfl rfl rfl) ?_
 refine ops_want (want_t g1 rfl rfl rfl) ?_
 refine ops_lit (n:=2) (s:=1) (cs:=[(Value.int .i64 5),(Value.int .i64 7)]) Try.underlying22 Try.ti3 (Nat.le_of_ble_eq_true rfl) rfl rfl rfl (Nat.le_of_ble_eq_true rfl) rfl (fun b5=>?_)
 refine og (qv_build (out:=[(Value.int .i64 1),(Value.int .i64 0),(Value.int .i64 1)]) Try.build80 [(0,[(Value.int .i64 1)]),(1,[(Value.int .i64 0)]),(2,[(Value.int .i64 1)])] rfl rfl) (want_t g1 rfl rfl rfl) ?_
 refine og (qv_build (out:=[(Value.int .i64 0),(Value.int .i64 2),(Value.int .i64 0)]) Try.build80 [(0,[(Value.int .i64 0)]),(1,[(Value.int .i64 2)]),(2,[(Value.int .i64 0)])] rfl rfl) (want_t g1 rfl rfl rfl) ?_
 refine ops_want (want_t g1 rfl rfl rfl) ?_
 refine ops_lit (n:=2) (s:=3) (cs:=[(Value.int .i64 1),(Value.int .i64 0),(Value.int .i64 1),(Value.int .i64 0),(Value.int .i64 2),(Value.int .i64 0)]) Try.underlying23 Try.ti80 (Nat.le_of_ble_eq_true rfl) rfl rfl rfl (Nat.le_of_ble_eq_true rfl) rfl (fun b6=>?_)
 refine og (qv_build (out:=[(Value.int .i64 2),(.slice (some ⟨b5,0,none⟩) 2 2),(.slice (some ⟨b6,0,none⟩) 2 2),(Value.int .i64 3)]) Try.build25 [(0,[(Value.int .i64 2)]),(1,[(.slice (some ⟨b5,0,none⟩) 2 2)]),(2,[(.slice (some ⟨b6,0,none⟩) 2 2)]),(3,[(Value.int .i64 3)])] rfl rfl) (want_t g1 rfl rfl rfl) ?_
 let ζ1:Asrt:=Arr 25 b3 [(Value.int .i64 ((Y0).v)),lv1b,nv1b,(Value.int .i64 ((Y0).r))]
 let ζ2:Asrt:=Arr 25 b4 [(Value.int .i64 ((W0).v)),lv1c,nv1c,(Value.int .i64 ((W0).r))]
 let ζ3:Asrt:=Arr 25 b2 [(Value.int .i64 ((X0).v)),lv1,nv1,(Value.int .i64 ((X0).r))]
 refine ops_freeze (b:=b5) (o:=.cells ([(Value.int .i64 5),(Value.int .i64 7)]:List Value).toArray 3 (0,0)) (σr:=[ζ3,ζ1,ζ2,(Arr 80 b6 [(Value.int .i64 1),(Value.int .i64 0),(Value.int .i64 1),(Value.int .i64 0),(Value.int .i64 2),(Value.int .i64 0)])]) (List.perm_middle (l₁:=[ζ3,ζ1,ζ2]) (l₂:=[(Arr 80 b6 [(Value.int .i64 1),(Value.int .i64 0),(Value.int .i64 1),(Value.int .i64 0),(Value.int .i64 2),(Value.int .i64 0)])])) (fun Vf2 hVf2 hb2=>?_)
 have hc2:Cells Vf2 b5 [(Value.int .i64 5),(Value.int .i64 7)]:=⟨_,_,hb2⟩
 have hc1:=hc1.mono hVf2
 have hMt:=hMt.mono hVf2
 have hP:=hP.mono hVf2
 have hMtb:=hMtb.mono hVf2
 have hMtc:=hMtc.mono hVf2
 refine ops_freeze (b:=b6) (o:=.cells ([(Value.int .i64 1),(Value.int .i64 0),(Value.int .i64 1),(Value.int .i64 0),(Value.int .i64 2),(Value.int .i64 0)]:List Value).toArray 80 (0,0)) (σr:=[ζ3,ζ1,ζ2]) (List.perm_middle (l₁:=[ζ3,ζ1,ζ2]) (l₂:=[])) (fun Vf3 hVf3 hb3=>?_)
 have hc3:Cells Vf3 b6 [(Value.int .i64 1),(Value.int .i64 0),(Value.int .i64 1),(Value.int .i64 0),(Value.int .i64 2),(Value.int .i64 0)]:=⟨_,_,hb3⟩
 have hc1:=hc1.mono hVf3
 have hMt:=hMt.mono hVf3
 have hP:=hP.mono hVf3
 have hMtb:=hMtb.mono hVf3
 have hMtc:=hMtc.mono hVf3
 have hc2:=hc2.mono hVf3
 refine og (qv_call (v:=(.bool (decide (X0=X0)))) (same_c (A:=X0) (B:=X0) hMt ⟨(ints_cells (n:=2) (c:=2) hc2 rfl (Nat.le_refl _) (by omega)),(cells_sls (n:=2) (c:=2) hc3 rfl (Nat.le_refl _) (by omega))⟩) rfl rfl) (want_t g1 rfl rfl rfl) ?_
 refine oq (qv_pick_t g1 rfl (rfl:ev _ _=(.bool (decide (X0=X0))))) ?_
 refine oq (qv_mv (.bool (decide (X0=X0))) rfl) ?_
 by_cases g2:X0=X0
 refine og (qv_mv u1 rfl) (want_t g2 rfl rfl rfl) ?_
 refine og (qv_build (out:=[(Value.int .i64 5),(Value.int .i64 3)]) Try.build57 [(0,[(Value.int .i64 5)]),(1,[(Value.int .i64 3)])] rfl rfl) (want_t g2 rfl rfl rfl) ?_
 refine og (qv_build (out:=[(Value.int .i64 7),(Value.int .i64 1)]) Try.build57 [(0,[(Value.int .i64 7)]),(1,[(Value.int .i64 1)])] rfl rfl) (want_t g2 rfl rfl rfl) ?_
 refine ops_want (want_t g2 rfl rfl rfl) ?_
 refine ops_lit (n:=2) (s:=2) (cs:=[(Value.int .i64 5),(Value.int .i64 3),(Value.int .i64 7),(Value.int .i64 1)]) Try.underlying53 Try.ti57 (Nat.le_of_ble_eq_true rfl) rfl rfl rfl (Nat.le_of_ble_eq_true rfl) rfl (fun b7=>?_)
 refine ops_freeze (b:=b7) (o:=.cells ([(Value.int .i64 5),(Value.int .i64 3),(Value.int .i64 7),(Value.int .i64 1)]:List Value).toArray 57 (0,0)) (σr:=[ζ3,ζ1,ζ2]) (List.perm_middle (l₁:=[ζ3,ζ1,ζ2]) (l₂:=[])) (fun Vf4 hVf4 hb4=>?_)
 have hc4:Cells Vf4 b7 [(Value.int .i64 5),(Value.int .i64 3),(Value.int .i64 7),(Value.int .i64 1)]:=⟨_,_,hb4⟩
 have hc1:=hc1.mono hVf4
 have hMt:=hMt.mono hVf4
 have hP:=hP.mono hVf4
 have hMtb:=hMtb.mono hVf4
 have hMtc:=hMtc.mono hVf4
 have hc2:=hc2.mono hVf4
 have hc3:=hc3.mono hVf4
 refine og (qv_call (v:=(.bool (decide (H0=H0)))) (EqT_c (A:=H0) (B:=H0) hP (cells_sls (n:=2) (c:=2) hc4 rfl (Nat.le_refl _) (by omega))) rfl rfl) (want_t g2 rfl rfl rfl) ?_
 refine oq (qv_pick_t g2 rfl (rfl:ev _ _=(.bool (decide (H0=H0))))) ?_
 refine oq (qv_mv (.bool (decide (H0=H0))) rfl) ?_
 by_cases g3:H0=H0
 refine og (qv_ldm (vs:=[(.int .i64 ((Y0).v)),lv1b,nv1b,(.int .i64 ((Y0).r))]) Try.agg25 rfl (inOc (k:=1) rfl) rfl rfl) (want_t g3 rfl rfl rfl) ?_
 refine ops_want (want_t g3 rfl rfl rfl) ?_
 refine ops_lit (n:=2) (s:=1) (cs:=[(Value.int .i64 10),(Value.int .i64 12)]) Try.underlying22 Try.ti3 (Nat.le_of_ble_eq_true rfl) rfl rfl rfl (Nat.le_of_ble_eq_true rfl) rfl (fun b8=>?_)
 refine og (qv_build (out:=[(Value.int .i64 0),(Value.int .i64 1),(Value.int .i64 0)]) Try.build80 [(0,[(Value.int .i64 0)]),(1,[(Value.int .i64 1)]),(2,[(Value.int .i64 0)])] rfl rfl) (want_t g3 rfl rfl rfl) ?_
 refine ops_want (want_t g3 rfl rfl rfl) ?_
 refine ops_lit (n:=1) (s:=3) (cs:=[(Value.int .i64 0),(Value.int .i64 1),(Value.int .i64 0)]) Try.underlying23 Try.ti80 (Nat.le_of_ble_eq_true rfl) rfl rfl rfl (Nat.le_of_ble_eq_true rfl) rfl (fun b9=>?_)
 refine og (qv_build (out:=[(Value.int .i64 2),(.slice (some ⟨b8,0,none⟩) 2 2),(.slice (some ⟨b9,0,none⟩) 1 1),(Value.int .i64 2)]) Try.build25 [(0,[(Value.int .i64 2)]),(1,[(.slice (some ⟨b8,0,none⟩) 2 2)]),(2,[(.slice (some ⟨b9,0,none⟩) 1 1)]),(3,[(Value.int .i64 2)])] rfl rfl) (want_t g3 rfl rfl rfl) ?_
 refine ops_freeze (b:=b8) (o:=.cells ([(Value.int .i64 10),(Value.int .i64 12)]:List Value).toArray 3 (0,0)) (σr:=[ζ3,ζ1,ζ2,(Arr 80 b9 [(Value.int .i64 0),(Value.int .i64 1),(Value.int .i64 0)])]) (List.perm_middle (l₁:=[ζ3,ζ1,ζ2]) (l₂:=[(Arr 80 b9 [(Value.int .i64 0),(Value.int .i64 1),(Value.int .i64 0)])])) (fun Vf5 hVf5 hb5=>?_)
 have hc5:Cells Vf5 b8 [(Value.int .i64 10),(Value.int .i64 12)]:=⟨_,_,hb5⟩
 have hc1:=hc1.mono hVf5
 have hMt:=hMt.mono hVf5
 have hP:=hP.mono hVf5
 have hMtb:=hMtb.mono hVf5
 have hMtc:=hMtc.mono hVf5
 have hc2:=hc2.mono hVf5
 have hc3:=hc3.mono hVf5
 have hc4:=hc4.mono hVf5
 refine ops_freeze (b:=b9) (o:=.cells ([(Value.int .i64 0),(Value.int .i64 1),(Value.int .i64 0)]:List Value).toArray 80 (0,0)) (σr:=[ζ3,ζ1,ζ2]) (List.perm_middle (l₁:=[ζ3,ζ1,ζ2]) (l₂:=[])) (fun Vf6 hVf6 hb6=>?_)
 have hc6:Cells Vf6 b9 [(Value.int .i64 0),(Value.int .i64 1),(Value.int .i64 0)]:=⟨_,_,hb6⟩
 have hc1:=hc1.mono hVf6
 have hMt:=hMt.mono hVf6
 have hP:=hP.mono hVf6
 have hMtb:=hMtb.mono hVf6
 have hMtc:=hMtc.mono hVf6
 have hc2:=hc2.mono hVf6
 have hc3:=hc3.mono hVf6
 have hc4:=hc4.mono hVf6
 have hc5:=hc5.mono hVf6
 refine og (qv_call (v:=(.bool (decide (Y0=Y0)))) (same_c (A:=Y0) (B:=Y0) hMtb ⟨(ints_cells (n:=2) (c:=2) hc5 rfl (Nat.le_refl _) (by omega)),(cells_sls (n:=1) (c:=1) hc6 rfl (Nat.le_refl _) (by omega))⟩) rfl rfl) (want_t g3 rfl rfl rfl) ?_
 refine oq (qv_pick_t g3 rfl (rfl:ev _ _=(.bool (decide (Y0=Y0))))) ?_
 refine oq (qv_mv (.bool (decide (Y0=Y0))) rfl) ?_
 by_cases g4:Y0=Y0
 refine og (qv_ldm (vs:=[(.int .i64 ((W0).v)),lv1c,nv1c,(.int .i64 ((W0).r))]) Try.agg25 rfl (inOc (k:=2) rfl) rfl rfl) (want_t g4 rfl rfl rfl) ?_
 refine ops_want (want_t g4 rfl rfl rfl) ?_
 refine ops_lit (n:=1) (s:=1) (cs:=[(.int .i64 ((-4)))]) Try.underlying22 Try.ti3 (Nat.le_of_ble_eq_true rfl) rfl rfl rfl (Nat.le_of_ble_eq_true rfl) rfl (fun b10=>?_)
 refine og (qv_build (out:=[(Value.int .i64 3),(.slice (some ⟨b10,0,none⟩) 1 1),(Value.slice none 0 0),(Value.int .i64 0)]) Try.build25 [(0,[(Value.int .i64 3)]),(1,[(.slice (some ⟨b10,0,none⟩) 1 1)])] rfl rfl) (want_t g4 rfl rfl rfl) ?_
 refine ops_freeze (b:=b10) (o:=.cells ([(Value.int .i64 ((-4)))]:List Value).toArray 3 (0,0)) (σr:=[ζ3,ζ1,ζ2]) (List.perm_middle (l₁:=[ζ3,ζ1,ζ2]) (l₂:=[])) (fun Vf7 hVf7 hb7=>?_)
 have hc7:Cells Vf7 b10 [(.int .i64 ((-4)))]:=⟨_,_,hb7⟩
 have hc1:=hc1.mono hVf7
 have hMt:=hMt.mono hVf7
 have hP:=hP.mono hVf7
 have hMtb:=hMtb.mono hVf7
 have hMtc:=hMtc.mono hVf7
 have hc2:=hc2.mono hVf7
 have hc3:=hc3.mono hVf7
 have hc4:=hc4.mono hVf7
 have hc5:=hc5.mono hVf7
 have hc6:=hc6.mono hVf7
 refine og (qv_call (v:=(.bool (decide (W0=W0)))) (same_c (A:=W0) (B:=W0) hMtc ⟨(ints_cells (n:=1) (c:=1) hc7 rfl (Nat.le_refl _) (by omega)),Fks.nil⟩) rfl rfl) (want_t g4 rfl rfl rfl) ?_
 refine oq (qv_pick_t g4 rfl (rfl:ev _ _=(.bool (decide (W0=W0))))) ?_
 refine oq (qv_mv (.bool (decide (W0=W0))) rfl) ?_
 by_cases g5:W0=W0
 refine og (qv_ldm (vs:=[(.int .i64 ((X0).v)),lv1,nv1,(.int .i64 ((X0).r))]) Try.agg25 rfl (inOc (k:=0) rfl) rfl rfl) (want_t g5 rfl rfl rfl) ?_
 subst ζ1 ζ2 ζ3
 refine og (qv_call (v:=(Value.int .i64 0)) (by have h:=Check_c (A:=X0) hMt; rw [x0_chk] at h; exact h) rfl rfl) (want_t g5 rfl rfl rfl) ?_
 refine og (qv_eql rfl rfl) (want_t g5 rfl rfl rfl) ?_
 refine oq (qv_pick_t g5 rfl (rfl:ev _ _=(.bool (decide (0=0))))) ?_
 refine oq (qv_mv (.bool (decide (0=0))) rfl) ?_
 by_cases g6:0=0
 refine ops_want (want_t g6 rfl rfl rfl) ?_
 refine ops_lit (n:=3) (s:=1) (cs:=[(Value.int .i64 0),(Value.int .i64 1),(Value.int .i64 2)]) Try.underlying22 Try.ti3 (Nat.le_of_ble_eq_true rfl) rfl rfl rfl (Nat.le_of_ble_eq_true rfl) rfl (fun b11=>?_)
 refine og (qv_build (out:=[(Value.int .i64 0),(Value.int .i64 0),(Value.int .i64 1)]) Try.build80 [(0,[(Value.int .i64 0)]),(1,[(Value.int .i64 0)]),(2,[(Value.int .i64 1)])] rfl rfl) (want_t g6 rfl rfl rfl) ?_
 refine ops_want (want_t g6 rfl rfl rfl) ?_
 refine ops_lit (n:=1) (s:=3) (cs:=[(Value.int .i64 0),(Value.int .i64 0),(Value.int .i64 1)]) Try.underlying23 Try.ti80 (Nat.le_of_ble_eq_true rfl) rfl rfl rfl (Nat.le_of_ble_eq_true rfl) rfl (fun b12=>?_)
 refine og (qv_build (out:=[(Value.int .i64 1),(.slice (some ⟨b11,0,none⟩) 3 3),(.slice (some ⟨b12,0,none⟩) 1 1),(Value.int .i64 3)]) Try.build25 [(0,[(Value.int .i64 1)]),(1,[(.slice (some ⟨b11,0,none⟩) 3 3)]),(2,[(.slice (some ⟨b12,0,none⟩) 1 1)]),(3,[(Value.int .i64 3)])] rfl rfl) (want_t g6 rfl rfl rfl) ?_
 let ζ1:Asrt:=Arr 25 b3 [(Value.int .i64 ((Y0).v)),lv1b,nv1b,(Value.int .i64 ((Y0).r))]
 let ζ2:Asrt:=Arr 25 b4 [(Value.int .i64 ((W0).v)),lv1c,nv1c,(Value.int .i64 ((W0).r))]
 let ζ3:Asrt:=Arr 25 b2 [(Value.int .i64 ((X0).v)),lv1,nv1,(Value.int .i64 ((X0).r))]
 refine ops_freeze (b:=b11) (o:=.cells ([(Value.int .i64 0),(Value.int .i64 1),(Value.int .i64 2)]:List Value).toArray 3 (0,0)) (σr:=[ζ3,ζ1,ζ2,(Arr 80 b12 [(Value.int .i64 0),(Value.int .i64 0),(Value.int .i64 1)])]) (List.perm_middle (l₁:=[ζ3,ζ1,ζ2]) (l₂:=[(Arr 80 b12 [(Value.int .i64 0),(Value.int .i64 0),(Value.int .i64 1)])])) (fun Vf8 hVf8 hb8=>?_)
 have hc8:Cells Vf8 b11 [(Value.int .i64 0),(Value.int .i64 1),(Value.int .i64 2)]:=⟨_,_,hb8⟩
 have hc1:=hc1.mono hVf8
 have hMt:=hMt.mono hVf8
 have hP:=hP.mono hVf8
 have hMtb:=hMtb.mono hVf8
 have hMtc:=hMtc.mono hVf8
 have hc2:=hc2.mono hVf8
 have hc3:=hc3.mono hVf8
 have hc4:=hc4.mono hVf8
 have hc5:=hc5.mono hVf8
 have hc6:=hc6.mono hVf8
 have hc7:=hc7.mono hVf8
 refine ops_freeze (b:=b12) (o:=.cells ([(Value.int .i64 0),(Value.int .i64 0),(Value.int .i64 1)]:List Value).toArray 80 (0,0)) (σr:=[ζ3,ζ1,ζ2]) (List.perm_middle (l₁:=[ζ3,ζ1,ζ2]) (l₂:=[])) (fun Vf9 hVf9 hb9=>?_)
 have hc9:Cells Vf9 b12 [(Value.int .i64 0),(Value.int .i64 0),(Value.int .i64 1)]:=⟨_,_,hb9⟩
 have hc1:=hc1.mono hVf9
 have hMt:=hMt.mono hVf9
 have hP:=hP.mono hVf9
 have hMtb:=hMtb.mono hVf9
 have hMtc:=hMtc.mono hVf9
 have hc2:=hc2.mono hVf9
 have hc3:=hc3.mono hVf9
 have hc4:=hc4.mono hVf9
 have hc5:=hc5.mono hVf9
 have hc6:=hc6.mono hVf9
 have hc7:=hc7.mono hVf9
 have hc8:=hc8.mono hVf9
 subst ζ1 ζ2 ζ3
 refine og (qv_call (v:=(Value.int .i64 1)) (by have h:=Check_c (V:=Vf9) (A:=Z0) ⟨(ints_cells (n:=3) (c:=3) hc8 rfl (Nat.le_refl _) (by omega)),(cells_sls (n:=1) (c:=1) hc9 rfl (Nat.le_refl _) (by omega))⟩; rw [z0_chk] at h; exact h) rfl rfl) (want_t g6 rfl rfl rfl) ?_
 refine og (qv_eql rfl rfl) (want_t g6 rfl rfl rfl) ?_
 refine oq (qv_pick_t g6 rfl (rfl:ev _ _=(.bool (decide (1=1))))) ?_
 refine oq (qv_as (.bool (decide (1=1))) rfl) ?_
 refine ops_nil ?_
 refine vc_ret ?_
 exact rq1 (Value.bool true) (congrArg Value.bool (decide_eq_true (show (1=1) from by rfl))) rfl
 exact absurd (rfl) g6
 exact absurd (rfl) g5
 exact absurd (rfl) g4
 exact absurd (rfl) g3
 exact absurd (rfl) g2
 exact absurd (rfl) g1
end Go.Proofs.Ytkmhjcjpohpiaaa
