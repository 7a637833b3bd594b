import Derived.Test.YtkmhjcjpohpiaaaMp
/- Walks of mtbdd: what each function returns. Printed by a program out of notes. -/
namespace Go.Proofs.Ytkmhjcjpohpiaaa
open Go.Vc
open Classical
set_option maxRecDepth 100000
set_option maxHeartbeats 4000000
theorem few_c {V:HV} {la na:Value} {A:Mg} (hA:Mt V la na A) :
    FnC Try.prog 12 [(.agg #[(.int .i64 A.v),la,na,(.int .i64 A.r)])] V [] (fun v _ _=>v=(.bool (decide (fewP A)))):=by
 refine fn_intro (N:=11) Try.func12 (by kernel_rfl) rfl rfl rfl (Nat.le_of_ble_eq_true rfl) ?_
 intro w0 D
 have hbl:=Ints.bound hA.l
 have hbn:=SlS.bound hA.n
 refine vc_seq ?_
 refine vc_region ?_
 refine ops_box (v:=(.agg #[(.int .i64 A.v),la,na,(.int .i64 A.r)])) (cs:=[(.int .i64 A.v),la,na,(.int .i64 A.r)]) rfl rfl (fun b1=>?_)
 refine oq (qv_as (Value.bool false) rfl) ?_
 refine ops_nil ?_
 refine vc_seq ?_
 refine vc_res (σ':=[(Arr 25 b1 [(.int .i64 A.v),la,na,(.int .i64 A.r)])]) rfl ?_
 refine vc_region ?_
 refine oq (qv_fa (off:=0) Try.field25_1 rfl) ?_
 refine oq (qv_ldp (v:=la) Try.plain22 rfl (inOc (k:=0) rfl) rfl) ?_
 refine oq (qv_lenI Try.underlying22 rfl (hA.l)) ?_
 refine oq (qv_fa (off:=0) Try.field25_2 rfl) ?_
 refine oq (qv_ldp (v:=na) Try.plain23 rfl (inOc (k:=0) rfl) rfl) ?_
 refine oq (qv_lenSS Try.underlying23 rfl (hA.n)) ?_
 refine oq (qv_addk rfl rfl rfl) ?_
 refine oq (qv_leq rfl rfl) ?_
 refine oq (qv_as (.bool (decide ((IntKind.i64.wrap ((A.L.length:Int)+(A.N.length:Int)))≤300))) rfl) ?_
 refine ops_nil ?_
 refine vc_ret ?_
 exact rq1 (.bool (decide (fewP A))) (congrArg Value.bool (decide_eq_decide.2 (show ((IntKind.i64.wrap ((A.L.length:Int)+(A.N.length:Int)))≤300) ↔ (fewP A) from by exact Iff.rfl))) rfl
theorem below_c {V:HV} {la na:Value} {A:Mg} (hA:Mt V la na A) {i r:Int} {pk pa:Nat} (i0:0≤i) (i1:i < A.N.length) (hl4:A.L.length≤4096∧A.N.length≤4096) (hv:(fk A.N i).v < A.v) (hpk:Cells V pk [.int .i64 A.L.length]) (hpa:Cells V pa [.int .i64 A.v,la,na,.int .i64 A.r]) :
    FnC Try.prog 48 [(Value.int .i64 i),(Value.int .i64 r),(Value.pointer (some ⟨pk,0,none⟩)),(Value.pointer (some ⟨pa,0,none⟩))] V [] (fun v _ _=>v=(.bool (decide (Chk A i r)))):=by
 refine fn_intro (N:=38) Try.func48 (by kernel_rfl) rfl rfl rfl (Nat.le_of_ble_eq_true rfl) ?_
 intro w0 D
 have hbl:=Ints.bound hA.l
 have hbn:=SlS.bound hA.n
 refine vc_seq ?_
 refine vc_region ?_
 refine oq (qv_as (Value.bool false) rfl) ?_
 refine ops_nil ?_
 refine vc_seq ?_
 refine vc_region_any Try.mixed (by kernel_rfl) ?_
 refine qq (qv_mv (Value.int .i64 r) rfl) ?_
 refine qq (qv_geq rfl rfl) ?_
 refine qq (qv_mv (.bool (decide (0≤r))) rfl) ?_
 by_cases g1:0≤r
 refine qg (qv_mv (Value.int .i64 r) rfl) (want_t g1 rfl rfl rfl) ?_
 refine qg (qv_ldp (v:=(.int .i64 ((A.L.length:Int)))) Try.plain3 rfl (inVc hpk) rfl) (want_t g1 rfl rfl rfl) ?_
 refine qg (qv_mv (Value.int .i64 i) rfl) (want_t g1 rfl rfl rfl) ?_
 refine qg (qv_add rfl rfl (by omega)) (want_t g1 rfl rfl rfl) ?_
 refine qg (qv_lss rfl rfl) (want_t g1 rfl rfl rfl) ?_
 refine qq (qv_pick_t g1 rfl (rfl:ev _ _=(.bool (decide (r < (((A.L.length:Int))+i)))))) ?_
 refine qq (qv_mv (.bool (decide (r < (((A.L.length:Int))+i)))) rfl) ?_
 by_cases g2:r < (((A.L.length:Int))+i)
 refine qg (qv_mv (Value.int .i64 r) rfl) (want_t g2 rfl rfl rfl) ?_
 refine qg (qv_ldp (v:=(.int .i64 ((A.L.length:Int)))) Try.plain3 rfl (inVc hpk) rfl) (want_t g2 rfl rfl rfl) ?_
 refine qg (qv_lss rfl rfl) (want_t g2 rfl rfl rfl) ?_
 refine qg (qv_mv (.bool (decide (r < ((A.L.length:Int))))) rfl) (want_t g2 rfl rfl rfl) ?_
 by_cases g3:r < ((A.L.length:Int))
 refine qs (want_fn g3 rfl rfl rfl) ?_
 refine qs (want_fn g3 rfl rfl rfl) ?_
 refine qs (want_fn g3 rfl rfl rfl) ?_
 refine qs (want_fn g3 rfl rfl rfl) ?_
 refine qs (want_fn g3 rfl rfl rfl) ?_
 refine qs (want_fn g3 rfl rfl rfl) ?_
 refine qs (want_fn g3 rfl rfl rfl) ?_
 refine qs (want_fn g3 rfl rfl rfl) ?_
 refine qs (want_fn g3 rfl rfl rfl) ?_
 refine qs (want_fn g3 rfl rfl rfl) ?_
 refine qs (want_fn g3 rfl rfl rfl) ?_
 refine qs (want_fn g3 rfl rfl rfl) ?_
 refine qs (want_fn g3 rfl rfl rfl) ?_
 refine qs (want_fn g3 rfl rfl rfl) ?_
 refine qs (want_fn g3 rfl rfl rfl) ?_
 refine qg (qv_pick_t g3 rfl (rfl:ev _ _=(Value.bool true))) (want_t g2 rfl rfl rfl) ?_
 refine qq (qv_pick_t g2 rfl (rfl:ev _ _=(Value.bool true))) ?_
 refine qq (qv_as (Value.bool true) rfl) ?_
 refine qops_nil ?_
 refine vc_ret ?_
 exact rq1 (.bool (decide (Chk A i r))) (congrArg Value.bool (decide_eq_true (show (Chk A i r) from by exact ⟨by omega,by omega,by rw [tp_l (by omega)]; exact hv⟩)).symm) rfl
 refine qg (qv_fa (off:=0) Try.field25_2 rfl) (want_f g3 rfl rfl rfl) ?_
 refine qg (qv_ldp (v:=na) Try.plain23 rfl (inVc hpa) rfl) (want_f g3 rfl rfl rfl) ?_
 refine qg (qv_mv (Value.int .i64 i) rfl) (want_f g3 rfl rfl rfl) ?_
 refine qg (qv_ias (v:=na) (i:=i) Try.underlying23 Try.size80 rfl (hA.n) rfl (by omega) (by omega)) (want_f g3 rfl rfl rfl) ?_
 refine qg (qv_fas Try.field80_0 rfl (hA.n) (by omega) (by omega)) (want_f g3 rfl rfl rfl) ?_
 refine qg (qv_ldf (u:=(.int .i64 ((fk A.N (i)).v))) (v:=na) (i:=i) Try.plain3 rfl (hA.n) (by omega) (by omega) (by omega) (fks_el (o:=0) (by omega) (by omega) (by omega) rfl)) (want_f g3 rfl rfl rfl) ?_
 refine qg (qv_fa (off:=0) Try.field25_2 rfl) (want_f g3 rfl rfl rfl) ?_
 refine qg (qv_ldp (v:=na) Try.plain23 rfl (inVc hpa) rfl) (want_f g3 rfl rfl rfl) ?_
 refine qg (qv_mv (Value.int .i64 r) rfl) (want_f g3 rfl rfl rfl) ?_
 refine qg (qv_ldp (v:=(.int .i64 ((A.L.length:Int)))) Try.plain3 rfl (inVc hpk) rfl) (want_f g3 rfl rfl rfl) ?_
 refine qg (qv_sub rfl rfl (by omega)) (want_f g3 rfl rfl rfl) ?_
 refine qg (qv_ias (v:=na) (i:=r - ((A.L.length:Int))) Try.underlying23 Try.size80 rfl (hA.n) rfl (by omega) (by omega)) (want_f g3 rfl rfl rfl) ?_
 refine qg (qv_fas Try.field80_0 rfl (hA.n) (by omega) (by omega)) (want_f g3 rfl rfl rfl) ?_
 refine qg (qv_ldf (u:=(.int .i64 ((fk A.N (r - ((A.L.length:Int)))).v))) (v:=na) (i:=r - ((A.L.length:Int))) Try.plain3 rfl (hA.n) (by omega) (by omega) (by omega) (fks_el (o:=0) (by omega) (by omega) (by omega) rfl)) (want_f g3 rfl rfl rfl) ?_
 refine qg (qv_lss rfl rfl) (want_f g3 rfl rfl rfl) ?_
 let ζ1:Value:=.bool (decide (((fk A.N (i)).v) < ((fk A.N (r - ((A.L.length:Int)))).v)))
 refine qg (qv_pick_f g3 rfl (rfl:ev _ _=ζ1)) (want_t g2 rfl rfl rfl) ?_
 refine qq (qv_pick_t g2 rfl (rfl:ev _ _=ζ1)) ?_
 refine qq (qv_as ζ1 rfl) ?_
 refine qops_nil ?_
 refine vc_ret ?_
 subst ζ1
 exact rq1 (.bool (decide (Chk A i r))) (congrArg Value.bool (decide_eq_decide.2 (show (((fk A.N (i)).v) < ((fk A.N (r - ((A.L.length:Int)))).v)) ↔ (Chk A i r) from by exact ⟨fun q=>⟨by omega,by omega,by rw [tp_n (by omega)]; exact q⟩,fun q=>by have:=q.2.2; rw [tp_n (by omega)] at this; exact this⟩))) rfl
 refine qs (want_tn g2 rfl rfl rfl) ?_
 refine qs (want_tn g2 rfl rfl rfl) ?_
 refine qs (want_tn g2 rfl rfl rfl) ?_
 refine qs (want_tn g2 rfl rfl rfl) ?_
 refine qs (want_u rfl rfl rfl) ?_
 refine qs (want_u rfl rfl rfl) ?_
 refine qs (want_u rfl rfl rfl) ?_
 refine qs (want_u rfl rfl rfl) ?_
 refine qs (want_u rfl rfl rfl) ?_
 refine qs (want_u rfl rfl rfl) ?_
 refine qs (want_u rfl rfl rfl) ?_
 refine qs (want_u rfl rfl rfl) ?_
 refine qs (want_u rfl rfl rfl) ?_
 refine qs (want_u rfl rfl rfl) ?_
 refine qs (want_u rfl rfl rfl) ?_
 refine qs (want_u rfl rfl rfl) ?_
 refine qs (want_u rfl rfl rfl) ?_
 refine qs (want_u rfl rfl rfl) ?_
 refine qs (want_u rfl rfl rfl) ?_
 refine qs (want_tn g2 rfl rfl rfl) ?_
 refine qq (qv_pick_f g2 rfl (rfl:ev _ _=(Value.bool false))) ?_
 refine qq (qv_as (Value.bool false) rfl) ?_
 refine qops_nil ?_
 refine vc_ret ?_
 exact rq1 (.bool (decide (Chk A i r))) (congrArg Value.bool (decide_eq_false (show ¬ (Chk A i r) from by exact fun q=>by first | (have:=q.1; omega) | (have:=q.2.1; omega))).symm) rfl
 refine qs (want_tn g1 rfl rfl rfl) ?_
 refine qs (want_tn g1 rfl rfl rfl) ?_
 refine qs (want_tn g1 rfl rfl rfl) ?_
 refine qs (want_tn g1 rfl rfl rfl) ?_
 refine qs (want_tn g1 rfl rfl rfl) ?_
 refine qq (qv_pick_f g1 rfl (rfl:ev _ _=(Value.bool false))) ?_
 refine qq (qv_mv (Value.bool false) rfl) ?_
 refine qs (want_tnc rfl rfl rfl) ?_
 refine qs (want_tnc rfl rfl rfl) ?_
 refine qs (want_tnc rfl rfl rfl) ?_
 refine qs (want_tnc rfl rfl rfl) ?_
 refine qs (want_u rfl rfl rfl) ?_
 refine qs (want_u rfl rfl rfl) ?_
 refine qs (want_u rfl rfl rfl) ?_
 refine qs (want_u rfl rfl rfl) ?_
 refine qs (want_u rfl rfl rfl) ?_
 refine qs (want_u rfl rfl rfl) ?_
 refine qs (want_u rfl rfl rfl) ?_
 refine qs (want_u rfl rfl rfl) ?_
 refine qs (want_u rfl rfl rfl) ?_
 refine qs (want_u rfl rfl rfl) ?_
 refine qs (want_u rfl rfl rfl) ?_
 refine qs (want_u rfl rfl rfl) ?_
 refine qs (want_u rfl rfl rfl) ?_
 refine qs (want_u rfl rfl rfl) ?_
 refine qs (want_u rfl rfl rfl) ?_
 refine qs (want_tnc rfl rfl rfl) ?_
 refine qq (qv_pick_fc rfl (rfl:ev _ _=(Value.bool false))) ?_
 refine qq (qv_as (Value.bool false) rfl) ?_
 refine qops_nil ?_
 refine vc_ret ?_
 exact rq1 (.bool (decide (Chk A i r))) (congrArg Value.bool (decide_eq_false (show ¬ (Chk A i r) from by exact fun q=>by first | (have:=q.1; omega) | (have:=q.2.1; omega))).symm) rfl
theorem check_c {V:HV} {la na:Value} {A:Mg} (hA:Mt V la na A) :
    FnC Try.prog 14 [(.agg #[(.int .i64 A.v),la,na,(.int .i64 A.r)])] V [] (fun v _ _=>v=(.int .i64 (chkC A))):=by
 refine fn_intro (N:=146) Try.func14 (by kernel_rfl) rfl rfl rfl (Nat.le_of_ble_eq_true rfl) ?_
 intro w0 D
 have hbl:=Ints.bound hA.l
 have hbn:=SlS.bound hA.n
 refine vc_seq ?_
 refine vc_region ?_
 let ζ7:Value:=.agg #[(.int .i64 A.v),la,na,(.int .i64 A.r)]
 refine ops_box (v:=ζ7) (cs:=[(.int .i64 A.v),la,na,(.int .i64 A.r)]) rfl rfl (fun b1=>?_)
 refine oq (qv_as (Value.int .i64 0) rfl) ?_
 refine ops_nil ?_
 refine vc_seq ?_
 refine vc_seq ?_
 let ζ2:Asrt:=Arr 25 b1 [(.int .i64 A.v),la,na,(.int .i64 A.r)]
 refine vc_res (σ':=[ζ2]) rfl ?_
 refine vc_region ?_
 refine oq (qv_fa (off:=0) Try.field25_0 rfl) ?_
 refine oq (qv_ldp (v:=(.int .i64 A.v)) Try.plain3 rfl (inOc (k:=0) rfl) rfl) ?_
 refine oq (qv_lss rfl rfl) ?_
 refine oq (qv_mv (.bool (decide (A.v < 0))) rfl) ?_
 by_cases g1:A.v < 0
 refine os (want_fn g1 rfl rfl rfl) ?_
 refine os (want_fn g1 rfl rfl rfl) ?_
 refine os (want_fn g1 rfl rfl rfl) ?_
 refine oq (qv_pick_t g1 rfl (rfl:ev _ _=(Value.bool true))) ?_
 refine ops_nil ?_
 refine vc_tt rfl ?_
 refine vc_seq ?_
 refine vc_region ?_
 refine oq (qv_as (Value.int .i64 3) rfl) ?_
 refine ops_nil ?_
 refine vc_drop [] [ζ2] (.refl _) ?_
 refine vc_ret ?_
 subst ζ7 ζ2
 exact rq1 (.int .i64 (chkC A)) (congrArg (Value.int .i64) (show 3=(chkC A) from by rw [chk_3 (by omega)])) rfl
 refine og (qv_fa (off:=0) Try.field25_0 rfl) (want_f g1 rfl rfl rfl) ?_
 refine og (qv_ldp (v:=(.int .i64 A.v)) Try.plain3 rfl (inOc (k:=0) rfl) rfl) (want_f g1 rfl rfl rfl) ?_
 refine og (qv_gtr rfl rfl) (want_f g1 rfl rfl rfl) ?_
 refine oq (qv_pick_f g1 rfl (rfl:ev _ _=(.bool (decide (40 < A.v))))) ?_
 refine ops_nil ?_
 refine vc_if rfl (fun c1=>?_) (fun c1=>?_)
 refine vc_seq ?_
 refine vc_region ?_
 refine oq (qv_as (Value.int .i64 3) rfl) ?_
 refine ops_nil ?_
 refine vc_drop [] [ζ2] (.refl _) ?_
 refine vc_ret ?_
 subst ζ7 ζ2
 exact rq1 (.int .i64 (chkC A)) (congrArg (Value.int .i64) (show 3=(chkC A) from by rw [chk_3 (by omega)])) rfl
 refine vc_skip ?_
 refine vc_seq ?_
 refine vc_seq ?_
 refine vc_region ?_
 refine oq (qv_fa (off:=0) Try.field25_1 rfl) ?_
 refine oq (qv_ldp (v:=la) Try.plain22 rfl (inOc (k:=0) rfl) rfl) ?_
 refine oq (qv_lenI Try.underlying22 rfl (hA.l)) ?_
 refine oq (qv_gtr rfl rfl) ?_
 refine oq (qv_mv (.bool (decide (4096 < ((A.L.length:Int))))) rfl) ?_
 by_cases g2:4096 < ((A.L.length:Int))
 refine os (want_fn g2 rfl rfl rfl) ?_
 refine os (want_fn g2 rfl rfl rfl) ?_
 refine os (want_fn g2 rfl rfl rfl) ?_
 refine os (want_fn g2 rfl rfl rfl) ?_
 refine oq (qv_pick_t g2 rfl (rfl:ev _ _=(Value.bool true))) ?_
 refine ops_nil ?_
 refine vc_tt rfl ?_
 refine vc_seq ?_
 refine vc_region ?_
 refine oq (qv_as (Value.int .i64 4) rfl) ?_
 refine ops_nil ?_
 refine vc_drop [] [ζ2] (.refl _) ?_
 refine vc_ret ?_
 subst ζ7 ζ2
 exact rq1 (.int .i64 (chkC A)) (congrArg (Value.int .i64) (show 4=(chkC A) from by rw [chk_4 (by omega) (by omega)])) rfl
 refine og (qv_fa (off:=0) Try.field25_2 rfl) (want_f g2 rfl rfl rfl) ?_
 refine og (qv_ldp (v:=na) Try.plain23 rfl (inOc (k:=0) rfl) rfl) (want_f g2 rfl rfl rfl) ?_
 refine og (qv_lenSS Try.underlying23 rfl (hA.n)) (want_f g2 rfl rfl rfl) ?_
 refine og (qv_gtr rfl rfl) (want_f g2 rfl rfl rfl) ?_
 refine oq (qv_pick_f g2 rfl (rfl:ev _ _=(.bool (decide (4096 < ((A.N.length:Int))))))) ?_
 refine ops_nil ?_
 refine vc_if rfl (fun c2=>?_) (fun c2=>?_)
 refine vc_seq ?_
 refine vc_region ?_
 refine oq (qv_as (Value.int .i64 4) rfl) ?_
 refine ops_nil ?_
 refine vc_drop [] [ζ2] (.refl _) ?_
 refine vc_ret ?_
 subst ζ7 ζ2
 exact rq1 (.int .i64 (chkC A)) (congrArg (Value.int .i64) (show 4=(chkC A) from by rw [chk_4 (by omega) (by omega)])) rfl
 refine vc_skip ?_
 refine vc_seq ?_
 refine vc_region ?_
 refine oq (qv_fa (off:=0) Try.field25_1 rfl) ?_
 refine oq (qv_ldp (v:=la) Try.plain22 rfl (inOc (k:=0) rfl) rfl) ?_
 refine oq (qv_lenI Try.underlying22 rfl (hA.l)) ?_
 refine ops_alloc Try.ti3 rfl (fun b2=>?_)
 let ζ5:Value:=.int .i64 ((A.L.length:Int))
 refine ops_stp (k:=1) (off:=0) (cs:=[(Value.int .i64 0)]) Try.size3 rfl (rfl:ev _ _=ζ5) rfl rfl (Nat.le_of_ble_eq_true rfl) ?_
 refine ops_nil ?_
 refine vc_seq ?_
 refine vc_seq ?_
 refine vc_res (σ':=[ζ2,(Arr 3 b2 [ζ5])]) rfl ?_
 refine vc_region ?_
 refine oq (qv_fa (off:=0) Try.field25_1 rfl) ?_
 refine oq (qv_ldp (v:=la) Try.plain22 rfl (inOc (k:=0) rfl) rfl) ?_
 refine oq (qv_lenI Try.underlying22 rfl (hA.l)) ?_
 refine oq (qv_mv (Value.int .i64 0) rfl) ?_
 refine ops_nil ?_
 refine vc_block ?_
 refine vc_loop (α:=Int) (fun (xx:Int)=>[(0,ζ7),(1,(Value.pointer (some ⟨b1,0,none⟩))),(3,(Value.pointer (some ⟨b2,0,none⟩))),(18,(.bool (decide (40 < A.v)))),(28,(.bool (decide (4096 < ((A.N.length:Int)))))),(33,la),(34,(.int .i64 ((A.L.length:Int)))),(35,(Value.int .i64 xx))]) (fun (xx:Int) V' σ'=>V=V'∧[ζ2,(Arr 3 b2 [(.int .i64 ((A.L.length:Int)))])]=σ'∧0≤xx∧xx≤A.L.length∧∀ k:Int,0≤k→k < xx→Lok A k) (fun (xx:Int)=>(A.L.length - xx).toNat) (0) ?_ ?_ ?_
 exact ⟨rfl,rfl,rfl,rfl,rfl,rfl,rfl,rfl,trivial⟩
 exact ⟨rfl,rfl,by omega,by omega,fun x a b=>by omega⟩
 rintro i e1 V0l σ0l hI0
 obtain ⟨rfl,rfl,i1,i2,hlf⟩:V=V0l∧[ζ2,(Arr 3 b2 [ζ5])]=σ0l∧0≤i∧i≤A.L.length∧∀ k:Int,0≤k→k < i→Lok A k:=hI0
 refine vc_seq ?_
 refine vc_region ?_
 refine oq (qv_lss rfl rfl) ?_
 refine ops_nil ?_
 refine vc_seq ?_
 refine vc_if rfl (fun c3=>?_) (fun c3=>?_)
 refine vc_skip ?_
 refine vc_seq ?_
 refine vc_block ?_
 refine vc_seq ?_
 refine vc_region ?_
 refine oq (qv_mv (Value.int .i64 i) rfl) ?_
 refine oq (qv_iai (v:=la) (i:=i) Try.underlying22 Try.size3 rfl (inVi (hA.l)) rfl (by omega) (by omega)) ?_
 refine oq (qv_ldi (v:=la) (i:=i) Try.plain3 rfl (inVi (hA.l)) (by omega) (by omega)) ?_
 refine oq (qv_as (Value.int .i64 i) rfl) ?_
 refine oq (qv_as (.int .i64 (gi A.L (i))) rfl) ?_
 refine ops_nil ?_
 refine vc_seq ?_
 refine vc_region ?_
 refine oq (qv_mv (.int .i64 (gi A.L (i))) rfl) ?_
 refine oq (qv_call (v:=(.bool (decide (inR (gi A.L (i)))))) (inRangeR_c) rfl rfl) ?_
 refine oq (qv_not rfl) ?_
 refine oq (qv_mv (.bool (decide (¬ (inR (gi A.L (i)))))) rfl) ?_
 by_cases g3:¬ (inR (gi A.L (i)))
 refine os (want_fn g3 rfl rfl rfl) ?_
 refine os (want_fn g3 rfl rfl rfl) ?_
 refine os (want_fn g3 rfl rfl rfl) ?_
 refine os (want_u rfl rfl rfl) ?_
 refine os (want_u rfl rfl rfl) ?_
 refine os (want_u rfl rfl rfl) ?_
 refine os (want_u rfl rfl rfl) ?_
 refine os (want_u rfl rfl rfl) ?_
 refine os (want_u rfl rfl rfl) ?_
 refine os (want_u rfl rfl rfl) ?_
 refine os (want_u rfl rfl rfl) ?_
 refine os (want_fn g3 rfl rfl rfl) ?_
 refine oq (qv_pick_t g3 rfl (rfl:ev _ _=(Value.bool true))) ?_
 refine ops_nil ?_
 refine vc_tt rfl ?_
 refine vc_seq ?_
 refine vc_region ?_
 refine oq (qv_as (Value.int .i64 1) rfl) ?_
 refine ops_nil ?_
 refine vc_drop [] [ζ2,(Arr 3 b2 [ζ5])] (.refl _) ?_
 refine vc_ret ?_
 refine blockQ_ret ?_
 refine blockQ_ret ?_
 subst ζ7 ζ2 ζ5
 exact rq1 (.int .i64 (chkC A)) (congrArg (Value.int .i64) (show 1=(chkC A) from by rw [chk_1 (by omega) (by omega) (fun z=>by first | (have:=z.1.rt; omega) | (have h:=z.1.lf i (by omega) (by omega); first | exact absurd h.1 (by assumption) | (have:=h.2 (by omega); omega)) | (have hn:=z.1.nd j (by omega) (by omega); first | (have:=hn.1; omega) | (have h2:=hn.2.1; omega) | exact absurd hn.2.2.2.1 (by assumption) | exact absurd hn.2.2.2.2 (by assumption) | (have:=nv_lt z.1 (j:=j) (by omega) (by omega); omega)))])) rfl
 refine og (qv_mv (Value.int .i64 i) rfl) (want_f g3 rfl rfl rfl) ?_
 refine og (qv_gtr rfl rfl) (want_f g3 rfl rfl rfl) ?_
 refine og (qv_mv (.bool (decide (0 < i))) rfl) (want_f g3 rfl rfl rfl) ?_
 by_cases g4:0 < i
 refine og (qv_mv (.int .i64 (gi A.L (i))) rfl) (want_t g4 rfl rfl rfl) ?_
 refine og (qv_fa (off:=0) Try.field25_1 rfl) (want_t g4 rfl rfl rfl) ?_
 refine og (qv_ldp (v:=la) Try.plain22 rfl (inOc (k:=0) rfl) rfl) (want_t g4 rfl rfl rfl) ?_
 refine og (qv_mv (Value.int .i64 i) rfl) (want_t g4 rfl rfl rfl) ?_
 refine og (qv_sub rfl rfl (by omega)) (want_t g4 rfl rfl rfl) ?_
 refine og (qv_iai (v:=la) (i:=i - 1) Try.underlying22 Try.size3 rfl (inVi (hA.l)) rfl (by omega) (by omega)) (want_t g4 rfl rfl rfl) ?_
 refine og (qv_ldi (v:=la) (i:=i - 1) Try.plain3 rfl (inVi (hA.l)) (by omega) (by omega)) (want_t g4 rfl rfl rfl) ?_
 refine og (qv_leq rfl rfl) (want_t g4 rfl rfl rfl) ?_
 refine og (qv_pick_t g4 rfl (rfl:ev _ _=(.bool (decide ((gi A.L (i))≤(gi A.L (i - 1))))))) (want_f g3 rfl rfl rfl) ?_
 refine oq (qv_pick_f g3 rfl (rfl:ev _ _=(.bool (decide ((gi A.L (i))≤(gi A.L (i - 1))))))) ?_
 refine ops_nil ?_
 refine vc_if rfl (fun c4=>?_) (fun c4=>?_)
 refine vc_seq ?_
 refine vc_region ?_
 refine oq (qv_as (Value.int .i64 1) rfl) ?_
 refine ops_nil ?_
 refine vc_drop [] [ζ2,(Arr 3 b2 [ζ5])] (.refl _) ?_
 refine vc_ret ?_
 refine blockQ_ret ?_
 refine blockQ_ret ?_
 subst ζ7 ζ2 ζ5
 exact rq1 (.int .i64 (chkC A)) (congrArg (Value.int .i64) (show 1=(chkC A) from by rw [chk_1 (by omega) (by omega) (fun z=>by first | (have:=z.1.rt; omega) | (have h:=z.1.lf i (by omega) (by omega); first | exact absurd h.1 (by assumption) | (have:=h.2 (by omega); omega)) | (have hn:=z.1.nd j (by omega) (by omega); first | (have:=hn.1; omega) | (have h2:=hn.2.1; omega) | exact absurd hn.2.2.2.1 (by assumption) | exact absurd hn.2.2.2.2 (by assumption) | (have:=nv_lt z.1 (j:=j) (by omega) (by omega); omega)))])) rfl
 refine vc_skip ?_
 refine vc_region ?_
 refine oq (qv_add rfl rfl (by omega)) ?_
 refine oq (qv_mv (.int .i64 (i+1)) rfl) ?_
 refine ops_nil ?_
 refine ⟨(i+1),⟨rfl,rfl,rfl,rfl,rfl,rfl,rfl,(congrArg (Value.int .i64) (show (i+1)=((i+1)) from by omega)),trivial⟩,⟨rfl,rfl,by omega,by omega,all_snoc hlf ⟨by first | assumption | exact Decidable.not_not.1 (by assumption),fun _=>by omega⟩⟩,by omega⟩
 refine os (want_tn g4 rfl rfl rfl) ?_
 refine os (want_tn g4 rfl rfl rfl) ?_
 refine os (want_tn g4 rfl rfl rfl) ?_
 refine os (want_tn g4 rfl rfl rfl) ?_
 refine os (want_tn g4 rfl rfl rfl) ?_
 refine os (want_tn g4 rfl rfl rfl) ?_
 refine os (want_tn g4 rfl rfl rfl) ?_
 refine os (want_tn g4 rfl rfl rfl) ?_
 refine og (qv_pick_f g4 rfl (rfl:ev _ _=(Value.bool false))) (want_f g3 rfl rfl rfl) ?_
 refine oq (qv_pick_f g3 rfl (rfl:ev _ _=(Value.bool false))) ?_
 refine ops_nil ?_
 refine vc_ff rfl ?_
 refine vc_skip ?_
 refine vc_region ?_
 refine oq (qv_add rfl rfl (by omega)) ?_
 refine oq (qv_mv (.int .i64 (i+1)) rfl) ?_
 refine ops_nil ?_
 refine ⟨(i+1),⟨rfl,rfl,rfl,rfl,rfl,rfl,rfl,(congrArg (Value.int .i64) (show (i+1)=((i+1)) from by omega)),trivial⟩,⟨rfl,rfl,by omega,by omega,all_snoc hlf ⟨by first | assumption | exact Decidable.not_not.1 (by assumption),fun _=>by omega⟩⟩,by omega⟩
 refine vc_exit ?_
 refine blockQ_hit ?_
 refine vc_seq ?_
 refine vc_freeze (b:=b2) (o:=.cells ([(Value.int .i64 ((A.L.length:Int)))]:List Value).toArray 3 (0,0)) (σr:=[(Arr 25 b1 [(Value.int .i64 (A.v)),la,na,(Value.int .i64 (A.r))])]) (List.perm_middle (l₁:=[(Arr 25 b1 [(Value.int .i64 (A.v)),la,na,(Value.int .i64 (A.r))])]) (l₂:=[])) (fun Vf1 hVf1 hb1=>?_)
 have hc1:Cells Vf1 b2 [ζ5]:=⟨_,_,hb1⟩
 have hA:=hA.mono hVf1
 refine vc_freeze (b:=b1) (o:=.cells ([(Value.int .i64 (A.v)),la,na,(Value.int .i64 (A.r))]:List Value).toArray 25 (0,0)) (σr:=[]) (List.perm_middle (l₁:=[]) (l₂:=[])) (fun Vf2 hVf2 hb2=>?_)
 have hc2:Cells Vf2 b1 [(.int .i64 A.v),la,na,(.int .i64 A.r)]:=⟨_,_,hb2⟩
 have hA:=hA.mono hVf2
 have hc1:=hc1.mono hVf2
 refine vc_region ?_
 refine oq (qv_func (cs:=[(Value.pointer (some ⟨b2,0,none⟩)),(Value.pointer (some ⟨b1,0,none⟩))]) rfl) ?_
 let ζ3:Value:=Value.func (.func 48) #[] #[(Value.pointer (some ⟨b2,0,none⟩)),(Value.pointer (some ⟨b1,0,none⟩))]
 refine oq (qv_as ζ3 rfl) ?_
 refine ops_nil ?_
 refine vc_seq ?_
 refine vc_seq ?_
 skip
 refine vc_region ?_
 refine oq (qv_fa (off:=0) Try.field25_2 rfl) ?_
 refine oq (qv_ldp (v:=na) Try.plain23 rfl (inVc hc2) rfl) ?_
 refine oq (qv_lenSS Try.underlying23 rfl (hA.n)) ?_
 refine oq (qv_mv (Value.int .i64 0) rfl) ?_
 refine ops_nil ?_
 refine vc_block ?_
 refine vc_loop (α:=Int) (fun (xx:Int)=>[(0,ζ7),(1,(Value.pointer (some ⟨b1,0,none⟩))),(3,(Value.pointer (some ⟨b2,0,none⟩))),(6,ζ3),(18,(.bool (decide (40 < A.v)))),(28,(.bool (decide (4096 < ((A.N.length:Int)))))),(33,la),(34,(.int .i64 ((A.L.length:Int)))),(35,(Value.int .i64 i)),(36,(.bool (decide (i < ((A.L.length:Int)))))),(60,na),(61,(.int .i64 ((A.N.length:Int)))),(62,(Value.int .i64 xx))]) (fun (xx:Int) V' σ'=>Vf2=V'∧[]=σ'∧0≤xx∧xx≤A.N.length∧∀ k:Int,0≤k→k < xx→Nok A k) (fun (xx:Int)=>(A.N.length - xx).toNat) (0) ?_ ?_ ?_
 exact ⟨rfl,rfl,rfl,rfl,rfl,rfl,rfl,rfl,rfl,rfl,rfl,rfl,rfl,trivial⟩
 exact ⟨rfl,rfl,by omega,by omega,fun x a b=>by omega⟩
 rintro j e2 V1l σ1l hI1
 obtain ⟨rfl,rfl,i3,i4,hnd⟩:Vf2=V1l∧[]=σ1l∧0≤j∧j≤A.N.length∧∀ k:Int,0≤k→k < j→Nok A k:=hI1
 refine vc_seq ?_
 refine vc_region ?_
 refine oq (qv_lss rfl rfl) ?_
 refine ops_nil ?_
 refine vc_seq ?_
 refine vc_if rfl (fun c5=>?_) (fun c5=>?_)
 refine vc_skip ?_
 refine vc_seq ?_
 refine vc_block ?_
 refine vc_seq ?_
 refine vc_region ?_
 refine oq (qv_mv (Value.int .i64 j) rfl) ?_
 refine oq (qv_ias (v:=na) (i:=j) Try.underlying23 Try.size80 rfl (hA.n) rfl (by omega) (by omega)) ?_
 let ζ8:Value:=.int .i64 ((fk A.N (j)).v)
 let ζ9:Value:=.int .i64 ((fk A.N (j)).l)
 let ζ10:Value:=.int .i64 ((fk A.N (j)).h)
 refine oq (qv_lds (v:=na) (i:=j) (vs:=[ζ8,ζ9,ζ10]) Try.agg80 rfl (hA.n) (by omega) (by omega) (fks_at (by omega) (by omega))) ?_
 refine ops_alloc Try.ti80 rfl (fun b3=>?_)
 refine oq (qv_as (Value.int .i64 j) rfl) ?_
 refine ops_stw (k:=0) (vs:=[ζ8,ζ9,ζ10]) Try.size80 rfl rfl rfl rfl rfl rfl ?_
 refine ops_nil ?_
 refine vc_seq ?_
 let ζ1:Asrt:=Arr 80 b3 [(.int .i64 ((fk A.N (j)).v)),(.int .i64 ((fk A.N (j)).l)),(.int .i64 ((fk A.N (j)).h))]
 refine vc_res (σ':=[ζ1]) rfl ?_
 refine vc_region_any Try.mixed (by kernel_rfl) ?_
 refine qq (qv_fa (off:=0) Try.field80_0 rfl) ?_
 refine qq (qv_ldp (v:=ζ8) Try.plain3 rfl (inOc (k:=0) rfl) rfl) ?_
 refine qq (qv_lss rfl rfl) ?_
 refine qq (qv_mv (.bool (decide (((fk A.N (j)).v) < 0))) rfl) ?_
 by_cases g5:((fk A.N (j)).v) < 0
 refine qs (want_fn g5 rfl rfl rfl) ?_
 refine qs (want_fn g5 rfl rfl rfl) ?_
 refine qs (want_fn g5 rfl rfl rfl) ?_
 refine qs (want_fn g5 rfl rfl rfl) ?_
 refine qs (want_fn g5 rfl rfl rfl) ?_
 refine qq (qv_pick_t g5 rfl (rfl:ev _ _=(Value.bool true))) ?_
 refine qq (qv_mv (Value.bool true) rfl) ?_
 refine qs (want_fnc rfl rfl rfl) ?_
 refine qs (want_fnc rfl rfl rfl) ?_
 refine qs (want_fnc rfl rfl rfl) ?_
 refine qs (want_fnc rfl rfl rfl) ?_
 refine qs (want_fnc rfl rfl rfl) ?_
 refine qq (qv_pick_tc rfl (rfl:ev _ _=(Value.bool true))) ?_
 refine qq (qv_mv (Value.bool true) rfl) ?_
 refine qs (want_fnc rfl rfl rfl) ?_
 refine qs (want_fnc rfl rfl rfl) ?_
 refine qs (want_fnc rfl rfl rfl) ?_
 refine qs (want_fnc rfl rfl rfl) ?_
 refine qs (want_fnc rfl rfl rfl) ?_
 refine qs (want_fnc rfl rfl rfl) ?_
 refine qq (qv_pick_tc rfl (rfl:ev _ _=(Value.bool true))) ?_
 refine qq (qv_mv (Value.bool true) rfl) ?_
 refine qs (want_fnc rfl rfl rfl) ?_
 refine qs (want_fnc rfl rfl rfl) ?_
 refine qs (want_fnc rfl rfl rfl) ?_
 refine qs (want_fnc rfl rfl rfl) ?_
 refine qs (want_fnc rfl rfl rfl) ?_
 refine qs (want_fnc rfl rfl rfl) ?_
 refine qq (qv_pick_tc rfl (rfl:ev _ _=(Value.bool true))) ?_
 refine qq (qv_mv (Value.bool true) rfl) ?_
 refine qs (want_fnc rfl rfl rfl) ?_
 refine qs (want_fnc rfl rfl rfl) ?_
 refine qs (want_fnc rfl rfl rfl) ?_
 refine qs (want_fnc rfl rfl rfl) ?_
 refine qs (want_fnc rfl rfl rfl) ?_
 refine qs (want_fnc rfl rfl rfl) ?_
 refine qq (qv_pick_tc rfl (rfl:ev _ _=(Value.bool true))) ?_
 refine qops_nil ?_
 refine vc_tt rfl ?_
 refine vc_seq ?_
 refine vc_region ?_
 refine oq (qv_as (Value.int .i64 1) rfl) ?_
 refine ops_nil ?_
 refine vc_drop [] [ζ1] (.refl _) ?_
 refine vc_ret ?_
 refine blockQ_ret ?_
 refine blockQ_ret ?_
 subst ζ7 ζ2 ζ5 ζ3 ζ8 ζ9 ζ10 ζ1
 exact rq1 (.int .i64 (chkC A)) (congrArg (Value.int .i64) (show 1=(chkC A) from by rw [chk_1 (by omega) (by omega) (fun z=>by first | (have:=z.1.rt; omega) | (have h:=z.1.lf i (by omega) (by omega); first | exact absurd h.1 (by assumption) | (have:=h.2 (by omega); omega)) | (have hn:=z.1.nd j (by omega) (by omega); first | (have:=hn.1; omega) | (have h2:=hn.2.1; omega) | exact absurd hn.2.2.2.1 (by assumption) | exact absurd hn.2.2.2.2 (by assumption) | (have:=nv_lt z.1 (j:=j) (by omega) (by omega); omega)))])) rfl
 refine qg (qv_fa (off:=0) Try.field80_0 rfl) (want_f g5 rfl rfl rfl) ?_
 refine qg (qv_ldp (v:=ζ8) Try.plain3 rfl (inOc (k:=0) rfl) rfl) (want_f g5 rfl rfl rfl) ?_
 refine qg (qv_fa (off:=0) Try.field25_0 rfl) (want_f g5 rfl rfl rfl) ?_
 refine qg (qv_ldp (v:=(.int .i64 A.v)) Try.plain3 rfl (inVc hc2) rfl) (want_f g5 rfl rfl rfl) ?_
 refine qg (qv_geq rfl rfl) (want_f g5 rfl rfl rfl) ?_
 refine qq (qv_pick_f g5 rfl (rfl:ev _ _=(.bool (decide (A.v≤((fk A.N (j)).v)))))) ?_
 refine qq (qv_mv (.bool (decide (A.v≤((fk A.N (j)).v)))) rfl) ?_
 by_cases g6:A.v≤((fk A.N (j)).v)
 refine qs (want_fn g6 rfl rfl rfl) ?_
 refine qs (want_fn g6 rfl rfl rfl) ?_
 refine qs (want_fn g6 rfl rfl rfl) ?_
 refine qs (want_fn g6 rfl rfl rfl) ?_
 refine qs (want_fn g6 rfl rfl rfl) ?_
 refine qq (qv_pick_t g6 rfl (rfl:ev _ _=(Value.bool true))) ?_
 refine qq (qv_mv (Value.bool true) rfl) ?_
 refine qs (want_fnc rfl rfl rfl) ?_
 refine qs (want_fnc rfl rfl rfl) ?_
 refine qs (want_fnc rfl rfl rfl) ?_
 refine qs (want_fnc rfl rfl rfl) ?_
 refine qs (want_fnc rfl rfl rfl) ?_
 refine qs (want_fnc rfl rfl rfl) ?_
 refine qq (qv_pick_tc rfl (rfl:ev _ _=(Value.bool true))) ?_
 refine qq (qv_mv (Value.bool true) rfl) ?_
 refine qs (want_fnc rfl rfl rfl) ?_
 refine qs (want_fnc rfl rfl rfl) ?_
 refine qs (want_fnc rfl rfl rfl) ?_
 refine qs (want_fnc rfl rfl rfl) ?_
 refine qs (want_fnc rfl rfl rfl) ?_
 refine qs (want_fnc rfl rfl rfl) ?_
 refine qq (qv_pick_tc rfl (rfl:ev _ _=(Value.bool true))) ?_
 refine qq (qv_mv (Value.bool true) rfl) ?_
 refine qs (want_fnc rfl rfl rfl) ?_
 refine qs (want_fnc rfl rfl rfl) ?_
 refine qs (want_fnc rfl rfl rfl) ?_
 refine qs (want_fnc rfl rfl rfl) ?_
 refine qs (want_fnc rfl rfl rfl) ?_
 refine qs (want_fnc rfl rfl rfl) ?_
 refine qq (qv_pick_tc rfl (rfl:ev _ _=(Value.bool true))) ?_
 refine qops_nil ?_
 refine vc_tt rfl ?_
 refine vc_seq ?_
 refine vc_region ?_
 refine oq (qv_as (Value.int .i64 1) rfl) ?_
 refine ops_nil ?_
 refine vc_drop [] [ζ1] (.refl _) ?_
 refine vc_ret ?_
 refine blockQ_ret ?_
 refine blockQ_ret ?_
 subst ζ7 ζ2 ζ5 ζ3 ζ8 ζ9 ζ10 ζ1
 exact rq1 (.int .i64 (chkC A)) (congrArg (Value.int .i64) (show 1=(chkC A) from by rw [chk_1 (by omega) (by omega) (fun z=>by first | (have:=z.1.rt; omega) | (have h:=z.1.lf i (by omega) (by omega); first | exact absurd h.1 (by assumption) | (have:=h.2 (by omega); omega)) | (have hn:=z.1.nd j (by omega) (by omega); first | (have:=hn.1; omega) | (have h2:=hn.2.1; omega) | exact absurd hn.2.2.2.1 (by assumption) | exact absurd hn.2.2.2.2 (by assumption) | (have:=nv_lt z.1 (j:=j) (by omega) (by omega); omega)))])) rfl
 refine qg (qv_fa (off:=0) Try.field80_1 rfl) (want_f g6 rfl rfl rfl) ?_
 refine qg (qv_ldp (v:=ζ9) Try.plain3 rfl (inOc (k:=0) rfl) rfl) (want_f g6 rfl rfl rfl) ?_
 refine qg (qv_fa (off:=0) Try.field80_2 rfl) (want_f g6 rfl rfl rfl) ?_
 refine qg (qv_ldp (v:=ζ10) Try.plain3 rfl (inOc (k:=0) rfl) rfl) (want_f g6 rfl rfl rfl) ?_
 refine qg (qv_eql rfl rfl) (want_f g6 rfl rfl rfl) ?_
 refine qq (qv_pick_f g6 rfl (rfl:ev _ _=(.bool (decide (((fk A.N (j)).l)=((fk A.N (j)).h)))))) ?_
 refine qq (qv_mv (.bool (decide (((fk A.N (j)).l)=((fk A.N (j)).h)))) rfl) ?_
 by_cases g7:((fk A.N (j)).l)=((fk A.N (j)).h)
 refine qs (want_fn g7 rfl rfl rfl) ?_
 refine qs (want_fn g7 rfl rfl rfl) ?_
 refine qs (want_fn g7 rfl rfl rfl) ?_
 refine qs (want_fn g7 rfl rfl rfl) ?_
 refine qs (want_fn g7 rfl rfl rfl) ?_
 refine qs (want_fn g7 rfl rfl rfl) ?_
 refine qq (qv_pick_t g7 rfl (rfl:ev _ _=(Value.bool true))) ?_
 refine qq (qv_mv (Value.bool true) rfl) ?_
 refine qs (want_fnc rfl rfl rfl) ?_
 refine qs (want_fnc rfl rfl rfl) ?_
 refine qs (want_fnc rfl rfl rfl) ?_
 refine qs (want_fnc rfl rfl rfl) ?_
 refine qs (want_fnc rfl rfl rfl) ?_
 refine qs (want_fnc rfl rfl rfl) ?_
 refine qq (qv_pick_tc rfl (rfl:ev _ _=(Value.bool true))) ?_
 refine qq (qv_mv (Value.bool true) rfl) ?_
 refine qs (want_fnc rfl rfl rfl) ?_
 refine qs (want_fnc rfl rfl rfl) ?_
 refine qs (want_fnc rfl rfl rfl) ?_
 refine qs (want_fnc rfl rfl rfl) ?_
 refine qs (want_fnc rfl rfl rfl) ?_
 refine qs (want_fnc rfl rfl rfl) ?_
 refine qq (qv_pick_tc rfl (rfl:ev _ _=(Value.bool true))) ?_
 refine qops_nil ?_
 refine vc_tt rfl ?_
 refine vc_seq ?_
 refine vc_region ?_
 refine oq (qv_as (Value.int .i64 1) rfl) ?_
 refine ops_nil ?_
 refine vc_drop [] [ζ1] (.refl _) ?_
 refine vc_ret ?_
 refine blockQ_ret ?_
 refine blockQ_ret ?_
 subst ζ7 ζ2 ζ5 ζ3 ζ8 ζ9 ζ10 ζ1
 exact rq1 (.int .i64 (chkC A)) (congrArg (Value.int .i64) (show 1=(chkC A) from by rw [chk_1 (by omega) (by omega) (fun z=>by first | (have:=z.1.rt; omega) | (have h:=z.1.lf i (by omega) (by omega); first | exact absurd h.1 (by assumption) | (have:=h.2 (by omega); omega)) | (have hn:=z.1.nd j (by omega) (by omega); first | (have:=hn.1; omega) | (have h2:=hn.2.1; omega) | exact absurd hn.2.2.2.1 (by assumption) | exact absurd hn.2.2.2.2 (by assumption) | (have:=nv_lt z.1 (j:=j) (by omega) (by omega); omega)))])) rfl
 refine qg (qv_mv ζ3 rfl) (want_f g7 rfl rfl rfl) ?_
 refine qg (qv_mv (Value.int .i64 j) rfl) (want_f g7 rfl rfl rfl) ?_
 refine qg (qv_fa (off:=0) Try.field80_1 rfl) (want_f g7 rfl rfl rfl) ?_
 refine qg (qv_ldp (v:=ζ9) Try.plain3 rfl (inOc (k:=0) rfl) rfl) (want_f g7 rfl rfl rfl) ?_
 refine qg (qv_call (v:=(.bool (decide (Chk A j ((fk A.N (j)).l))))) (below_c hA (i:=j) (r:=(fk A.N (j)).l) (by omega) (by omega) (by omega) (by omega) hc1 hc2) rfl rfl) (want_f g7 rfl rfl rfl) ?_
 refine qg (qv_not rfl) (want_f g7 rfl rfl rfl) ?_
 refine qq (qv_pick_f g7 rfl (rfl:ev _ _=(.bool (decide (¬ (Chk A j ((fk A.N (j)).l))))))) ?_
 refine qq (qv_mv (.bool (decide (¬ (Chk A j ((fk A.N (j)).l))))) rfl) ?_
 by_cases g8:¬ (Chk A j ((fk A.N (j)).l))
 refine qs (want_fn g8 rfl rfl rfl) ?_
 refine qs (want_fn g8 rfl rfl rfl) ?_
 refine qs (want_fn g8 rfl rfl rfl) ?_
 refine qs (want_fn g8 rfl rfl rfl) ?_
 refine qs (want_fn g8 rfl rfl rfl) ?_
 refine qs (want_fn g8 rfl rfl rfl) ?_
 refine qq (qv_pick_t g8 rfl (rfl:ev _ _=(Value.bool true))) ?_
 refine qq (qv_mv (Value.bool true) rfl) ?_
 refine qs (want_fnc rfl rfl rfl) ?_
 refine qs (want_fnc rfl rfl rfl) ?_
 refine qs (want_fnc rfl rfl rfl) ?_
 refine qs (want_fnc rfl rfl rfl) ?_
 refine qs (want_fnc rfl rfl rfl) ?_
 refine qs (want_fnc rfl rfl rfl) ?_
 refine qq (qv_pick_tc rfl (rfl:ev _ _=(Value.bool true))) ?_
 refine qops_nil ?_
 refine vc_tt rfl ?_
 refine vc_seq ?_
 refine vc_region ?_
 refine oq (qv_as (Value.int .i64 1) rfl) ?_
 refine ops_nil ?_
 refine vc_drop [] [ζ1] (.refl _) ?_
 refine vc_ret ?_
 refine blockQ_ret ?_
 refine blockQ_ret ?_
 subst ζ7 ζ2 ζ5 ζ3 ζ8 ζ9 ζ10 ζ1
 exact rq1 (.int .i64 (chkC A)) (congrArg (Value.int .i64) (show 1=(chkC A) from by rw [chk_1 (by omega) (by omega) (fun z=>by first | (have:=z.1.rt; omega) | (have h:=z.1.lf i (by omega) (by omega); first | exact absurd h.1 (by assumption) | (have:=h.2 (by omega); omega)) | (have hn:=z.1.nd j (by omega) (by omega); first | (have:=hn.1; omega) | (have h2:=hn.2.1; omega) | exact absurd hn.2.2.2.1 (by assumption) | exact absurd hn.2.2.2.2 (by assumption) | (have:=nv_lt z.1 (j:=j) (by omega) (by omega); omega)))])) rfl
 refine qg (qv_mv ζ3 rfl) (want_f g8 rfl rfl rfl) ?_
 refine qg (qv_mv (Value.int .i64 j) rfl) (want_f g8 rfl rfl rfl) ?_
 refine qg (qv_fa (off:=0) Try.field80_2 rfl) (want_f g8 rfl rfl rfl) ?_
 refine qg (qv_ldp (v:=ζ10) Try.plain3 rfl (inOc (k:=0) rfl) rfl) (want_f g8 rfl rfl rfl) ?_
 refine qg (qv_call (v:=(.bool (decide (Chk A j ((fk A.N (j)).h))))) (below_c hA (i:=j) (r:=(fk A.N (j)).h) (by omega) (by omega) (by omega) (by omega) hc1 hc2) rfl rfl) (want_f g8 rfl rfl rfl) ?_
 refine qg (qv_not rfl) (want_f g8 rfl rfl rfl) ?_
 refine qq (qv_pick_f g8 rfl (rfl:ev _ _=(.bool (decide (¬ (Chk A j ((fk A.N (j)).h))))))) ?_
 refine qq (qv_mv (.bool (decide (¬ (Chk A j ((fk A.N (j)).h))))) rfl) ?_
 by_cases g9:¬ (Chk A j ((fk A.N (j)).h))
 refine qs (want_fn g9 rfl rfl rfl) ?_
 refine qs (want_fn g9 rfl rfl rfl) ?_
 refine qs (want_fn g9 rfl rfl rfl) ?_
 refine qs (want_fn g9 rfl rfl rfl) ?_
 refine qs (want_fn g9 rfl rfl rfl) ?_
 refine qs (want_fn g9 rfl rfl rfl) ?_
 refine qq (qv_pick_t g9 rfl (rfl:ev _ _=(Value.bool true))) ?_
 refine qops_nil ?_
 refine vc_tt rfl ?_
 refine vc_seq ?_
 refine vc_region ?_
 refine oq (qv_as (Value.int .i64 1) rfl) ?_
 refine ops_nil ?_
 refine vc_drop [] [ζ1] (.refl _) ?_
 refine vc_ret ?_
 refine blockQ_ret ?_
 refine blockQ_ret ?_
 subst ζ7 ζ2 ζ5 ζ3 ζ8 ζ9 ζ10 ζ1
 exact rq1 (.int .i64 (chkC A)) (congrArg (Value.int .i64) (show 1=(chkC A) from by rw [chk_1 (by omega) (by omega) (fun z=>by first | (have:=z.1.rt; omega) | (have h:=z.1.lf i (by omega) (by omega); first | exact absurd h.1 (by assumption) | (have:=h.2 (by omega); omega)) | (have hn:=z.1.nd j (by omega) (by omega); first | (have:=hn.1; omega) | (have h2:=hn.2.1; omega) | exact absurd hn.2.2.2.1 (by assumption) | exact absurd hn.2.2.2.2 (by assumption) | (have:=nv_lt z.1 (j:=j) (by omega) (by omega); omega)))])) rfl
 refine qg (qv_fa (off:=0) Try.field25_2 rfl) (want_f g9 rfl rfl rfl) ?_
 refine qg (qv_ldp (v:=na) Try.plain23 rfl (inVc hc2) rfl) (want_f g9 rfl rfl rfl) ?_
 refine qg (qv_mv (Value.int .i64 j) rfl) (want_f g9 rfl rfl rfl) ?_
 refine qg (qv_sliceHiS Try.underlying23 Try.size80 rfl (hA.n) rfl (by omega) (by omega)) (want_f g9 rfl rfl rfl) ?_
 refine qg (qv_ldm (vs:=[ζ8,ζ9,ζ10]) Try.agg80 rfl (inOc (k:=0) rfl) rfl rfl) (want_f g9 rfl rfl rfl) ?_
 let ζ11:Value:=.bool (decide (∃ i:Int,0≤i∧i < (A.N.take j.toNat).length∧fk (A.N.take j.toNat) i=fk A.N j))
 refine qg (qv_call (v:=ζ11) (ContainsF_c (n:=fk A.N j) (Fks.takeI hA.n (j:=(j).toNat) (by omega))) rfl rfl) (want_f g9 rfl rfl rfl) ?_
 refine qq (qv_pick_f g9 rfl (rfl:ev _ _=ζ11)) ?_
 refine qops_nil ?_
 refine vc_if rfl (fun c6=>?_) (fun c6=>?_)
 refine vc_seq ?_
 refine vc_region ?_
 refine oq (qv_as (Value.int .i64 1) rfl) ?_
 refine ops_nil ?_
 refine vc_drop [] [ζ1] (.refl _) ?_
 refine vc_ret ?_
 refine blockQ_ret ?_
 refine blockQ_ret ?_
 subst ζ7 ζ2 ζ5 ζ3 ζ8 ζ9 ζ10 ζ1 ζ11
 exact rq1 (.int .i64 (chkC A)) (congrArg (Value.int .i64) (show 1=(chkC A) from by rw [chk_1 (by omega) (by omega) (chk_no0 (by omega) (by omega) c6)])) rfl
 refine vc_skip ?_
 refine vc_drop [] [(Arr 80 b3 [(Value.int .i64 ((fk A.N (j)).v)),(Value.int .i64 ((fk A.N (j)).l)),(Value.int .i64 ((fk A.N (j)).h))])] ((List.perm_middle (l₁:=[]) (l₂:=[])).trans (List.perm_append_comm (l₁:=[(Arr 80 b3 [(Value.int .i64 ((fk A.N (j)).v)),(Value.int .i64 ((fk A.N (j)).l)),(Value.int .i64 ((fk A.N (j)).h))])]))) ?_
 refine vc_region ?_
 refine oq (qv_add rfl rfl (by omega)) ?_
 refine oq (qv_mv (.int .i64 (j+1)) rfl) ?_
 refine ops_nil ?_
 refine ⟨(j+1),⟨rfl,rfl,rfl,rfl,rfl,rfl,rfl,rfl,rfl,rfl,rfl,rfl,(congrArg (Value.int .i64) (show (j+1)=((j+1)) from by omega)),trivial⟩,⟨rfl,rfl,by omega,by omega,all_snoc hnd ⟨by omega,by omega,fun k k0 k1 q=>c6 ((seen_iff (by omega) (by omega)).2 ⟨k,k0,k1,q⟩),Decidable.not_not.1 (by assumption),Decidable.not_not.1 (by assumption)⟩⟩,by omega⟩
 refine vc_exit ?_
 refine blockQ_hit ?_
 refine vc_seq ?_
 refine vc_seq ?_
 refine vc_region ?_
 refine oq (qv_fa (off:=0) Try.field25_3 rfl) ?_
 refine oq (qv_ldp (v:=(.int .i64 A.r)) Try.plain3 rfl (inVc hc2) rfl) ?_
 refine oq (qv_lss rfl rfl) ?_
 refine oq (qv_mv (.bool (decide (A.r < 0))) rfl) ?_
 by_cases g10:A.r < 0
 refine os (want_fn g10 rfl rfl rfl) ?_
 refine os (want_fn g10 rfl rfl rfl) ?_
 refine os (want_fn g10 rfl rfl rfl) ?_
 refine os (want_fn g10 rfl rfl rfl) ?_
 refine os (want_fn g10 rfl rfl rfl) ?_
 refine os (want_fn g10 rfl rfl rfl) ?_
 refine os (want_fn g10 rfl rfl rfl) ?_
 refine os (want_fn g10 rfl rfl rfl) ?_
 refine oq (qv_pick_t g10 rfl (rfl:ev _ _=(Value.bool true))) ?_
 refine ops_nil ?_
 refine vc_tt rfl ?_
 refine vc_seq ?_
 refine vc_region ?_
 refine oq (qv_as (Value.int .i64 1) rfl) ?_
 refine ops_nil ?_
 refine vc_ret ?_
 subst ζ7 ζ2 ζ5 ζ3
 exact rq1 (.int .i64 (chkC A)) (congrArg (Value.int .i64) (show 1=(chkC A) from by rw [chk_1 (by omega) (by omega) (fun z=>by first | (have:=z.1.rt; omega) | (have h:=z.1.lf i (by omega) (by omega); first | exact absurd h.1 (by assumption) | (have:=h.2 (by omega); omega)) | (have hn:=z.1.nd j (by omega) (by omega); first | (have:=hn.1; omega) | (have h2:=hn.2.1; omega) | exact absurd hn.2.2.2.1 (by assumption) | exact absurd hn.2.2.2.2 (by assumption) | (have:=nv_lt z.1 (j:=j) (by omega) (by omega); omega)))])) rfl
 refine og (qv_fa (off:=0) Try.field25_3 rfl) (want_f g10 rfl rfl rfl) ?_
 refine og (qv_ldp (v:=(.int .i64 A.r)) Try.plain3 rfl (inVc hc2) rfl) (want_f g10 rfl rfl rfl) ?_
 refine og (qv_ldp (v:=ζ5) Try.plain3 rfl (inVc hc1) rfl) (want_f g10 rfl rfl rfl) ?_
 refine og (qv_fa (off:=0) Try.field25_2 rfl) (want_f g10 rfl rfl rfl) ?_
 refine og (qv_ldp (v:=na) Try.plain23 rfl (inVc hc2) rfl) (want_f g10 rfl rfl rfl) ?_
 refine og (qv_lenSS Try.underlying23 rfl (hA.n)) (want_f g10 rfl rfl rfl) ?_
 refine og (qv_add rfl rfl (by omega)) (want_f g10 rfl rfl rfl) ?_
 refine og (qv_geq rfl rfl) (want_f g10 rfl rfl rfl) ?_
 refine oq (qv_pick_f g10 rfl (rfl:ev _ _=(.bool (decide ((((A.L.length:Int))+((A.N.length:Int)))≤A.r))))) ?_
 refine ops_nil ?_
 refine vc_if rfl (fun c7=>?_) (fun c7=>?_)
 refine vc_seq ?_
 refine vc_region ?_
 refine oq (qv_as (Value.int .i64 1) rfl) ?_
 refine ops_nil ?_
 refine vc_ret ?_
 subst ζ7 ζ2 ζ5 ζ3
 exact rq1 (.int .i64 (chkC A)) (congrArg (Value.int .i64) (show 1=(chkC A) from by rw [chk_1 (by omega) (by omega) (fun z=>by first | (have:=z.1.rt; omega) | (have h:=z.1.lf i (by omega) (by omega); first | exact absurd h.1 (by assumption) | (have:=h.2 (by omega); omega)) | (have hn:=z.1.nd j (by omega) (by omega); first | (have:=hn.1; omega) | (have h2:=hn.2.1; omega) | exact absurd hn.2.2.2.1 (by assumption) | exact absurd hn.2.2.2.2 (by assumption) | (have:=nv_lt z.1 (j:=j) (by omega) (by omega); omega)))])) rfl
 refine vc_skip ?_
 refine vc_seq ?_
 have hloc:Loc A:=⟨fun k a b=>hlf k a (by omega),fun k a b=>hnd k a (by omega),by omega,by omega⟩
 refine vc_nil 3 1 ?_
 refine vc_region_order (τ:=[(Gr 3 1 ((Value.slice none 0 0)) 0 ([]))]) [(0,false),(1,false),(2,false),(3,false),(4,true),(5,true),(6,false),(7,false),(8,false),(9,false),(10,false)] [] Try.mixed (perm_idx _ _ [0] rfl rfl) (by kernel_rfl) ?_
 refine rq rfl (qv_ldm (vs:=[(.int .i64 A.v),la,na,(.int .i64 A.r)]) Try.agg25 rfl (inVc hc2) rfl rfl) ?_
 refine rq rfl (qv_fa (off:=0) Try.field25_3 rfl) ?_
 refine rq rfl (qv_ldp (v:=(.int .i64 A.r)) Try.plain3 rfl (inVc hc2) rfl) ?_
 refine rq rfl (qv_ldp (v:=ζ5) Try.plain3 rfl (inVc hc1) rfl) ?_
 refine rl rfl ?_
 refine ops_make (n:=(A.L.length:Int)) Try.underlying30 Try.ti4 rfl rfl rfl rfl (by omega) (by omega) (by omega) (fun b4=>?_)
 refine ops_nil ⟨[],[(Gr 3 1 ((Value.slice none 0 0)) 0 ([])),(Arr 4 b4 (List.replicate ((A.L.length:Int)).toNat (Value.bool false)))],(Sub.refl _),(perm_idx _ _ [0,1] rfl rfl),⟨[],.refl _⟩,?_⟩
 refine rl rfl ?_
 subst ζ7 ζ2 ζ5 ζ3
 refine ops_call (σa:=[(Gr 3 1 ((Value.slice none 0 0)) 0 ([])),(Arr 4 b4 (List.replicate ((A.L.length:Int)).toNat (Value.bool false)))]) (σr:=[]) (by have h:=fin_c hloc (by omega) (A.r.toNat+2) _ A.r ([],pl0 (mI A)) [] (List.replicate A.L.length false) (Value.slice none 0 0) b4 hA hloc.rt (mu_I hloc.rt.1) (lyI0 (mI_ok hloc)) fi0 rch_root; rw [← bvs_rep] at h; exact h) rfl rfl (.refl _) (fun r1 V1 sg1 hV1 hp1=>?_)
 obtain ⟨u1,d1,M1,rfl,rfl,FD,FDr,_⟩:=hp1
 have FDl:=FD.ml
 have hA:=hA.mono hV1
 have hc1:=hc1.mono hV1
 have hc2:=hc2.mono hV1
 let ζ4:Asrt:=Gr 3 1 u1 d1.length ((d1.map (Value.int .i64)))
 refine ops_nil ⟨[],[ζ4,(Arr 4 b4 (bvs M1))],hV1,(perm_idx _ _ [0,1] rfl rfl),⟨[],.refl _⟩,?_⟩
 let ζ6:Value:=.slice (some ⟨b4,0,none⟩) A.L.length A.L.length
 refine rq rfl (qv_mv (.tuple #[u1,ζ6]) rfl) ?_
 refine rq rfl (qv_ext u1 rfl rfl) ?_
 refine rq rfl (qv_ext ζ6 rfl rfl) ?_
 refine rq rfl (qv_as u1 rfl) ?_
 refine rq rfl (qv_as ζ6 rfl) ?_
 refine rnil ?_
 refine vc_seq ?_
 refine vc_seq ?_
 refine vc_res (σ':=[ζ4,(Arr 4 b4 (bvs M1))]) rfl ?_
 refine vc_region ?_
 refine oq (qv_mv u1 rfl) ?_
 refine oq (qv_lenGi Try.underlying22 rfl (inGi (k:=0) rfl)) ?_
 refine oq (qv_fa (off:=0) Try.field25_2 rfl) ?_
 refine oq (qv_ldp (v:=na) Try.plain23 rfl (inVc hc2) rfl) ?_
 refine oq (qv_lenSS Try.underlying23 rfl (hA.n)) ?_
 refine oq (qv_neq rfl rfl) ?_
 refine oq (qv_mv (.bool (decide (((d1.length:Int)) ≠ ((A.N.length:Int))))) rfl) ?_
 by_cases g11:((d1.length:Int)) ≠ ((A.N.length:Int))
 refine os (want_fn g11 rfl rfl rfl) ?_
 refine os (want_fn g11 rfl rfl rfl) ?_
 refine os (want_fn g11 rfl rfl rfl) ?_
 refine oq (qv_pick_t g11 rfl (rfl:ev _ _=(Value.bool true))) ?_
 refine oq (qv_mv (Value.bool true) rfl) ?_
 refine os (want_fnc rfl rfl rfl) ?_
 refine os (want_fnc rfl rfl rfl) ?_
 refine oq (qv_pick_tc rfl (rfl:ev _ _=(Value.bool true))) ?_
 refine ops_nil ?_
 refine vc_tt rfl ?_
 refine vc_seq ?_
 refine vc_region ?_
 refine oq (qv_as (Value.int .i64 1) rfl) ?_
 refine ops_nil ?_
 refine vc_drop [] [ζ4,(Arr 4 b4 (bvs M1))] (.refl _) ?_
 refine vc_ret ?_
 subst ζ4 ζ6
 exact rq1 (.int .i64 (chkC A)) (congrArg (Value.int .i64) (show 1=(chkC A) from by rw [chk_1 (by omega) (by omega) (chk_no1 (by omega) hloc FD FDr (by omega))])) rfl
 refine og (qv_mv u1 rfl) (want_f g11 rfl rfl rfl) ?_
 refine og (qv_call_gi (v:=(.bool (decide (srtB d1)))) (k:=0) rfl (fun Vo hVo hbo=>IsSorted_c hbo) rfl rfl) (want_f g11 rfl rfl rfl) ?_
 refine og (qv_not rfl) (want_f g11 rfl rfl rfl) ?_
 refine oq (qv_pick_f g11 rfl (rfl:ev _ _=(.bool (decide (¬ (srtB d1)))))) ?_
 refine oq (qv_mv (.bool (decide (¬ (srtB d1)))) rfl) ?_
 by_cases g12:¬ (srtB d1)
 refine os (want_fn g12 rfl rfl rfl) ?_
 refine os (want_fn g12 rfl rfl rfl) ?_
 refine oq (qv_pick_t g12 rfl (rfl:ev _ _=(Value.bool true))) ?_
 refine ops_nil ?_
 refine vc_tt rfl ?_
 refine vc_seq ?_
 refine vc_region ?_
 refine oq (qv_as (Value.int .i64 1) rfl) ?_
 refine ops_nil ?_
 refine vc_drop [] [ζ4,(Arr 4 b4 (bvs M1))] (.refl _) ?_
 refine vc_ret ?_
 subst ζ4 ζ6
 exact rq1 (.int .i64 (chkC A)) (congrArg (Value.int .i64) (show 1=(chkC A) from by rw [chk_1 (by omega) (by omega) (chk_no2 (by omega) hloc FD FDr g12)])) rfl
 refine og (qv_mv ζ6 rfl) (want_f g12 rfl rfl rfl) ?_
 refine og (qv_call_own (v:=(.bool (decide (∃ i:Int,0≤i∧i < M1.length∧gb M1 i=false)))) (k:=1) (b:=b4) rfl (fun Vo hVo hbo=>ContainsB_c (z:=false) (bls_cells ⟨_,_,hbo⟩ FDl.symm (Nat.le_refl _) (by omega))) rfl rfl) (want_f g12 rfl rfl rfl) ?_
 refine oq (qv_pick_f g12 rfl (rfl:ev _ _=(.bool (decide (∃ i:Int,0≤i∧i < M1.length∧gb M1 i=false))))) ?_
 refine ops_nil ?_
 refine vc_if rfl (fun c8=>?_) (fun c8=>?_)
 refine vc_seq ?_
 refine vc_region ?_
 refine oq (qv_as (Value.int .i64 1) rfl) ?_
 refine ops_nil ?_
 refine vc_drop [] [ζ4,(Arr 4 b4 (bvs M1))] (.refl _) ?_
 refine vc_ret ?_
 subst ζ4 ζ6
 exact rq1 (.int .i64 (chkC A)) (congrArg (Value.int .i64) (show 1=(chkC A) from by rw [chk_1 (by omega) (by omega) (chk_no3 (by omega) hloc FD FDr c8)])) rfl
 refine vc_skip ?_
 refine vc_seq ?_
 refine vc_region ?_
 refine oq (qv_as (Value.int .i64 0) rfl) ?_
 refine ops_nil ?_
 refine vc_drop [] [ζ4,(Arr 4 b4 (bvs M1))] (.refl _) ?_
 refine vc_ret ?_
 subst ζ4 ζ6
 exact rq1 (.int .i64 (chkC A)) (congrArg (Value.int .i64) (show 0=(chkC A) from by rw [chk_0 (chk_yes (by omega) (by omega) hloc FD FDr (by omega) (Classical.not_not.1 g12) c8)])) rfl
end Go.Proofs.Ytkmhjcjpohpiaaa
