import Derived.Test.YtkmhjcjpohpiaaaMq
import Derived.Test.YtkmhjcjpohpiaaaWn
/- Walks of mtbdd: what each function returns. Printed by a program out of notes. -/
namespace Go.Proofs.Ytkmhjcjpohpiaaa
open Go.Vc
open Classical
set_option maxRecDepth 100000
set_option maxHeartbeats 4000000
theorem value_c {V:HV} {la na:Value} {A:Mg} (hA:Mt V la na A) {X:List Bool} {xv:Value} (hX:Bls V xv X) (hok:Ok A) (hl:(X.length:Int)=A.v) :
    FnC Try.prog 54 [(.agg #[(.int .i64 A.v),la,na,(.int .i64 A.r)]),xv] V [] (fun v _ _=>v=(.int .i64 (vl A (eb X)))):=by
 refine fn_intro (N:=30) Try.func54 (by kernel_rfl) rfl rfl rfl (Nat.le_of_ble_eq_true rfl) ?_
 intro w0 D
 have hbl:=Ints.bound hA.l
 have hbn:=SlS.bound hA.n
 have hb2:=hX.bound
 have hl4:=hok.2.1
 refine vc_seq ?_
 refine vc_region ?_
 refine ops_box (v:=(.agg #[(.int .i64 A.v),la,na,(.int .i64 A.r)])) (cs:=[(.int .i64 A.v),la,na,(.int .i64 A.r)]) rfl rfl (fun b1=>?_)
 refine oq (qv_as (Value.int .i64 0) rfl) ?_
 refine ops_nil ?_
 refine vc_seq ?_
 let ζ1:Asrt:=Arr 25 b1 [(.int .i64 A.v),la,na,(.int .i64 A.r)]
 refine vc_res (σ':=[ζ1]) rfl ?_
 refine vc_region ?_
 refine oq (qv_fa (off:=0) Try.field25_3 rfl) ?_
 refine oq (qv_ldp (v:=(.int .i64 A.r)) Try.plain3 rfl (inOc (k:=0) rfl) rfl) ?_
 refine oq (qv_as (.int .i64 A.r) rfl) ?_
 refine ops_nil ?_
 refine vc_seq ?_
 refine vc_block ?_
 refine vc_loop (α:=Int) (fun (xx:Int)=>[(0,(.agg #[(.int .i64 A.v),la,na,(.int .i64 A.r)])),(1,xv),(2,(Value.pointer (some ⟨b1,0,none⟩))),(4,(Value.int .i64 0)),(5,(Value.int .i64 xx))]) (fun (xx:Int) V' σ'=>V=V'∧[ζ1]=σ'∧(mG A).ok xx∧gev (mG A) (eb X) xx=vl A (eb X)) (fun (xx:Int)=>xx.toNat) (A.r) ?_ ?_ ?_
 exact ⟨rfl,rfl,rfl,rfl,rfl,trivial⟩
 exact ⟨rfl,rfl,hok.rt,rfl⟩
 rintro r e1 V0l σ0l hI0
 obtain ⟨rfl,rfl,hr,hv⟩:V=V0l∧[ζ1]=σ0l∧(mG A).ok r∧gev (mG A) (eb X) r=vl A (eb X):=hI0
 refine vc_seq ?_
 refine vc_seq ?_
 refine vc_region ?_
 refine oq (qv_mv (Value.int .i64 r) rfl) ?_
 refine oq (qv_fa (off:=0) Try.field25_1 rfl) ?_
 refine oq (qv_ldp (v:=la) Try.plain22 rfl (inOc (k:=0) rfl) rfl) ?_
 refine oq (qv_lenI Try.underlying22 rfl (hA.l)) ?_
 refine oq (qv_geq rfl rfl) ?_
 refine ops_nil ?_
 refine vc_if rfl (fun c1=>?_) (fun c1=>?_)
 refine vc_skip ?_
 refine vc_block ?_
 refine vc_seq ?_
 have hr0:0≤r:=hr.1
 have hr1:r < A.L.length+A.N.length:=hr.2
 have hvb:=vr_bd hok hr (by omega)
 have hvb1:=hvb.1
 have hvb2:=hvb.2
 have hs:VSt A (eb X) r (stp A r (tp A r) (gb X (tp A r)=true)):=vst_s hok hr (by omega)
 refine vc_region ?_
 refine oq (qv_ldm (vs:=[(.int .i64 A.v),la,na,(.int .i64 A.r)]) Try.agg25 rfl (inOc (k:=0) rfl) rfl rfl) ?_
 refine oq (qv_mv (Value.int .i64 r) rfl) ?_
 refine oq (qv_call (v:=(.int .i64 (tp A r))) (top_c hA (by omega) (by omega)) rfl rfl) ?_
 refine oq (qv_as (.int .i64 (tp A r)) rfl) ?_
 refine ops_nil ?_
 refine vc_region_any Try.mixed (by kernel_rfl) ?_
 refine qq (qv_ldm (vs:=[(.int .i64 A.v),la,na,(.int .i64 A.r)]) Try.agg25 rfl (inOc (k:=0) rfl) rfl rfl) ?_
 refine qq (qv_mv (Value.int .i64 r) rfl) ?_
 refine qq (qv_mv (.int .i64 (tp A r)) rfl) ?_
 refine qq (qv_mv xv rfl) ?_
 refine qq (qv_mv (.int .i64 (tp A r)) rfl) ?_
 refine qq (qv_iab (v:=xv) (i:=tp A r) Try.underlying30 Try.size4 rfl (inVb hX) rfl (by omega) (by omega)) ?_
 refine qq (qv_ldb (v:=xv) (i:=tp A r) Try.plain4 rfl (inVb hX) (by omega) (by omega)) ?_
 refine qq (qv_call (v:=(.int .i64 (stp A r (tp A r) (gb X (tp A r)=true)))) (step_c (hi:=gb X (tp A r)=true) hA (r:=r) (x:=tp A r) (by omega) (by omega) (by omega)) rfl rfl) ?_
 refine qq (qv_as (.int .i64 (stp A r (tp A r) (gb X (tp A r)=true))) rfl) ?_
 refine qops_nil ?_
 subst ζ1
 refine ⟨(stp A r (tp A r) (gb X (tp A r)=true)),⟨rfl,rfl,rfl,rfl,(congrArg (Value.int .i64) (show (stp A r (tp A r) (gb X (tp A r)=true))=((stp A r (tp A r) (gb X (tp A r)=true))) from by rfl)),trivial⟩,⟨rfl,rfl,hs.ok,by rw [← hv]; exact hs.vl⟩,by have:=hs.lt; have:=hs.ok.1; omega⟩
 refine vc_exit ?_
 refine blockQ_hit ?_
 refine vc_seq ?_
 have hr0:0≤r:=hr.1
 refine vc_region ?_
 refine oq (qv_fa (off:=0) Try.field25_1 rfl) ?_
 refine oq (qv_ldp (v:=la) Try.plain22 rfl (inOc (k:=0) rfl) rfl) ?_
 refine oq (qv_mv (Value.int .i64 r) rfl) ?_
 refine oq (qv_iai (v:=la) (i:=r) Try.underlying22 Try.size3 rfl (inVi (hA.l)) rfl (by omega) (by omega)) ?_
 refine oq (qv_ldi (v:=la) (i:=r) Try.plain3 rfl (inVi (hA.l)) (by omega) (by omega)) ?_
 refine oq (qv_as (.int .i64 (gi A.L (r))) rfl) ?_
 refine ops_nil ?_
 refine vc_ret ?_
 subst ζ1
 exact rq1 (.int .i64 (vl A (eb X))) (congrArg (Value.int .i64) (show (gi A.L (r))=(vl A (eb X)) from by rw [← hv]; exact (gev_lf (G:=mG A) (show r < (A.L.length:Int) by omega)).symm)) rfl
end Go.Proofs.Ytkmhjcjpohpiaaa
