import Derived.Test.YtkmhjcjpohpiaaaMq
import Derived.Test.YtkmhjcjpohpiaaaWn
/- Walks of mtbdd: what each function returns. Printed by a program out of notes. -/
namespace Go.Proofs.Ytkmhjcjpohpiaaa
open Go.Vc
open Classical
set_option maxRecDepth 100000
set_option maxHeartbeats 4000000
theorem value_c {V:HV} {la na:Value} {A:Mg} (hA:Mt V la na A) {X:List Bool} {xv:Value} (hX:Bls V xv X) (hok:Ok A) (hl:(X.length:Int)=A.v) :
    FnC Try.prog 54 [(.agg #[(.int .i64 A.v),la,na,(.int .i64 A.r)]),xv] V [] (fun v _ _=>v=(.int .i64 (vl A (eb X)))):=by
 refine fn_intro (N:=30) Try.func54 (by kernel_rfl) rfl rfl rfl (Nat.le_of_ble_eq_true rfl) ?_
 intro w0 D
 have hbl:=Ints.bound hA.l
 have hbn:=SlS.bound hA.n
 have hb2:=hX.bound
 have hl4:=hok.2.1
 refine vc_seq ?_
 refine vc_region ?_
 refine ops_box (v:=(.agg #[(.int .i64 A.v),la,na,(.int .i64 A.r)])) (cs:=[(.int .i64 A.v),la,na,(.int .i64 A.r)]) rfl rfl (fun b1=>?_)
 refine oq (qv_as (Value.int .i64 0) rfl) ?_
 refine ops_nil ?_
 refine vc_seq ?_
 let ζ1:Asrt:=Arr 25 b1 [(.int .i64 A.v),la,na,(.int .i64 A.r)]
 refine vc_res (σ':=[ζ1]) rfl ?_
 refine vc_region ?_
 refine oq (qv_fa (off:=0) Try.field25_3 rfl) ?_
 refine oq (qv_ldp (v:=(.int .i64 A.r)) Try.plain3 rfl (inOc (k:=0) rfl) rfl) ?_
 refine oq (qv_as (.int .i64 A.r) rfl) ?_
 refine ops_nil ?_
 refine vc_seq ?_
 refine vc_block ?_
 refine vc_loop (α:=Int) (fun (xx:Int)=>[(0,(.agg #[(.int .i64 A.v),la,na,(.int .i64 A.r)])),(1,xv),(2,(Value.pointer (some ⟨b1,0,none⟩))),(4,(Value.int .i64 0)),(5,(Value.int .i64 xx))]) (fun (xx:Int) V' σ'=>V=V'∧[ζ1]=σ'∧(mG A).ok xx∧gev (mG A) (eb X) xx=vl A (eb X)) (fun (xx:Int)=>xx.toNat) (A.r) ?_ ?_ ?_
 exact ⟨rfl,rfl,rfl,rfl,rfl,trivial⟩
 exact ⟨rfl,rfl,hok.rt,rfl⟩
 rintro r e1 V0l σ0l hI0
 obtain ⟨rfl,rfl,hr,hv⟩:V=V0l∧[ζ1]=σ0l∧(mG A).ok r∧gev (mG A) (eb X) r=vl A (eb X):=hI0
 refine vc_seq ?_
 refine vc_seq ?_
 refine vc_region ?_
 refine oq (qv_mv (Value.int .i64 r) rfl) ?_
 refine oq (qv_fa (off:=0) Try.field25_1 rfl) ?_
 refine oq (qv_ldp (v:=la) Try.plain22 rfl (inOc (k:=0) rfl) rfl) ?_
 refine oq (qv_lenI Try.underlying22 rfl (hA.l)) ?_
 refine oq (qv_geq rfl rfl) ?_
 refine ops_nil ?_
 refine vc_if rfl (fun c1=>?_) (fun c1=>?_)
 refine vc_skip ?_
 refine vc_block ?_
 refine vc_seq ?_
 have hr0:0≤r:=hr.1
 have hr1:r < A.L.length+A.N.length:=hr.2
 have hvb:=vr_bd hok hr (by omega)
 have hvb1:=hvb.1
 have hvb2:=hvb.2
 have hs:VSt A (eb X) r (stp A r (tp A r) (gb X (tp A r)=true)):=vst_s hok hr (by omega)
 refine vc_region ?_
 refine oq (qv_ldm (vs:=[(.int .i64 A.v),la,na,(.int .i64 A.r)]) Try.agg25 rfl (inOc (k:=0) rfl) rfl rfl) ?_
 refine oq (qv_mv (Value.int .i64 r) rfl) ?_
 refine oq (qv_call (v:=(.int .i64 (tp A r))) (top_c hA (by omega) (by omega)) rfl rfl) ?_
 refine oq (qv_as (.int .i64 (tp A r)) rfl) ?_
 refine ops_nil ?_
 refine vc_region_any Try.mixed (by kernel_rfl) ?_
 refine qq (qv_ldm (vs:=[(.int .i64 A.v),la,na,(.int .i64 A.r)]) Try.agg25 rfl (inOc (k:=0) rfl) rfl rfl) ?_
 refine qq (qv_mv (Value.int .i64 r) rfl) ?_
 refine qq (qv_mv (.int .i64 (tp A r)) rfl) ?_
 refine qq (qv_mv xv rfl) ?_
 refine qq (qv_mv (.int .i64 (tp A r)) rfl) ?_
 refine qq (qv_iab (v:=xv) (i:=tp A r) Try.underlying30 Try.size4 rfl (inVb hX) rfl (by omega) (by omega)) ?_
 refine qq (qv_ldb (v:=xv) (i:=tp A r) Try.plain4 rfl (inVb hX) (by omega) (by omega)) ?_
 refine qq (qv_call (v:=(.int .i64 (stp A r (tp A r) (gb X (tp A r)=true)))) (step_c (hi:=gb X (tp A r)=true) hA (r:=r) (x:=tp A r) (by omega) (by omega) (by omega)) rfl rfl) ?_
 refine qq (qv_as (.int .i64 (stp A r (tp A r) (gb X (tp A r)=true))) rfl) ?_
 refine qops_nil ?_
 subst ζ1
 refine ⟨(stp A r (tp A r) (gb X (tp A r)=true)),⟨rfl,rfl,rfl,rfl,(congrArg (Value.int .i64) (show (stp A r (tp A r) (gb X (tp A r)=true))=((stp A r (tp A r) (gb X (tp A r)=true))) from by rfl)),trivial⟩,⟨rfl,rfl,hs.ok,by rw [← hv]; exact hs.vl⟩,by have:=hs.lt; have:=hs.ok.1; omega⟩
 refine vc_exit ?_
 refine blockQ_hit ?_
 refine vc_seq ?_
 have hr0:0≤r:=hr.1
 refine vc_region ?_
 refine oq (qv_fa (off:=0) Try.field25_1 rfl) ?_
 refine oq (qv_ldp (v:=la) Try.plain22 rfl (inOc (k:=0) rfl) rfl) ?_
 refine oq (qv_mv (Value.int .i64 r) rfl) ?_
 refine oq (qv_iai (v:=la) (i:=r) Try.underlying22 Try.size3 rfl (inVi (hA.l)) rfl (by omega) (by omega)) ?_
 refine oq (qv_ldi (v:=la) (i:=r) Try.plain3 rfl (inVi (hA.l)) (by omega) (by omega)) ?_
 refine oq (qv_as (.int .i64 (gi A.L (r))) rfl) ?_
 refine ops_nil ?_
 refine vc_ret ?_
 subst ζ1
 exact rq1 (.int .i64 (vl A (eb X))) (congrArg (Value.int .i64) (show (gi A.L (r))=(vl A (eb X)) from by rw [← hv]; exact (gev_lf (G:=mG A) (show r < (A.L.length:Int) by omega)).symm)) rfl
theorem valueR_c {V:HV} {la na:Value} {A:Mg} (hA:Mt V la na A) {X:List Bool} {xv:Value} (hX:Bls V xv X) (hok:Ok A) (hl:(X.length:Int)=A.v) :
    FnC Try.prog 16 [(.agg #[(.int .i64 A.v),la,na,(.int .i64 A.r)]),xv] V [] (fun v _ _=>v=(.int .i64 (vl A (eb X)))):=by
 refine fn_intro (N:=37) Try.func16 (by kernel_rfl) rfl rfl rfl (Nat.le_of_ble_eq_true rfl) ?_
 intro w0 D
 have hbl:=Ints.bound hA.l
 have hbn:=SlS.bound hA.n
 have hb2:=hX.bound
 have hl4:=hok.2.1
 refine vc_seq ?_
 refine vc_region ?_
 refine ops_box (v:=(.agg #[(.int .i64 A.v),la,na,(.int .i64 A.r)])) (cs:=[(.int .i64 A.v),la,na,(.int .i64 A.r)]) rfl rfl (fun b1=>?_)
 refine oq (qv_as (Value.int .i64 0) rfl) ?_
 refine ops_nil ?_
 refine vc_seq ?_
 let ζ3:Asrt:=Arr 25 b1 [(.int .i64 A.v),la,na,(.int .i64 A.r)]
 refine vc_res (σ':=[ζ3]) rfl ?_
 refine vc_region ?_
 refine oq (qv_fa (off:=0) Try.field25_3 rfl) ?_
 refine oq (qv_ldp (v:=(.int .i64 A.r)) Try.plain3 rfl (inOc (k:=0) rfl) rfl) ?_
 refine oq (qv_as (.int .i64 A.r) rfl) ?_
 refine ops_nil ?_
 refine vc_seq ?_
 refine vc_block ?_
 refine vc_loopD (α:=Int) (fun (xx:Int)=>[(0,(.agg #[(.int .i64 A.v),la,na,(.int .i64 A.r)])),(1,xv),(2,(Value.pointer (some ⟨b1,0,none⟩))),(4,(Value.int .i64 0)),(5,(Value.int .i64 xx))]) (fun (xx:Int) V' σ'=>V=V'∧[ζ3]=σ'∧(mG A).ok xx∧gev (mG A) (eb X) xx=vl A (eb X)) (fun (xx:Int)=>xx.toNat) (A.r) ?_ ?_ ?_
 exact ⟨rfl,rfl,rfl,rfl,rfl,trivial⟩
 exact ⟨rfl,rfl,hok.rt,rfl⟩
 rintro r e1 V0l σ0l hI0
 obtain ⟨rfl,rfl,hr,hv⟩:V=V0l∧[ζ3]=σ0l∧(mG A).ok r∧gev (mG A) (eb X) r=vl A (eb X):=hI0
 refine vc_seq ?_
 refine vc_seq ?_
 refine vc_region ?_
 refine oq (qv_mv (Value.int .i64 r) rfl) ?_
 refine oq (qv_fa (off:=0) Try.field25_1 rfl) ?_
 refine oq (qv_ldp (v:=la) Try.plain22 rfl (inOc (k:=0) rfl) rfl) ?_
 refine oq (qv_lenI Try.underlying22 rfl (hA.l)) ?_
 refine oq (qv_geq rfl rfl) ?_
 refine ops_nil ?_
 refine vc_if rfl (fun c1=>?_) (fun c1=>?_)
 refine vc_skip ?_
 refine vc_block ?_
 refine vc_seq ?_
 have hr0:0≤r:=hr.1
 have hr1:r < A.L.length+A.N.length:=hr.2
 have hvb:=vr_bd hok hr (by omega)
 have hvb1:=hvb.1
 have hvb2:=hvb.2
 have hbj:=hok.loc.bd (r - A.L.length) (by omega) (by omega)
 have hbj1:=hbj.1
 have hbj2:=hbj.2
 refine vc_region ?_
 refine oq (qv_fa (off:=0) Try.field25_2 rfl) ?_
 refine oq (qv_ldp (v:=na) Try.plain23 rfl (inOc (k:=0) rfl) rfl) ?_
 refine oq (qv_mv (Value.int .i64 r) rfl) ?_
 refine oq (qv_fa (off:=0) Try.field25_1 rfl) ?_
 refine oq (qv_ldp (v:=la) Try.plain22 rfl (inOc (k:=0) rfl) rfl) ?_
 refine oq (qv_lenI Try.underlying22 rfl (hA.l)) ?_
 refine oq (qv_sub rfl rfl (by omega)) ?_
 refine oq (qv_ias (v:=na) (i:=r - ((A.L.length:Int))) Try.underlying23 Try.size80 rfl (hA.n) rfl (by omega) (by omega)) ?_
 let ζ1:Value:=.int .i64 ((fk A.N (r - ((A.L.length:Int)))).l)
 let ζ2:Value:=.int .i64 ((fk A.N (r - ((A.L.length:Int)))).h)
 let ζ4:Value:=.int .i64 ((fk A.N (r - ((A.L.length:Int)))).v)
 refine oq (qv_lds (v:=na) (i:=r - ((A.L.length:Int))) (vs:=[ζ4,ζ1,ζ2]) Try.agg80 rfl (hA.n) (by omega) (by omega) (fks_at (by omega) (by omega))) ?_
 refine ops_alloc Try.ti80 rfl (fun b2=>?_)
 refine ops_stw (k:=1) (vs:=[ζ4,ζ1,ζ2]) Try.size80 rfl rfl rfl rfl rfl rfl ?_
 refine ops_nil ?_
 refine vc_seq ?_
 refine vc_res (σ':=[ζ3,(Arr 80 b2 [ζ4,ζ1,ζ2])]) rfl ?_
 refine vc_region ?_
 refine oq (qv_fa (off:=0) Try.field80_1 rfl) ?_
 refine oq (qv_ldp (v:=ζ1) Try.plain3 rfl (inOc (k:=1) rfl) rfl) ?_
 refine oq (qv_as ζ1 rfl) ?_
 refine ops_nil ?_
 refine vc_seq ?_
 refine vc_region ?_
 refine oq (qv_mv xv rfl) ?_
 refine oq (qv_fa (off:=0) Try.field80_0 rfl) ?_
 refine oq (qv_ldp (v:=ζ4) Try.plain3 rfl (inOc (k:=1) rfl) rfl) ?_
 refine oq (qv_iab (v:=xv) (i:=(fk A.N (r - ((A.L.length:Int)))).v) Try.underlying30 Try.size4 rfl (inVb hX) rfl (by omega) (by omega)) ?_
 refine oq (qv_ldb (v:=xv) (i:=(fk A.N (r - ((A.L.length:Int)))).v) Try.plain4 rfl (inVb hX) (by omega) (by omega)) ?_
 refine ops_nil ?_
 refine vc_if rfl (fun c2=>?_) (fun c2=>?_)
 refine vc_region ?_
 refine oq (qv_fa (off:=0) Try.field80_2 rfl) ?_
 refine oq (qv_ldp (v:=ζ2) Try.plain3 rfl (inOc (k:=1) rfl) rfl) ?_
 refine oq (qv_as ζ2 rfl) ?_
 refine ops_nil ?_
 subst ζ3 ζ1 ζ2 ζ4
 refine ⟨((fk A.N (r - (A.L.length:Int))).h),⟨rfl,rfl,rfl,rfl,(congrArg (Value.int .i64) (show ((fk A.N (r - ((A.L.length:Int)))).h)=(((fk A.N (r - (A.L.length:Int))).h)) from by rfl)),trivial⟩,⟨[(Arr 25 b1 [(.int .i64 A.v),la,na,(.int .i64 A.r)])],[(Arr 80 b2 [(.int .i64 ((fk A.N (r - ((A.L.length:Int)))).v)),(.int .i64 ((fk A.N (r - ((A.L.length:Int)))).l)),(.int .i64 ((fk A.N (r - ((A.L.length:Int)))).h))])],(perm_idx _ _ [0,1] rfl rfl),⟨rfl,rfl,(vst_h hok hr (by omega) (e:=eb X) c2).ok,by rw [← hv]; exact (vst_h hok hr (by omega) (e:=eb X) c2).vl⟩⟩,by omega⟩
 refine vc_skip ?_
 subst ζ3 ζ1 ζ2 ζ4
 refine ⟨((fk A.N (r - (A.L.length:Int))).l),⟨rfl,rfl,rfl,rfl,(congrArg (Value.int .i64) (show ((fk A.N (r - ((A.L.length:Int)))).l)=(((fk A.N (r - (A.L.length:Int))).l)) from by rfl)),trivial⟩,⟨[(Arr 25 b1 [(.int .i64 A.v),la,na,(.int .i64 A.r)])],[(Arr 80 b2 [(.int .i64 ((fk A.N (r - ((A.L.length:Int)))).v)),(.int .i64 ((fk A.N (r - ((A.L.length:Int)))).l)),(.int .i64 ((fk A.N (r - ((A.L.length:Int)))).h))])],(perm_idx _ _ [0,1] rfl rfl),⟨rfl,rfl,(vst_l hok hr (by omega) (e:=eb X) c2).ok,by rw [← hv]; exact (vst_l hok hr (by omega) (e:=eb X) c2).vl⟩⟩,by omega⟩
 refine vc_exit ?_
 refine blockQ_hit ?_
 refine vc_seq ?_
 have hr0:0≤r:=hr.1
 refine vc_region ?_
 refine oq (qv_fa (off:=0) Try.field25_1 rfl) ?_
 refine oq (qv_ldp (v:=la) Try.plain22 rfl (inOc (k:=0) rfl) rfl) ?_
 refine oq (qv_mv (Value.int .i64 r) rfl) ?_
 refine oq (qv_iai (v:=la) (i:=r) Try.underlying22 Try.size3 rfl (inVi (hA.l)) rfl (by omega) (by omega)) ?_
 refine oq (qv_ldi (v:=la) (i:=r) Try.plain3 rfl (inVi (hA.l)) (by omega) (by omega)) ?_
 refine oq (qv_as (.int .i64 (gi A.L (r))) rfl) ?_
 refine ops_nil ?_
 refine vc_ret ?_
 subst ζ3
 exact rq1 (.int .i64 (vl A (eb X))) (congrArg (Value.int .i64) (show (gi A.L (r))=(vl A (eb X)) from by rw [← hv]; exact (gev_lf (G:=mG A) (show r < (A.L.length:Int) by omega)).symm)) rfl
theorem assignment_c {V:HV} {vars k:Int} (h0:0≤vars) (h1:vars≤40) (hk:0≤k) :
    FnC Try.prog 55 [(Value.int .i64 vars),(Value.int .i64 k)] V [] (fun v _ σ'=>∃ b,v=.slice (some ⟨b,0,none⟩) vars.toNat vars.toNat∧σ' = [Arr 4 b (bvs (asL vars k))]):=by
 refine fn_intro (N:=26) Try.func55 (by kernel_rfl) rfl rfl rfl (Nat.le_of_ble_eq_true rfl) ?_
 intro w0 D
 refine vc_seq ?_
 refine vc_region ?_
 refine oq (qv_as (Value.slice none 0 0) rfl) ?_
 refine ops_nil ?_
 refine vc_seq ?_
 refine vc_region ?_
 refine oq (qv_mv (Value.int .i64 vars) rfl) ?_
 refine ops_make (n:=vars) Try.underlying30 Try.ti4 rfl rfl rfl rfl (by omega) (by omega) (by omega) (fun b1=>?_)
 let ζ1:Value:=.slice (some ⟨b1,0,none⟩) (vars).toNat (vars).toNat
 refine oq (qv_as ζ1 rfl) ?_
 refine ops_nil ?_
 refine vc_seq ?_
 refine vc_seq ?_
 refine vc_res (σ':=[(Arr 4 b1 (List.replicate (vars).toNat (Value.bool false)))]) rfl ?_
 refine vc_region ?_
 refine oq (qv_mv (Value.int .i64 vars) rfl) ?_
 refine oq (qv_mv (Value.int .i64 0) rfl) ?_
 refine ops_nil ?_
 refine vc_block ?_
 refine vc_loop (α:=Int × List Bool) (fun (xx:Int × List Bool)=>[(0,(Value.int .i64 vars)),(1,(Value.int .i64 k)),(4,(Value.slice none 0 0)),(5,ζ1),(9,(Value.int .i64 vars)),(10,(Value.int .i64 xx.1))]) (fun (xx:Int × List Bool) V' σ'=>V=V'∧[(Arr 4 b1 (bvs xx.2))]=σ'∧0≤xx.1∧xx.1≤vars∧(xx.2.length:Int)=vars∧∀ x:Int,0≤x→x < xx.1→gb xx.2 x=asg vars k x) (fun (xx:Int × List Bool)=>(vars - xx.1).toNat) (0,(List.replicate vars.toNat false)) ?_ ?_ ?_
 exact ⟨rfl,rfl,rfl,rfl,rfl,rfl,trivial⟩
 subst ζ1; exact ⟨rfl,(show [(Arr 4 b1 (bvs ((List.replicate vars.toNat false))))]=[(Arr 4 b1 (List.replicate (vars).toNat (Value.bool false)))] from by rw [← bvs_rep]),by omega,by omega,by rw [List.length_replicate]; omega,fun x a b=>by omega⟩
 rintro ⟨j,Y⟩ e1 V0l σ0l hI0
 obtain ⟨rfl,rfl,i1,i2,hy,ha⟩:V=V0l∧[(Arr 4 b1 (bvs Y))]=σ0l∧0≤j∧j≤vars∧(Y.length:Int)=vars∧∀ x:Int,0≤x→x < j→gb Y x=asg vars k x:=hI0
 change VC _ _ _ _ _ _ (upds 26 [(0,(Value.int .i64 vars)),(1,(Value.int .i64 k)),(4,(Value.slice none 0 0)),(5,ζ1),(9,(Value.int .i64 vars)),(10,(Value.int .i64 j))] e1) _ _
 refine vc_seq ?_
 refine vc_res (σ':=[(Arr 4 b1 (bvs Y))]) rfl ?_
 refine vc_region ?_
 refine oq (qv_lss rfl rfl) ?_
 refine ops_nil ?_
 refine vc_seq ?_
 refine vc_if rfl (fun c1=>?_) (fun c1=>?_)
 refine vc_skip ?_
 refine vc_seq ?_
 refine vc_block ?_
 refine vc_seq ?_
 refine vc_region ?_
 refine oq (qv_mv (Value.int .i64 j) rfl) ?_
 refine oq (qv_as (Value.int .i64 j) rfl) ?_
 refine ops_nil ?_
 refine vc_region ?_
 refine oq (qv_mv ζ1 rfl) ?_
 refine oq (qv_mv (Value.int .i64 j) rfl) ?_
 refine oq (qv_mv (Value.int .i64 k) rfl) ?_
 refine oq (qv_mv (Value.int .i64 vars) rfl) ?_
 refine oq (qv_sub rfl rfl (by omega)) ?_
 refine oq (qv_mv (Value.int .i64 j) rfl) ?_
 refine oq (qv_sub rfl rfl (by omega)) ?_
 refine oq (qv_shri rfl rfl (by omega) (by omega)) ?_
 refine oq (qv_and1 rfl rfl (Int.ediv_nonneg (by omega) (Int.le_of_lt (pow2_pos _)))) ?_
 refine oq (qv_eql rfl rfl) ?_
 subst ζ1
 refine oq (qv_ia (v:=(.slice (some ⟨b1,0,none⟩) (vars).toNat (vars).toNat)) (i:=j) Try.underlying30 Try.size4 rfl (inO (k:=0) rfl (by first | (simp only [bvs,List.length_map]; omega) | (simp only [bvs,List.length_map,List.length_set]; omega) | (simp only [List.length_replicate]; done) | (simp only [List.length_replicate]; omega)) (Nat.le_refl _) (by omega)) rfl (by omega) (by first | omega | (simp only [bvs,List.length_map,List.length_set]; omega))) ?_
 refine ops_ste (k:=0) (b:=b1) (n:=(vars).toNat) (c:=(vars).toNat) (i:=j) (cs:=(bvs Y)) Try.size4 rfl (rfl:ev _ _=(.bool (decide (((k / 2 ^ ((vars - 1) - j:Int).toNat) % 2)=1)))) rfl rfl (by omega) (by first | omega | (simp only [bvs,List.length_map,List.length_set]; omega)) ?_
 refine ops_nil ?_
 refine vc_res (σ':=[(Arr 4 b1 (((bvs Y)).set (j).toNat (.bool (decide (((k / 2 ^ ((vars - 1) - j:Int).toNat) % 2)=1)))))]) rfl ?_
 refine vc_region ?_
 refine oq (qv_add rfl rfl (by omega)) ?_
 refine oq (qv_mv (.int .i64 (j+1)) rfl) ?_
 refine ops_nil ?_
 refine ⟨(j+1,Y.set j.toNat (decide (k / 2 ^ (vars - 1 - j).toNat % 2=1))),⟨rfl,rfl,rfl,rfl,rfl,(congrArg (Value.int .i64) (show (j+1)=((j+1)) from by omega)),trivial⟩,⟨rfl,(show [(Arr 4 b1 (bvs (Y.set j.toNat (decide (k / 2 ^ (vars - 1 - j).toNat % 2=1)))))]=[(Arr 4 b1 (((bvs Y)).set (j).toNat (.bool (decide (((k / 2 ^ ((vars - 1) - j:Int).toNat) % 2)=1)))))] from by rw [bvs_set]),by omega,by omega,by rw [List.length_set]; exact hy,as_step hy (by omega) (by omega) ha⟩,by omega⟩
 refine vc_exit ?_
 refine blockQ_hit ?_
 refine vc_seq ?_
 refine vc_region ?_
 refine oq (qv_mv ζ1 rfl) ?_
 refine oq (qv_as ζ1 rfl) ?_
 refine ops_nil ?_
 refine vc_ret ?_
 refine rq1 ζ1 rfl ?_
 subst ζ1
 exact ⟨b1,rfl,by rw [← asL_of (vars:=vars) (k:=k) (by omega) (fun x a b=>ha x a (by omega))]⟩
end Go.Proofs.Ytkmhjcjpohpiaaa
