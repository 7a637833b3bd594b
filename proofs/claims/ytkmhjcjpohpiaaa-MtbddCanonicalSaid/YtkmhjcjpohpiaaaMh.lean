import Derived.Test.YtkmhjcjpohpiaaaMg
/- Walks of mtbdd: what each function returns. Printed by a program out of notes. -/
namespace Go.Proofs.Ytkmhjcjpohpiaaa
open Go.Vc
open Classical
set_option maxRecDepth 100000
set_option maxHeartbeats 4000000
theorem EqI_c {V:HV} {a b:Value} {A B:List Int} (ha:Ints .i64 V a A) (hb:Ints .i64 V b B) :
    FnC Try.prog 18 [a,b] V [] (fun v _ _=>v=(.bool (decide (A=B)))):=by
 refine fn_intro (N:=26) Try.func18 (by kernel_rfl) rfl rfl rfl (Nat.le_of_ble_eq_true rfl) ?_
 intro w0 D
 have h1:=ha.bound
 have h2:=hb.bound
 refine vc_seq ?_
 refine vc_region ?_
 refine oq (qv_as (Value.bool false) rfl) ?_
 refine ops_nil ?_
 refine vc_seq ?_
 refine vc_seq ?_
 refine vc_region ?_
 refine oq (qv_mv a rfl) ?_
 refine oq (qv_lenI Try.underlying22 rfl ha) ?_
 refine oq (qv_mv b rfl) ?_
 refine oq (qv_lenI Try.underlying22 rfl hb) ?_
 refine oq (qv_neq rfl rfl) ?_
 refine ops_nil ?_
 refine vc_if rfl (fun c1=>?_) (fun c1=>?_)
 refine vc_seq ?_
 refine vc_region ?_
 refine oq (qv_as (Value.bool false) rfl) ?_
 refine ops_nil ?_
 refine vc_ret ?_
 exact rq1 (.bool (decide (A=B))) (congrArg Value.bool (decide_eq_false (show ¬ (A=B) from by intro hx; subst hx; omega)).symm) rfl
 refine vc_skip ?_
 refine vc_seq ?_
 refine vc_seq ?_
 refine vc_region ?_
 refine oq (qv_mv a rfl) ?_
 refine oq (qv_lenI Try.underlying22 rfl ha) ?_
 refine oq (qv_mv (Value.int .i64 0) rfl) ?_
 refine ops_nil ?_
 refine vc_block ?_
 refine vc_loop (α:=Int) (fun (xx:Int)=>[(0,a),(1,b),(10,(.bool (decide (((A.length:Int)) ≠ ((B.length:Int)))))),(12,(.int .i64 ((A.length:Int)))),(13,(Value.int .i64 xx))]) (fun (xx:Int) V' σ'=>V=V'∧[]=σ'∧0≤xx∧xx≤A.length∧∀ x:Int,0≤x→x < xx→gi A x=gi B x) (fun (xx:Int)=>(A.length - xx).toNat) (0) ?_ ?_ ?_
 exact ⟨rfl,rfl,rfl,rfl,rfl,trivial⟩
 exact ⟨rfl,rfl,by omega,by omega,fun x a b=>by omega⟩
 rintro p e1 V0l σ0l hI0
 obtain ⟨rfl,rfl,i1,i2,hp⟩:V=V0l∧[]=σ0l∧0≤p∧p≤A.length∧∀ x:Int,0≤x→x < p→gi A x=gi B x:=hI0
 refine vc_seq ?_
 refine vc_region ?_
 refine oq (qv_lss rfl rfl) ?_
 refine ops_nil ?_
 refine vc_seq ?_
 refine vc_if rfl (fun c2=>?_) (fun c2=>?_)
 refine vc_skip ?_
 refine vc_seq ?_
 refine vc_block ?_
 refine vc_seq ?_
 refine vc_region ?_
 refine oq (qv_mv (Value.int .i64 p) rfl) ?_
 refine oq (qv_as (Value.int .i64 p) rfl) ?_
 refine ops_nil ?_
 refine vc_seq ?_
 refine vc_region_any Try.mixed (by kernel_rfl) ?_
 refine qq (qv_mv a rfl) ?_
 refine qq (qv_mv (Value.int .i64 p) rfl) ?_
 refine qq (qv_iai (v:=a) (i:=p) Try.underlying22 Try.size3 rfl (inVi ha) rfl (by omega) (by omega)) ?_
 refine qq (qv_ldi (v:=a) (i:=p) Try.plain3 rfl (inVi ha) (by omega) (by omega)) ?_
 refine qq (qv_mv b rfl) ?_
 refine qq (qv_mv (Value.int .i64 p) rfl) ?_
 refine qq (qv_iai (v:=b) (i:=p) Try.underlying22 Try.size3 rfl (inVi hb) rfl (by omega) (by omega)) ?_
 refine qq (qv_ldi (v:=b) (i:=p) Try.plain3 rfl (inVi hb) (by omega) (by omega)) ?_
 refine qq (qv_neq rfl rfl) ?_
 refine qops_nil ?_
 refine vc_if rfl (fun c3=>?_) (fun c3=>?_)
 refine vc_seq ?_
 refine vc_region ?_
 refine oq (qv_as (Value.bool false) rfl) ?_
 refine ops_nil ?_
 refine vc_ret ?_
 refine blockQ_ret ?_
 refine blockQ_ret ?_
 exact rq1 (.bool (decide (A=B))) (congrArg Value.bool (decide_eq_false (show ¬ (A=B) from by intro hx; subst hx; omega)).symm) rfl
 refine vc_skip ?_
 refine vc_region ?_
 refine oq (qv_add rfl rfl (by omega)) ?_
 refine oq (qv_mv (.int .i64 (p+1)) rfl) ?_
 refine ops_nil ?_
 refine ⟨(p+1),⟨rfl,rfl,rfl,rfl,(congrArg (Value.int .i64) (show (p+1)=((p+1)) from by omega)),trivial⟩,⟨rfl,rfl,by omega,by omega,all_snoc hp (by omega)⟩,by omega⟩
 refine vc_exit ?_
 refine blockQ_hit ?_
 refine vc_seq ?_
 refine vc_region ?_
 refine oq (qv_as (Value.bool true) rfl) ?_
 refine ops_nil ?_
 refine vc_ret ?_
 exact rq1 (.bool (decide (A=B))) (congrArg Value.bool (decide_eq_true (show (A=B) from by exact ext_gi (by omega) (fun x a b=>hp x a (by omega)))).symm) rfl
theorem EqF_c {V:HV} {a b:Value} {A B:List Fk} (hA:Fks V a A) (hB:Fks V b B) :
    FnC Try.prog 45 [a,b] V [] (fun v _ _=>v=(.bool (decide (A=B)))):=by
 refine fn_intro (N:=26) Try.func45 (by kernel_rfl) rfl rfl rfl (Nat.le_of_ble_eq_true rfl) ?_
 intro w0 D
 have hb:=SlS.bound hA
 have hb2:=SlS.bound hB
 refine vc_seq ?_
 refine vc_region ?_
 refine oq (qv_as (Value.bool false) rfl) ?_
 refine ops_nil ?_
 refine vc_seq ?_
 refine vc_seq ?_
 refine vc_region ?_
 refine oq (qv_mv a rfl) ?_
 refine oq (qv_lenSS Try.underlying23 rfl hA) ?_
 refine oq (qv_mv b rfl) ?_
 refine oq (qv_lenSS Try.underlying23 rfl hB) ?_
 refine oq (qv_neq rfl rfl) ?_
 refine ops_nil ?_
 refine vc_if rfl (fun c1=>?_) (fun c1=>?_)
 refine vc_seq ?_
 refine vc_region ?_
 refine oq (qv_as (Value.bool false) rfl) ?_
 refine ops_nil ?_
 refine vc_ret ?_
 exact rq1 (.bool (decide (A=B))) (congrArg Value.bool (decide_eq_false (show ¬ (A=B) from by intro hx; subst hx; first | omega | exact absurd ⟨rfl,rfl,rfl⟩ (by assumption))).symm) rfl
 refine vc_skip ?_
 refine vc_seq ?_
 refine vc_seq ?_
 refine vc_region ?_
 refine oq (qv_mv a rfl) ?_
 refine oq (qv_lenSS Try.underlying23 rfl hA) ?_
 refine oq (qv_mv (Value.int .i64 0) rfl) ?_
 refine ops_nil ?_
 refine vc_block ?_
 refine vc_loop (α:=Int) (fun (xx:Int)=>[(0,a),(1,b),(10,(.bool (decide (((A.length:Int)) ≠ ((B.length:Int)))))),(12,(.int .i64 ((A.length:Int)))),(13,(Value.int .i64 xx))]) (fun (xx:Int) V' σ'=>V=V'∧[]=σ'∧0≤xx∧xx≤A.length∧∀ x:Int,0≤x→x < xx→fk A x=fk B x) (fun (xx:Int)=>(A.length - xx).toNat) (0) ?_ ?_ ?_
 exact ⟨rfl,rfl,rfl,rfl,rfl,trivial⟩
 exact ⟨rfl,rfl,by omega,by omega,fun x a b=>by omega⟩
 rintro i e1 V0l σ0l hI0
 obtain ⟨rfl,rfl,i1,i2,hi⟩:V=V0l∧[]=σ0l∧0≤i∧i≤A.length∧∀ x:Int,0≤x→x < i→fk A x=fk B x:=hI0
 refine vc_seq ?_
 refine vc_region ?_
 refine oq (qv_lss rfl rfl) ?_
 refine ops_nil ?_
 refine vc_seq ?_
 refine vc_if rfl (fun c2=>?_) (fun c2=>?_)
 refine vc_skip ?_
 refine vc_seq ?_
 refine vc_block ?_
 refine vc_seq ?_
 refine vc_region ?_
 refine oq (qv_mv (Value.int .i64 i) rfl) ?_
 refine oq (qv_as (Value.int .i64 i) rfl) ?_
 refine ops_nil ?_
 refine vc_seq ?_
 refine vc_region_any Try.mixed (by kernel_rfl) ?_
 refine qq (qv_mv a rfl) ?_
 refine qq (qv_mv (Value.int .i64 i) rfl) ?_
 refine qq (qv_ias (v:=a) (i:=i) Try.underlying23 Try.size80 rfl hA rfl (by omega) (by omega)) ?_
 refine qq (qv_lds (v:=a) (i:=i) (vs:=[(.int .i64 ((fk A (i)).v)),(.int .i64 ((fk A (i)).l)),(.int .i64 ((fk A (i)).h))]) Try.agg80 rfl hA (by omega) (by omega) (fks_at (by omega) (by omega))) ?_
 refine qq (qv_mv b rfl) ?_
 refine qq (qv_mv (Value.int .i64 i) rfl) ?_
 refine qq (qv_ias (v:=b) (i:=i) Try.underlying23 Try.size80 rfl hB rfl (by omega) (by omega)) ?_
 refine qq (qv_lds (v:=b) (i:=i) (vs:=[(.int .i64 ((fk B (i)).v)),(.int .i64 ((fk B (i)).l)),(.int .i64 ((fk B (i)).h))]) Try.agg80 rfl hB (by omega) (by omega) (fks_at (by omega) (by omega))) ?_
 refine qq (qv_neqs Try.eq80 [(fk A (i)).v,(fk A (i)).l,(fk A (i)).h] [(fk B (i)).v,(fk B (i)).l,(fk B (i)).h] rfl rfl rfl rfl rfl rfl eq3) ?_
 refine qops_nil ?_
 refine vc_if rfl (fun c3=>?_) (fun c3=>?_)
 refine vc_seq ?_
 refine vc_region ?_
 refine oq (qv_as (Value.bool false) rfl) ?_
 refine ops_nil ?_
 refine vc_ret ?_
 refine blockQ_ret ?_
 refine blockQ_ret ?_
 exact rq1 (.bool (decide (A=B))) (congrArg Value.bool (decide_eq_false (show ¬ (A=B) from by intro hx; subst hx; first | omega | exact absurd ⟨rfl,rfl,rfl⟩ (by assumption))).symm) rfl
 refine vc_skip ?_
 refine vc_region ?_
 refine oq (qv_add rfl rfl (by omega)) ?_
 refine oq (qv_mv (.int .i64 (i+1)) rfl) ?_
 refine ops_nil ?_
 refine ⟨(i+1),⟨rfl,rfl,rfl,rfl,(congrArg (Value.int .i64) (show (i+1)=((i+1)) from by omega)),trivial⟩,⟨rfl,rfl,by omega,by omega,all_snoc hi (fk_eq3 (Decidable.not_not.1 (by assumption)))⟩,by omega⟩
 refine vc_exit ?_
 refine blockQ_hit ?_
 refine vc_seq ?_
 refine vc_region ?_
 refine oq (qv_as (Value.bool true) rfl) ?_
 refine ops_nil ?_
 refine vc_ret ?_
 exact rq1 (.bool (decide (A=B))) (congrArg Value.bool (decide_eq_true (show (A=B) from by exact ext_fk (by omega) (fun x a b=>hi x a (by omega)))).symm) rfl
theorem formed1_c {V:HV} {x y z:Int} :
    FnC Try.prog 95 [(.agg #[(Value.int .i64 x),(Value.int .i64 y),(Value.int .i64 z)])] V [] (fun v _ _=>v=(Value.int .i64 x)):=by
 refine fn_intro (N:=5) Try.func95 (by kernel_rfl) rfl rfl rfl (Nat.le_of_ble_eq_true rfl) ?_
 intro w0 D
 refine vc_seq ?_
 refine vc_region ?_
 refine ops_box (v:=(.agg #[(Value.int .i64 x),(Value.int .i64 y),(Value.int .i64 z)])) (cs:=[(Value.int .i64 x),(Value.int .i64 y),(Value.int .i64 z)]) rfl rfl (fun b1=>?_)
 refine oq (qv_as (Value.int .i64 0) rfl) ?_
 refine ops_nil ?_
 refine vc_seq ?_
 refine vc_res (σ':=[(Arr 97 b1 [(Value.int .i64 x),(Value.int .i64 y),(Value.int .i64 z)])]) rfl ?_
 refine vc_region ?_
 refine oq (qv_iaa (i:=0) (off:=0) Try.underlying97 Try.size3 rfl rfl (by omega) (by omega) rfl) ?_
 refine oq (qv_ldp (v:=(Value.int .i64 x)) Try.plain3 rfl (inOc (k:=0) rfl) rfl) ?_
 refine oq (qv_as (Value.int .i64 x) rfl) ?_
 refine ops_nil ?_
 refine vc_ret ?_
 exact rq1 (Value.int .i64 x) rfl rfl
theorem formed_c {V:HV} {la na:Value} {A:Mg} (hA:Mt V la na A) (hv:0≤A.v∧A.v≤40) (hl:A.L.length≤4096∧A.N.length≤4096) :
    FnC Try.prog 47 [(.agg #[(.int .i64 A.v),la,na,(.int .i64 A.r)])] V [] (fun v _ _=>v=(.bool (decide (fm A)))):=by
 refine fn_intro (N:=151) Try.func47 (by kernel_rfl) rfl rfl rfl (Nat.le_of_ble_eq_true rfl) ?_
 intro w0 D
 have hbl:=Ints.bound hA.l
 have hbn:=SlS.bound hA.n
 refine vc_seq ?_
 refine vc_region ?_
 let ζ9:Value:=.agg #[(.int .i64 A.v),la,na,(.int .i64 A.r)]
 refine ops_box (v:=ζ9) (cs:=[(.int .i64 A.v),la,na,(.int .i64 A.r)]) rfl rfl (fun b1=>?_)
 refine oq (qv_as (Value.bool false) rfl) ?_
 refine ops_nil ?_
 refine vc_seq ?_
 refine vc_seq ?_
 let ζ1:Asrt:=Arr 25 b1 [(.int .i64 A.v),la,na,(.int .i64 A.r)]
 refine vc_res (σ':=[ζ1]) rfl ?_
 refine vc_region ?_
 refine oq (qv_fa (off:=0) Try.field25_1 rfl) ?_
 refine oq (qv_ldp (v:=la) Try.plain22 rfl (inOc (k:=0) rfl) rfl) ?_
 refine oq (qv_lenI Try.underlying22 rfl (hA.l)) ?_
 refine oq (qv_mv (Value.int .i64 0) rfl) ?_
 refine ops_nil ?_
 refine vc_block ?_
 refine vc_loop (α:=Int) (fun (xx:Int)=>[(0,ζ9),(1,(Value.pointer (some ⟨b1,0,none⟩))),(12,la),(13,(.int .i64 ((A.L.length:Int)))),(14,(Value.int .i64 xx))]) (fun (xx:Int) V' σ'=>V=V'∧[ζ1]=σ'∧0≤xx∧xx≤A.L.length∧∀ k:Int,0≤k→k < xx→Lok A k) (fun (xx:Int)=>(A.L.length - xx).toNat) (0) ?_ ?_ ?_
 exact ⟨rfl,rfl,rfl,rfl,rfl,trivial⟩
 exact ⟨rfl,rfl,by omega,by omega,fun x a b=>by omega⟩
 rintro i e1 V0l σ0l hI0
 obtain ⟨rfl,rfl,i1,i2,hlf⟩:V=V0l∧[ζ1]=σ0l∧0≤i∧i≤A.L.length∧∀ k:Int,0≤k→k < i→Lok A k:=hI0
 refine vc_seq ?_
 refine vc_region ?_
 refine oq (qv_lss rfl rfl) ?_
 refine ops_nil ?_
 refine vc_seq ?_
 refine vc_if rfl (fun c1=>?_) (fun c1=>?_)
 refine vc_skip ?_
 refine vc_seq ?_
 refine vc_block ?_
 refine vc_seq ?_
 refine vc_region ?_
 refine oq (qv_mv (Value.int .i64 i) rfl) ?_
 refine oq (qv_iai (v:=la) (i:=i) Try.underlying22 Try.size3 rfl (inVi (hA.l)) rfl (by omega) (by omega)) ?_
 refine oq (qv_ldi (v:=la) (i:=i) Try.plain3 rfl (inVi (hA.l)) (by omega) (by omega)) ?_
 refine oq (qv_as (Value.int .i64 i) rfl) ?_
 refine oq (qv_as (.int .i64 (gi A.L (i))) rfl) ?_
 refine ops_nil ?_
 refine vc_seq ?_
 refine vc_region ?_
 refine oq (qv_mv (.int .i64 (gi A.L (i))) rfl) ?_
 refine oq (qv_call (v:=(.bool (decide (inR (gi A.L (i)))))) (inRange_c) rfl rfl) ?_
 refine oq (qv_not rfl) ?_
 refine oq (qv_mv (.bool (decide (¬ (inR (gi A.L (i)))))) rfl) ?_
 by_cases g1:¬ (inR (gi A.L (i)))
 refine os (want_fn g1 rfl rfl rfl) ?_
 refine os (want_fn g1 rfl rfl rfl) ?_
 refine os (want_fn g1 rfl rfl rfl) ?_
 refine os (want_u rfl rfl rfl) ?_
 refine os (want_u rfl rfl rfl) ?_
 refine os (want_u rfl rfl rfl) ?_
 refine os (want_u rfl rfl rfl) ?_
 refine os (want_u rfl rfl rfl) ?_
 refine os (want_u rfl rfl rfl) ?_
 refine os (want_u rfl rfl rfl) ?_
 refine os (want_u rfl rfl rfl) ?_
 refine os (want_fn g1 rfl rfl rfl) ?_
 refine oq (qv_pick_t g1 rfl (rfl:ev _ _=(Value.bool true))) ?_
 refine ops_nil ?_
 refine vc_tt rfl ?_
 refine vc_seq ?_
 refine vc_region ?_
 refine oq (qv_as (Value.bool false) rfl) ?_
 refine ops_nil ?_
 refine vc_drop [] [ζ1] (.refl _) ?_
 refine vc_ret ?_
 refine blockQ_ret ?_
 refine blockQ_ret ?_
 exact rq1 (.bool (decide (fm A))) (congrArg Value.bool (decide_eq_false (show ¬ (fm A) from by exact fun q=>by first | (have:=q.1.rt; omega) | (have h:=(fm_iff hl hloc).2 q; first | exact absurd h.1 (by assumption) | exact absurd h.2.1 (by assumption) | exact absurd h.2.2.1 (by assumption)) | (have h:=q.1.lf i (by omega) (by omega); first | exact absurd h.1 (by assumption) | (have:=h.2 (by omega); omega)) | (obtain ⟨h1,h2,h3,⟨k1,k2,k3⟩,⟨d1,d2,d3⟩⟩:=q.1.nd j (by omega) (by omega); first | omega | exact h2 (by assumption) | (obtain ⟨k,a,b,c,e⟩:=seenB_iff.1 (by assumption); exact h3 k a (by omega) e)))).symm) rfl
 refine og (qv_mv (Value.int .i64 i) rfl) (want_f g1 rfl rfl rfl) ?_
 refine og (qv_gtr rfl rfl) (want_f g1 rfl rfl rfl) ?_
 refine og (qv_mv (.bool (decide (0 < i))) rfl) (want_f g1 rfl rfl rfl) ?_
 by_cases g2:0 < i
 refine og (qv_mv (.int .i64 (gi A.L (i))) rfl) (want_t g2 rfl rfl rfl) ?_
 refine og (qv_fa (off:=0) Try.field25_1 rfl) (want_t g2 rfl rfl rfl) ?_
 refine og (qv_ldp (v:=la) Try.plain22 rfl (inOc (k:=0) rfl) rfl) (want_t g2 rfl rfl rfl) ?_
 refine og (qv_mv (Value.int .i64 i) rfl) (want_t g2 rfl rfl rfl) ?_
 refine og (qv_sub rfl rfl (by omega)) (want_t g2 rfl rfl rfl) ?_
 refine og (qv_iai (v:=la) (i:=i - 1) Try.underlying22 Try.size3 rfl (inVi (hA.l)) rfl (by omega) (by omega)) (want_t g2 rfl rfl rfl) ?_
 refine og (qv_ldi (v:=la) (i:=i - 1) Try.plain3 rfl (inVi (hA.l)) (by omega) (by omega)) (want_t g2 rfl rfl rfl) ?_
 refine og (qv_leq rfl rfl) (want_t g2 rfl rfl rfl) ?_
 refine og (qv_pick_t g2 rfl (rfl:ev _ _=(.bool (decide ((gi A.L (i))≤(gi A.L (i - 1))))))) (want_f g1 rfl rfl rfl) ?_
 refine oq (qv_pick_f g1 rfl (rfl:ev _ _=(.bool (decide ((gi A.L (i))≤(gi A.L (i - 1))))))) ?_
 refine ops_nil ?_
 refine vc_if rfl (fun c2=>?_) (fun c2=>?_)
 refine vc_seq ?_
 refine vc_region ?_
 refine oq (qv_as (Value.bool false) rfl) ?_
 refine ops_nil ?_
 refine vc_drop [] [ζ1] (.refl _) ?_
 refine vc_ret ?_
 refine blockQ_ret ?_
 refine blockQ_ret ?_
 exact rq1 (.bool (decide (fm A))) (congrArg Value.bool (decide_eq_false (show ¬ (fm A) from by exact fun q=>by first | (have:=q.1.rt; omega) | (have h:=(fm_iff hl hloc).2 q; first | exact absurd h.1 (by assumption) | exact absurd h.2.1 (by assumption) | exact absurd h.2.2.1 (by assumption)) | (have h:=q.1.lf i (by omega) (by omega); first | exact absurd h.1 (by assumption) | (have:=h.2 (by omega); omega)) | (obtain ⟨h1,h2,h3,⟨k1,k2,k3⟩,⟨d1,d2,d3⟩⟩:=q.1.nd j (by omega) (by omega); first | omega | exact h2 (by assumption) | (obtain ⟨k,a,b,c,e⟩:=seenB_iff.1 (by assumption); exact h3 k a (by omega) e)))).symm) rfl
 refine vc_skip ?_
 refine vc_region ?_
 refine oq (qv_add rfl rfl (by omega)) ?_
 refine oq (qv_mv (.int .i64 (i+1)) rfl) ?_
 refine ops_nil ?_
 refine ⟨(i+1),⟨rfl,rfl,rfl,rfl,(congrArg (Value.int .i64) (show (i+1)=((i+1)) from by omega)),trivial⟩,⟨rfl,rfl,by omega,by omega,all_snoc hlf ⟨by first | assumption | exact Decidable.not_not.1 (by assumption),fun _=>by omega⟩⟩,by omega⟩
 refine os (want_tn g2 rfl rfl rfl) ?_
 refine os (want_tn g2 rfl rfl rfl) ?_
 refine os (want_tn g2 rfl rfl rfl) ?_
 refine os (want_tn g2 rfl rfl rfl) ?_
 refine os (want_tn g2 rfl rfl rfl) ?_
 refine os (want_tn g2 rfl rfl rfl) ?_
 refine os (want_tn g2 rfl rfl rfl) ?_
 refine os (want_tn g2 rfl rfl rfl) ?_
 refine og (qv_pick_f g2 rfl (rfl:ev _ _=(Value.bool false))) (want_f g1 rfl rfl rfl) ?_
 refine oq (qv_pick_f g1 rfl (rfl:ev _ _=(Value.bool false))) ?_
 refine ops_nil ?_
 refine vc_ff rfl ?_
 refine vc_skip ?_
 refine vc_region ?_
 refine oq (qv_add rfl rfl (by omega)) ?_
 refine oq (qv_mv (.int .i64 (i+1)) rfl) ?_
 refine ops_nil ?_
 refine ⟨(i+1),⟨rfl,rfl,rfl,rfl,(congrArg (Value.int .i64) (show (i+1)=((i+1)) from by omega)),trivial⟩,⟨rfl,rfl,by omega,by omega,all_snoc hlf ⟨by first | assumption | exact Decidable.not_not.1 (by assumption),fun _=>by omega⟩⟩,by omega⟩
 refine vc_exit ?_
 refine blockQ_hit ?_
 refine vc_seq ?_
 refine vc_region ?_
 refine ops_mkmap0 fkv Value.bool (fun b2=>?_)
 refine oq (qv_as (Value.map (some b2)) rfl) ?_
 refine ops_nil ?_
 refine vc_seq ?_
 refine vc_seq ?_
 refine vc_res (σ':=[ζ1,(Mf b2 fkv Value.bool (fun _=>none))]) rfl ?_
 refine vc_region ?_
 refine oq (qv_fa (off:=0) Try.field25_2 rfl) ?_
 refine oq (qv_ldp (v:=na) Try.plain23 rfl (inOc (k:=0) rfl) rfl) ?_
 refine oq (qv_lenSS Try.underlying23 rfl (hA.n)) ?_
 refine oq (qv_mv (Value.int .i64 0) rfl) ?_
 refine ops_nil ?_
 refine vc_block ?_
 refine vc_loop (α:=Int) (fun (xx:Int)=>[(0,ζ9),(1,(Value.pointer (some ⟨b1,0,none⟩))),(5,(Value.map (some b2))),(12,la),(13,(.int .i64 ((A.L.length:Int)))),(14,(Value.int .i64 i)),(15,(.bool (decide (i < ((A.L.length:Int)))))),(39,na),(40,(.int .i64 ((A.N.length:Int)))),(41,(Value.int .i64 xx))]) (fun (xx:Int) V' σ'=>V=V'∧[ζ1,(Mf b2 fkv Value.bool (seenB A.N xx.toNat))]=σ'∧0≤xx∧xx≤A.N.length∧∀ k:Int,0≤k→k < xx→Nok A k) (fun (xx:Int)=>(A.N.length - xx).toNat) (0) ?_ ?_ ?_
 exact ⟨rfl,rfl,rfl,rfl,rfl,rfl,rfl,rfl,rfl,rfl,trivial⟩
 subst ζ9 ζ1; exact ⟨rfl,(show [(Arr 25 b1 [(.int .i64 A.v),la,na,(.int .i64 A.r)]),(Mf b2 fkv Value.bool (seenB A.N (0:Int).toNat))]=[(Arr 25 b1 [(.int .i64 A.v),la,na,(.int .i64 A.r)]),(Mf b2 fkv Value.bool (fun _=>none))] from by rw [show (0:Int).toNat=0 by omega,seenB_0]),by omega,by omega,fun x a b=>by omega⟩
 rintro j e2 V1l σ1l hI1
 let ζ3:Asrt:=Mf b2 fkv Value.bool (seenB A.N j.toNat)
 obtain ⟨rfl,rfl,i3,i4,hnd⟩:V=V1l∧[ζ1,ζ3]=σ1l∧0≤j∧j≤A.N.length∧∀ k:Int,0≤k→k < j→Nok A k:=hI1
 refine vc_seq ?_
 refine vc_res (σ':=[ζ1,ζ3]) rfl ?_
 refine vc_region ?_
 refine oq (qv_lss rfl rfl) ?_
 refine ops_nil ?_
 refine vc_seq ?_
 refine vc_if rfl (fun c3=>?_) (fun c3=>?_)
 refine vc_skip ?_
 refine vc_seq ?_
 refine vc_block ?_
 refine vc_seq ?_
 refine vc_region ?_
 refine oq (qv_mv (Value.int .i64 j) rfl) ?_
 refine oq (qv_ias (v:=na) (i:=j) Try.underlying23 Try.size80 rfl (hA.n) rfl (by omega) (by omega)) ?_
 let ζ5:Value:=.int .i64 ((fk A.N (j)).l)
 let ζ6:Value:=.int .i64 ((fk A.N (j)).h)
 let ζ7:Value:=.int .i64 ((fk A.N (j)).v)
 refine oq (qv_lds (v:=na) (i:=j) (vs:=[ζ7,ζ5,ζ6]) Try.agg80 rfl (hA.n) (by omega) (by omega) (fks_at (by omega) (by omega))) ?_
 refine ops_alloc Try.ti80 rfl (fun b3=>?_)
 refine oq (qv_as (Value.int .i64 j) rfl) ?_
 refine ops_stw (k:=2) (vs:=[ζ7,ζ5,ζ6]) Try.size80 rfl rfl rfl rfl rfl rfl ?_
 refine ops_nil ?_
 refine vc_seq ?_
 let ζ2:Asrt:=Arr 80 b3 [(.int .i64 ((fk A.N (j)).v)),(.int .i64 ((fk A.N (j)).l)),(.int .i64 ((fk A.N (j)).h))]
 refine vc_res (σ':=[ζ1,ζ3,ζ2]) rfl ?_
 refine vc_region ?_
 refine oq (qv_fa (off:=0) Try.field25_1 rfl) ?_
 refine oq (qv_ldp (v:=la) Try.plain22 rfl (inOc (k:=0) rfl) rfl) ?_
 refine oq (qv_lenI Try.underlying22 rfl (hA.l)) ?_
 refine oq (qv_mv (Value.int .i64 j) rfl) ?_
 refine oq (qv_add rfl rfl (by omega)) ?_
 let ζ14:Value:=.int .i64 (((A.L.length:Int))+j)
 refine oq (qv_as ζ14 rfl) ?_
 refine ops_nil ?_
 refine vc_seq ?_
 refine vc_seq ?_
 refine vc_region ?_
 refine oq (qv_fa (off:=0) Try.field80_1 rfl) ?_
 refine oq (qv_ldp (v:=ζ5) Try.plain3 rfl (inOc (k:=2) rfl) rfl) ?_
 refine oq (qv_lss rfl rfl) ?_
 refine oq (qv_mv (.bool (decide (((fk A.N (j)).l) < 0))) rfl) ?_
 by_cases g3:((fk A.N (j)).l) < 0
 refine os (want_fn g3 rfl rfl rfl) ?_
 refine os (want_fn g3 rfl rfl rfl) ?_
 refine os (want_fn g3 rfl rfl rfl) ?_
 refine os (want_fn g3 rfl rfl rfl) ?_
 refine oq (qv_pick_t g3 rfl (rfl:ev _ _=(Value.bool true))) ?_
 refine oq (qv_mv (Value.bool true) rfl) ?_
 refine os (want_fnc rfl rfl rfl) ?_
 refine os (want_fnc rfl rfl rfl) ?_
 refine os (want_fnc rfl rfl rfl) ?_
 refine oq (qv_pick_tc rfl (rfl:ev _ _=(Value.bool true))) ?_
 refine oq (qv_mv (Value.bool true) rfl) ?_
 refine os (want_fnc rfl rfl rfl) ?_
 refine os (want_fnc rfl rfl rfl) ?_
 refine os (want_fnc rfl rfl rfl) ?_
 refine os (want_fnc rfl rfl rfl) ?_
 refine oq (qv_pick_tc rfl (rfl:ev _ _=(Value.bool true))) ?_
 refine oq (qv_mv (Value.bool true) rfl) ?_
 refine os (want_fnc rfl rfl rfl) ?_
 refine os (want_fnc rfl rfl rfl) ?_
 refine os (want_fnc rfl rfl rfl) ?_
 refine os (want_fnc rfl rfl rfl) ?_
 refine os (want_fnc rfl rfl rfl) ?_
 refine oq (qv_pick_tc rfl (rfl:ev _ _=(Value.bool true))) ?_
 refine oq (qv_mv (Value.bool true) rfl) ?_
 refine os (want_fnc rfl rfl rfl) ?_
 refine os (want_fnc rfl rfl rfl) ?_
 refine os (want_fnc rfl rfl rfl) ?_
 refine oq (qv_pick_tc rfl (rfl:ev _ _=(Value.bool true))) ?_
 refine ops_nil ?_
 refine vc_tt rfl ?_
 refine vc_seq ?_
 refine vc_region ?_
 refine oq (qv_as (Value.bool false) rfl) ?_
 refine ops_nil ?_
 refine vc_drop [] [ζ1,ζ3,ζ2] (.refl _) ?_
 refine vc_ret ?_
 refine blockQ_ret ?_
 refine blockQ_ret ?_
 exact rq1 (.bool (decide (fm A))) (congrArg Value.bool (decide_eq_false (show ¬ (fm A) from by exact fun q=>by first | (have:=q.1.rt; omega) | (have h:=(fm_iff hl hloc).2 q; first | exact absurd h.1 (by assumption) | exact absurd h.2.1 (by assumption) | exact absurd h.2.2.1 (by assumption)) | (have h:=q.1.lf i (by omega) (by omega); first | exact absurd h.1 (by assumption) | (have:=h.2 (by omega); omega)) | (obtain ⟨h1,h2,h3,⟨k1,k2,k3⟩,⟨d1,d2,d3⟩⟩:=q.1.nd j (by omega) (by omega); first | omega | exact h2 (by assumption) | (obtain ⟨k,a,b,c,e⟩:=seenB_iff.1 (by assumption); exact h3 k a (by omega) e)))).symm) rfl
 refine og (qv_fa (off:=0) Try.field80_1 rfl) (want_f g3 rfl rfl rfl) ?_
 refine og (qv_ldp (v:=ζ5) Try.plain3 rfl (inOc (k:=2) rfl) rfl) (want_f g3 rfl rfl rfl) ?_
 refine og (qv_mv ζ14 rfl) (want_f g3 rfl rfl rfl) ?_
 refine og (qv_geq rfl rfl) (want_f g3 rfl rfl rfl) ?_
 refine oq (qv_pick_f g3 rfl (rfl:ev _ _=(.bool (decide ((((A.L.length:Int))+j)≤((fk A.N (j)).l)))))) ?_
 refine oq (qv_mv (.bool (decide ((((A.L.length:Int))+j)≤((fk A.N (j)).l)))) rfl) ?_
 by_cases g4:(((A.L.length:Int))+j)≤((fk A.N (j)).l)
 refine os (want_fn g4 rfl rfl rfl) ?_
 refine os (want_fn g4 rfl rfl rfl) ?_
 refine os (want_fn g4 rfl rfl rfl) ?_
 refine oq (qv_pick_t g4 rfl (rfl:ev _ _=(Value.bool true))) ?_
 refine oq (qv_mv (Value.bool true) rfl) ?_
 refine os (want_fnc rfl rfl rfl) ?_
 refine os (want_fnc rfl rfl rfl) ?_
 refine os (want_fnc rfl rfl rfl) ?_
 refine os (want_fnc rfl rfl rfl) ?_
 refine oq (qv_pick_tc rfl (rfl:ev _ _=(Value.bool true))) ?_
 refine oq (qv_mv (Value.bool true) rfl) ?_
 refine os (want_fnc rfl rfl rfl) ?_
 refine os (want_fnc rfl rfl rfl) ?_
 refine os (want_fnc rfl rfl rfl) ?_
 refine os (want_fnc rfl rfl rfl) ?_
 refine os (want_fnc rfl rfl rfl) ?_
 refine oq (qv_pick_tc rfl (rfl:ev _ _=(Value.bool true))) ?_
 refine oq (qv_mv (Value.bool true) rfl) ?_
 refine os (want_fnc rfl rfl rfl) ?_
 refine os (want_fnc rfl rfl rfl) ?_
 refine os (want_fnc rfl rfl rfl) ?_
 refine oq (qv_pick_tc rfl (rfl:ev _ _=(Value.bool true))) ?_
 refine ops_nil ?_
 refine vc_tt rfl ?_
 refine vc_seq ?_
 refine vc_region ?_
 refine oq (qv_as (Value.bool false) rfl) ?_
 refine ops_nil ?_
 refine vc_drop [] [ζ1,ζ3,ζ2] (.refl _) ?_
 refine vc_ret ?_
 refine blockQ_ret ?_
 refine blockQ_ret ?_
 exact rq1 (.bool (decide (fm A))) (congrArg Value.bool (decide_eq_false (show ¬ (fm A) from by exact fun q=>by first | (have:=q.1.rt; omega) | (have h:=(fm_iff hl hloc).2 q; first | exact absurd h.1 (by assumption) | exact absurd h.2.1 (by assumption) | exact absurd h.2.2.1 (by assumption)) | (have h:=q.1.lf i (by omega) (by omega); first | exact absurd h.1 (by assumption) | (have:=h.2 (by omega); omega)) | (obtain ⟨h1,h2,h3,⟨k1,k2,k3⟩,⟨d1,d2,d3⟩⟩:=q.1.nd j (by omega) (by omega); first | omega | exact h2 (by assumption) | (obtain ⟨k,a,b,c,e⟩:=seenB_iff.1 (by assumption); exact h3 k a (by omega) e)))).symm) rfl
 refine og (qv_fa (off:=0) Try.field80_2 rfl) (want_f g4 rfl rfl rfl) ?_
 refine og (qv_ldp (v:=ζ6) Try.plain3 rfl (inOc (k:=2) rfl) rfl) (want_f g4 rfl rfl rfl) ?_
 refine og (qv_lss rfl rfl) (want_f g4 rfl rfl rfl) ?_
 refine oq (qv_pick_f g4 rfl (rfl:ev _ _=(.bool (decide (((fk A.N (j)).h) < 0))))) ?_
 refine oq (qv_mv (.bool (decide (((fk A.N (j)).h) < 0))) rfl) ?_
 by_cases g5:((fk A.N (j)).h) < 0
 refine os (want_fn g5 rfl rfl rfl) ?_
 refine os (want_fn g5 rfl rfl rfl) ?_
 refine os (want_fn g5 rfl rfl rfl) ?_
 refine os (want_fn g5 rfl rfl rfl) ?_
 refine oq (qv_pick_t g5 rfl (rfl:ev _ _=(Value.bool true))) ?_
 refine oq (qv_mv (Value.bool true) rfl) ?_
 refine os (want_fnc rfl rfl rfl) ?_
 refine os (want_fnc rfl rfl rfl) ?_
 refine os (want_fnc rfl rfl rfl) ?_
 refine os (want_fnc rfl rfl rfl) ?_
 refine os (want_fnc rfl rfl rfl) ?_
 refine oq (qv_pick_tc rfl (rfl:ev _ _=(Value.bool true))) ?_
 refine oq (qv_mv (Value.bool true) rfl) ?_
 refine os (want_fnc rfl rfl rfl) ?_
 refine os (want_fnc rfl rfl rfl) ?_
 refine os (want_fnc rfl rfl rfl) ?_
 refine oq (qv_pick_tc rfl (rfl:ev _ _=(Value.bool true))) ?_
 refine ops_nil ?_
 refine vc_tt rfl ?_
 refine vc_seq ?_
 refine vc_region ?_
 refine oq (qv_as (Value.bool false) rfl) ?_
 refine ops_nil ?_
 refine vc_drop [] [ζ1,ζ3,ζ2] (.refl _) ?_
 refine vc_ret ?_
 refine blockQ_ret ?_
 refine blockQ_ret ?_
 exact rq1 (.bool (decide (fm A))) (congrArg Value.bool (decide_eq_false (show ¬ (fm A) from by exact fun q=>by first | (have:=q.1.rt; omega) | (have h:=(fm_iff hl hloc).2 q; first | exact absurd h.1 (by assumption) | exact absurd h.2.1 (by assumption) | exact absurd h.2.2.1 (by assumption)) | (have h:=q.1.lf i (by omega) (by omega); first | exact absurd h.1 (by assumption) | (have:=h.2 (by omega); omega)) | (obtain ⟨h1,h2,h3,⟨k1,k2,k3⟩,⟨d1,d2,d3⟩⟩:=q.1.nd j (by omega) (by omega); first | omega | exact h2 (by assumption) | (obtain ⟨k,a,b,c,e⟩:=seenB_iff.1 (by assumption); exact h3 k a (by omega) e)))).symm) rfl
 refine og (qv_fa (off:=0) Try.field80_2 rfl) (want_f g5 rfl rfl rfl) ?_
 refine og (qv_ldp (v:=ζ6) Try.plain3 rfl (inOc (k:=2) rfl) rfl) (want_f g5 rfl rfl rfl) ?_
 refine og (qv_mv ζ14 rfl) (want_f g5 rfl rfl rfl) ?_
 refine og (qv_geq rfl rfl) (want_f g5 rfl rfl rfl) ?_
 refine oq (qv_pick_f g5 rfl (rfl:ev _ _=(.bool (decide ((((A.L.length:Int))+j)≤((fk A.N (j)).h)))))) ?_
 refine oq (qv_mv (.bool (decide ((((A.L.length:Int))+j)≤((fk A.N (j)).h)))) rfl) ?_
 by_cases g6:(((A.L.length:Int))+j)≤((fk A.N (j)).h)
 refine os (want_fn g6 rfl rfl rfl) ?_
 refine os (want_fn g6 rfl rfl rfl) ?_
 refine os (want_fn g6 rfl rfl rfl) ?_
 refine os (want_fn g6 rfl rfl rfl) ?_
 refine os (want_fn g6 rfl rfl rfl) ?_
 refine oq (qv_pick_t g6 rfl (rfl:ev _ _=(Value.bool true))) ?_
 refine oq (qv_mv (Value.bool true) rfl) ?_
 refine os (want_fnc rfl rfl rfl) ?_
 refine os (want_fnc rfl rfl rfl) ?_
 refine os (want_fnc rfl rfl rfl) ?_
 refine oq (qv_pick_tc rfl (rfl:ev _ _=(Value.bool true))) ?_
 refine ops_nil ?_
 refine vc_tt rfl ?_
 refine vc_seq ?_
 refine vc_region ?_
 refine oq (qv_as (Value.bool false) rfl) ?_
 refine ops_nil ?_
 refine vc_drop [] [ζ1,ζ3,ζ2] (.refl _) ?_
 refine vc_ret ?_
 refine blockQ_ret ?_
 refine blockQ_ret ?_
 exact rq1 (.bool (decide (fm A))) (congrArg Value.bool (decide_eq_false (show ¬ (fm A) from by exact fun q=>by first | (have:=q.1.rt; omega) | (have h:=(fm_iff hl hloc).2 q; first | exact absurd h.1 (by assumption) | exact absurd h.2.1 (by assumption) | exact absurd h.2.2.1 (by assumption)) | (have h:=q.1.lf i (by omega) (by omega); first | exact absurd h.1 (by assumption) | (have:=h.2 (by omega); omega)) | (obtain ⟨h1,h2,h3,⟨k1,k2,k3⟩,⟨d1,d2,d3⟩⟩:=q.1.nd j (by omega) (by omega); first | omega | exact h2 (by assumption) | (obtain ⟨k,a,b,c,e⟩:=seenB_iff.1 (by assumption); exact h3 k a (by omega) e)))).symm) rfl
 refine og (qv_fa (off:=0) Try.field80_1 rfl) (want_f g6 rfl rfl rfl) ?_
 refine og (qv_ldp (v:=ζ5) Try.plain3 rfl (inOc (k:=2) rfl) rfl) (want_f g6 rfl rfl rfl) ?_
 refine og (qv_fa (off:=0) Try.field80_2 rfl) (want_f g6 rfl rfl rfl) ?_
 refine og (qv_ldp (v:=ζ6) Try.plain3 rfl (inOc (k:=2) rfl) rfl) (want_f g6 rfl rfl rfl) ?_
 refine og (qv_eql rfl rfl) (want_f g6 rfl rfl rfl) ?_
 refine oq (qv_pick_f g6 rfl (rfl:ev _ _=(.bool (decide (((fk A.N (j)).l)=((fk A.N (j)).h)))))) ?_
 refine oq (qv_mv (.bool (decide (((fk A.N (j)).l)=((fk A.N (j)).h)))) rfl) ?_
 by_cases g7:((fk A.N (j)).l)=((fk A.N (j)).h)
 refine os (want_fn g7 rfl rfl rfl) ?_
 refine os (want_fn g7 rfl rfl rfl) ?_
 refine os (want_fn g7 rfl rfl rfl) ?_
 refine oq (qv_pick_t g7 rfl (rfl:ev _ _=(Value.bool true))) ?_
 refine ops_nil ?_
 refine vc_tt rfl ?_
 refine vc_seq ?_
 refine vc_region ?_
 refine oq (qv_as (Value.bool false) rfl) ?_
 refine ops_nil ?_
 refine vc_drop [] [ζ1,ζ3,ζ2] (.refl _) ?_
 refine vc_ret ?_
 refine blockQ_ret ?_
 refine blockQ_ret ?_
 exact rq1 (.bool (decide (fm A))) (congrArg Value.bool (decide_eq_false (show ¬ (fm A) from by exact fun q=>by first | (have:=q.1.rt; omega) | (have h:=(fm_iff hl hloc).2 q; first | exact absurd h.1 (by assumption) | exact absurd h.2.1 (by assumption) | exact absurd h.2.2.1 (by assumption)) | (have h:=q.1.lf i (by omega) (by omega); first | exact absurd h.1 (by assumption) | (have:=h.2 (by omega); omega)) | (obtain ⟨h1,h2,h3,⟨k1,k2,k3⟩,⟨d1,d2,d3⟩⟩:=q.1.nd j (by omega) (by omega); first | omega | exact h2 (by assumption) | (obtain ⟨k,a,b,c,e⟩:=seenB_iff.1 (by assumption); exact h3 k a (by omega) e)))).symm) rfl
 refine og (qv_mv (Value.map (some b2)) rfl) (want_f g7 rfl rfl rfl) ?_
 refine og (qv_ldm (vs:=[ζ7,ζ5,ζ6]) Try.agg80 rfl (inOc (k:=2) rfl) rfl rfl) (want_f g7 rfl rfl rfl) ?_
 refine og (qv_to (bool_dec _) (qv_look1 (a0:=false) (key:=(fk A.N (j))) (k:=1) Try.underlying129 fk_key Try.ti4 rfl rfl rfl)) (want_f g7 rfl rfl rfl) ?_
 refine oq (qv_pick_f g7 rfl (rfl:ev _ _=(.bool (decide ((((seenB A.N j.toNat) ((fk A.N (j)))).getD false)=true))))) ?_
 refine ops_nil ?_
 refine vc_if rfl (fun c4=>?_) (fun c4=>?_)
 refine vc_seq ?_
 refine vc_region ?_
 refine oq (qv_as (Value.bool false) rfl) ?_
 refine ops_nil ?_
 refine vc_drop [] [ζ1,ζ3,ζ2] (.refl _) ?_
 refine vc_ret ?_
 refine blockQ_ret ?_
 refine blockQ_ret ?_
 exact rq1 (.bool (decide (fm A))) (congrArg Value.bool (decide_eq_false (show ¬ (fm A) from by exact fun q=>by first | (have:=q.1.rt; omega) | (have h:=(fm_iff hl hloc).2 q; first | exact absurd h.1 (by assumption) | exact absurd h.2.1 (by assumption) | exact absurd h.2.2.1 (by assumption)) | (have h:=q.1.lf i (by omega) (by omega); first | exact absurd h.1 (by assumption) | (have:=h.2 (by omega); omega)) | (obtain ⟨h1,h2,h3,⟨k1,k2,k3⟩,⟨d1,d2,d3⟩⟩:=q.1.nd j (by omega) (by omega); first | omega | exact h2 (by assumption) | (obtain ⟨k,a,b,c,e⟩:=seenB_iff.1 (by assumption); exact h3 k a (by omega) e)))).symm) rfl
 refine vc_skip ?_
 refine vc_seq ?_
 refine vc_seq ?_
 refine vc_region_any Try.mixed (by kernel_rfl) ?_
 refine qq (qv_fa (off:=0) Try.field80_0 rfl) ?_
 refine qq (qv_ldp (v:=ζ7) Try.plain3 rfl (inOc (k:=2) rfl) rfl) ?_
 refine qq (qv_lss rfl rfl) ?_
 refine qq (qv_mv (.bool (decide (((fk A.N (j)).v) < 0))) rfl) ?_
 by_cases g8:((fk A.N (j)).v) < 0
 refine qs (want_fn g8 rfl rfl rfl) ?_
 refine qs (want_fn g8 rfl rfl rfl) ?_
 refine qs (want_fn g8 rfl rfl rfl) ?_
 refine qs (want_fn g8 rfl rfl rfl) ?_
 refine qs (want_fn g8 rfl rfl rfl) ?_
 refine qs (want_fn g8 rfl rfl rfl) ?_
 refine qs (want_fn g8 rfl rfl rfl) ?_
 refine qq (qv_pick_t g8 rfl (rfl:ev _ _=(Value.bool true))) ?_
 refine qq (qv_mv (Value.bool true) rfl) ?_
 refine qs (want_fnc rfl rfl rfl) ?_
 refine qs (want_fnc rfl rfl rfl) ?_
 refine qs (want_fnc rfl rfl rfl) ?_
 refine qs (want_fnc rfl rfl rfl) ?_
 refine qs (want_fnc rfl rfl rfl) ?_
 refine qs (want_fnc rfl rfl rfl) ?_
 refine qs (want_fnc rfl rfl rfl) ?_
 refine qq (qv_pick_tc rfl (rfl:ev _ _=(Value.bool true))) ?_
 refine qops_nil ?_
 refine vc_tt rfl ?_
 refine vc_seq ?_
 refine vc_region ?_
 refine oq (qv_as (Value.bool false) rfl) ?_
 refine ops_nil ?_
 refine vc_drop [] [ζ1,ζ3,ζ2] (.refl _) ?_
 refine vc_ret ?_
 refine blockQ_ret ?_
 refine blockQ_ret ?_
 exact rq1 (.bool (decide (fm A))) (congrArg Value.bool (decide_eq_false (show ¬ (fm A) from by exact fun q=>by first | (have:=q.1.rt; omega) | (have h:=(fm_iff hl hloc).2 q; first | exact absurd h.1 (by assumption) | exact absurd h.2.1 (by assumption) | exact absurd h.2.2.1 (by assumption)) | (have h:=q.1.lf i (by omega) (by omega); first | exact absurd h.1 (by assumption) | (have:=h.2 (by omega); omega)) | (obtain ⟨h1,h2,h3,⟨k1,k2,k3⟩,⟨d1,d2,d3⟩⟩:=q.1.nd j (by omega) (by omega); first | omega | exact h2 (by assumption) | (obtain ⟨k,a,b,c,e⟩:=seenB_iff.1 (by assumption); exact h3 k a (by omega) e)))).symm) rfl
 refine qg (qv_fa (off:=0) Try.field80_0 rfl) (want_f g8 rfl rfl rfl) ?_
 refine qg (qv_ldp (v:=ζ7) Try.plain3 rfl (inOc (k:=2) rfl) rfl) (want_f g8 rfl rfl rfl) ?_
 refine qg (qv_ldm (vs:=[(.int .i64 A.v),la,na,(.int .i64 A.r)]) Try.agg25 rfl (inOc (k:=0) rfl) rfl rfl) (want_f g8 rfl rfl rfl) ?_
 refine qg (qv_fa (off:=0) Try.field80_1 rfl) (want_f g8 rfl rfl rfl) ?_
 refine qg (qv_ldp (v:=ζ5) Try.plain3 rfl (inOc (k:=2) rfl) rfl) (want_f g8 rfl rfl rfl) ?_
 refine qg (qv_call (v:=(.int .i64 (tp A ((fk A.N (j)).l)))) (top_c hA (by omega) (by omega)) rfl rfl) (want_f g8 rfl rfl rfl) ?_
 refine qg (qv_geq rfl rfl) (want_f g8 rfl rfl rfl) ?_
 refine qq (qv_pick_f g8 rfl (rfl:ev _ _=(.bool (decide ((tp A ((fk A.N (j)).l))≤((fk A.N (j)).v)))))) ?_
 refine qq (qv_mv (.bool (decide ((tp A ((fk A.N (j)).l))≤((fk A.N (j)).v)))) rfl) ?_
 by_cases g9:(tp A ((fk A.N (j)).l))≤((fk A.N (j)).v)
 refine qs (want_fn g9 rfl rfl rfl) ?_
 refine qs (want_fn g9 rfl rfl rfl) ?_
 refine qs (want_fn g9 rfl rfl rfl) ?_
 refine qs (want_fn g9 rfl rfl rfl) ?_
 refine qs (want_fn g9 rfl rfl rfl) ?_
 refine qs (want_fn g9 rfl rfl rfl) ?_
 refine qs (want_fn g9 rfl rfl rfl) ?_
 refine qq (qv_pick_t g9 rfl (rfl:ev _ _=(Value.bool true))) ?_
 refine qops_nil ?_
 refine vc_tt rfl ?_
 refine vc_seq ?_
 refine vc_region ?_
 refine oq (qv_as (Value.bool false) rfl) ?_
 refine ops_nil ?_
 refine vc_drop [] [ζ1,ζ3,ζ2] (.refl _) ?_
 refine vc_ret ?_
 refine blockQ_ret ?_
 refine blockQ_ret ?_
 exact rq1 (.bool (decide (fm A))) (congrArg Value.bool (decide_eq_false (show ¬ (fm A) from by exact fun q=>by first | (have:=q.1.rt; omega) | (have h:=(fm_iff hl hloc).2 q; first | exact absurd h.1 (by assumption) | exact absurd h.2.1 (by assumption) | exact absurd h.2.2.1 (by assumption)) | (have h:=q.1.lf i (by omega) (by omega); first | exact absurd h.1 (by assumption) | (have:=h.2 (by omega); omega)) | (obtain ⟨h1,h2,h3,⟨k1,k2,k3⟩,⟨d1,d2,d3⟩⟩:=q.1.nd j (by omega) (by omega); first | omega | exact h2 (by assumption) | (obtain ⟨k,a,b,c,e⟩:=seenB_iff.1 (by assumption); exact h3 k a (by omega) e)))).symm) rfl
 refine qg (qv_fa (off:=0) Try.field80_0 rfl) (want_f g9 rfl rfl rfl) ?_
 refine qg (qv_ldp (v:=ζ7) Try.plain3 rfl (inOc (k:=2) rfl) rfl) (want_f g9 rfl rfl rfl) ?_
 refine qg (qv_ldm (vs:=[(.int .i64 A.v),la,na,(.int .i64 A.r)]) Try.agg25 rfl (inOc (k:=0) rfl) rfl rfl) (want_f g9 rfl rfl rfl) ?_
 refine qg (qv_fa (off:=0) Try.field80_2 rfl) (want_f g9 rfl rfl rfl) ?_
 refine qg (qv_ldp (v:=ζ6) Try.plain3 rfl (inOc (k:=2) rfl) rfl) (want_f g9 rfl rfl rfl) ?_
 refine qg (qv_call (v:=(.int .i64 (tp A ((fk A.N (j)).h)))) (top_c hA (by omega) (by omega)) rfl rfl) (want_f g9 rfl rfl rfl) ?_
 refine qg (qv_geq rfl rfl) (want_f g9 rfl rfl rfl) ?_
 refine qq (qv_pick_f g9 rfl (rfl:ev _ _=(.bool (decide ((tp A ((fk A.N (j)).h))≤((fk A.N (j)).v)))))) ?_
 refine qops_nil ?_
 refine vc_if rfl (fun c5=>?_) (fun c5=>?_)
 refine vc_seq ?_
 refine vc_region ?_
 refine oq (qv_as (Value.bool false) rfl) ?_
 refine ops_nil ?_
 refine vc_drop [] [ζ1,ζ3,ζ2] (.refl _) ?_
 refine vc_ret ?_
 refine blockQ_ret ?_
 refine blockQ_ret ?_
 exact rq1 (.bool (decide (fm A))) (congrArg Value.bool (decide_eq_false (show ¬ (fm A) from by exact fun q=>by first | (have:=q.1.rt; omega) | (have h:=(fm_iff hl hloc).2 q; first | exact absurd h.1 (by assumption) | exact absurd h.2.1 (by assumption) | exact absurd h.2.2.1 (by assumption)) | (have h:=q.1.lf i (by omega) (by omega); first | exact absurd h.1 (by assumption) | (have:=h.2 (by omega); omega)) | (obtain ⟨h1,h2,h3,⟨k1,k2,k3⟩,⟨d1,d2,d3⟩⟩:=q.1.nd j (by omega) (by omega); first | omega | exact h2 (by assumption) | (obtain ⟨k,a,b,c,e⟩:=seenB_iff.1 (by assumption); exact h3 k a (by omega) e)))).symm) rfl
 refine vc_skip ?_
 refine vc_region ?_
 refine oq (qv_mv (Value.map (some b2)) rfl) ?_
 refine oq (qv_ldm (vs:=[ζ7,ζ5,ζ6]) Try.agg80 rfl (inOc (k:=2) rfl) rfl rfl) ?_
 refine ops_mapset (k:=1) (key:=(fk A.N (j))) (v:=true) Try.underlying129 fk_key rfl rfl rfl rfl ?_
 refine ops_nil ?_
 let ζ8:Asrt:=Mf b2 fkv Value.bool (setF (seenB A.N j.toNat) ((fk A.N (j))) true)
 refine vc_res (σ':=[ζ1,ζ8,ζ2]) rfl ?_
 refine vc_drop [(Arr 25 b1 [(Value.int .i64 (A.v)),la,na,(Value.int .i64 (A.r))]),ζ8] [(Arr 80 b3 [(Value.int .i64 ((fk A.N (j)).v)),(Value.int .i64 ((fk A.N (j)).l)),(Value.int .i64 ((fk A.N (j)).h))])] ((List.perm_middle (l₁:=[(Arr 25 b1 [(Value.int .i64 (A.v)),la,na,(Value.int .i64 (A.r))]),ζ8]) (l₂:=[])).trans (List.perm_append_comm (l₁:=[(Arr 80 b3 [(Value.int .i64 ((fk A.N (j)).v)),(Value.int .i64 ((fk A.N (j)).l)),(Value.int .i64 ((fk A.N (j)).h))])]))) ?_
 refine vc_region ?_
 refine oq (qv_add rfl rfl (by omega)) ?_
 refine oq (qv_mv (.int .i64 (j+1)) rfl) ?_
 refine ops_nil ?_
 subst ζ9 ζ1 ζ3 ζ5 ζ6 ζ7 ζ2 ζ14 ζ8
 refine ⟨(j+1),⟨rfl,rfl,rfl,rfl,rfl,rfl,rfl,rfl,rfl,(congrArg (Value.int .i64) (show (j+1)=((j+1)) from by omega)),trivial⟩,⟨rfl,(show [(Arr 25 b1 [(.int .i64 A.v),la,na,(.int .i64 A.r)]),(Mf b2 fkv Value.bool (seenB A.N (j+1:Int).toNat))]=[(Arr 25 b1 [(.int .i64 A.v),la,na,(.int .i64 A.r)]),(Mf b2 fkv Value.bool (setF (seenB A.N j.toNat) ((fk A.N (j))) true))] from by rw [seenB_step (by omega) (by omega)]),by omega,by omega,all_snoc hnd ⟨by omega,by assumption,fun k k0 k1 q=>c4 (seenB_iff.2 ⟨k,k0,by omega,by omega,q⟩),⟨by omega,by omega,by omega⟩,⟨by omega,by omega,by omega⟩⟩⟩,by omega⟩
 refine vc_exit ?_
 refine blockQ_hit ?_
 refine vc_seq ?_
 refine vc_seq ?_
 refine vc_region ?_
 refine oq (qv_fa (off:=0) Try.field25_3 rfl) ?_
 refine oq (qv_ldp (v:=(.int .i64 A.r)) Try.plain3 rfl (inOc (k:=0) rfl) rfl) ?_
 refine oq (qv_lss rfl rfl) ?_
 refine oq (qv_mv (.bool (decide (A.r < 0))) rfl) ?_
 by_cases g10:A.r < 0
 refine os (want_fn g10 rfl rfl rfl) ?_
 refine os (want_fn g10 rfl rfl rfl) ?_
 refine os (want_fn g10 rfl rfl rfl) ?_
 refine os (want_fn g10 rfl rfl rfl) ?_
 refine os (want_fn g10 rfl rfl rfl) ?_
 refine os (want_fn g10 rfl rfl rfl) ?_
 refine os (want_fn g10 rfl rfl rfl) ?_
 refine os (want_fn g10 rfl rfl rfl) ?_
 refine os (want_fn g10 rfl rfl rfl) ?_
 refine os (want_fn g10 rfl rfl rfl) ?_
 refine oq (qv_pick_t g10 rfl (rfl:ev _ _=(Value.bool true))) ?_
 refine ops_nil ?_
 refine vc_tt rfl ?_
 refine vc_seq ?_
 refine vc_region ?_
 refine oq (qv_as (Value.bool false) rfl) ?_
 refine ops_nil ?_
 refine vc_drop [] [ζ1,ζ3] (.refl _) ?_
 refine vc_ret ?_
 exact rq1 (.bool (decide (fm A))) (congrArg Value.bool (decide_eq_false (show ¬ (fm A) from by exact fun q=>by first | (have:=q.1.rt; omega) | (have h:=(fm_iff hl hloc).2 q; first | exact absurd h.1 (by assumption) | exact absurd h.2.1 (by assumption) | exact absurd h.2.2.1 (by assumption)) | (have h:=q.1.lf i (by omega) (by omega); first | exact absurd h.1 (by assumption) | (have:=h.2 (by omega); omega)) | (obtain ⟨h1,h2,h3,⟨k1,k2,k3⟩,⟨d1,d2,d3⟩⟩:=q.1.nd j (by omega) (by omega); first | omega | exact h2 (by assumption) | (obtain ⟨k,a,b,c,e⟩:=seenB_iff.1 (by assumption); exact h3 k a (by omega) e)))).symm) rfl
 refine og (qv_fa (off:=0) Try.field25_3 rfl) (want_f g10 rfl rfl rfl) ?_
 refine og (qv_ldp (v:=(.int .i64 A.r)) Try.plain3 rfl (inOc (k:=0) rfl) rfl) (want_f g10 rfl rfl rfl) ?_
 refine og (qv_fa (off:=0) Try.field25_1 rfl) (want_f g10 rfl rfl rfl) ?_
 refine og (qv_ldp (v:=la) Try.plain22 rfl (inOc (k:=0) rfl) rfl) (want_f g10 rfl rfl rfl) ?_
 refine og (qv_lenI Try.underlying22 rfl (hA.l)) (want_f g10 rfl rfl rfl) ?_
 refine og (qv_fa (off:=0) Try.field25_2 rfl) (want_f g10 rfl rfl rfl) ?_
 refine og (qv_ldp (v:=na) Try.plain23 rfl (inOc (k:=0) rfl) rfl) (want_f g10 rfl rfl rfl) ?_
 refine og (qv_lenSS Try.underlying23 rfl (hA.n)) (want_f g10 rfl rfl rfl) ?_
 refine og (qv_add rfl rfl (by omega)) (want_f g10 rfl rfl rfl) ?_
 refine og (qv_geq rfl rfl) (want_f g10 rfl rfl rfl) ?_
 refine oq (qv_pick_f g10 rfl (rfl:ev _ _=(.bool (decide ((((A.L.length:Int))+((A.N.length:Int)))≤A.r))))) ?_
 refine ops_nil ?_
 refine vc_if rfl (fun c6=>?_) (fun c6=>?_)
 refine vc_seq ?_
 refine vc_region ?_
 refine oq (qv_as (Value.bool false) rfl) ?_
 refine ops_nil ?_
 refine vc_drop [] [ζ1,ζ3] (.refl _) ?_
 refine vc_ret ?_
 exact rq1 (.bool (decide (fm A))) (congrArg Value.bool (decide_eq_false (show ¬ (fm A) from by exact fun q=>by first | (have:=q.1.rt; omega) | (have h:=(fm_iff hl hloc).2 q; first | exact absurd h.1 (by assumption) | exact absurd h.2.1 (by assumption) | exact absurd h.2.2.1 (by assumption)) | (have h:=q.1.lf i (by omega) (by omega); first | exact absurd h.1 (by assumption) | (have:=h.2 (by omega); omega)) | (obtain ⟨h1,h2,h3,⟨k1,k2,k3⟩,⟨d1,d2,d3⟩⟩:=q.1.nd j (by omega) (by omega); first | omega | exact h2 (by assumption) | (obtain ⟨k,a,b,c,e⟩:=seenB_iff.1 (by assumption); exact h3 k a (by omega) e)))).symm) rfl
 refine vc_skip ?_
 refine vc_seq ?_
 have hloc:Loc A:=⟨fun k a b=>hlf k a (by omega),fun k a b=>hnd k a (by omega),by omega,by omega⟩
 refine vc_region ?_
 refine oq (qv_ldm (vs:=[(.int .i64 A.v),la,na,(.int .i64 A.r)]) Try.agg25 rfl (inOc (k:=0) rfl) rfl rfl) ?_
 refine ops_lit (n:=1) (s:=4) (cs:=[(.int .i64 A.v),la,na,(.int .i64 A.r)]) Try.underlying102 Try.ti25 (Nat.le_of_ble_eq_true rfl) rfl rfl rfl (Nat.le_of_ble_eq_true rfl) rfl (fun b4=>?_)
 refine ops_freeze (b:=b4) (o:=.cells ([(Value.int .i64 (A.v)),la,na,(Value.int .i64 (A.r))]:List Value).toArray 25 (0,0)) (σr:=[(Arr 25 b1 [(Value.int .i64 (A.v)),la,na,(Value.int .i64 (A.r))]),ζ3]) (List.perm_middle (l₁:=[(Arr 25 b1 [(Value.int .i64 (A.v)),la,na,(Value.int .i64 (A.r))]),ζ3]) (l₂:=[])) (fun Vf1 hVf1 hb1=>?_)
 have hc1:Cells Vf1 b4 [(.int .i64 A.v),la,na,(.int .i64 A.r)]:=⟨_,_,hb1⟩
 have hA:=hA.mono hVf1
 refine ops_call (σa:=[]) (σr:=[ζ1,ζ3]) (by have h:=made_c (Ds:=[A]) (F:=(fun x _ _=>x)) (Mdl.one hc1 hA) (ds1 hv hloc).1 (ds1 hv hloc).2.1 (ds1 hv hloc).2.2.1 (Nat.le_refl 1) (ds1 hv hloc).2.2.2 (fun W q x y z _ _ _=>formed1_c); exact h) rfl rfl (.refl _) (fun r1 V1 sg1 hV1 hp1=>?_)
 obtain ⟨rfl,lv1,nv1,rfl,hMt⟩:=hp1
 have hA:=hA.mono hV1
 have hc1:=hc1.mono hV1
 let ζ10:Value:=.int .i64 ((mkD A.v (vT A)).r)
 let ζ13:Value:=.int .i64 (mkE A.v (vT A))
 refine oq (qv_mv (.tuple #[(.agg #[(.int .i64 ((mkD A.v (vT A)).v)),lv1,nv1,ζ10]),ζ13]) rfl) ?_
 refine oq (qv_ext (.agg #[(.int .i64 ((mkD A.v (vT A)).v)),lv1,nv1,ζ10]) rfl rfl) ?_
 refine oq (qv_ext ζ13 rfl rfl) ?_
 refine ops_alloc Try.ti25 rfl (fun b5=>?_)
 refine ops_stw (k:=2) (vs:=[(.int .i64 ((mkD A.v (vT A)).v)),lv1,nv1,ζ10]) Try.size25 rfl rfl rfl (allc rfl (allc (Sl.one hMt.l) (allc (SlS.one hMt.n) (allc rfl rfl)))) rfl rfl ?_
 refine oq (qv_as ζ13 rfl) ?_
 refine ops_nil ?_
 refine vc_seq ?_
 let ζ4:Asrt:=Arr 25 b5 [(.int .i64 ((mkD A.v (vT A)).v)),lv1,nv1,(.int .i64 ((mkD A.v (vT A)).r))]
 refine vc_res (σ':=[ζ1,ζ3,ζ4]) rfl ?_
 refine vc_region ?_
 refine oq (qv_mv ζ13 rfl) ?_
 refine oq (qv_eql rfl rfl) ?_
 refine oq (qv_mv (.bool (decide ((mkE A.v (vT A))=0))) rfl) ?_
 by_cases g11:(mkE A.v (vT A))=0
 refine og (qv_fa (off:=0) Try.field25_1 rfl) (want_t g11 rfl rfl rfl) ?_
 refine og (qv_ldp (v:=la) Try.plain22 rfl (inOc (k:=0) rfl) rfl) (want_t g11 rfl rfl rfl) ?_
 refine og (qv_fa (off:=0) Try.field25_1 rfl) (want_t g11 rfl rfl rfl) ?_
 refine og (qv_ldp (v:=lv1) Try.plain22 rfl (inOc (k:=2) rfl) rfl) (want_t g11 rfl rfl rfl) ?_
 let ζ11:Value:=.bool (decide (A.L=(mkD A.v (vT A)).L))
 refine og (qv_call (v:=ζ11) (EqI_c hA.l hMt.l) rfl rfl) (want_t g11 rfl rfl rfl) ?_
 refine oq (qv_pick_t g11 rfl (rfl:ev _ _=ζ11)) ?_
 refine oq (qv_mv ζ11 rfl) ?_
 by_cases g12:A.L=(mkD A.v (vT A)).L
 refine og (qv_fa (off:=0) Try.field25_2 rfl) (want_t g12 rfl rfl rfl) ?_
 refine og (qv_ldp (v:=na) Try.plain23 rfl (inOc (k:=0) rfl) rfl) (want_t g12 rfl rfl rfl) ?_
 refine og (qv_fa (off:=0) Try.field25_2 rfl) (want_t g12 rfl rfl rfl) ?_
 refine og (qv_ldp (v:=nv1) Try.plain23 rfl (inOc (k:=2) rfl) rfl) (want_t g12 rfl rfl rfl) ?_
 let ζ12:Value:=.bool (decide (A.N=(mkD A.v (vT A)).N))
 refine og (qv_call (v:=ζ12) (EqF_c hA.n hMt.n) rfl rfl) (want_t g12 rfl rfl rfl) ?_
 refine oq (qv_pick_t g12 rfl (rfl:ev _ _=ζ12)) ?_
 refine oq (qv_mv ζ12 rfl) ?_
 by_cases g13:A.N=(mkD A.v (vT A)).N
 refine og (qv_fa (off:=0) Try.field25_3 rfl) (want_t g13 rfl rfl rfl) ?_
 refine og (qv_ldp (v:=(.int .i64 A.r)) Try.plain3 rfl (inOc (k:=0) rfl) rfl) (want_t g13 rfl rfl rfl) ?_
 refine og (qv_fa (off:=0) Try.field25_3 rfl) (want_t g13 rfl rfl rfl) ?_
 refine og (qv_ldp (v:=ζ10) Try.plain3 rfl (inOc (k:=2) rfl) rfl) (want_t g13 rfl rfl rfl) ?_
 refine og (qv_eql rfl rfl) (want_t g13 rfl rfl rfl) ?_
 refine oq (qv_pick_t g13 rfl (rfl:ev _ _=(.bool (decide (A.r=((mkD A.v (vT A)).r)))))) ?_
 refine oq (qv_as (.bool (decide (A.r=((mkD A.v (vT A)).r)))) rfl) ?_
 refine ops_nil ?_
 refine vc_drop [] [ζ1,ζ3,ζ4] (.refl _) ?_
 refine vc_ret ?_
 exact rq1 (.bool (decide (fm A))) (congrArg Value.bool (decide_eq_decide.2 (show (A.r=((mkD A.v (vT A)).r)) ↔ (fm A) from by have h:=fm_iff hl hloc; first | exact ⟨fun q=>h.1 ⟨by assumption,by assumption,by assumption,q⟩,fun q=>(h.2 q).2.2.2⟩ | exact ⟨fun q=>absurd q (by omega),fun q=>absurd (h.2 q).1 (by assumption)⟩ | exact ⟨fun q=>absurd q (by assumption),fun q=>(h.2 q).2.1⟩ | exact ⟨fun q=>absurd q (by assumption),fun q=>(h.2 q).2.2.1⟩))) rfl
 refine os (want_tn g13 rfl rfl rfl) ?_
 refine os (want_tn g13 rfl rfl rfl) ?_
 refine os (want_tn g13 rfl rfl rfl) ?_
 refine os (want_tn g13 rfl rfl rfl) ?_
 refine os (want_tn g13 rfl rfl rfl) ?_
 refine oq (qv_pick_f g13 rfl (rfl:ev _ _=(Value.bool false))) ?_
 refine oq (qv_as (Value.bool false) rfl) ?_
 refine ops_nil ?_
 refine vc_drop [] [ζ1,ζ3,ζ4] (.refl _) ?_
 refine vc_ret ?_
 exact rq1 (.bool (decide (fm A))) (congrArg Value.bool (decide_eq_false (show ¬ (fm A) from by exact fun q=>by first | (have:=q.1.rt; omega) | (have h:=(fm_iff hl hloc).2 q; first | exact absurd h.1 (by assumption) | exact absurd h.2.1 (by assumption) | exact absurd h.2.2.1 (by assumption)) | (have h:=q.1.lf i (by omega) (by omega); first | exact absurd h.1 (by assumption) | (have:=h.2 (by omega); omega)) | (obtain ⟨h1,h2,h3,⟨k1,k2,k3⟩,⟨d1,d2,d3⟩⟩:=q.1.nd j (by omega) (by omega); first | omega | exact h2 (by assumption) | (obtain ⟨k,a,b,c,e⟩:=seenB_iff.1 (by assumption); exact h3 k a (by omega) e)))).symm) rfl
 refine os (want_tn g12 rfl rfl rfl) ?_
 refine os (want_tn g12 rfl rfl rfl) ?_
 refine os (want_tn g12 rfl rfl rfl) ?_
 refine os (want_tn g12 rfl rfl rfl) ?_
 refine os (want_tn g12 rfl rfl rfl) ?_
 refine oq (qv_pick_f g12 rfl (rfl:ev _ _=(Value.bool false))) ?_
 refine oq (qv_mv (Value.bool false) rfl) ?_
 refine os (want_tnc rfl rfl rfl) ?_
 refine os (want_tnc rfl rfl rfl) ?_
 refine os (want_tnc rfl rfl rfl) ?_
 refine os (want_tnc rfl rfl rfl) ?_
 refine os (want_tnc rfl rfl rfl) ?_
 refine oq (qv_pick_fc rfl (rfl:ev _ _=(Value.bool false))) ?_
 refine oq (qv_as (Value.bool false) rfl) ?_
 refine ops_nil ?_
 refine vc_drop [] [ζ1,ζ3,ζ4] (.refl _) ?_
 refine vc_ret ?_
 exact rq1 (.bool (decide (fm A))) (congrArg Value.bool (decide_eq_false (show ¬ (fm A) from by exact fun q=>by first | (have:=q.1.rt; omega) | (have h:=(fm_iff hl hloc).2 q; first | exact absurd h.1 (by assumption) | exact absurd h.2.1 (by assumption) | exact absurd h.2.2.1 (by assumption)) | (have h:=q.1.lf i (by omega) (by omega); first | exact absurd h.1 (by assumption) | (have:=h.2 (by omega); omega)) | (obtain ⟨h1,h2,h3,⟨k1,k2,k3⟩,⟨d1,d2,d3⟩⟩:=q.1.nd j (by omega) (by omega); first | omega | exact h2 (by assumption) | (obtain ⟨k,a,b,c,e⟩:=seenB_iff.1 (by assumption); exact h3 k a (by omega) e)))).symm) rfl
 refine os (want_tn g11 rfl rfl rfl) ?_
 refine os (want_tn g11 rfl rfl rfl) ?_
 refine os (want_tn g11 rfl rfl rfl) ?_
 refine os (want_tn g11 rfl rfl rfl) ?_
 refine os (want_tn g11 rfl rfl rfl) ?_
 refine oq (qv_pick_f g11 rfl (rfl:ev _ _=(Value.bool false))) ?_
 refine oq (qv_mv (Value.bool false) rfl) ?_
 refine os (want_tnc rfl rfl rfl) ?_
 refine os (want_tnc rfl rfl rfl) ?_
 refine os (want_tnc rfl rfl rfl) ?_
 refine os (want_tnc rfl rfl rfl) ?_
 refine os (want_tnc rfl rfl rfl) ?_
 refine oq (qv_pick_fc rfl (rfl:ev _ _=(Value.bool false))) ?_
 refine oq (qv_mv (Value.bool false) rfl) ?_
 refine os (want_tnc rfl rfl rfl) ?_
 refine os (want_tnc rfl rfl rfl) ?_
 refine os (want_tnc rfl rfl rfl) ?_
 refine os (want_tnc rfl rfl rfl) ?_
 refine os (want_tnc rfl rfl rfl) ?_
 refine oq (qv_pick_fc rfl (rfl:ev _ _=(Value.bool false))) ?_
 refine oq (qv_as (Value.bool false) rfl) ?_
 refine ops_nil ?_
 refine vc_drop [] [ζ1,ζ3,ζ4] (.refl _) ?_
 refine vc_ret ?_
 exact rq1 (.bool (decide (fm A))) (congrArg Value.bool (decide_eq_false (show ¬ (fm A) from by exact fun q=>by first | (have:=q.1.rt; omega) | (have h:=(fm_iff hl hloc).2 q; first | exact absurd h.1 (by assumption) | exact absurd h.2.1 (by assumption) | exact absurd h.2.2.1 (by assumption)) | (have h:=q.1.lf i (by omega) (by omega); first | exact absurd h.1 (by assumption) | (have:=h.2 (by omega); omega)) | (obtain ⟨h1,h2,h3,⟨k1,k2,k3⟩,⟨d1,d2,d3⟩⟩:=q.1.nd j (by omega) (by omega); first | omega | exact h2 (by assumption) | (obtain ⟨k,a,b,c,e⟩:=seenB_iff.1 (by assumption); exact h3 k a (by omega) e)))).symm) rfl
theorem Check_c {V:HV} {la na:Value} {A:Mg} (hA:Mt V la na A) :
    FnC Try.prog 13 [(.agg #[(.int .i64 A.v),la,na,(.int .i64 A.r)])] V [] (fun v _ _=>v=(.int .i64 (chkC A))):=by
 refine fn_intro (N:=24) Try.func13 (by kernel_rfl) rfl rfl rfl (Nat.le_of_ble_eq_true rfl) ?_
 intro w0 D
 have hbl:=Ints.bound hA.l
 have hbn:=SlS.bound hA.n
 refine vc_seq ?_
 refine vc_region ?_
 refine ops_box (v:=(.agg #[(.int .i64 A.v),la,na,(.int .i64 A.r)])) (cs:=[(.int .i64 A.v),la,na,(.int .i64 A.r)]) rfl rfl (fun b1=>?_)
 refine oq (qv_as (Value.int .i64 0) rfl) ?_
 refine ops_nil ?_
 refine vc_seq ?_
 refine vc_seq ?_
 refine vc_res (σ':=[(Arr 25 b1 [(.int .i64 A.v),la,na,(.int .i64 A.r)])]) rfl ?_
 refine vc_region ?_
 refine oq (qv_fa (off:=0) Try.field25_0 rfl) ?_
 refine oq (qv_ldp (v:=(.int .i64 A.v)) Try.plain3 rfl (inOc (k:=0) rfl) rfl) ?_
 refine oq (qv_lss rfl rfl) ?_
 refine oq (qv_mv (.bool (decide (A.v < 0))) rfl) ?_
 by_cases g1:A.v < 0
 refine os (want_fn g1 rfl rfl rfl) ?_
 refine os (want_fn g1 rfl rfl rfl) ?_
 refine os (want_fn g1 rfl rfl rfl) ?_
 refine oq (qv_pick_t g1 rfl (rfl:ev _ _=(Value.bool true))) ?_
 refine ops_nil ?_
 refine vc_tt rfl ?_
 refine vc_seq ?_
 refine vc_region ?_
 refine oq (qv_as (Value.int .i64 3) rfl) ?_
 refine ops_nil ?_
 refine vc_ret ?_
 exact rq1 (.int .i64 (chkC A)) (congrArg (Value.int .i64) (show 3=(chkC A) from by rw [chk_3 (by omega)])) rfl
 refine og (qv_fa (off:=0) Try.field25_0 rfl) (want_f g1 rfl rfl rfl) ?_
 refine og (qv_ldp (v:=(.int .i64 A.v)) Try.plain3 rfl (inOc (k:=0) rfl) rfl) (want_f g1 rfl rfl rfl) ?_
 refine og (qv_gtr rfl rfl) (want_f g1 rfl rfl rfl) ?_
 refine oq (qv_pick_f g1 rfl (rfl:ev _ _=(.bool (decide (40 < A.v))))) ?_
 refine ops_nil ?_
 refine vc_if rfl (fun c1=>?_) (fun c1=>?_)
 refine vc_seq ?_
 refine vc_region ?_
 refine oq (qv_as (Value.int .i64 3) rfl) ?_
 refine ops_nil ?_
 refine vc_ret ?_
 exact rq1 (.int .i64 (chkC A)) (congrArg (Value.int .i64) (show 3=(chkC A) from by rw [chk_3 (by omega)])) rfl
 refine vc_skip ?_
 refine vc_seq ?_
 refine vc_seq ?_
 refine vc_region ?_
 refine oq (qv_fa (off:=0) Try.field25_1 rfl) ?_
 refine oq (qv_ldp (v:=la) Try.plain22 rfl (inOc (k:=0) rfl) rfl) ?_
 refine oq (qv_lenI Try.underlying22 rfl (hA.l)) ?_
 refine oq (qv_gtr rfl rfl) ?_
 refine oq (qv_mv (.bool (decide (4096 < ((A.L.length:Int))))) rfl) ?_
 by_cases g2:4096 < ((A.L.length:Int))
 refine os (want_fn g2 rfl rfl rfl) ?_
 refine os (want_fn g2 rfl rfl rfl) ?_
 refine os (want_fn g2 rfl rfl rfl) ?_
 refine os (want_fn g2 rfl rfl rfl) ?_
 refine oq (qv_pick_t g2 rfl (rfl:ev _ _=(Value.bool true))) ?_
 refine ops_nil ?_
 refine vc_tt rfl ?_
 refine vc_seq ?_
 refine vc_region ?_
 refine oq (qv_as (Value.int .i64 4) rfl) ?_
 refine ops_nil ?_
 refine vc_ret ?_
 exact rq1 (.int .i64 (chkC A)) (congrArg (Value.int .i64) (show 4=(chkC A) from by rw [chk_4 (by omega) (by omega)])) rfl
 refine og (qv_fa (off:=0) Try.field25_2 rfl) (want_f g2 rfl rfl rfl) ?_
 refine og (qv_ldp (v:=na) Try.plain23 rfl (inOc (k:=0) rfl) rfl) (want_f g2 rfl rfl rfl) ?_
 refine og (qv_lenSS Try.underlying23 rfl (hA.n)) (want_f g2 rfl rfl rfl) ?_
 refine og (qv_gtr rfl rfl) (want_f g2 rfl rfl rfl) ?_
 refine oq (qv_pick_f g2 rfl (rfl:ev _ _=(.bool (decide (4096 < ((A.N.length:Int))))))) ?_
 refine ops_nil ?_
 refine vc_if rfl (fun c2=>?_) (fun c2=>?_)
 refine vc_seq ?_
 refine vc_region ?_
 refine oq (qv_as (Value.int .i64 4) rfl) ?_
 refine ops_nil ?_
 refine vc_ret ?_
 exact rq1 (.int .i64 (chkC A)) (congrArg (Value.int .i64) (show 4=(chkC A) from by rw [chk_4 (by omega) (by omega)])) rfl
 refine vc_skip ?_
 refine vc_seq ?_
 refine vc_seq ?_
 refine vc_region ?_
 refine oq (qv_ldm (vs:=[(.int .i64 A.v),la,na,(.int .i64 A.r)]) Try.agg25 rfl (inOc (k:=0) rfl) rfl rfl) ?_
 refine oq (qv_call (v:=(.bool (decide (fm A)))) (formed_c hA (by omega) (by omega)) rfl rfl) ?_
 refine oq (qv_not rfl) ?_
 refine ops_nil ?_
 refine vc_if rfl (fun c3=>?_) (fun c3=>?_)
 refine vc_seq ?_
 refine vc_region ?_
 refine oq (qv_as (Value.int .i64 1) rfl) ?_
 refine ops_nil ?_
 refine vc_ret ?_
 exact rq1 (.int .i64 (chkC A)) (congrArg (Value.int .i64) (show 1=(chkC A) from by rw [chk_1 (by omega) (by omega) (by assumption)])) rfl
 refine vc_skip ?_
 refine vc_seq ?_
 refine vc_region ?_
 refine oq (qv_as (Value.int .i64 0) rfl) ?_
 refine ops_nil ?_
 refine vc_ret ?_
 exact rq1 (.int .i64 (chkC A)) (congrArg (Value.int .i64) (show 0=(chkC A) from by rw [chk_0 ⟨by omega,by omega,Decidable.not_not.1 (by assumption)⟩])) rfl
end Go.Proofs.Ytkmhjcjpohpiaaa
