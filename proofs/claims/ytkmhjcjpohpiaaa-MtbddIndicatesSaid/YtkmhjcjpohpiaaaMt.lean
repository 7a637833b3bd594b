import Derived.Test.YtkmhjcjpohpiaaaMs
/- Walks of mtbdd: what each function returns. Printed by a program out of notes. -/
namespace Go.Proofs.Ytkmhjcjpohpiaaa
open Go.Vc
open Classical
set_option maxRecDepth 100000
set_option maxHeartbeats 4000000
theorem table_c {V:HV} {la na:Value} {A:Mg} (hA:Mt V la na A) (hok:Ok A) (h12:A.v≤12) :
    FnC Try.prog 19 [(.agg #[(.int .i64 A.v),la,na,(.int .i64 A.r)])] V [] (fun v V' σ'=>σ' = []∧Ints .i64 V' v (vT A)):=by
 refine fn_intro (N:=22) Try.func19 (by kernel_rfl) rfl rfl rfl (Nat.le_of_ble_eq_true rfl) ?_
 intro w0 D
 have hbl:=Ints.bound hA.l
 have hbn:=SlS.bound hA.n
 have hv0:=hok.1.1
 have hpw:=pow2_12 (n:=A.v.toNat) (by omega)
 refine vc_seq ?_
 refine vc_region ?_
 let ζ7:Value:=.agg #[(.int .i64 A.v),la,na,(.int .i64 A.r)]
 refine ops_box (v:=ζ7) (cs:=[(.int .i64 A.v),la,na,(.int .i64 A.r)]) rfl rfl (fun b1=>?_)
 refine oq (qv_as (Value.slice none 0 0) rfl) ?_
 refine ops_nil ?_
 refine vc_seq ?_
 let ζ1:Asrt:=Arr 25 b1 [(.int .i64 A.v),la,na,(.int .i64 A.r)]
 refine vc_res (σ':=[ζ1]) rfl ?_
 refine vc_nil 3 1 ?_
 refine vc_region ?_
 refine oq (qv_as (Value.slice none 0 0) rfl) ?_
 refine ops_nil ?_
 refine vc_seq ?_
 refine vc_seq ?_
 refine vc_res (σ':=[ζ1,(Gr 3 1 ((Value.slice none 0 0)) 0 ([]))]) rfl ?_
 refine vc_region ?_
 refine oq (qv_fa (off:=0) Try.field25_0 rfl) ?_
 refine oq (qv_ldp (v:=(.int .i64 A.v)) Try.plain3 rfl (inOc (k:=0) rfl) rfl) ?_
 refine oq (qv_shli rfl rfl (by omega) (by omega) (by omega)) ?_
 refine oq (qv_mv (Value.int .i64 0) rfl) ?_
 refine ops_nil ?_
 refine vc_block ?_
 refine vc_loop (α:=Int × Value) (fun (xx:Int × Value)=>[(0,ζ7),(1,(Value.pointer (some ⟨b1,0,none⟩))),(2,(Value.slice none 0 0)),(7,(.int .i64 (1 * 2 ^ (A.v:Int).toNat))),(3,xx.2),(8,(Value.int .i64 xx.1))]) (fun (xx:Int × Value) V' σ'=>[ζ1,(Gr 3 1 xx.2 ((tkN A.v (vl A) xx.1.toNat).length) (((tkN A.v (vl A) xx.1.toNat).map (Value.int .i64))))]=σ'∧Mt V' la na A∧0≤xx.1∧xx.1≤(2:Int) ^ A.v.toNat) (fun (xx:Int × Value)=>((2:Int) ^ A.v.toNat - xx.1).toNat) (0,(Value.slice none 0 0)) ?_ ?_ ?_
 subst ζ7 ζ1; exact ⟨rfl,rfl,rfl,rfl,(by first | rfl | (first | omega | simp)),rfl,trivial⟩
 exact ⟨(show [ζ1,(Gr 3 1 ((Value.slice none 0 0)) ((tkN A.v (vl A) (0:Int).toNat).length) (((tkN A.v (vl A) (0:Int).toNat).map (Value.int .i64))))]=[ζ1,(Gr 3 1 ((Value.slice none 0 0)) 0 ([]))] from by rfl),hA,by omega,by omega⟩
 rintro ⟨k,ov⟩ e1 V0l σ0l hI0
 let ζ2:Asrt:=Gr 3 1 ov ((tkN A.v (vl A) k.toNat).length) (((tkN A.v (vl A) k.toNat).map (Value.int .i64)))
 obtain ⟨rfl,hA,i1,i2⟩:[ζ1,ζ2]=σ0l∧Mt V0l la na A∧0≤k∧k≤(2:Int) ^ A.v.toNat:=hI0
 change VC _ _ _ _ _ _ (upds 22 [(0,ζ7),(1,(Value.pointer (some ⟨b1,0,none⟩))),(2,(Value.slice none 0 0)),(7,(.int .i64 (1 * 2 ^ (A.v:Int).toNat))),(3,ov),(8,(Value.int .i64 k))] e1) _ _
 refine vc_seq ?_
 refine vc_res (σ':=[ζ1,ζ2]) rfl ?_
 refine vc_region ?_
 refine oq (qv_lss rfl rfl) ?_
 refine ops_nil ?_
 refine vc_seq ?_
 refine vc_if rfl (fun c1=>?_) (fun c1=>?_)
 refine vc_skip ?_
 refine vc_seq ?_
 refine vc_block ?_
 refine vc_seq ?_
 refine vc_region ?_
 refine oq (qv_mv (Value.int .i64 k) rfl) ?_
 refine oq (qv_as (Value.int .i64 k) rfl) ?_
 refine ops_nil ?_
 have htk:=tkN_len (g:=vl A) (vars:=A.v) (k:=k) (by omega) (by omega)
 refine vc_region_order (τ:=[ζ2]) [(0,false),(1,false),(2,false),(3,false),(4,false),(5,true),(6,false),(7,true),(8,true),(9,false)] [ζ1] Try.mixed (perm_idx _ _ [0,1] rfl rfl) (by kernel_rfl) ?_
 refine rq rfl (qv_mv ov rfl) ?_
 refine rq rfl (qv_ldm (vs:=[(.int .i64 A.v),la,na,(.int .i64 A.r)]) Try.agg25 rfl (inOc (k:=0) rfl) rfl rfl) ?_
 refine rq rfl (qv_fa (off:=0) Try.field25_0 rfl) ?_
 refine rq rfl (qv_ldp (v:=(.int .i64 A.v)) Try.plain3 rfl (inOc (k:=0) rfl) rfl) ?_
 refine rq rfl (qv_mv (Value.int .i64 k) rfl) ?_
 refine rl rfl ?_
 refine ops_call (σa:=[]) (σr:=[ζ1,ζ2]) (assignment_c (vars:=A.v) (k:=k) (by omega) (by omega) (by omega)) rfl rfl (.refl _) (fun r1 V1 sg1 hV1 hp1=>?_)
 obtain ⟨ba,rfl,rfl⟩:=hp1
 have hA:=hA.mono hV1
 let ζ5:Asrt:=Arr 4 ba (bvs (asL A.v k))
 refine ops_perm (σ':=[ζ1,ζ2,ζ5]) (perm_idx _ _ [1,2,0] rfl rfl) ?_
 refine ops_nil ⟨[ζ1,ζ5],[ζ2],hV1,(perm_idx _ _ [0,2,1] rfl rfl),⟨[ζ5],.refl _⟩,?_⟩
 subst ζ7 ζ1 ζ2 ζ5
 refine rq rfl (qv_call_own (v:=(.int .i64 (vl A (asg A.v k)))) (k:=1) (b:=ba) rfl (fun Vo hVo hbo=>by have h:=valueR_c (hA.mono hVo) (bls_cells ⟨_,_,hbo⟩ (asL_len _ _).symm (Nat.le_refl _) (by omega)) hok (by rw [asL_len]; omega); rw [vl_asL hok] at h; exact h) rfl rfl) ?_
 refine rl rfl ?_
 refine ops_lit (n:=1) (s:=1) (cs:=[(.int .i64 (vl A (asg A.v k)))]) Try.underlying22 Try.ti3 (Nat.le_of_ble_eq_true rfl) rfl rfl rfl (Nat.le_of_ble_eq_true rfl) rfl (fun b2=>?_)
 refine ops_nil ⟨[(Arr 25 b1 [(.int .i64 A.v),la,na,(.int .i64 A.r)]),(Arr 4 ba (bvs (asL A.v k))),(Arr 3 b2 [(.int .i64 (vl A (asg A.v k)))])],[(Gr 3 1 ov ((tkN A.v (vl A) k.toNat).length) (((tkN A.v (vl A) k.toNat).map (Value.int .i64))))],(Sub.refl _),(perm_idx _ _ [0,2,3,1] rfl rfl),⟨[(Arr 3 b2 [(.int .i64 (vl A (asg A.v k)))])],.refl _⟩,?_⟩
 refine rl rfl ?_
 refine ops_append (k:=1) (n:=(tkN A.v (vl A) k.toNat).length) (s:=1) (m:=1) (v:=ov) (xs:=((tkN A.v (vl A) k.toNat).map (Value.int .i64))) (news:=[(.int .i64 (vl A (asg A.v k)))]) Try.underlying22 Try.ti3 rfl (Nat.le_of_ble_eq_true rfl) rfl rfl rfl rfl (news_own (j:=3) rfl) (by simp [Value.oneCell']) (by omega) (by simp only [maxLen]; omega) (fun v1 hn1=>?_)
 let ζ1:Asrt:=Arr 25 b1 [(.int .i64 A.v),la,na,(.int .i64 A.r)]
 let ζ5:Asrt:=Arr 4 ba (bvs (asL A.v k))
 let ζ6:Asrt:=Gr 3 1 v1 (((tkN A.v (vl A) k.toNat).length+1)) ((((tkN A.v (vl A) k.toNat).map (Value.int .i64))++[(.int .i64 (vl A (asg A.v k)))]))
 refine ops_nil ⟨[ζ1,ζ5,(Arr 3 b2 [(.int .i64 (vl A (asg A.v k)))])],[ζ6],(Sub.refl _),(perm_idx _ _ [0,2,3,1] rfl rfl),⟨[],.refl _⟩,?_⟩
 refine rq rfl (qv_as v1 rfl) ?_
 refine rnil ?_
 refine vc_res (σ':=[ζ1,ζ6,ζ5,(Arr 3 b2 [(.int .i64 (vl A (asg A.v k)))])]) rfl ?_
 let ζ3:Asrt:=Gr 3 1 v1 (((tkN A.v (vl A) k.toNat).length+1)) ((((tkN A.v (vl A) k.toNat).map (Value.int .i64))++[(Value.int .i64 (vl A (asg A.v k)))]))
 let ζ4:Asrt:=Arr 25 b1 [(Value.int .i64 (A.v)),la,na,(Value.int .i64 (A.r))]
 refine vc_drop [ζ4,ζ3,ζ5] [(Arr 3 b2 [(Value.int .i64 (vl A (asg A.v k)))])] ((List.perm_middle (l₁:=[ζ4,ζ3,ζ5]) (l₂:=[])).trans (List.perm_append_comm (l₁:=[(Arr 3 b2 [(Value.int .i64 (vl A (asg A.v k)))])]))) ?_
 refine vc_drop [ζ4,ζ3] [ζ5] ((List.perm_middle (l₁:=[ζ4,ζ3]) (l₂:=[])).trans (List.perm_append_comm (l₁:=[ζ5]))) ?_
 refine vc_region ?_
 refine oq (qv_add rfl rfl (by omega)) ?_
 refine oq (qv_mv (.int .i64 (k+1)) rfl) ?_
 refine ops_nil ?_
 subst ζ1 ζ5 ζ6 ζ3 ζ4
 refine ⟨(k+1,v1),⟨rfl,rfl,rfl,rfl,rfl,(congrArg (Value.int .i64) (show (k+1)=((k+1)) from by omega)),trivial⟩,⟨(show [(Arr 25 b1 [(.int .i64 A.v),la,na,(.int .i64 A.r)]),(Gr 3 1 v1 ((tkN A.v (vl A) (k+1:Int).toNat).length) (((tkN A.v (vl A) (k+1:Int).toNat).map (Value.int .i64))))]=[(Arr 25 b1 [(.int .i64 A.v),la,na,(.int .i64 A.r)]),(Gr 3 1 v1 (((tkN A.v (vl A) k.toNat).length+1)) ((((tkN A.v (vl A) k.toNat).map (Value.int .i64))++[(.int .i64 (vl A (asg A.v k)))])))] from by rw [← tkN_step (g:=vl A) (by omega) (by omega),List.map_append,List.length_append]; rfl),hA,by omega,by omega⟩,by omega⟩
 refine vc_exit ?_
 refine blockQ_hit ?_
 refine vc_seq ?_
 refine vc_region ?_
 refine oq (qv_mv ov rfl) ?_
 refine oq (qv_as ov rfl) ?_
 refine ops_nil ?_
 refine vc_freezeG (v:=ov) (E:=3) (n:=(tkN A.v (vl A) k.toNat).length) (xs:=((tkN A.v (vl A) k.toNat).map (Value.int .i64))) (σr:=[(Arr 25 b1 [(Value.int .i64 (A.v)),la,na,(Value.int .i64 (A.r))])]) (List.perm_middle (l₁:=[(Arr 25 b1 [(Value.int .i64 (A.v)),la,na,(Value.int .i64 (A.r))])]) (l₂:=[])) (fun Vf1 hVf1 hc1=>?_)
 have hA:=hA.mono hVf1
 refine vc_drop [] [ζ1] (.refl _) ?_
 refine vc_ret ?_
 refine rq1 ov rfl ?_
 have q:=hc1
 subst ζ7 ζ1 ζ2
 rw [tkN_all hv0 (by omega)] at q
 exact ⟨rfl,q⟩
end Go.Proofs.Ytkmhjcjpohpiaaa
