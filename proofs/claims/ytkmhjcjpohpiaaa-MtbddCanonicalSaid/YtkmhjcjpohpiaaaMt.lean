import Derived.Test.YtkmhjcjpohpiaaaMs
/- Walks of mtbdd: what each function returns. Printed by a program out of notes. -/
namespace Go.Proofs.Ytkmhjcjpohpiaaa
open Go.Vc
open Classical
set_option maxRecDepth 100000
set_option maxHeartbeats 4000000
theorem Table_c {V:HV} {la na:Value} {A:Mg} (hA:Mt V la na A) :
    FnC Try.prog 17 [(.agg #[(.int .i64 A.v),la,na,(.int .i64 A.r)])] V [] (fun v V' σ'=>σ' = []∧∃ u,v=.tuple #[u,.int .i64 (tbE A)]∧Ints .i64 V' u (tbL A)):=by
 refine fn_intro (N:=53) Try.func17 (by kernel_rfl) rfl rfl rfl (Nat.le_of_ble_eq_true rfl) ?_
 intro w0 D
 have hbl:=Ints.bound hA.l
 have hbn:=SlS.bound hA.n
 refine vc_seq ?_
 refine vc_region ?_
 let ζ5:Value:=.agg #[(.int .i64 A.v),la,na,(.int .i64 A.r)]
 refine ops_box (v:=ζ5) (cs:=[(.int .i64 A.v),la,na,(.int .i64 A.r)]) rfl rfl (fun b1=>?_)
 refine oq (qv_as (Value.slice none 0 0) rfl) ?_
 refine oq (qv_as (Value.int .i64 0) rfl) ?_
 refine ops_nil ?_
 refine vc_seq ?_
 refine vc_seq ?_
 let ζ1:Asrt:=Arr 25 b1 [(.int .i64 A.v),la,na,(.int .i64 A.r)]
 refine vc_res (σ':=[ζ1]) rfl ?_
 refine vc_region ?_
 refine oq (qv_ldm (vs:=[(.int .i64 A.v),la,na,(.int .i64 A.r)]) Try.agg25 rfl (inOc (k:=0) rfl) rfl rfl) ?_
 refine ops_lit (n:=1) (s:=4) (cs:=[(.int .i64 A.v),la,na,(.int .i64 A.r)]) Try.underlying102 Try.ti25 (Nat.le_of_ble_eq_true rfl) rfl rfl rfl (Nat.le_of_ble_eq_true rfl) rfl (fun b2=>?_)
 let ζ4:Asrt:=Arr 25 b1 [(Value.int .i64 (A.v)),la,na,(Value.int .i64 (A.r))]
 refine ops_freeze (b:=b2) (o:=.cells ([(Value.int .i64 (A.v)),la,na,(Value.int .i64 (A.r))]:List Value).toArray 25 (0,0)) (σr:=[ζ4]) (List.perm_middle (l₁:=[ζ4]) (l₂:=[])) (fun Vf1 hVf1 hb1=>?_)
 have hc1:Cells Vf1 b2 [(.int .i64 A.v),la,na,(.int .i64 A.r)]:=⟨_,_,hb1⟩
 have hA:=hA.mono hVf1
 refine oq (qv_call (v:=(.int .i64 (vE [A]))) (checked_c (Mdl.one hc1 hA) (by show 1≤1; omega)) rfl rfl) ?_
 refine oq (qv_as (.int .i64 (vE [A])) rfl) ?_
 refine ops_nil ?_
 refine vc_seq ?_
 refine vc_region ?_
 refine oq (qv_mv (.int .i64 (vE [A])) rfl) ?_
 refine oq (qv_neq rfl rfl) ?_
 refine ops_nil ?_
 refine vc_if rfl (fun c1=>?_) (fun c1=>?_)
 refine vc_seq ?_
 refine vc_region ?_
 refine oq (qv_mv (.int .i64 (vE [A])) rfl) ?_
 refine oq (qv_as (Value.slice none 0 0) rfl) ?_
 refine oq (qv_as (.int .i64 (vE [A])) rfl) ?_
 refine ops_nil ?_
 refine vc_drop [] [ζ1] (.refl _) ?_
 refine vc_ret ?_
 refine rq2 (Value.slice none 0 0) (.int .i64 (vE [A])) rfl rfl ?_
 obtain ⟨hn,e1⟩:=vE1_n (A:=A) (by omega)
 have e:=tb_1 hn
 subst ζ5 ζ1 ζ4
 rw [e.1,e.2,e1]
 exact ⟨rfl,_,rfl,Ints.nil⟩
 refine vc_skip ?_
 refine vc_seq ?_
 refine vc_seq ?_
 have hz:vE [A]=0:=by omega
 have hok:=vE1_ok.1 hz
 refine vc_region ?_
 refine oq (qv_fa (off:=0) Try.field25_0 rfl) ?_
 refine oq (qv_ldp (v:=(.int .i64 A.v)) Try.plain3 rfl (inOc (k:=0) rfl) rfl) ?_
 refine oq (qv_gtr rfl rfl) ?_
 refine ops_nil ?_
 refine vc_if rfl (fun c2=>?_) (fun c2=>?_)
 refine vc_seq ?_
 refine vc_region ?_
 refine oq (qv_as (Value.slice none 0 0) rfl) ?_
 refine oq (qv_as (Value.int .i64 4) rfl) ?_
 refine ops_nil ?_
 refine vc_drop [] [ζ1] (.refl _) ?_
 refine vc_ret ?_
 refine rq2 (Value.slice none 0 0) (Value.int .i64 4) rfl rfl ?_
 have e:=tb_4 hok (by omega)
 subst ζ5 ζ1 ζ4
 rw [e.1,e.2]
 exact ⟨rfl,_,rfl,Ints.nil⟩
 refine vc_skip ?_
 refine vc_seq ?_
 have hv0:=hok.1.1
 have hpw:=pow2_12 (n:=A.v.toNat) (by omega)
 refine vc_region ?_
 refine oq (qv_fa (off:=0) Try.field25_0 rfl) ?_
 refine oq (qv_ldp (v:=(.int .i64 A.v)) Try.plain3 rfl (inOc (k:=0) rfl) rfl) ?_
 refine ops_make (n:=A.v) Try.underlying30 Try.ti4 rfl rfl rfl rfl (by omega) (by omega) (by omega) (fun b3=>?_)
 let ζ3:Value:=.slice (some ⟨b3,0,none⟩) (A.v).toNat (A.v).toNat
 refine oq (qv_as ζ3 rfl) ?_
 refine ops_nil ?_
 refine vc_seq ?_
 refine vc_res (σ':=[ζ1,(Arr 4 b3 (List.replicate (A.v).toNat (Value.bool false)))]) rfl ?_
 refine vc_nil 3 1 ?_
 refine vc_region ?_
 refine oq (qv_as (Value.slice none 0 0) rfl) ?_
 refine ops_nil ?_
 refine vc_seq ?_
 refine vc_seq ?_
 refine vc_res (σ':=[ζ1,(Arr 4 b3 (List.replicate (A.v).toNat (Value.bool false))),(Gr 3 1 ((Value.slice none 0 0)) 0 ([]))]) rfl ?_
 refine vc_region ?_
 refine oq (qv_fa (off:=0) Try.field25_0 rfl) ?_
 refine oq (qv_ldp (v:=(.int .i64 A.v)) Try.plain3 rfl (inOc (k:=0) rfl) rfl) ?_
 refine oq (qv_shli rfl rfl (by omega) (by omega) (by omega)) ?_
 refine oq (qv_mv (Value.int .i64 0) rfl) ?_
 refine ops_nil ?_
 refine vc_block ?_
 let ζ7:Value:=.bool (decide ((vE [A]) ≠ 0))
 refine vc_loop (α:=Int × Value × List Bool) (fun (xx:Int × Value × List Bool)=>[(0,ζ5),(1,(Value.pointer (some ⟨b1,0,none⟩))),(2,(Value.slice none 0 0)),(3,(Value.int .i64 0)),(4,(.int .i64 (vE [A]))),(5,ζ3),(13,ζ7),(17,(.bool (decide (12 < A.v)))),(23,(.int .i64 (1 * 2 ^ (A.v:Int).toNat))),(6,xx.2.1),(24,(Value.int .i64 xx.1))]) (fun (xx:Int × Value × List Bool) V' σ'=>Vf1=V'∧[ζ1,(Arr 4 b3 (bvs xx.2.2)),(Gr 3 1 xx.2.1 ((tkN A.v (vl A) xx.1.toNat).length) (((tkN A.v (vl A) xx.1.toNat).map (Value.int .i64))))]=σ'∧0≤xx.1∧xx.1≤(2:Int) ^ A.v.toNat∧(xx.2.2.length:Int)=A.v) (fun (xx:Int × Value × List Bool)=>((2:Int) ^ A.v.toNat - xx.1).toNat) (0,(Value.slice none 0 0),(List.replicate A.v.toNat false)) ?_ ?_ ?_
 subst ζ5 ζ1 ζ4 ζ3 ζ7; exact ⟨rfl,rfl,rfl,rfl,rfl,rfl,rfl,rfl,rfl,(by first | rfl | (first | omega | simp)),rfl,trivial⟩
 subst ζ5 ζ1 ζ4 ζ3 ζ7; exact (show Vf1=Vf1∧[(Arr 25 b1 [(.int .i64 A.v),la,na,(.int .i64 A.r)]),(Arr 4 b3 (bvs ((List.replicate A.v.toNat false):List Bool))),(Gr 3 1 ((Value.slice none 0 0):Value) ((tkN A.v (vl A) (0:Int).toNat).length) (((tkN A.v (vl A) (0:Int).toNat).map (Value.int .i64))))]=[(Arr 25 b1 [(.int .i64 A.v),la,na,(.int .i64 A.r)]),(Arr 4 b3 (List.replicate (A.v).toNat (Value.bool false))),(Gr 3 1 ((Value.slice none 0 0)) 0 ([]))]∧0≤(0:Int)∧(0:Int)≤(2:Int) ^ A.v.toNat∧(((List.replicate A.v.toNat false):List Bool).length:Int)=A.v from ⟨rfl,(show [(Arr 25 b1 [(.int .i64 A.v),la,na,(.int .i64 A.r)]),(Arr 4 b3 (bvs ((List.replicate A.v.toNat false)))),(Gr 3 1 ((Value.slice none 0 0)) ((tkN A.v (vl A) (0:Int).toNat).length) (((tkN A.v (vl A) (0:Int).toNat).map (Value.int .i64))))]=[(Arr 25 b1 [(.int .i64 A.v),la,na,(.int .i64 A.r)]),(Arr 4 b3 (List.replicate (A.v).toNat (Value.bool false))),(Gr 3 1 ((Value.slice none 0 0)) 0 ([]))] from by rw [← bvs_rep]; rfl),by omega,by omega,by rw [List.length_replicate]; omega⟩)
 rintro ⟨k,ov,Y⟩ e1 V0l σ0l hI0
 let ζ2:Asrt:=Gr 3 1 ov ((tkN A.v (vl A) k.toNat).length) (((tkN A.v (vl A) k.toNat).map (Value.int .i64)))
 obtain ⟨rfl,rfl,i1,i2,hy⟩:Vf1=V0l∧[ζ1,(Arr 4 b3 (bvs Y)),ζ2]=σ0l∧0≤k∧k≤(2:Int) ^ A.v.toNat∧(Y.length:Int)=A.v:=hI0
 let ζ8:Value:=Value.pointer (some ⟨b1,0,none⟩)
 change VC _ _ _ _ _ _ (upds 53 [(0,ζ5),(1,ζ8),(2,(Value.slice none 0 0)),(3,(Value.int .i64 0)),(4,(.int .i64 (vE [A]))),(5,ζ3),(13,ζ7),(17,(.bool (decide (12 < A.v)))),(23,(.int .i64 (1 * 2 ^ (A.v:Int).toNat))),(6,ov),(24,(Value.int .i64 k))] e1) _ _
 refine vc_seq ?_
 refine vc_res (σ':=[ζ1,(Arr 4 b3 (bvs Y)),ζ2]) rfl ?_
 refine vc_region ?_
 refine oq (qv_lss rfl rfl) ?_
 refine ops_nil ?_
 refine vc_seq ?_
 refine vc_if rfl (fun c3=>?_) (fun c3=>?_)
 refine vc_skip ?_
 refine vc_seq ?_
 refine vc_block ?_
 refine vc_seq ?_
 refine vc_region ?_
 refine oq (qv_mv (Value.int .i64 k) rfl) ?_
 refine oq (qv_as (Value.int .i64 k) rfl) ?_
 refine ops_nil ?_
 refine vc_seq ?_
 refine vc_seq ?_
 refine vc_region ?_
 refine oq (qv_mv ζ3 rfl) ?_
 refine oq (qv_len Try.underlying30 rfl rfl) ?_
 refine oq (qv_mv (Value.int .i64 0) rfl) ?_
 refine ops_nil ?_
 refine vc_block ?_
 refine vc_loop (α:=Int × List Bool) (fun (xx:Int × List Bool)=>[(0,ζ5),(1,ζ8),(2,(Value.slice none 0 0)),(3,(Value.int .i64 0)),(4,(.int .i64 (vE [A]))),(5,ζ3),(6,ov),(7,(Value.int .i64 k)),(13,ζ7),(17,(.bool (decide (12 < A.v)))),(23,(.int .i64 (1 * 2 ^ (A.v:Int).toNat))),(24,(Value.int .i64 k)),(25,(.bool (decide (k < (1 * 2 ^ (A.v:Int).toNat))))),(28,(.int .i64 (((A.v).toNat:Int)))),(29,(Value.int .i64 xx.1))]) (fun (xx:Int × List Bool) V' σ'=>Vf1=V'∧[ζ1,(Arr 4 b3 (bvs xx.2)),ζ2]=σ'∧0≤xx.1∧xx.1≤A.v∧(xx.2.length:Int)=A.v∧∀ x:Int,0≤x→x < xx.1→gb xx.2 x=asg A.v k x) (fun (xx:Int × List Bool)=>(A.v - xx.1).toNat) (0,Y) ?_ ?_ ?_
 exact ⟨rfl,rfl,rfl,rfl,rfl,rfl,rfl,rfl,rfl,rfl,rfl,rfl,rfl,rfl,rfl,trivial⟩
 exact ⟨rfl,rfl,by omega,by omega,hy,fun x a b=>by omega⟩
 rintro ⟨j,Z⟩ e2 V1l σ1l hI1
 obtain ⟨rfl,rfl,i3,i4,hz2,ha⟩:Vf1=V1l∧[ζ1,(Arr 4 b3 (bvs Z)),ζ2]=σ1l∧0≤j∧j≤A.v∧(Z.length:Int)=A.v∧∀ x:Int,0≤x→x < j→gb Z x=asg A.v k x:=hI1
 change VC _ _ _ _ _ _ (upds 53 [(0,ζ5),(1,ζ8),(2,(Value.slice none 0 0)),(3,(Value.int .i64 0)),(4,(.int .i64 (vE [A]))),(5,ζ3),(6,ov),(7,(Value.int .i64 k)),(13,ζ7),(17,(.bool (decide (12 < A.v)))),(23,(.int .i64 (1 * 2 ^ (A.v:Int).toNat))),(24,(Value.int .i64 k)),(25,(.bool (decide (k < (1 * 2 ^ (A.v:Int).toNat))))),(28,(.int .i64 (((A.v).toNat:Int)))),(29,(Value.int .i64 j))] e2) _ _
 refine vc_seq ?_
 refine vc_res (σ':=[ζ1,(Arr 4 b3 (bvs Z)),ζ2]) rfl ?_
 refine vc_region ?_
 refine oq (qv_lss rfl rfl) ?_
 refine ops_nil ?_
 refine vc_seq ?_
 refine vc_if rfl (fun c4=>?_) (fun c4=>?_)
 refine vc_skip ?_
 refine vc_seq ?_
 refine vc_block ?_
 refine vc_seq ?_
 refine vc_region ?_
 refine oq (qv_mv (Value.int .i64 j) rfl) ?_
 refine oq (qv_as (Value.int .i64 j) rfl) ?_
 refine ops_nil ?_
 refine vc_region ?_
 refine oq (qv_mv ζ3 rfl) ?_
 refine oq (qv_mv (Value.int .i64 j) rfl) ?_
 refine oq (qv_mv (Value.int .i64 k) rfl) ?_
 refine oq (qv_fa (off:=0) Try.field25_0 rfl) ?_
 refine oq (qv_ldp (v:=(.int .i64 A.v)) Try.plain3 rfl (inOc (k:=0) rfl) rfl) ?_
 refine oq (qv_sub rfl rfl (by omega)) ?_
 refine oq (qv_mv (Value.int .i64 j) rfl) ?_
 refine oq (qv_sub rfl rfl (by omega)) ?_
 refine oq (qv_shri rfl rfl (by omega) (by omega)) ?_
 refine oq (qv_and1 rfl rfl (Int.ediv_nonneg (by omega) (Int.le_of_lt (pow2_pos _)))) ?_
 refine oq (qv_eql rfl rfl) ?_
 subst ζ5 ζ1 ζ4 ζ3 ζ7 ζ2 ζ8
 refine oq (qv_ia (v:=(.slice (some ⟨b3,0,none⟩) (A.v).toNat (A.v).toNat)) (i:=j) Try.underlying30 Try.size4 rfl (inO (k:=1) rfl (by first | (simp only [bvs,List.length_map]; omega) | (simp only [bvs,List.length_map,List.length_set]; omega) | (simp only [List.length_replicate]; done) | (simp only [List.length_replicate]; omega)) (Nat.le_refl _) (by omega)) rfl (by omega) (by first | omega | (simp only [bvs,List.length_map,List.length_set]; omega))) ?_
 refine ops_ste (k:=1) (b:=b3) (n:=(A.v).toNat) (c:=(A.v).toNat) (i:=j) (cs:=(bvs Z)) Try.size4 rfl (rfl:ev _ _=(.bool (decide (((k / 2 ^ ((A.v - 1) - j:Int).toNat) % 2)=1)))) rfl rfl (by omega) (by first | omega | (simp only [bvs,List.length_map,List.length_set]; omega)) ?_
 refine ops_nil ?_
 refine vc_res (σ':=[(Arr 25 b1 [(.int .i64 A.v),la,na,(.int .i64 A.r)]),(Arr 4 b3 (((bvs Z)).set (j).toNat (.bool (decide (((k / 2 ^ ((A.v - 1) - j:Int).toNat) % 2)=1))))),(Gr 3 1 ov ((tkN A.v (vl A) k.toNat).length) (((tkN A.v (vl A) k.toNat).map (Value.int .i64))))]) rfl ?_
 refine vc_region ?_
 refine oq (qv_add rfl rfl (by omega)) ?_
 refine oq (qv_mv (.int .i64 (j+1)) rfl) ?_
 refine ops_nil ?_
 refine ⟨(j+1,Z.set j.toNat (decide (k / 2 ^ (A.v - 1 - j).toNat % 2=1))),⟨rfl,rfl,rfl,rfl,rfl,rfl,rfl,rfl,rfl,rfl,rfl,rfl,rfl,rfl,(congrArg (Value.int .i64) (show (j+1)=((j+1)) from by omega)),trivial⟩,⟨rfl,(show [(Arr 25 b1 [(.int .i64 A.v),la,na,(.int .i64 A.r)]),(Arr 4 b3 (bvs (Z.set j.toNat (decide (k / 2 ^ (A.v - 1 - j).toNat % 2=1))))),(Gr 3 1 ov ((tkN A.v (vl A) k.toNat).length) (((tkN A.v (vl A) k.toNat).map (Value.int .i64))))]=[(Arr 25 b1 [(.int .i64 A.v),la,na,(.int .i64 A.r)]),(Arr 4 b3 (((bvs Z)).set (j).toNat (.bool (decide (((k / 2 ^ ((A.v - 1) - j:Int).toNat) % 2)=1))))),(Gr 3 1 ov ((tkN A.v (vl A) k.toNat).length) (((tkN A.v (vl A) k.toNat).map (Value.int .i64))))] from by rw [bvs_set]),by omega,by omega,by rw [List.length_set]; exact hz2,as_step hz2 (by omega) (by omega) ha⟩,by omega⟩
 refine vc_exit ?_
 refine blockQ_hit ?_
 have hyn:Z.length=A.v.toNat:=by omega
 have hyz:Z=asL A.v k:=asL_of hyn (fun x a b=>ha x a (by omega))
 have hyv:vl A (eb Z)=vl A (asg A.v k):=by rw [hyz]; exact vl_asL hok k
 have htk:=tkN_len (g:=vl A) (vars:=A.v) (k:=k) (by omega) (by omega)
 refine vc_region ?_
 refine oq (qv_mv ov rfl) ?_
 refine oq (qv_ldm (vs:=[(.int .i64 A.v),la,na,(.int .i64 A.r)]) Try.agg25 rfl (inOc (k:=0) rfl) rfl rfl) ?_
 refine oq (qv_mv ζ3 rfl) ?_
 subst ζ5 ζ1 ζ4 ζ3 ζ7 ζ2 ζ8
 refine oq (qv_call_own (v:=(.int .i64 (vl A (asg A.v k)))) (k:=1) (b:=b3) rfl (fun Vo hVo hbo=>by have h:=value_c (hA.mono hVo) (bls_cells ⟨_,_,hbo⟩ hyn.symm (Nat.le_refl _) (by omega)) hok (by omega); rw [hyv] at h; exact h) rfl rfl) ?_
 refine ops_lit (n:=1) (s:=1) (cs:=[(.int .i64 (vl A (asg A.v k)))]) Try.underlying22 Try.ti3 (Nat.le_of_ble_eq_true rfl) rfl rfl rfl (Nat.le_of_ble_eq_true rfl) rfl (fun b4=>?_)
 refine ops_append (k:=2) (n:=(tkN A.v (vl A) k.toNat).length) (s:=1) (m:=1) (v:=ov) (xs:=((tkN A.v (vl A) k.toNat).map (Value.int .i64))) (news:=[(.int .i64 (vl A (asg A.v k)))]) Try.underlying22 Try.ti3 rfl (Nat.le_of_ble_eq_true rfl) rfl rfl rfl rfl (news_own (j:=3) rfl) (by simp [Value.oneCell']) (by omega) (by simp only [maxLen]; omega) (fun v1 hn1=>?_)
 refine oq (qv_as v1 rfl) ?_
 refine ops_nil ?_
 refine vc_res (σ':=[(Arr 25 b1 [(.int .i64 A.v),la,na,(.int .i64 A.r)]),(Arr 4 b3 (bvs Z)),(Gr 3 1 v1 (((tkN A.v (vl A) k.toNat).length+1)) ((((tkN A.v (vl A) k.toNat).map (Value.int .i64))++[(.int .i64 (vl A (asg A.v k)))]))),(Arr 3 b4 [(.int .i64 (vl A (asg A.v k)))])]) rfl ?_
 let ζ6:Value:=Value.int .i64 (vl A (asg A.v k))
 refine vc_drop [(Arr 25 b1 [(Value.int .i64 (A.v)),la,na,(Value.int .i64 (A.r))]),(Arr 4 b3 (bvs Z)),(Gr 3 1 v1 (((tkN A.v (vl A) k.toNat).length+1)) ((((tkN A.v (vl A) k.toNat).map (Value.int .i64))++[ζ6])))] [(Arr 3 b4 [ζ6])] ((List.perm_middle (l₁:=[(Arr 25 b1 [(Value.int .i64 (A.v)),la,na,(Value.int .i64 (A.r))]),(Arr 4 b3 (bvs Z)),(Gr 3 1 v1 (((tkN A.v (vl A) k.toNat).length+1)) ((((tkN A.v (vl A) k.toNat).map (Value.int .i64))++[ζ6])))]) (l₂:=[])).trans (List.perm_append_comm (l₁:=[(Arr 3 b4 [ζ6])]))) ?_
 refine vc_region ?_
 refine oq (qv_add rfl rfl (by omega)) ?_
 refine oq (qv_mv (.int .i64 (k+1)) rfl) ?_
 refine ops_nil ?_
 subst ζ6
 refine ⟨(k+1,v1,Z),⟨rfl,rfl,rfl,rfl,rfl,rfl,rfl,rfl,rfl,rfl,(congrArg (Value.int .i64) (show (k+1)=((k+1)) from by omega)),trivial⟩,(show Vf1=Vf1∧[(Arr 25 b1 [(.int .i64 A.v),la,na,(.int .i64 A.r)]),(Arr 4 b3 (bvs Z)),(Gr 3 1 v1 ((tkN A.v (vl A) (k+1:Int).toNat).length) (((tkN A.v (vl A) (k+1:Int).toNat).map (Value.int .i64))))]=[(Arr 25 b1 [(.int .i64 A.v),la,na,(.int .i64 A.r)]),(Arr 4 b3 (bvs Z)),(Gr 3 1 v1 (((tkN A.v (vl A) k.toNat).length+1)) ((((tkN A.v (vl A) k.toNat).map (Value.int .i64))++[(.int .i64 (vl A (asg A.v k)))])))]∧0≤(k+1:Int)∧(k+1:Int)≤(2:Int) ^ A.v.toNat∧(Z.length:Int)=A.v from ⟨rfl,(show [(Arr 25 b1 [(.int .i64 A.v),la,na,(.int .i64 A.r)]),(Arr 4 b3 (bvs Z)),(Gr 3 1 v1 ((tkN A.v (vl A) (k+1:Int).toNat).length) (((tkN A.v (vl A) (k+1:Int).toNat).map (Value.int .i64))))]=[(Arr 25 b1 [(.int .i64 A.v),la,na,(.int .i64 A.r)]),(Arr 4 b3 (bvs Z)),(Gr 3 1 v1 (((tkN A.v (vl A) k.toNat).length+1)) ((((tkN A.v (vl A) k.toNat).map (Value.int .i64))++[(.int .i64 (vl A (asg A.v k)))])))] from by rw [← tkN_step (g:=vl A) (by omega) (by omega),List.map_append,List.length_append]; rfl),by omega,by omega,by omega⟩),show ((2:Int) ^ A.v.toNat - (k+1)).toNat < ((2:Int) ^ A.v.toNat - k).toNat from by omega⟩
 refine vc_exit ?_
 refine blockQ_hit ?_
 refine vc_seq ?_
 refine vc_region ?_
 refine oq (qv_mv ov rfl) ?_
 refine oq (qv_as ov rfl) ?_
 refine oq (qv_as (Value.int .i64 0) rfl) ?_
 refine ops_nil ?_
 refine vc_freezeG (v:=ov) (E:=3) (n:=(tkN A.v (vl A) k.toNat).length) (xs:=((tkN A.v (vl A) k.toNat).map (Value.int .i64))) (σr:=[ζ4,(Arr 4 b3 (bvs Y))]) (List.perm_middle (l₁:=[ζ4,(Arr 4 b3 (bvs Y))]) (l₂:=[])) (fun Vf2 hVf2 hc2=>?_)
 have hA:=hA.mono hVf2
 have hc1:=hc1.mono hVf2
 refine vc_drop [] [ζ1,(Arr 4 b3 (bvs Y))] (.refl _) ?_
 refine vc_ret ?_
 refine rq2 ov (Value.int .i64 0) rfl rfl ?_
 have q:=hc2
 subst ζ5 ζ1 ζ4 ζ3 ζ7 ζ2 ζ8
 rw [tkN_all hv0 (by omega)] at q
 have e:=tb_0 hok (by omega)
 rw [e.1,e.2]
 exact ⟨rfl,_,rfl,q⟩
end Go.Proofs.Ytkmhjcjpohpiaaa
