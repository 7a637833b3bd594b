import Derived.Test.YtkmhjcjpohpiaaaMf
import Derived.Test.YtkmhjcjpohpiaaaWn
/- Walks of mtbdd: what each function returns. Printed by a program out of notes. -/
namespace Go.Proofs.Ytkmhjcjpohpiaaa
open Go.Vc
open Classical
set_option maxRecDepth 100000
set_option maxHeartbeats 4000000
theorem made_c {V:HV} {vars:Int} {Ds:List Mg} {F:Int→Int→Int→Int} {lv:Value} {lvs nvs:List Value} {fid:Nat} {fcaps:List Value} (hM:Mdl V lv lvs nvs Ds) (hd:DsOk vars Ds) (hsv:SameV vars Ds) (hrg:Rng Ds) (h1:1≤Ds.length) (hr:Rts Ds) (hf:∀ W,Vc.Sub V W→∀ x y z:Int,inR x→inR y→inR z→FnC Try.prog fid (.agg #[.int .i64 x,.int .i64 y,.int .i64 z] :: fcaps) W [] (fun v _ _=>v=.int .i64 (F x y z))) :
    FnC Try.prog 64 [(Value.func (.func fid) #[] fcaps.toArray),lv] V [] (fun v V' σ'=>σ' = []∧MRs V' v (mkD (vars) ((cT vars Ds F))) (mkE (vars) ((cT vars Ds F)))):=by
 refine fn_intro (N:=20) Try.func64 (by kernel_rfl) rfl rfl rfl (Nat.le_of_ble_eq_true rfl) ?_
 intro w0 D
 have hb:=SlS.bound hM.sl
 have hsub:=Vc.Sub.refl V
 have hv00:(dm Ds 0).v=vars:=hsv 0 (by omega) (by omega)
 refine vc_seq ?_
 refine vc_region ?_
 refine ops_alloc Try.ti25 rfl (fun b1=>?_)
 refine oq (qv_as (Value.int .i64 0) rfl) ?_
 refine ops_nil ?_
 refine vc_seq ?_
 let ζ1:Asrt:=Arr 25 b1 [(Value.int .i64 0),(Value.slice none 0 0),(Value.slice none 0 0),(Value.int .i64 0)]
 refine vc_res (σ':=[ζ1]) rfl ?_
 refine vc_region ?_
 refine ops_call (σa:=[]) (σr:=[ζ1]) (newBuilder_c) rfl rfl (.refl _) (fun r1 V1 sg1 hV1 hp1=>?_)
 obtain ⟨bb,ba,bi,rfl,rfl⟩:=hp1
 have hM:=hM.mono hV1
 have hsub:=hsub.mono hV1
 let ζ7:Value:=Value.pointer (some ⟨bb,0,none⟩)
 refine oq (qv_as ζ7 rfl) ?_
 refine ops_nil ?_
 refine vc_seq ?_
 let ζ4:Asrt:=Arr 113 bb [(Value.slice none 0 0),(Value.slice none 0 0),(Value.map (some ba)),(Value.map (some bi)),(.bool (decide (wd [])))]
 refine vc_res (σ':=[ζ4,(Mf ba (Value.int .i64) (Value.int .i64) (lfF [])),(Mf bi fkv (Value.int .i64) (idF [])),ζ1]) rfl ?_
 refine vc_nil 3 1 ?_
 refine vc_nil 80 3 ?_
 refine vc_region_order (τ:=[ζ4,(Mf ba (Value.int .i64) (Value.int .i64) (lfF [])),(Mf bi fkv (Value.int .i64) (idF [])),ζ1,(Gr 3 1 ((Value.slice none 0 0)) 0 ([])),(Gr 80 3 ((Value.slice none 0 0)) 0 ([]))]) [(0,false),(1,false),(2,false),(3,false),(4,false),(5,false),(6,false),(7,false),(8,true),(9,true),(10,false),(11,false),(12,true),(13,false)] [] Try.mixed (perm_idx _ _ [0,1,2,3,4,5] rfl rfl) (by kernel_rfl) ?_
 refine rq rfl (qv_mv ζ7 rfl) ?_
 refine rq rfl (qv_mv lv rfl) ?_
 refine rq rfl (qv_ias (v:=lv) (i:=0) Try.underlying102 Try.size25 rfl hM.sl rfl (by omega) (by omega)) ?_
 refine rq rfl (qv_fas Try.field25_0 rfl hM.sl (by omega) (by omega)) ?_
 refine rq rfl (qv_ldf (u:=(.int .i64 ((dm Ds (0)).v))) (v:=lv) (i:=0) Try.plain3 rfl hM.sl (by omega) (by omega) (by omega) (mdls_el (o:=0) (by omega) (by omega) (by omega) rfl)) ?_
 refine rq rfl (qv_mv ζ7 rfl) ?_
 refine rq rfl (qv_mv lv rfl) ?_
 refine rq rfl (qv_mv (Value.func (.func fid) #[] fcaps.toArray) rfl) ?_
 refine rl rfl ?_
 subst ζ1 ζ7 ζ4
 refine ops_call (σa:=[(Arr 113 bb [(Value.slice none 0 0),(Value.slice none 0 0),(Value.map (some ba)),(Value.map (some bi)),(.bool (decide (wd [])))]),(Gr 3 1 ((Value.slice none 0 0)) 0 ([])),(Gr 80 3 ((Value.slice none 0 0)) 0 ([])),(Mf ba (Value.int .i64) (Value.int .i64) (lfF [])),(Mf bi fkv (Value.int .i64) (idF []))]) (σr:=[(Arr 25 b1 [(Value.int .i64 0),(Value.slice none 0 0),(Value.slice none 0 0),(Value.int .i64 0)])]) (combine_c (F:=F) (u:=.slice none 0 0) (w:=.slice none 0 0) (L:=[]) (M:=[]) (ba:=ba) (bi:=bi) hM hd hsv hrg h1 hr bok_nil (by simp) (by simp) (fun W q=>hf W (hsub.trans q))) rfl rfl (perm_idx _ _ [0,4,5,1,2,3] rfl rfl) (fun r2 V2 sg2 hV2 hp2=>?_)
 obtain ⟨L1,M1,p1,u1,w1,rfl,rfl,hok1,hst1,hrc1,hml1,hll1⟩:=hp2
 obtain ⟨hbd1,hbe1⟩:=made_mk hd hr hok1 hst1 hrc1
 rw [hbd1] at hbe1
 have z1:M1.length≤0+1099511627776:=hml1
 have z2:L1.length≤0+1099511627776:=hll1
 have hM:=hM.mono hV2
 have hsub:=hsub.mono hV2
 let ζ1:Asrt:=Arr 25 b1 [(Value.int .i64 0),(Value.slice none 0 0),(Value.slice none 0 0),(Value.int .i64 0)]
 let ζ5:Asrt:=Arr 113 bb [u1,w1,(Value.map (some ba)),(Value.map (some bi)),(.bool (decide (wd L1)))]
 refine ops_perm (σ':=[ζ5,(Mf ba (Value.int .i64) (Value.int .i64) (lfF L1)),(Mf bi fkv (Value.int .i64) (idF M1)),ζ1,(Gr 3 1 u1 L1.length ((L1.map (Value.int .i64)))),(Gr 80 3 w1 M1.length ((fks M1)))]) (perm_idx _ _ [0,3,4,5,1,2] rfl rfl) ?_
 refine ops_nil ⟨[],[ζ5,(Mf ba (Value.int .i64) (Value.int .i64) (lfF L1)),(Mf bi fkv (Value.int .i64) (idF M1)),ζ1,(Gr 3 1 u1 L1.length ((L1.map (Value.int .i64)))),(Gr 80 3 w1 M1.length ((fks M1)))],hV2,(perm_idx _ _ [0,1,2,3,4,5] rfl rfl),⟨[],.refl _⟩,?_⟩
 refine rl rfl ?_
 subst ζ1 ζ5
 refine ops_call (σa:=[(Arr 113 bb [u1,w1,(Value.map (some ba)),(Value.map (some bi)),(.bool (decide (wd L1)))]),(Gr 3 1 u1 L1.length ((L1.map (Value.int .i64)))),(Gr 80 3 w1 M1.length ((fks M1))),(Mf ba (Value.int .i64) (Value.int .i64) (lfF L1)),(Mf bi fkv (Value.int .i64) (idF M1))]) (σr:=[(Arr 25 b1 [(Value.int .i64 0),(Value.slice none 0 0),(Value.slice none 0 0),(Value.int .i64 0)])]) (by have h:=finish_c (vars:=vars) (L:=L1) (M:=M1) (fa:=lfF L1) (fb:=idF M1) (root:=p1) (u:=u1) (w:=w1) (bb:=bb) (ba:=ba) (bi:=bi) (V:=V2) hd.v0 hok1 hst1.rf (by omega) (by omega); rw [hbd1,hbe1] at h; rw [hv00]; exact h) rfl rfl (perm_idx _ _ [0,4,5,1,2,3] rfl rfl) (fun r3 V3 sg3 hV3 hp3=>?_)
 obtain ⟨rfl,lv1,nv1,rfl,hMt⟩:=hp3
 have hM:=hM.mono hV3
 have hsub:=hsub.mono hV3
 refine ops_nil ⟨[],[(Arr 25 b1 [(Value.int .i64 0),(Value.slice none 0 0),(Value.slice none 0 0),(Value.int .i64 0)])],hV3,(perm_idx _ _ [0] rfl rfl),⟨[],.refl _⟩,?_⟩
 let ζ2:Value:=.int .i64 ((mkD (vars) ((cT vars Ds F))).v)
 let ζ3:Value:=.int .i64 ((mkD (vars) ((cT vars Ds F))).r)
 refine rq rfl (qv_ext (.agg #[ζ2,lv1,nv1,ζ3]) rfl rfl) ?_
 let ζ6:Value:=.int .i64 (mkE (vars) ((cT vars Ds F)))
 refine rq rfl (qv_ext ζ6 rfl rfl) ?_
 refine rl1 (by kernel_rfl) rfl ?_
 refine ops_stw (k:=0) (vs:=[ζ2,lv1,nv1,ζ3]) Try.size25 rfl rfl rfl (allc rfl (allc (Sl.one hMt.l) (allc (SlS.one hMt.n) (allc rfl rfl)))) rfl rfl ?_
 refine ops_nil ⟨[],[(Arr 25 b1 [ζ2,lv1,nv1,ζ3])],(perm_idx _ _ [0] rfl rfl),?_⟩
 refine rq rfl (qv_as ζ6 rfl) ?_
 refine rnil ?_
 refine vc_freeze (b:=b1) (o:=.cells ([(Value.int .i64 ((mkD (vars) ((cT vars Ds F))).v)),lv1,nv1,(Value.int .i64 ((mkD (vars) ((cT vars Ds F))).r))]:List Value).toArray 25 (0,0)) (σr:=[]) (List.perm_middle (l₁:=[]) (l₂:=[])) (fun Vf1 hVf1 hb1=>?_)
 have hc1:Cells Vf1 b1 [ζ2,lv1,nv1,ζ3]:=⟨_,_,hb1⟩
 have hM:=hM.mono hVf1
 have hsub:=hsub.mono hVf1
 have hMt:=hMt.mono hVf1
 refine vc_ret ?_
 refine rs2 _ ζ6 (rv_c (vs:=[ζ2,lv1,nv1,ζ3]) Try.agg25 rfl (inVc hc1) rfl rfl) (rv_t rfl) ?_
 exact ⟨rfl,lv1,nv1,rfl,hMt⟩
end Go.Proofs.Ytkmhjcjpohpiaaa
