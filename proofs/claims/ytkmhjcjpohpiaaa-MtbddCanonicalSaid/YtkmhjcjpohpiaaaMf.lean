import Derived.Test.YtkmhjcjpohpiaaaMe
/- Walks of mtbdd: what each function returns. Printed by a program out of notes. -/
namespace Go.Proofs.Ytkmhjcjpohpiaaa
open Go.Vc
open Classical
theorem orderF_c {V:HV} {vars:Int} {L:List Int} {M:List Fk} {cx:List Value} {u w:Value} {bb:Nat} {root:Int} (hv0:0≤vars) (hok:BOk vars L M) (hr:(bV L M).ok root) (hin:∀ z ∈ L,inR z) (hLb:L.length≤2199023255552) (hMb:M.length≤2199023255552) :
    FnC Try.prog 101 [pt bb,.int .i64 root] V [Arr 113 bb (u :: w :: cx),Gr 3 1 u L.length (L.map (Value.int .i64)),Gr 80 3 w M.length (fks M)] (fun v _ σ'=>∃ vn vl lvs nds,v=.tuple #[vn,vl]∧σ' = [Arr 113 bb (u :: w :: cx),Gr 3 1 u L.length (L.map (Value.int .i64)),Gr 80 3 w M.length (fks M),Gr 3 1 vn nds.length (nds.map (Value.int .i64)),Gr 3 1 vl lvs.length (lvs.map (Value.int .i64))]∧Fin vars L M root lvs nds (bD vars L M root)):=by
  refine FnC.drop ((order_c hok hr hin hLb hMb).mono ?_)
  rintro v V' σ' _ ⟨vn,vl,rfl,rfl⟩
  refine ⟨[Arr 113 bb (u :: w :: cx),Gr 3 1 u L.length (L.map (Value.int .i64)),Gr 80 3 w M.length (fks M),Gr 3 1 vn (oE M root).nd.length ((oE M root).nd.map (Value.int .i64)),Gr 3 1 vl (oE M root).lv.length ((lvS L (oE M root).lv).map (Value.int .i64))],[],perm_idx _ _ [2,3,4,0,1] rfl rfl,vn,vl,_,_,rfl,?_,fin_ok hv0 hok hr⟩
  rw [lvS_len]
set_option maxRecDepth 100000
set_option maxHeartbeats 4000000
theorem finish_c {V:HV} {vars:Int} {L:List Int} {M:List Fk} {u w:Value} {bb ba bi:Nat} {fa:Int→Option Int} {fb:Fk→Option Int} {root:Int} (hv0:0≤vars) (hok:BOk vars L M) (hr:(bV L M).ok root) (hLb:L.length≤2199023255552) (hMb:M.length≤2199023255552) :
    FnC Try.prog 60 [(Value.pointer (some ⟨bb,0,none⟩)),(Value.int .i64 vars),(Value.int .i64 root)] V [(Arr 113 bb [u,w,(Value.map (some ba)),(Value.map (some bi)),(.bool (decide (wd L)))]),(Gr 3 1 u L.length ((L.map (Value.int .i64)))),(Gr 80 3 w M.length ((fks M))),(Mf ba (Value.int .i64) (Value.int .i64) fa),(Mf bi fkv (Value.int .i64) fb)] (fun v V' σ'=>σ' = []∧MRs V' v (orZ (bD vars L M root) (finE L (bD vars L M root))) (finE L (bD vars L M root))):=by
 refine fn_intro (N:=108) Try.func60 (by kernel_rfl) rfl rfl rfl (Nat.le_of_ble_eq_true rfl) ?_
 intro w0 D
 refine vc_seq ?_
 let ζ2:Asrt:=Mf ba (Value.int .i64) (Value.int .i64) fa
 let ζ3:Asrt:=Mf bi fkv (Value.int .i64) fb
 let ζ7:Asrt:=Gr 3 1 u L.length ((L.map (Value.int .i64)))
 let ζ12:Asrt:=Arr 113 bb [u,w,(Value.map (some ba)),(Value.map (some bi)),(.bool (decide (wd L)))]
 let ζ18:Asrt:=Gr 80 3 w M.length ((fks M))
 refine vc_res (σ':=[ζ12,ζ7,ζ18,ζ2,ζ3]) rfl ?_
 refine vc_region ?_
 refine ops_alloc Try.ti25 rfl (fun b1=>?_)
 refine oq (qv_as (Value.int .i64 0) rfl) ?_
 refine ops_nil ?_
 refine vc_seq ?_
 refine vc_seq ?_
 let ζ1:Asrt:=Arr 25 b1 [(Value.int .i64 0),(Value.slice none 0 0),(Value.slice none 0 0),(Value.int .i64 0)]
 refine vc_res (σ':=[ζ12,ζ7,ζ18,ζ2,ζ3,ζ1]) rfl ?_
 refine vc_region ?_
 let ζ26:Value:=Value.pointer (some ⟨bb,0,none⟩)
 refine oq (qv_mv ζ26 rfl) ?_
 refine oq (qv_nilck rfl) ?_
 refine oq (qv_fa (off:=0) Try.field113_4 rfl) ?_
 refine oq (qv_ldp (v:=(.bool (decide (wd L)))) Try.plain4 rfl (inOc (k:=0) rfl) rfl) ?_
 refine ops_nil ?_
 refine vc_if rfl (fun c1=>?_) (fun c1=>?_)
 refine vc_seq ?_
 refine vc_region ?_
 refine oq (qv_build (out:=[(Value.int .i64 0),(Value.slice none 0 0),(Value.slice none 0 0),(Value.int .i64 0)]) Try.build25 [] rfl rfl) ?_
 refine ops_stw (k:=5) (vs:=[(Value.int .i64 0),(Value.slice none 0 0),(Value.slice none 0 0),(Value.int .i64 0)]) Try.size25 rfl rfl rfl rfl rfl rfl ?_
 refine oq (qv_as (Value.int .i64 3) rfl) ?_
 refine ops_nil ?_
 refine vc_freeze (b:=b1) (o:=.cells ([(Value.int .i64 0),(Value.slice none 0 0),(Value.slice none 0 0),(Value.int .i64 0)]:List Value).toArray 25 (0,0)) (σr:=[(Arr 113 bb [u,w,(Value.map (some ba)),(Value.map (some bi)),(Value.bool (decide (wd L)))]),ζ7,ζ18,ζ2,ζ3]) (List.perm_middle (l₁:=[(Arr 113 bb [u,w,(Value.map (some ba)),(Value.map (some bi)),(Value.bool (decide (wd L)))]),ζ7,ζ18,ζ2,ζ3]) (l₂:=[])) (fun Vf1 hVf1 hb1=>?_)
 have hc1:Cells Vf1 b1 [(Value.int .i64 0),(Value.slice none 0 0),(Value.slice none 0 0),(Value.int .i64 0)]:=⟨_,_,hb1⟩
 refine vc_drop [] [ζ12,ζ7,ζ18,ζ2,ζ3] (.refl _) ?_
 refine vc_ret ?_
 refine rs2 _ (Value.int .i64 3) (rv_c (vs:=[(Value.int .i64 0),(Value.slice none 0 0),(Value.slice none 0 0),(Value.int .i64 0)]) Try.agg25 rfl (inVc hc1) rfl rfl) (rv_t rfl) ?_
 subst ζ2 ζ3 ζ7 ζ12 ζ18 ζ1 ζ26
 rw [finE_w (by assumption),orZ_n (by omega)]
 exact ⟨rfl,MRs.zero⟩
 refine vc_skip ?_
 refine vc_seq ?_
 have hin:∀ z ∈ L,inR z:=fun z hz=>Classical.byContradiction fun q=>(by assumption:¬ wd L) ⟨z,hz,q⟩
 refine vc_region ?_
 refine oq (qv_mv ζ26 rfl) ?_
 refine oq (qv_mv (Value.int .i64 root) rfl) ?_
 refine ops_call (σa:=[ζ12,ζ7,ζ18]) (σr:=[ζ2,ζ3,ζ1]) (orderF_c (cx:=[.map (some ba),.map (some bi),.bool (decide (wd L))]) hv0 hok hr hin hLb hMb) rfl rfl (.refl _) (fun r1 V1 sg1 hV1 hp1=>?_)
 obtain ⟨vn,vl,lvs,nds,rfl,rfl,F⟩:=hp1
 obtain ⟨D,hD⟩:∃ D,D=bD vars L M root:=⟨_,rfl⟩
 subst ζ2 ζ3 ζ7 ζ12 ζ18 ζ1 ζ26
 rw [← hD] at F
 have hDl:=F.ll
 have hDn:=F.len
 let ζ1:Asrt:=Arr 25 b1 [(Value.int .i64 0),(Value.slice none 0 0),(Value.slice none 0 0),(Value.int .i64 0)]
 let ζ2:Asrt:=Mf ba (Value.int .i64) (Value.int .i64) fa
 let ζ3:Asrt:=Mf bi fkv (Value.int .i64) fb
 let ζ7:Asrt:=Gr 3 1 u L.length ((L.map (Value.int .i64)))
 let ζ12:Asrt:=Arr 113 bb [u,w,(Value.map (some ba)),(Value.map (some bi)),(.bool (decide (wd L)))]
 let ζ16:Asrt:=Gr 3 1 vn nds.length ((nds.map (Value.int .i64)))
 let ζ18:Asrt:=Gr 80 3 w M.length ((fks M))
 let ζ19:Asrt:=Gr 3 1 vl lvs.length ((lvs.map (Value.int .i64)))
 refine ops_perm (σ':=[ζ12,ζ7,ζ18,ζ2,ζ3,ζ1,ζ16,ζ19]) (perm_idx _ _ [0,1,2,5,6,7,3,4] rfl rfl) ?_
 refine oq (qv_mv (.tuple #[vn,vl]) rfl) ?_
 refine oq (qv_ext vn rfl rfl) ?_
 refine oq (qv_ext vl rfl rfl) ?_
 refine oq (qv_as vn rfl) ?_
 refine oq (qv_as vl rfl) ?_
 refine ops_nil ?_
 refine vc_seq ?_
 refine vc_seq ?_
 refine vc_res (σ':=[ζ12,ζ7,ζ18,ζ2,ζ3,ζ1,ζ16,ζ19]) rfl ?_
 refine vc_region ?_
 refine oq (qv_mv vl rfl) ?_
 refine oq (qv_lenGi Try.underlying22 rfl (inGi (k:=7) rfl)) ?_
 refine oq (qv_gtr rfl rfl) ?_
 refine oq (qv_mv (.bool (decide (4096 < ((lvs.length:Int))))) rfl) ?_
 by_cases g1:4096 < ((lvs.length:Int))
 refine os (want_fn g1 rfl rfl rfl) ?_
 refine os (want_fn g1 rfl rfl rfl) ?_
 refine os (want_fn g1 rfl rfl rfl) ?_
 refine oq (qv_pick_t g1 rfl (rfl:ev _ _=(Value.bool true))) ?_
 refine ops_nil ?_
 refine vc_tt rfl ?_
 refine vc_seq ?_
 refine vc_region ?_
 refine oq (qv_build (out:=[(Value.int .i64 0),(Value.slice none 0 0),(Value.slice none 0 0),(Value.int .i64 0)]) Try.build25 [] rfl rfl) ?_
 refine ops_stw (k:=5) (vs:=[(Value.int .i64 0),(Value.slice none 0 0),(Value.slice none 0 0),(Value.int .i64 0)]) Try.size25 rfl rfl rfl rfl rfl rfl ?_
 refine oq (qv_as (Value.int .i64 4) rfl) ?_
 refine ops_nil ?_
 refine vc_freeze (b:=b1) (o:=.cells ([(Value.int .i64 0),(Value.slice none 0 0),(Value.slice none 0 0),(Value.int .i64 0)]:List Value).toArray 25 (0,0)) (σr:=[(Arr 113 bb [u,w,(Value.map (some ba)),(Value.map (some bi)),(Value.bool (decide (wd L)))]),ζ7,ζ18,ζ2,ζ3,ζ16,ζ19]) (List.perm_middle (l₁:=[(Arr 113 bb [u,w,(Value.map (some ba)),(Value.map (some bi)),(Value.bool (decide (wd L)))]),ζ7,ζ18,ζ2,ζ3]) (l₂:=[ζ16,ζ19])) (fun Vf2 hVf2 hb2=>?_)
 have hc2:Cells Vf2 b1 [(Value.int .i64 0),(Value.slice none 0 0),(Value.slice none 0 0),(Value.int .i64 0)]:=⟨_,_,hb2⟩
 refine vc_drop [] [ζ12,ζ7,ζ18,ζ2,ζ3,ζ16,ζ19] (.refl _) ?_
 refine vc_ret ?_
 refine rs2 _ (Value.int .i64 4) (rv_c (vs:=[(Value.int .i64 0),(Value.slice none 0 0),(Value.slice none 0 0),(Value.int .i64 0)]) Try.agg25 rfl (inVc hc2) rfl rfl) (rv_t rfl) ?_
 have hb:big (bD vars L M root):=by rw [← hD]; unfold big; omega
 subst ζ1 ζ2 ζ3 ζ7 ζ12 ζ16 ζ18 ζ19
 rw [finE_b (by assumption) hb,orZ_n (by omega)]
 exact ⟨rfl,MRs.zero⟩
 refine og (qv_mv vn rfl) (want_f g1 rfl rfl rfl) ?_
 refine og (qv_lenGi Try.underlying22 rfl (inGi (k:=6) rfl)) (want_f g1 rfl rfl rfl) ?_
 refine og (qv_gtr rfl rfl) (want_f g1 rfl rfl rfl) ?_
 let ζ27:Value:=.bool (decide (4096 < ((nds.length:Int))))
 refine oq (qv_pick_f g1 rfl (rfl:ev _ _=ζ27)) ?_
 refine ops_nil ?_
 refine vc_if rfl (fun c2=>?_) (fun c2=>?_)
 refine vc_seq ?_
 refine vc_region ?_
 refine oq (qv_build (out:=[(Value.int .i64 0),(Value.slice none 0 0),(Value.slice none 0 0),(Value.int .i64 0)]) Try.build25 [] rfl rfl) ?_
 refine ops_stw (k:=5) (vs:=[(Value.int .i64 0),(Value.slice none 0 0),(Value.slice none 0 0),(Value.int .i64 0)]) Try.size25 rfl rfl rfl rfl rfl rfl ?_
 refine oq (qv_as (Value.int .i64 4) rfl) ?_
 refine ops_nil ?_
 refine vc_freeze (b:=b1) (o:=.cells ([(Value.int .i64 0),(Value.slice none 0 0),(Value.slice none 0 0),(Value.int .i64 0)]:List Value).toArray 25 (0,0)) (σr:=[(Arr 113 bb [u,w,(Value.map (some ba)),(Value.map (some bi)),(Value.bool (decide (wd L)))]),ζ7,ζ18,ζ2,ζ3,ζ16,ζ19]) (List.perm_middle (l₁:=[(Arr 113 bb [u,w,(Value.map (some ba)),(Value.map (some bi)),(Value.bool (decide (wd L)))]),ζ7,ζ18,ζ2,ζ3]) (l₂:=[ζ16,ζ19])) (fun Vf3 hVf3 hb3=>?_)
 have hc3:Cells Vf3 b1 [(Value.int .i64 0),(Value.slice none 0 0),(Value.slice none 0 0),(Value.int .i64 0)]:=⟨_,_,hb3⟩
 refine vc_drop [] [ζ12,ζ7,ζ18,ζ2,ζ3,ζ16,ζ19] (.refl _) ?_
 refine vc_ret ?_
 refine rs2 _ (Value.int .i64 4) (rv_c (vs:=[(Value.int .i64 0),(Value.slice none 0 0),(Value.slice none 0 0),(Value.int .i64 0)]) Try.agg25 rfl (inVc hc3) rfl rfl) (rv_t rfl) ?_
 have hb:big (bD vars L M root):=by rw [← hD]; unfold big; omega
 subst ζ1 ζ2 ζ3 ζ7 ζ12 ζ16 ζ18 ζ19 ζ27
 rw [finE_b (by assumption) hb,orZ_n (by omega)]
 exact ⟨rfl,MRs.zero⟩
 refine vc_skip ?_
 refine vc_seq ?_
 let ζ8:Asrt:=Arr 113 bb [u,w,(Value.map (some ba)),(Value.map (some bi)),(Value.bool (decide (wd L)))]
 refine vc_freezeG (v:=vl) (E:=3) (n:=lvs.length) (xs:=(lvs.map (Value.int .i64))) (σr:=[ζ8,ζ7,ζ18,ζ2,ζ3,ζ1,ζ16]) (List.perm_middle (l₁:=[ζ8,ζ7,ζ18,ζ2,ζ3,ζ1,ζ16]) (l₂:=[])) (fun Vf4 hVf4 hc4=>?_)
 refine vc_freezeG (v:=vn) (E:=3) (n:=nds.length) (xs:=(nds.map (Value.int .i64))) (σr:=[ζ8,ζ7,ζ18,ζ2,ζ3,ζ1]) (List.perm_middle (l₁:=[ζ8,ζ7,ζ18,ζ2,ζ3,ζ1]) (l₂:=[])) (fun Vf5 hVf5 hc5=>?_)
 have hc4:=hc4.mono hVf5
 refine vc_freezeS (v:=w) (E:=80) (n:=M.length) (xs:=(fks M)) (σr:=[ζ8,ζ7,ζ2,ζ3,ζ1]) (List.perm_middle (l₁:=[ζ8,ζ7]) (l₂:=[ζ2,ζ3,ζ1])) (fun Vf6 hVf6 hc6=>?_)
 have hc4:=hc4.mono hVf6
 have hc5:=hc5.mono hVf6
 refine vc_freezeG (v:=u) (E:=3) (n:=L.length) (xs:=(L.map (Value.int .i64))) (σr:=[ζ8,ζ2,ζ3,ζ1]) (List.perm_middle (l₁:=[ζ8]) (l₂:=[ζ2,ζ3,ζ1])) (fun Vf7 hVf7 hc7=>?_)
 have hc4:=hc4.mono hVf7
 have hc5:=hc5.mono hVf7
 have hc6:=hc6.mono hVf7
 refine vc_freeze (b:=bb) (o:=.cells ([u,w,(Value.map (some ba)),(Value.map (some bi)),(Value.bool (decide (wd L)))]:List Value).toArray 113 (0,0)) (σr:=[ζ2,ζ3,ζ1]) (List.perm_middle (l₁:=[]) (l₂:=[ζ2,ζ3,ζ1])) (fun Vf8 hVf8 hb8=>?_)
 have hc8:Cells Vf8 bb [u,w,(Value.map (some ba)),(Value.map (some bi)),(.bool (decide (wd L)))]:=⟨_,_,hb8⟩
 have hc4:=hc4.mono hVf8
 have hc5:=hc5.mono hVf8
 have hc6:=hc6.mono hVf8
 have hc7:=hc7.mono hVf8
 refine vc_region ?_
 refine ops_mkmap0 (Value.int .i64) (Value.int .i64) (fun b2=>?_)
 refine oq (qv_as (Value.map (some b2)) rfl) ?_
 refine ops_nil ?_
 refine vc_seq ?_
 refine vc_res (σ':=[ζ2,ζ3,ζ1,(Mf b2 (Value.int .i64) (Value.int .i64) (fun _=>none))]) rfl ?_
 skip
 refine vc_region ?_
 refine oq (qv_mv (Value.int .i64 vars) rfl) ?_
 refine oq (qv_build (out:=[(Value.int .i64 vars),(Value.slice none 0 0),(Value.slice none 0 0),(Value.int .i64 0)]) Try.build25 [(0,[(Value.int .i64 vars)])] rfl rfl) ?_
 refine ops_alloc Try.ti25 rfl (fun b3=>?_)
 refine ops_stw (k:=4) (vs:=[(Value.int .i64 vars),(Value.slice none 0 0),(Value.slice none 0 0),(Value.int .i64 0)]) Try.size25 rfl rfl rfl rfl rfl rfl ?_
 refine ops_nil ?_
 refine vc_seq ?_
 refine vc_seq ?_
 refine vc_res (σ':=[ζ2,ζ3,ζ1,(Mf b2 (Value.int .i64) (Value.int .i64) (fun _=>none)),(Arr 25 b3 [(Value.int .i64 vars),(Value.slice none 0 0),(Value.slice none 0 0),(Value.int .i64 0)])]) rfl ?_
 refine vc_nil 3 1 ?_
 refine vc_nil 80 3 ?_
 refine vc_region ?_
 refine oq (qv_mv vl rfl) ?_
 refine oq (qv_lenI Try.underlying22 rfl hc4) ?_
 refine oq (qv_mv (Value.int .i64 0) rfl) ?_
 refine ops_nil ?_
 refine vc_block ?_
 refine vc_loop (α:=Int × Value) (fun (xx:Int × Value)=>[(0,(Value.pointer (some ⟨bb,0,none⟩))),(1,(Value.int .i64 vars)),(2,(Value.int .i64 root)),(6,(Value.pointer (some ⟨b1,0,none⟩))),(7,(Value.int .i64 0)),(8,vn),(9,vl),(10,(Value.map (some b2))),(11,(Value.pointer (some ⟨b3,0,none⟩))),(20,(.bool (decide (wd L)))),(35,(.bool (decide (4096 < ((nds.length:Int)))))),(40,vl),(41,(.int .i64 ((lvs.length:Int)))),(42,(Value.int .i64 xx.1))]) (fun (xx:Int × Value) V' σ'=>Vf8=V'∧[(Mf ba (Value.int .i64) (Value.int .i64) fa),(Mf bi fkv (Value.int .i64) fb),(Arr 25 b1 [(Value.int .i64 0),(Value.slice none 0 0),(Value.slice none 0 0),(Value.int .i64 0)]),(Mf b2 (Value.int .i64) (Value.int .i64) (nmL lvs xx.1.toNat)),(Arr 25 b3 [(Value.int .i64 vars),xx.2,(Value.slice none 0 0),(Value.int .i64 0)]),(Gr 3 1 xx.2 xx.1.toNat (((D.L.take xx.1.toNat).map (Value.int .i64)))),(Gr 80 3 ((Value.slice none 0 0)) 0 ([]))]=σ'∧0≤xx.1∧xx.1≤lvs.length) (fun (xx:Int × Value)=>(lvs.length - xx.1).toNat) (0,(Value.slice none 0 0)) ?_ ?_ ?_
 exact ⟨rfl,rfl,rfl,rfl,rfl,rfl,rfl,rfl,rfl,rfl,rfl,rfl,rfl,rfl,trivial⟩
 exact ⟨rfl,rfl,by omega,by omega⟩
 rintro ⟨i,uo⟩ e1 V0l σ0l hI0
 let ζ5:Asrt:=Gr 3 1 uo i.toNat (((D.L.take i.toNat).map (Value.int .i64)))
 let ζ10:Asrt:=Arr 25 b3 [(Value.int .i64 vars),uo,(Value.slice none 0 0),(Value.int .i64 0)]
 let ζ11:Asrt:=Gr 80 3 ((Value.slice none 0 0)) 0 ([])
 obtain ⟨rfl,rfl,i1,i2⟩:Vf8=V0l∧[ζ2,ζ3,ζ1,(Mf b2 (Value.int .i64) (Value.int .i64) (nmL lvs i.toNat)),ζ10,ζ5,ζ11]=σ0l∧0≤i∧i≤lvs.length:=hI0
 let ζ26:Value:=Value.pointer (some ⟨bb,0,none⟩)
 let ζ32:Value:=Value.pointer (some ⟨b1,0,none⟩)
 let ζ33:Value:=Value.pointer (some ⟨b3,0,none⟩)
 let ζ37:Value:=.int .i64 ((lvs.length:Int))
 change VC _ _ _ _ _ _ (upds 108 [(0,ζ26),(1,(Value.int .i64 vars)),(2,(Value.int .i64 root)),(6,ζ32),(7,(Value.int .i64 0)),(8,vn),(9,vl),(10,(Value.map (some b2))),(11,ζ33),(20,(.bool (decide (wd L)))),(35,ζ27),(40,vl),(41,ζ37),(42,(Value.int .i64 i))] e1) _ _
 refine vc_seq ?_
 refine vc_res (σ':=[ζ2,ζ3,ζ1,(Mf b2 (Value.int .i64) (Value.int .i64) (nmL lvs i.toNat)),ζ10,ζ5,ζ11]) rfl ?_
 refine vc_region ?_
 refine oq (qv_lss rfl rfl) ?_
 refine ops_nil ?_
 refine vc_seq ?_
 refine vc_if rfl (fun c3=>?_) (fun c3=>?_)
 refine vc_skip ?_
 refine vc_seq ?_
 refine vc_block ?_
 refine vc_seq ?_
 have hlb:=F.lvb i (by omega) (by omega)
 have hlb1:=hlb.1
 have hlb2:=hlb.2
 refine vc_region ?_
 refine oq (qv_mv (Value.int .i64 i) rfl) ?_
 refine oq (qv_iai (v:=vl) (i:=i) Try.underlying22 Try.size3 rfl (inVi hc4) rfl (by omega) (by omega)) ?_
 refine oq (qv_ldi (v:=vl) (i:=i) Try.plain3 rfl (inVi hc4) (by omega) (by omega)) ?_
 refine oq (qv_as (Value.int .i64 i) rfl) ?_
 refine oq (qv_as (.int .i64 (gi lvs (i))) rfl) ?_
 refine ops_nil ?_
 refine vc_seq ?_
 refine vc_region ?_
 refine oq (qv_mv (Value.map (some b2)) rfl) ?_
 refine oq (qv_mv (.int .i64 (gi lvs (i))) rfl) ?_
 refine oq (qv_mul rfl rfl (by omega)) ?_
 refine oq (qv_mv (Value.int .i64 i) rfl) ?_
 refine ops_mapset (k:=3) (key:=2 * (gi lvs (i))) (v:=i) Try.underlying110 (KeyT.int Try.underlying3) rfl rfl rfl rfl ?_
 refine ops_nil ?_
 let ζ4:Asrt:=Mf b2 (Value.int .i64) (Value.int .i64) (setF (nmL lvs i.toNat) (2 * (gi lvs (i))) i)
 refine vc_res (σ':=[ζ2,ζ3,ζ1,ζ4,ζ10,ζ5,ζ11]) rfl ?_
 let ζ13:Value:=.int .i64 (gi L (gi lvs (i)))
 refine vc_join (α:=Nat × Value) (fun xx=>[(0,ζ26),(1,(Value.int .i64 vars)),(2,(Value.int .i64 root)),(6,ζ32),(7,(Value.int .i64 0)),(8,vn),(9,vl),(10,(Value.map (some b2))),(11,ζ33),(12,(Value.int .i64 i)),(13,(.int .i64 (gi lvs (i)))),(20,(.bool (decide (wd L)))),(35,ζ27),(40,vl),(41,ζ37),(42,(Value.int .i64 i)),(43,(.bool (decide (i < ((lvs.length:Int))))))]) (fun xx V' σ'=>Vf8=V'∧[ζ2,ζ3,ζ1,ζ4,(Arr 25 b3 [(Value.int .i64 vars),xx.2,(Value.slice none 0 0),(Value.int .i64 0)]),(Gr 3 1 xx.2 ((i.toNat+1)) ((((D.L.take i.toNat).map (Value.int .i64))++[ζ13]))),ζ11,(Arr 3 xx.1 [ζ13])]=σ') ?_ ?_
 refine vc_region_E (τ:=[ζ10,ζ5]) (n:=13) [ζ2,ζ3,ζ1,ζ4,ζ11] Try.mixed (perm_idx _ _ [0,1,2,3,6,4,5] rfl rfl) rfl ?_
 refine eq_ (i:=0) (by kernel_rfl) rfl (qv_fa (off:=0) Try.field25_1 rfl) ?_
 refine eq_ (i:=2) (by kernel_rfl) rfl (qv_mv ζ26 rfl) ?_
 refine eq_ (i:=3) (by kernel_rfl) rfl (qv_nilck rfl) ?_
 refine eq_ (i:=4) (by kernel_rfl) rfl (qv_fa (off:=0) Try.field113_0 rfl) ?_
 refine eq_ (i:=5) (by kernel_rfl) rfl (qv_ldp (v:=u) Try.plain22 rfl (inVc hc8) rfl) ?_
 refine eq_ (i:=6) (by kernel_rfl) rfl (qv_mv (.int .i64 (gi lvs (i))) rfl) ?_
 refine eq_ (i:=7) (by kernel_rfl) rfl (qv_iai (v:=u) (i:=gi lvs (i)) Try.underlying22 Try.size3 rfl (inVi hc7) rfl (by omega) (by omega)) ?_
 refine eq_ (i:=8) (by kernel_rfl) rfl (qv_ldi (v:=u) (i:=gi lvs (i)) Try.plain3 rfl (inVi hc7) (by omega) (by omega)) ?_
 refine el2 (i:=1) (j:=9) (by kernel_rfl) ?_ ?_
 refine ⟨_,rfl,?_⟩
 refine oq (qv_ldp (v:=uo) Try.plain22 rfl (inOc (k:=4) rfl) rfl) ?_
 refine ops_nil ⟨[ζ2,ζ3,ζ1,ζ4,ζ11],[ζ10,ζ5],(perm_idx _ _ [0,1,2,3,6,4,5] rfl rfl),.inl ⟨(Sub.refl _),[],.refl _⟩,?_⟩
 refine el1 (i:=9) (by kernel_rfl) ?_
 refine ⟨_,rfl,?_⟩
 refine ops_lit (n:=1) (s:=1) (cs:=[ζ13]) Try.underlying22 Try.ti3 (Nat.le_of_ble_eq_true rfl) rfl rfl rfl (Nat.le_of_ble_eq_true rfl) rfl (fun b4=>?_)
 refine ops_nil ⟨[ζ2,ζ3,ζ1,ζ4,ζ11,(Arr 3 b4 [ζ13])],[ζ10,ζ5],(perm_idx _ _ [0,1,2,3,6,7,4,5] rfl rfl),.inl ⟨(Sub.refl _),[(Arr 3 b4 [ζ13])],.refl _⟩,?_⟩
 refine el1 (i:=10) (by kernel_rfl) ?_
 refine ⟨_,rfl,?_⟩
 subst ζ1 ζ2 ζ3 ζ7 ζ12 ζ16 ζ18 ζ19 ζ27 ζ8 ζ5 ζ10 ζ11 ζ26 ζ32 ζ33 ζ37 ζ4 ζ13
 refine ops_append (k:=5) (n:=i.toNat) (s:=1) (m:=1) (v:=uo) (xs:=((D.L.take i.toNat).map (Value.int .i64))) (news:=[(.int .i64 (gi L (gi lvs (i))))]) Try.underlying22 Try.ti3 rfl (Nat.le_of_ble_eq_true rfl) rfl rfl rfl rfl (news_own (j:=7) rfl) (by simp [Value.oneCell']) (by omega) (by simp only [maxLen]; omega) (fun v1 hn1=>?_)
 let ζ1:Asrt:=Arr 25 b1 [(Value.int .i64 0),(Value.slice none 0 0),(Value.slice none 0 0),(Value.int .i64 0)]
 let ζ2:Asrt:=Mf ba (Value.int .i64) (Value.int .i64) fa
 let ζ3:Asrt:=Mf bi fkv (Value.int .i64) fb
 let ζ4:Asrt:=Mf b2 (Value.int .i64) (Value.int .i64) (setF (nmL lvs i.toNat) (2 * (gi lvs (i))) i)
 let ζ11:Asrt:=Gr 80 3 ((Value.slice none 0 0)) 0 ([])
 let ζ13:Value:=.int .i64 (gi L (gi lvs (i)))
 let ζ29:Asrt:=Gr 3 1 v1 ((i.toNat+1)) ((((D.L.take i.toNat).map (Value.int .i64))++[ζ13]))
 refine ops_nil ⟨[ζ2,ζ3,ζ1,ζ4,ζ11,(Arr 3 b4 [ζ13])],[(Arr 25 b3 [(Value.int .i64 vars),uo,(Value.slice none 0 0),(Value.int .i64 0)]),ζ29],(perm_idx _ _ [0,1,2,3,6,7,4,5] rfl rfl),.inl ⟨(Sub.refl _),[],.refl _⟩,?_⟩
 refine eq_ (i:=11) (by kernel_rfl) rfl (qv_fa (off:=0) Try.field25_1 rfl) ?_
 refine el1 (i:=12) (by kernel_rfl) ?_
 refine ⟨_,rfl,?_⟩
 refine ops_gr1 (k:=5) rfl (fun ho1=>?_)
 refine ops_stp (k:=4) (off:=1) (cs:=[(Value.int .i64 vars),uo,(Value.slice none 0 0),(Value.int .i64 0)]) Try.size22 rfl (rfl:ev _ _=v1) ho1 rfl (Nat.le_of_ble_eq_true rfl) ?_
 let ζ38:Asrt:=Arr 25 b3 [(Value.int .i64 vars),v1,(Value.slice none 0 0),(Value.int .i64 0)]
 refine ops_nil ⟨[ζ2,ζ3,ζ1,ζ4,ζ11,(Arr 3 b4 [ζ13])],[ζ38,ζ29],(perm_idx _ _ [0,1,2,3,6,7,4,5] rfl rfl),.inl ⟨(Sub.refl _),[],.refl _⟩,?_⟩
 refine enil (σ':=[ζ2,ζ3,ζ1,ζ4,ζ38,ζ29,ζ11,(Arr 3 b4 [ζ13])]) (by kernel_rfl) (perm_idx _ _ [0,1,2,3,4,5,6,7] rfl rfl) ⟨(b4,v1),⟨rfl,rfl,rfl,rfl,rfl,rfl,rfl,rfl,rfl,rfl,rfl,rfl,rfl,rfl,rfl,rfl,rfl,trivial⟩,rfl,rfl⟩
 refine ⟨_,rfl,?_⟩
 refine ops_lit (n:=1) (s:=1) (cs:=[ζ13]) Try.underlying22 Try.ti3 (Nat.le_of_ble_eq_true rfl) rfl rfl rfl (Nat.le_of_ble_eq_true rfl) rfl (fun b5=>?_)
 refine ops_nil ⟨[ζ2,ζ3,ζ1,ζ4,ζ11,(Arr 3 b5 [ζ13])],[ζ10,ζ5],(perm_idx _ _ [0,1,2,3,6,7,4,5] rfl rfl),.inl ⟨(Sub.refl _),[(Arr 3 b5 [ζ13])],.refl _⟩,?_⟩
 refine el1 (i:=1) (by kernel_rfl) ?_
 refine ⟨_,rfl,?_⟩
 refine oq (qv_ldp (v:=uo) Try.plain22 rfl (inOc (k:=4) rfl) rfl) ?_
 refine ops_nil ⟨[ζ2,ζ3,ζ1,ζ4,ζ11,(Arr 3 b5 [ζ13])],[ζ10,ζ5],(perm_idx _ _ [0,1,2,3,6,7,4,5] rfl rfl),.inl ⟨(Sub.refl _),[],.refl _⟩,?_⟩
 refine el1 (i:=10) (by kernel_rfl) ?_
 refine ⟨_,rfl,?_⟩
 subst ζ1 ζ2 ζ3 ζ7 ζ12 ζ16 ζ18 ζ19 ζ27 ζ8 ζ5 ζ10 ζ11 ζ26 ζ32 ζ33 ζ37 ζ4 ζ13
 refine ops_append (k:=5) (n:=i.toNat) (s:=1) (m:=1) (v:=uo) (xs:=((D.L.take i.toNat).map (Value.int .i64))) (news:=[(.int .i64 (gi L (gi lvs (i))))]) Try.underlying22 Try.ti3 rfl (Nat.le_of_ble_eq_true rfl) rfl rfl rfl rfl (news_own (j:=7) rfl) (by simp [Value.oneCell']) (by omega) (by simp only [maxLen]; omega) (fun v2 hn2=>?_)
 let ζ1:Asrt:=Arr 25 b1 [(Value.int .i64 0),(Value.slice none 0 0),(Value.slice none 0 0),(Value.int .i64 0)]
 let ζ2:Asrt:=Mf ba (Value.int .i64) (Value.int .i64) fa
 let ζ3:Asrt:=Mf bi fkv (Value.int .i64) fb
 let ζ4:Asrt:=Mf b2 (Value.int .i64) (Value.int .i64) (setF (nmL lvs i.toNat) (2 * (gi lvs (i))) i)
 let ζ11:Asrt:=Gr 80 3 ((Value.slice none 0 0)) 0 ([])
 let ζ13:Value:=.int .i64 (gi L (gi lvs (i)))
 let ζ30:Asrt:=Gr 3 1 v2 ((i.toNat+1)) ((((D.L.take i.toNat).map (Value.int .i64))++[ζ13]))
 refine ops_nil ⟨[ζ2,ζ3,ζ1,ζ4,ζ11,(Arr 3 b5 [ζ13])],[(Arr 25 b3 [(Value.int .i64 vars),uo,(Value.slice none 0 0),(Value.int .i64 0)]),ζ30],(perm_idx _ _ [0,1,2,3,6,7,4,5] rfl rfl),.inl ⟨(Sub.refl _),[],.refl _⟩,?_⟩
 refine eq_ (i:=11) (by kernel_rfl) rfl (qv_fa (off:=0) Try.field25_1 rfl) ?_
 refine el1 (i:=12) (by kernel_rfl) ?_
 refine ⟨_,rfl,?_⟩
 refine ops_gr1 (k:=5) rfl (fun ho2=>?_)
 refine ops_stp (k:=4) (off:=1) (cs:=[(Value.int .i64 vars),uo,(Value.slice none 0 0),(Value.int .i64 0)]) Try.size22 rfl (rfl:ev _ _=v2) ho2 rfl (Nat.le_of_ble_eq_true rfl) ?_
 let ζ39:Asrt:=Arr 25 b3 [(Value.int .i64 vars),v2,(Value.slice none 0 0),(Value.int .i64 0)]
 refine ops_nil ⟨[ζ2,ζ3,ζ1,ζ4,ζ11,(Arr 3 b5 [ζ13])],[ζ39,ζ30],(perm_idx _ _ [0,1,2,3,6,7,4,5] rfl rfl),.inl ⟨(Sub.refl _),[],.refl _⟩,?_⟩
 refine enil (σ':=[ζ2,ζ3,ζ1,ζ4,ζ39,ζ30,ζ11,(Arr 3 b5 [ζ13])]) (by kernel_rfl) (perm_idx _ _ [0,1,2,3,4,5,6,7] rfl rfl) ⟨(b5,v2),⟨rfl,rfl,rfl,rfl,rfl,rfl,rfl,rfl,rfl,rfl,rfl,rfl,rfl,rfl,rfl,rfl,rfl,trivial⟩,rfl,rfl⟩
 rintro ⟨z60,zg61⟩ e2 Vj1 σj1 hJ1
 let ζ28:Asrt:=Arr 25 b3 [(Value.int .i64 vars),zg61,(Value.slice none 0 0),(Value.int .i64 0)]
 obtain ⟨rfl,rfl⟩:Vf8=Vj1∧[ζ2,ζ3,ζ1,ζ4,ζ28,(Gr 3 1 zg61 ((i.toNat+1)) ((((D.L.take i.toNat).map (Value.int .i64))++[ζ13]))),ζ11,(Arr 3 z60 [ζ13])]=σj1:=hJ1
 change VC _ _ _ _ _ _ (upds 108 [(0,ζ26),(1,(Value.int .i64 vars)),(2,(Value.int .i64 root)),(6,ζ32),(7,(Value.int .i64 0)),(8,vn),(9,vl),(10,(Value.map (some b2))),(11,ζ33),(12,(Value.int .i64 i)),(13,(.int .i64 (gi lvs (i)))),(20,(.bool (decide (wd L)))),(35,ζ27),(40,vl),(41,ζ37),(42,(Value.int .i64 i)),(43,(.bool (decide (i < ((lvs.length:Int))))))] e2) _ _
 let ζ36:Value:=Value.int .i64 (gi L (gi lvs (i)))
 refine vc_drop [ζ2,ζ3,ζ1,ζ4,ζ28,(Gr 3 1 zg61 ((i.toNat+1)) ((((D.L.take i.toNat).map (Value.int .i64))++[ζ36]))),ζ11] [(Arr 3 z60 [ζ36])] ((List.perm_middle (l₁:=[ζ2,ζ3,ζ1,ζ4,ζ28,(Gr 3 1 zg61 ((i.toNat+1)) ((((D.L.take i.toNat).map (Value.int .i64))++[ζ36]))),ζ11]) (l₂:=[])).trans (List.perm_append_comm (l₁:=[(Arr 3 z60 [ζ36])]))) ?_
 refine vc_region ?_
 refine oq (qv_add rfl rfl (by omega)) ?_
 refine oq (qv_mv (.int .i64 (i+1)) rfl) ?_
 refine ops_nil ?_
 subst ζ1 ζ2 ζ3 ζ7 ζ12 ζ16 ζ18 ζ19 ζ27 ζ8 ζ5 ζ10 ζ11 ζ26 ζ32 ζ33 ζ37 ζ4 ζ13 ζ28 ζ36
 refine ⟨(i+1,zg61),⟨rfl,rfl,rfl,rfl,rfl,rfl,rfl,rfl,rfl,rfl,rfl,rfl,rfl,(congrArg (Value.int .i64) (show (i+1)=((i+1)) from by omega)),trivial⟩,⟨rfl,(show [(Mf ba (Value.int .i64) (Value.int .i64) fa),(Mf bi fkv (Value.int .i64) fb),(Arr 25 b1 [(Value.int .i64 0),(Value.slice none 0 0),(Value.slice none 0 0),(Value.int .i64 0)]),(Mf b2 (Value.int .i64) (Value.int .i64) (nmL lvs (i+1:Int).toNat)),(Arr 25 b3 [(Value.int .i64 vars),zg61,(Value.slice none 0 0),(Value.int .i64 0)]),(Gr 3 1 zg61 (i+1:Int).toNat (((D.L.take (i+1:Int).toNat).map (Value.int .i64)))),(Gr 80 3 ((Value.slice none 0 0)) 0 ([]))]=[(Mf ba (Value.int .i64) (Value.int .i64) fa),(Mf bi fkv (Value.int .i64) fb),(Arr 25 b1 [(Value.int .i64 0),(Value.slice none 0 0),(Value.slice none 0 0),(Value.int .i64 0)]),(Mf b2 (Value.int .i64) (Value.int .i64) (setF (nmL lvs i.toNat) (2 * (gi lvs (i))) i)),(Arr 25 b3 [(Value.int .i64 vars),zg61,(Value.slice none 0 0),(Value.int .i64 0)]),(Gr 3 1 zg61 ((i.toNat+1)) ((((D.L.take i.toNat).map (Value.int .i64))++[(.int .i64 (gi L (gi lvs (i))))]))),(Gr 80 3 ((Value.slice none 0 0)) 0 ([]))] from by rw [show (i+1).toNat=i.toNat+1 by omega,nmL_step (by omega),tki (by omega) (by omega),List.map_append,← fin_el F (by omega) (by omega)]; rfl),by omega,by omega⟩,by omega⟩
 refine vc_exit ?_
 refine blockQ_hit ?_
 refine vc_seq ?_
 refine vc_seq ?_
 refine vc_region ?_
 refine oq (qv_mv vn rfl) ?_
 refine oq (qv_lenI Try.underlying22 rfl hc5) ?_
 refine oq (qv_mv (Value.int .i64 0) rfl) ?_
 refine ops_nil ?_
 refine vc_block ?_
 refine vc_loop (α:=Int × Value) (fun (xx:Int × Value)=>[(0,(Value.pointer (some ⟨bb,0,none⟩))),(1,(Value.int .i64 vars)),(2,(Value.int .i64 root)),(6,(Value.pointer (some ⟨b1,0,none⟩))),(7,(Value.int .i64 0)),(8,vn),(9,vl),(10,(Value.map (some b2))),(11,(Value.pointer (some ⟨b3,0,none⟩))),(20,(.bool (decide (wd L)))),(35,(.bool (decide (4096 < ((nds.length:Int)))))),(40,vl),(41,(.int .i64 ((lvs.length:Int)))),(42,(Value.int .i64 i)),(43,(.bool (decide (i < ((lvs.length:Int)))))),(64,vn),(65,(.int .i64 ((nds.length:Int)))),(66,(Value.int .i64 xx.1))]) (fun (xx:Int × Value) V' σ'=>Vf8=V'∧[(Mf ba (Value.int .i64) (Value.int .i64) fa),(Mf bi fkv (Value.int .i64) fb),(Arr 25 b1 [(Value.int .i64 0),(Value.slice none 0 0),(Value.slice none 0 0),(Value.int .i64 0)]),(Mf b2 (Value.int .i64) (Value.int .i64) (nmN lvs nds xx.1.toNat)),(Arr 25 b3 [(Value.int .i64 vars),uo,xx.2,(Value.int .i64 0)]),(Gr 3 1 uo i.toNat (((D.L.take i.toNat).map (Value.int .i64)))),(Gr 80 3 xx.2 xx.1.toNat ((fks (D.N.take xx.1.toNat))))]=σ'∧0≤xx.1∧xx.1≤nds.length) (fun (xx:Int × Value)=>(nds.length - xx.1).toNat) (0,(Value.slice none 0 0)) ?_ ?_ ?_
 exact ⟨rfl,rfl,rfl,rfl,rfl,rfl,rfl,rfl,rfl,rfl,rfl,rfl,rfl,rfl,rfl,rfl,rfl,rfl,trivial⟩
 subst ζ1 ζ2 ζ3 ζ7 ζ12 ζ16 ζ18 ζ19 ζ27 ζ8 ζ5 ζ10 ζ11 ζ26 ζ32 ζ33 ζ37; exact ⟨rfl,(show [(Mf ba (Value.int .i64) (Value.int .i64) fa),(Mf bi fkv (Value.int .i64) fb),(Arr 25 b1 [(Value.int .i64 0),(Value.slice none 0 0),(Value.slice none 0 0),(Value.int .i64 0)]),(Mf b2 (Value.int .i64) (Value.int .i64) (nmN lvs nds (0:Int).toNat)),(Arr 25 b3 [(Value.int .i64 vars),uo,((Value.slice none 0 0)),(Value.int .i64 0)]),(Gr 3 1 uo i.toNat (((D.L.take i.toNat).map (Value.int .i64)))),(Gr 80 3 ((Value.slice none 0 0)) (0:Int).toNat ((fks (D.N.take (0:Int).toNat))))]=[(Mf ba (Value.int .i64) (Value.int .i64) fa),(Mf bi fkv (Value.int .i64) fb),(Arr 25 b1 [(Value.int .i64 0),(Value.slice none 0 0),(Value.slice none 0 0),(Value.int .i64 0)]),(Mf b2 (Value.int .i64) (Value.int .i64) (nmL lvs i.toNat)),(Arr 25 b3 [(Value.int .i64 vars),uo,(Value.slice none 0 0),(Value.int .i64 0)]),(Gr 3 1 uo i.toNat (((D.L.take i.toNat).map (Value.int .i64)))),(Gr 80 3 ((Value.slice none 0 0)) 0 ([]))] from by rw [show i.toNat=lvs.length by omega]; rfl),by omega,by omega⟩
 rintro ⟨j,wo⟩ e3 V1l σ1l hI1
 let ζ9:Asrt:=Mf b2 (Value.int .i64) (Value.int .i64) (nmN lvs nds j.toNat)
 let ζ25:Asrt:=Gr 80 3 wo j.toNat ((fks (D.N.take j.toNat)))
 let ζ31:Asrt:=Arr 25 b3 [(Value.int .i64 vars),uo,wo,(Value.int .i64 0)]
 obtain ⟨rfl,rfl,i3,i4⟩:Vf8=V1l∧[ζ2,ζ3,ζ1,ζ9,ζ31,ζ5,ζ25]=σ1l∧0≤j∧j≤nds.length:=hI1
 change VC _ _ _ _ _ _ (upds 108 [(0,ζ26),(1,(Value.int .i64 vars)),(2,(Value.int .i64 root)),(6,ζ32),(7,(Value.int .i64 0)),(8,vn),(9,vl),(10,(Value.map (some b2))),(11,ζ33),(20,(.bool (decide (wd L)))),(35,ζ27),(40,vl),(41,ζ37),(42,(Value.int .i64 i)),(43,(.bool (decide (i < ((lvs.length:Int)))))),(64,vn),(65,(.int .i64 ((nds.length:Int)))),(66,(Value.int .i64 j))] e3) _ _
 refine vc_seq ?_
 refine vc_res (σ':=[ζ2,ζ3,ζ1,ζ9,ζ31,ζ5,ζ25]) rfl ?_
 refine vc_region ?_
 refine oq (qv_lss rfl rfl) ?_
 refine ops_nil ?_
 refine vc_seq ?_
 refine vc_if rfl (fun c4=>?_) (fun c4=>?_)
 refine vc_skip ?_
 refine vc_seq ?_
 refine vc_block ?_
 refine vc_seq ?_
 have hlb:=F.ndb j (by omega) (by omega)
 have hlb1:=hlb.1
 have hlb2:=hlb.2
 refine vc_region ?_
 refine oq (qv_mv (Value.int .i64 j) rfl) ?_
 refine oq (qv_iai (v:=vn) (i:=j) Try.underlying22 Try.size3 rfl (inVi hc5) rfl (by omega) (by omega)) ?_
 refine oq (qv_ldi (v:=vn) (i:=j) Try.plain3 rfl (inVi hc5) (by omega) (by omega)) ?_
 refine oq (qv_as (Value.int .i64 j) rfl) ?_
 refine oq (qv_as (.int .i64 (gi nds (j))) rfl) ?_
 refine ops_nil ?_
 refine vc_seq ?_
 refine vc_region ?_
 refine oq (qv_mv ζ26 rfl) ?_
 refine oq (qv_nilck rfl) ?_
 refine oq (qv_fa (off:=0) Try.field113_1 rfl) ?_
 refine oq (qv_ldp (v:=w) Try.plain23 rfl (inVc hc8) rfl) ?_
 refine oq (qv_mv (.int .i64 (gi nds (j))) rfl) ?_
 refine oq (qv_ias (v:=w) (i:=gi nds (j)) Try.underlying23 Try.size80 rfl hc6 rfl (by omega) (by omega)) ?_
 let ζ20:Value:=.int .i64 ((fk M (gi nds (j))).v)
 let ζ34:Value:=.int .i64 ((fk M (gi nds (j))).l)
 let ζ35:Value:=.int .i64 ((fk M (gi nds (j))).h)
 refine oq (qv_lds (v:=w) (i:=gi nds (j)) (vs:=[ζ20,ζ34,ζ35]) Try.agg80 rfl hc6 (by omega) (by omega) (fks_at (by omega) (by omega))) ?_
 refine ops_alloc Try.ti80 rfl (fun b6=>?_)
 refine ops_stw (k:=7) (vs:=[ζ20,ζ34,ζ35]) Try.size80 rfl rfl rfl rfl rfl rfl ?_
 refine ops_nil ?_
 refine vc_seq ?_
 refine vc_res (σ':=[ζ2,ζ3,ζ1,ζ9,ζ31,ζ5,ζ25,(Arr 80 b6 [ζ20,ζ34,ζ35])]) rfl ?_
 refine vc_region ?_
 refine oq (qv_fa (off:=0) Try.field25_2 rfl) ?_
 refine oq (qv_ldp (v:=wo) Try.plain23 rfl (inOc (k:=4) rfl) rfl) ?_
 refine oq (qv_fa (off:=0) Try.field80_0 rfl) ?_
 refine oq (qv_ldp (v:=ζ20) Try.plain3 rfl (inOc (k:=7) rfl) rfl) ?_
 refine oq (qv_mv (Value.map (some b2)) rfl) ?_
 refine oq (qv_fa (off:=0) Try.field80_1 rfl) ?_
 refine oq (qv_ldp (v:=ζ34) Try.plain3 rfl (inOc (k:=7) rfl) rfl) ?_
 refine oq (qv_look1 (a0:=0) (key:=(fk M (gi nds (j))).l) (k:=3) Try.underlying110 (KeyT.int Try.underlying3) Try.ti3 rfl rfl rfl) ?_
 refine oq (qv_mv (Value.map (some b2)) rfl) ?_
 refine oq (qv_fa (off:=0) Try.field80_2 rfl) ?_
 refine oq (qv_ldp (v:=ζ35) Try.plain3 rfl (inOc (k:=7) rfl) rfl) ?_
 refine oq (qv_look1 (a0:=0) (key:=(fk M (gi nds (j))).h) (k:=3) Try.underlying110 (KeyT.int Try.underlying3) Try.ti3 rfl rfl rfl) ?_
 let ζ22:Value:=.int .i64 (((nmN lvs nds j.toNat) ((fk M (gi nds (j))).l)).getD 0)
 let ζ23:Value:=.int .i64 (((nmN lvs nds j.toNat) ((fk M (gi nds (j))).h)).getD 0)
 refine oq (qv_build (out:=[ζ20,ζ22,ζ23]) Try.build80 [(0,[ζ20]),(1,[ζ22]),(2,[ζ23])] rfl rfl) ?_
 refine ops_lit (n:=1) (s:=3) (cs:=[ζ20,ζ22,ζ23]) Try.underlying23 Try.ti80 (Nat.le_of_ble_eq_true rfl) rfl rfl rfl (Nat.le_of_ble_eq_true rfl) rfl (fun b7=>?_)
 subst ζ1 ζ2 ζ3 ζ7 ζ12 ζ16 ζ18 ζ19 ζ27 ζ8 ζ5 ζ10 ζ11 ζ26 ζ32 ζ33 ζ37 ζ9 ζ25 ζ31 ζ20 ζ34 ζ35 ζ22 ζ23
 refine ops_append (k:=6) (n:=j.toNat) (s:=3) (m:=1) (v:=wo) (xs:=(fks (D.N.take j.toNat))) (news:=[(.int .i64 ((fk M (gi nds (j))).v)),(.int .i64 (((nmN lvs nds j.toNat) ((fk M (gi nds (j))).l)).getD 0)),(.int .i64 (((nmN lvs nds j.toNat) ((fk M (gi nds (j))).h)).getD 0))]) Try.underlying23 Try.ti80 rfl (Nat.le_of_ble_eq_true rfl) rfl rfl rfl rfl (news_own (j:=8) rfl) (by simp [Value.oneCell']) (by omega) (by simp only [maxLen]; omega) (fun v3 hn3=>?_)
 refine oq (qv_fa (off:=0) Try.field25_2 rfl) ?_
 refine ops_gr1 (k:=6) rfl (fun ho3=>?_)
 refine ops_stp (k:=4) (off:=2) (cs:=[(Value.int .i64 vars),uo,wo,(Value.int .i64 0)]) Try.size23 rfl (rfl:ev _ _=v3) ho3 rfl (Nat.le_of_ble_eq_true rfl) ?_
 refine ops_nil ?_
 let ζ1:Asrt:=Arr 25 b1 [(Value.int .i64 0),(Value.slice none 0 0),(Value.slice none 0 0),(Value.int .i64 0)]
 let ζ2:Asrt:=Mf ba (Value.int .i64) (Value.int .i64) fa
 let ζ3:Asrt:=Mf bi fkv (Value.int .i64) fb
 let ζ5:Asrt:=Gr 3 1 uo i.toNat (((D.L.take i.toNat).map (Value.int .i64)))
 let ζ20:Value:=.int .i64 ((fk M (gi nds (j))).v)
 let ζ21:Asrt:=Arr 25 b3 [(Value.int .i64 vars),uo,v3,(Value.int .i64 0)]
 let ζ22:Value:=.int .i64 (((nmN lvs nds j.toNat) ((fk M (gi nds (j))).l)).getD 0)
 let ζ23:Value:=.int .i64 (((nmN lvs nds j.toNat) ((fk M (gi nds (j))).h)).getD 0)
 let ζ34:Value:=.int .i64 ((fk M (gi nds (j))).l)
 let ζ35:Value:=.int .i64 ((fk M (gi nds (j))).h)
 let ζ40:Asrt:=Gr 80 3 v3 ((j.toNat+1)) (((fks (D.N.take j.toNat))++[ζ20,ζ22,ζ23]))
 refine vc_res (σ':=[ζ2,ζ3,ζ1,(Mf b2 (Value.int .i64) (Value.int .i64) (nmN lvs nds j.toNat)),ζ21,ζ5,ζ40,(Arr 80 b6 [ζ20,ζ34,ζ35]),(Arr 80 b7 [ζ20,ζ22,ζ23])]) rfl ?_
 refine vc_region ?_
 refine oq (qv_mv (Value.map (some b2)) rfl) ?_
 refine oq (qv_mv (.int .i64 (gi nds (j))) rfl) ?_
 refine oq (qv_mul rfl rfl (by omega)) ?_
 refine oq (qv_add rfl rfl (by omega)) ?_
 refine oq (qv_mv vl rfl) ?_
 refine oq (qv_lenI Try.underlying22 rfl hc4) ?_
 refine oq (qv_mv (Value.int .i64 j) rfl) ?_
 refine oq (qv_add rfl rfl (by omega)) ?_
 refine ops_mapset (k:=3) (key:=(2 * (gi nds (j)))+1) (v:=((lvs.length:Int))+j) Try.underlying110 (KeyT.int Try.underlying3) rfl rfl rfl rfl ?_
 refine ops_nil ?_
 let ζ15:Asrt:=Mf b2 (Value.int .i64) (Value.int .i64) (setF (nmN lvs nds j.toNat) ((2 * (gi nds (j)))+1) (((lvs.length:Int))+j))
 refine vc_res (σ':=[ζ2,ζ3,ζ1,ζ15,ζ21,ζ5,ζ40,(Arr 80 b6 [ζ20,ζ34,ζ35]),(Arr 80 b7 [ζ20,ζ22,ζ23])]) rfl ?_
 let ζ6:Asrt:=Gr 80 3 v3 ((j.toNat+1)) (((fks (D.N.take j.toNat))++[(Value.int .i64 ((fk M (gi nds (j))).v)),(Value.int .i64 (((nmN lvs nds j.toNat) ((fk M (gi nds (j))).l)).getD 0)),(Value.int .i64 (((nmN lvs nds j.toNat) ((fk M (gi nds (j))).h)).getD 0))]))
 let ζ17:Asrt:=Arr 80 b6 [(Value.int .i64 ((fk M (gi nds (j))).v)),(Value.int .i64 ((fk M (gi nds (j))).l)),(Value.int .i64 ((fk M (gi nds (j))).h))]
 refine vc_drop [ζ2,ζ3,ζ1,ζ15,ζ21,ζ5,ζ6,ζ17] [(Arr 80 b7 [(Value.int .i64 ((fk M (gi nds (j))).v)),(Value.int .i64 (((nmN lvs nds j.toNat) ((fk M (gi nds (j))).l)).getD 0)),(Value.int .i64 (((nmN lvs nds j.toNat) ((fk M (gi nds (j))).h)).getD 0))])] ((List.perm_middle (l₁:=[ζ2,ζ3,ζ1,ζ15,ζ21,ζ5,ζ6,ζ17]) (l₂:=[])).trans (List.perm_append_comm (l₁:=[(Arr 80 b7 [(Value.int .i64 ((fk M (gi nds (j))).v)),(Value.int .i64 (((nmN lvs nds j.toNat) ((fk M (gi nds (j))).l)).getD 0)),(Value.int .i64 (((nmN lvs nds j.toNat) ((fk M (gi nds (j))).h)).getD 0))])]))) ?_
 refine vc_drop [ζ2,ζ3,ζ1,ζ15,ζ21,ζ5,ζ6] [ζ17] ((List.perm_middle (l₁:=[ζ2,ζ3,ζ1,ζ15,ζ21,ζ5,ζ6]) (l₂:=[])).trans (List.perm_append_comm (l₁:=[ζ17]))) ?_
 refine vc_region ?_
 refine oq (qv_add rfl rfl (by omega)) ?_
 refine oq (qv_mv (.int .i64 (j+1)) rfl) ?_
 refine ops_nil ?_
 subst ζ1 ζ2 ζ3 ζ5 ζ20 ζ21 ζ22 ζ23 ζ34 ζ35 ζ40 ζ15 ζ6 ζ17
 refine ⟨(j+1,v3),⟨rfl,rfl,rfl,rfl,rfl,rfl,rfl,rfl,rfl,rfl,rfl,rfl,rfl,rfl,rfl,rfl,rfl,(congrArg (Value.int .i64) (show (j+1)=((j+1)) from by omega)),trivial⟩,⟨rfl,(show [(Mf ba (Value.int .i64) (Value.int .i64) fa),(Mf bi fkv (Value.int .i64) fb),(Arr 25 b1 [(Value.int .i64 0),(Value.slice none 0 0),(Value.slice none 0 0),(Value.int .i64 0)]),(Mf b2 (Value.int .i64) (Value.int .i64) (nmN lvs nds (j+1:Int).toNat)),(Arr 25 b3 [(Value.int .i64 vars),uo,v3,(Value.int .i64 0)]),(Gr 3 1 uo i.toNat (((D.L.take i.toNat).map (Value.int .i64)))),(Gr 80 3 v3 (j+1:Int).toNat ((fks (D.N.take (j+1:Int).toNat))))]=[(Mf ba (Value.int .i64) (Value.int .i64) fa),(Mf bi fkv (Value.int .i64) fb),(Arr 25 b1 [(Value.int .i64 0),(Value.slice none 0 0),(Value.slice none 0 0),(Value.int .i64 0)]),(Mf b2 (Value.int .i64) (Value.int .i64) (setF (nmN lvs nds j.toNat) ((2 * (gi nds (j)))+1) (((lvs.length:Int))+j))),(Arr 25 b3 [(Value.int .i64 vars),uo,v3,(Value.int .i64 0)]),(Gr 3 1 uo i.toNat (((D.L.take i.toNat).map (Value.int .i64)))),(Gr 80 3 v3 ((j.toNat+1)) (((fks (D.N.take j.toNat))++[(.int .i64 ((fk M (gi nds (j))).v)),(.int .i64 (((nmN lvs nds j.toNat) ((fk M (gi nds (j))).l)).getD 0)),(.int .i64 (((nmN lvs nds j.toNat) ((fk M (gi nds (j))).h)).getD 0))])))] from by rw [show (j+1).toNat=j.toNat+1 by omega,nmN_step (by omega),tkf (by omega) (by omega),fks_snoc,F.nd j (by omega) (by omega)]; try rfl),by omega,by omega⟩,by omega⟩
 refine vc_exit ?_
 refine blockQ_hit ?_
 refine vc_seq ?_
 refine vc_region ?_
 refine oq (qv_mv (Value.map (some b2)) rfl) ?_
 refine oq (qv_mv (Value.int .i64 root) rfl) ?_
 refine oq (qv_look1 (a0:=0) (key:=root) (k:=3) Try.underlying110 (KeyT.int Try.underlying3) Try.ti3 rfl rfl rfl) ?_
 refine oq (qv_fa (off:=0) Try.field25_3 rfl) ?_
 let ζ24:Value:=.int .i64 (((nmN lvs nds j.toNat) root).getD 0)
 refine ops_stp (k:=4) (off:=3) (cs:=[(Value.int .i64 vars),uo,wo,(Value.int .i64 0)]) Try.size3 rfl (rfl:ev _ _=ζ24) rfl rfl (Nat.le_of_ble_eq_true rfl) ?_
 refine ops_nil ?_
 refine vc_seq ?_
 refine vc_res (σ':=[ζ2,ζ3,ζ1,ζ9,(Arr 25 b3 [(Value.int .i64 vars),uo,wo,ζ24]),ζ5,ζ25]) rfl ?_
 let ζ14:Asrt:=Arr 25 b3 [(Value.int .i64 vars),uo,wo,(Value.int .i64 (((nmN lvs nds j.toNat) root).getD 0))]
 refine vc_freezeG (v:=uo) (E:=3) (n:=i.toNat) (xs:=((D.L.take i.toNat).map (Value.int .i64))) (σr:=[ζ2,ζ3,ζ1,ζ9,ζ14,ζ25]) (List.perm_middle (l₁:=[ζ2,ζ3,ζ1,ζ9,ζ14]) (l₂:=[ζ25])) (fun Vf9 hVf9 hc9=>?_)
 have hc4:=hc4.mono hVf9
 have hc5:=hc5.mono hVf9
 have hc6:=hc6.mono hVf9
 have hc7:=hc7.mono hVf9
 have hc8:=hc8.mono hVf9
 refine vc_freezeS (v:=wo) (E:=80) (n:=j.toNat) (xs:=(fks (D.N.take j.toNat))) (σr:=[ζ2,ζ3,ζ1,ζ9,ζ14]) (List.perm_middle (l₁:=[ζ2,ζ3,ζ1,ζ9,ζ14]) (l₂:=[])) (fun Vf10 hVf10 hc10=>?_)
 have hc4:=hc4.mono hVf10
 have hc5:=hc5.mono hVf10
 have hc6:=hc6.mono hVf10
 have hc7:=hc7.mono hVf10
 have hc8:=hc8.mono hVf10
 have hc9:=hc9.mono hVf10
 refine vc_region ?_
 skip
 refine oq (qv_ldm (vs:=[(Value.int .i64 vars),uo,wo,ζ24]) Try.agg25 rfl (inOc (k:=4) rfl) rfl rfl) ?_
 refine ops_stw (k:=2) (vs:=[(Value.int .i64 vars),uo,wo,ζ24]) Try.size25 rfl rfl rfl (allc rfl (allc (Sl.one hc9) (allc (SlS.one hc10) (allc rfl rfl)))) rfl rfl ?_
 refine oq (qv_as (Value.int .i64 0) rfl) ?_
 refine ops_nil ?_
 refine vc_freeze (b:=b1) (o:=.cells ([(Value.int .i64 vars),uo,wo,(Value.int .i64 (((nmN lvs nds j.toNat) root).getD 0))]:List Value).toArray 25 (0,0)) (σr:=[ζ2,ζ3,ζ9,ζ14]) (List.perm_middle (l₁:=[ζ2,ζ3]) (l₂:=[ζ9,ζ14])) (fun Vf11 hVf11 hb11=>?_)
 have hc11:Cells Vf11 b1 [(Value.int .i64 vars),uo,wo,ζ24]:=⟨_,_,hb11⟩
 have hc4:=hc4.mono hVf11
 have hc5:=hc5.mono hVf11
 have hc6:=hc6.mono hVf11
 have hc7:=hc7.mono hVf11
 have hc8:=hc8.mono hVf11
 have hc9:=hc9.mono hVf11
 have hc10:=hc10.mono hVf11
 refine vc_drop [] [ζ2,ζ3,ζ9,(Arr 25 b3 [(Value.int .i64 vars),uo,wo,ζ24])] (.refl _) ?_
 refine vc_ret ?_
 refine rs2 _ (Value.int .i64 0) (rv_c (vs:=[(Value.int .i64 vars),uo,wo,ζ24]) Try.agg25 rfl (inVc hc11) rfl rfl) (rv_t rfl) ?_
 have hb:¬ big (bD vars L M root):=by rw [← hD]; unfold big; omega
 subst ζ1 ζ2 ζ3 ζ7 ζ12 ζ16 ζ18 ζ19 ζ27 ζ8 ζ5 ζ10 ζ11 ζ26 ζ32 ζ33 ζ37 ζ9 ζ25 ζ31 ζ24 ζ14
 rw [finE_0 (by assumption) hb,orZ_0,← hD]
 have q1:=hc9
 have q2:=hc10
 rw [List.take_of_length_le (by omega)] at q1 q2
 rw [show j.toNat=D.N.length by omega] at q2
 have hrt:=F.rt
 rw [show nds.length=j.toNat by omega] at hrt
 refine ⟨rfl,uo,wo,?_,⟨q1,q2⟩⟩
 rw [hrt,F.v]
end Go.Proofs.Ytkmhjcjpohpiaaa
