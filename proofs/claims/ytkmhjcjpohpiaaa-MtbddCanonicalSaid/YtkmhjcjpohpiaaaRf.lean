import Derived.Test.YtkmhjcjpohpiaaaMk
import Derived.Test.YtkmhjcjpohpiaaaWo
import Derived.Test.YtkmhjcjpohpiaaaWb
/- Walks of mtbdd: what each function returns. Printed by a program out of notes. -/
namespace Go.Proofs.Ytkmhjcjpohpiaaa
open Go.Vc
open Classical
theorem orderB_c {V:HV} {vars:Int} {L:List Int} {M:List Fk} {cx:List Value} {u w:Value} {bb:Nat} {root:Int} (hok:BOk vars L M) (hr:(bV L M).ok root) (hin:∀ z ∈ L,inR z) (hLb:L.length≤2199023255552) (hMb:M.length≤2199023255552) :
    FnC Try.prog 101 [pt bb,.int .i64 root] V [Arr 113 bb (u :: w :: cx),Gr 3 1 u L.length (L.map (Value.int .i64)),Gr 80 3 w M.length (fks M)] (fun v _ σ'=>∃ vn vl,v=.tuple #[vn,vl]∧σ' = [Arr 113 bb (u :: w :: cx),Gr 3 1 u L.length (L.map (Value.int .i64)),Gr 80 3 w M.length (fks M),Gr 3 1 vn (oE M root).nd.length ((oE M root).nd.map (Value.int .i64)),Gr 3 1 vl (oE M root).lv.length ((lvS L (oE M root).lv).map (Value.int .i64))]):=by
  refine FnC.drop ((order_c hok hr hin hLb hMb).mono ?_)
  rintro v V' σ' _ ⟨vn,vl,rfl,rfl⟩
  exact ⟨[Arr 113 bb (u :: w :: cx),Gr 3 1 u L.length (L.map (Value.int .i64)),Gr 80 3 w M.length (fks M),Gr 3 1 vn (oE M root).nd.length ((oE M root).nd.map (Value.int .i64)),Gr 3 1 vl (oE M root).lv.length ((lvS L (oE M root).lv).map (Value.int .i64))],[],perm_idx _ _ [2,3,4,0,1] rfl rfl,vn,vl,rfl,rfl⟩
theorem leafN_c {V:HV} {L L':List Int} {p:Int} {M:List Fk} {z:Int} {bb ba bi:Nat} {u w:Value} (hL:L.length≤2199023255552) (e:lfR L z=(L',p)) :
    FnC Try.prog 58 [(Value.pointer (some ⟨bb,0,none⟩)),(Value.int .i64 z)] V [(Arr 113 bb [u,w,(Value.map (some ba)),(Value.map (some bi)),(Value.bool (decide (wd L)))]),(Gr 3 1 u L.length ((L.map (Value.int .i64)))),(Gr 80 3 w M.length ((fks M))),(Mf ba (Value.int .i64) (Value.int .i64) (lfF L)),(Mf bi fkv (Value.int .i64) (idF M))] (fun v _ σ'=>v=.int .i64 p∧∃ u',σ' = [Arr 113 bb [u',w,.map (some ba),.map (some bi),.bool (decide (wd L'))],Gr 3 1 u' L'.length (L'.map (Value.int .i64)),Gr 80 3 w M.length (fks M),Mf ba (Value.int .i64) (Value.int .i64) (lfF L'),Mf bi fkv (Value.int .i64) (idF M)]):=by
  have h:=leaf_c (V:=V) (L:=L) (M:=M) (z:=z) (bb:=bb) (ba:=ba) (bi:=bi) (u:=u) (w:=w) hL
  rw [e] at h
  exact h
set_option maxRecDepth 100000
set_option maxHeartbeats 4000000
theorem finishBool_c {V:HV} {vars:Int} {L:List Int} {M:List Fk} {u w:Value} {bb ba bi:Nat} {root:Int} (hv0:0≤vars) (hok:BOk vars L M) (hr:(bV L M).ok root) (hin:∀ z ∈ L,inR z) (hLb:L.length≤1099511627776) (hMb:M.length≤1099511627776) (h01:∀ e,gev (bV L M) e root=0 ∨ gev (bV L M) e root=1) :
    FnC Try.prog 74 [(Value.pointer (some ⟨bb,0,none⟩)),(Value.int .i64 vars),(Value.int .i64 root)] V [(Arr 113 bb [u,w,(Value.map (some ba)),(Value.map (some bi)),(.bool (decide (wd L)))]),(Gr 3 1 u L.length ((L.map (Value.int .i64)))),(Gr 80 3 w M.length ((fks M))),(Mf ba (Value.int .i64) (Value.int .i64) (lfF L)),(Mf bi fkv (Value.int .i64) (idF M))] (fun v V' σ'=>σ' = []∧∃ nv,v=.tuple #[.agg #[.int .i64 (fbZ (bB vars (tabv vars fun e=>gev (bV L M) e root))).v,nv,.int .i64 (fbZ (bB vars (tabv vars fun e=>gev (bV L M) e root))).r],.int .i64 (fbE (bB vars (tabv vars fun e=>gev (bV L M) e root)))]∧Fks V' nv (fbZ (bB vars (tabv vars fun e=>gev (bV L M) e root))).N):=by
 refine fn_intro (N:=75) Try.func74 (by kernel_rfl) rfl rfl rfl (Nat.le_of_ble_eq_true rfl) ?_
 intro w0 D
 have F:=finB2 hv0 hok hr h01
 have hne01:=lf_ne hok
 have hll1:=lfR_len (L:=L) (z:=0)
 obtain ⟨L1,p0,e0⟩:∃ a b,lfR L 0=(a,b):=⟨_,_,rfl⟩
 simp only [e0] at F hne01 hll1
 have hll2:=lfR_len (L:=L1) (z:=1)
 obtain ⟨L2,p1,e1⟩:∃ a b,lfR L1 1=(a,b):=⟨_,_,rfl⟩
 simp only [e1] at F hne01 hll2
 obtain ⟨B,hB⟩:∃ B,B=(bB vars (tabv vars fun e=>gev (bV L M) e root)):=⟨_,rfl⟩
 rw [← hB] at F
 rw [← hB]
 have hBl:=F.len
 refine vc_seq ?_
 let ζ4:Asrt:=Mf bi fkv (Value.int .i64) (idF M)
 let ζ8:Asrt:=Gr 80 3 w M.length ((fks M))
 let ζ10:Asrt:=Arr 113 bb [u,w,(Value.map (some ba)),(Value.map (some bi)),(.bool (decide (wd L)))]
 let ζ16:Asrt:=Mf ba (Value.int .i64) (Value.int .i64) (lfF L)
 let ζ18:Asrt:=Gr 3 1 u L.length ((L.map (Value.int .i64)))
 refine vc_res (σ':=[ζ10,ζ18,ζ8,ζ16,ζ4]) rfl ?_
 refine vc_region ?_
 refine ops_alloc Try.ti59 rfl (fun b1=>?_)
 refine oq (qv_as (Value.int .i64 0) rfl) ?_
 refine ops_nil ?_
 refine vc_seq ?_
 let ζ1:Asrt:=Arr 59 b1 [(Value.int .i64 0),(Value.slice none 0 0),(Value.int .i64 0)]
 refine vc_res (σ':=[ζ10,ζ18,ζ8,ζ16,ζ4,ζ1]) rfl ?_
 refine vc_region ?_
 let ζ28:Value:=Value.pointer (some ⟨bb,0,none⟩)
 refine oq (qv_mv ζ28 rfl) ?_
 refine oq (qv_mv (Value.int .i64 root) rfl) ?_
 refine ops_call (σa:=[ζ10,ζ18,ζ8]) (σr:=[ζ16,ζ4,ζ1]) (orderB_c (cx:=[.map (some ba),.map (some bi),.bool (decide (wd L))]) hok hr hin (by omega) (by omega)) rfl rfl (.refl _) (fun r1 V1 sg1 hV1 hp1=>?_)
 obtain ⟨vn,vl,rfl,rfl⟩:=hp1
 let ζ2:Asrt:=Gr 3 1 vl ((oE M root).lv.length) (((lvS L (oE M root).lv).map (Value.int .i64)))
 let ζ3:Asrt:=Gr 3 1 vn ((oE M root).nd.length) (((oE M root).nd.map (Value.int .i64)))
 refine ops_perm (σ':=[ζ10,ζ18,ζ8,ζ16,ζ4,ζ1,ζ3,ζ2]) (px [0,1,2,5,6,7,3,4] rfl) ?_
 refine oq (qv_mv (.tuple #[vn,vl]) rfl) ?_
 refine oq (qv_ext vn rfl rfl) ?_
 refine oq (qv_ext vl rfl rfl) ?_
 refine oq (qv_as vn rfl) ?_
 refine oq (qv_as vl rfl) ?_
 refine ops_nil ?_
 refine vc_seq ?_
 refine vc_seq ?_
 refine vc_res (σ':=[ζ10,ζ18,ζ8,ζ16,ζ4,ζ1,ζ3,ζ2]) rfl ?_
 refine vc_region ?_
 refine oq (qv_mv vn rfl) ?_
 refine oq (qv_lenGi Try.underlying22 rfl (inGi (k:=6) rfl)) ?_
 refine oq (qv_gtr rfl rfl) ?_
 refine ops_nil ?_
 refine vc_if rfl (fun c1=>?_) (fun c1=>?_)
 refine vc_seq ?_
 refine vc_region ?_
 refine oq (qv_build (out:=[(Value.int .i64 0),(Value.slice none 0 0),(Value.int .i64 0)]) Try.build59 [] rfl rfl) ?_
 refine ops_stw (k:=5) (vs:=[(Value.int .i64 0),(Value.slice none 0 0),(Value.int .i64 0)]) Try.size59 rfl rfl rfl rfl rfl rfl ?_
 refine oq (qv_as (Value.int .i64 4) rfl) ?_
 refine ops_nil ?_
 refine vc_freeze (b:=b1) (o:=.cells ([(Value.int .i64 0),(Value.slice none 0 0),(Value.int .i64 0)]:List Value).toArray 59 (0,0)) (σr:=[(Arr 113 bb [u,w,(Value.map (some ba)),(Value.map (some bi)),(Value.bool (decide (wd L)))]),ζ18,ζ8,ζ16,ζ4,ζ3,ζ2]) (List.perm_middle (l₁:=[(Arr 113 bb [u,w,(Value.map (some ba)),(Value.map (some bi)),(Value.bool (decide (wd L)))]),ζ18,ζ8,ζ16,ζ4]) (l₂:=[ζ3,ζ2])) (fun Vf1 hVf1 hb1=>?_)
 have hc1:Cells Vf1 b1 [(Value.int .i64 0),(Value.slice none 0 0),(Value.int .i64 0)]:=⟨_,_,hb1⟩
 refine vc_drop [] [ζ10,ζ18,ζ8,ζ16,ζ4,ζ3,ζ2] (.refl _) ?_
 refine vc_ret ?_
 refine rs2 _ (Value.int .i64 4) (rv_c (vs:=[(Value.int .i64 0),(Value.slice none 0 0),(Value.int .i64 0)]) Try.agg59 rfl (inVc hc1) rfl rfl) (rv_t rfl) ?_
 have hb:=fb_b (B:=B) (by omega)
 subst ζ4 ζ8 ζ10 ζ16 ζ18 ζ1 ζ28 ζ2 ζ3
 rw [hb.1,hb.2]
 exact ⟨rfl,_,rfl,Fks.nil⟩
 refine vc_skip ?_
 refine vc_seq ?_
 let ζ5:Asrt:=Mf ba (Value.int .i64) (Value.int .i64) (lfF L2)
 let ζ32:Value:=.bool (decide (4096 < ((((oE M root).nd).length:Int))))
 let ζ35:Value:=Value.pointer (some ⟨b1,0,none⟩)
 refine vc_join (α:=Nat × Value) (fun xx=>[(0,ζ28),(1,(Value.int .i64 vars)),(2,(Value.int .i64 root)),(6,ζ35),(7,(Value.int .i64 0)),(8,vn),(10,(Value.map (some xx.1))),(23,ζ32)]) (fun xx V' σ'=>Vc.Sub V1 V'∧[(Arr 113 bb [xx.2,w,(Value.map (some ba)),(Value.map (some bi)),(.bool (decide (wd L2)))]),(Gr 3 1 xx.2 L2.length ((L2.map (Value.int .i64)))),ζ8,ζ5,ζ4,ζ1,ζ3,ζ2,(Mf xx.1 (Value.int .i64) (Value.int .i64) (setF (setF (fun _=>none) p0 0) p1 1))]=σ') ?_ ?_
 refine vc_region_E (τ:=[ζ10,ζ18,ζ8,ζ16,ζ4]) (n:=9) [ζ1,ζ3,ζ2] Try.mixed (px [5,6,7,0,1,2,3,4] rfl) rfl ?_
 refine eq_ (i:=1) (by kernel_rfl) rfl (qv_mv ζ28 rfl) ?_
 refine eq_ (i:=4) (by kernel_rfl) rfl (qv_mv ζ28 rfl) ?_
 refine el2 (i:=0) (j:=2) (by kernel_rfl) ?_ ?_
 refine ⟨_,rfl,?_⟩
 refine ops_mkmap0 (Value.int .i64) (Value.int .i64) (fun b2=>?_)
 refine ops_nil ⟨[ζ1,ζ3,ζ2],[ζ10,ζ18,ζ8,ζ16,ζ4,(Mf b2 (Value.int .i64) (Value.int .i64) (fun _=>none))],(px [5,6,7,0,1,2,3,4,8] rfl),.inl ⟨(Sub.refl _),[],.refl _⟩,?_⟩
 refine el1 (i:=2) (by kernel_rfl) ?_
 refine ⟨_,rfl,?_⟩
 refine ops_call (σa:=[ζ10,ζ18,ζ8,ζ16,ζ4]) (σr:=[ζ1,ζ3,ζ2,(Mf b2 (Value.int .i64) (Value.int .i64) (fun _=>none))]) (leafN_c (u:=u) (w:=w) (by omega) e0) rfl rfl (.refl _) (fun r2 V2 sg2 hV2 hp2=>?_)
 obtain ⟨rfl,u1,rfl⟩:=hp2
 let ζ11:Asrt:=Arr 113 bb [u1,w,(Value.map (some ba)),(Value.map (some bi)),(.bool (decide (wd L1)))]
 let ζ23:Asrt:=Mf ba (Value.int .i64) (Value.int .i64) (lfF L1)
 let ζ24:Asrt:=Gr 3 1 u1 L1.length ((L1.map (Value.int .i64)))
 refine ops_nil ⟨[ζ1,ζ3,ζ2],[ζ11,ζ24,ζ8,ζ23,ζ4,(Mf b2 (Value.int .i64) (Value.int .i64) (fun _=>none))],(px [5,6,7,0,1,2,3,4,8] rfl),.inl ⟨hV2,[],.refl _⟩,?_⟩
 refine el2 (i:=3) (j:=5) (by kernel_rfl) ?_ ?_
 refine ⟨_,rfl,?_⟩
 refine ops_mapins (k:=8) (key:=p0) (v:=0) Try.underlying110 (KeyT.int Try.underlying3) rfl rfl rfl rfl ?_
 refine ops_nil ⟨[ζ1,ζ3,ζ2],[ζ11,ζ24,ζ8,ζ23,ζ4,(Mf b2 (Value.int .i64) (Value.int .i64) (setF (fun _=>none) p0 0))],(px [5,6,7,0,1,2,3,4,8] rfl),.inl ⟨(Sub.refl _),[],.refl _⟩,?_⟩
 refine el1 (i:=5) (by kernel_rfl) ?_
 refine ⟨_,rfl,?_⟩
 refine ops_call (σa:=[ζ11,ζ24,ζ8,ζ23,ζ4]) (σr:=[ζ1,ζ3,ζ2,(Mf b2 (Value.int .i64) (Value.int .i64) (setF (fun _=>none) p0 0))]) (leafN_c (u:=u1) (w:=w) (by omega) e1) rfl rfl (.refl _) (fun r3 V3 sg3 hV3 hp3=>?_)
 obtain ⟨rfl,u2,rfl⟩:=hp3
 let ζ6:Asrt:=Gr 3 1 u2 L2.length ((L2.map (Value.int .i64)))
 let ζ7:Asrt:=Arr 113 bb [u2,w,(Value.map (some ba)),(Value.map (some bi)),(.bool (decide (wd L2)))]
 refine ops_nil ⟨[ζ1,ζ3,ζ2],[ζ7,ζ6,ζ8,ζ5,ζ4,(Mf b2 (Value.int .i64) (Value.int .i64) (setF (fun _=>none) p0 0))],(px [5,6,7,0,1,2,3,4,8] rfl),.inl ⟨hV3,[],.refl _⟩,?_⟩
 refine el1 (i:=6) (by kernel_rfl) ?_
 refine ⟨_,rfl,?_⟩
 refine ops_mapins (k:=8) (key:=p1) (v:=1) Try.underlying110 (KeyT.int Try.underlying3) rfl rfl rfl rfl ?_
 refine ops_nil ⟨[ζ1,ζ3,ζ2],[ζ7,ζ6,ζ8,ζ5,ζ4,(Mf b2 (Value.int .i64) (Value.int .i64) (setF (setF (fun _=>none) p0 0) p1 1))],(px [5,6,7,0,1,2,3,4,8] rfl),.inl ⟨(Sub.refl _),[],.refl _⟩,?_⟩
 refine eq_ (i:=7) (by kernel_rfl) rfl (qv_mv (Value.map (some b2)) rfl) ?_
 refine eq_ (i:=8) (by kernel_rfl) rfl (qv_as (Value.map (some b2)) rfl) ?_
 subst ζ4 ζ8 ζ10 ζ16 ζ18 ζ1 ζ28 ζ2 ζ3 ζ5 ζ32 ζ35 ζ11 ζ23 ζ24 ζ6 ζ7
 refine enil (σ':=[(Arr 113 bb [u2,w,(Value.map (some ba)),(Value.map (some bi)),(.bool (decide (wd L2)))]),(Gr 3 1 u2 L2.length ((L2.map (Value.int .i64)))),(Gr 80 3 w M.length ((fks M))),(Mf ba (Value.int .i64) (Value.int .i64) (lfF L2)),(Mf bi fkv (Value.int .i64) (idF M)),(Arr 59 b1 [(Value.int .i64 0),(Value.slice none 0 0),(Value.int .i64 0)]),(Gr 3 1 vn ((oE M root).nd.length) (((oE M root).nd.map (Value.int .i64)))),(Gr 3 1 vl ((oE M root).lv.length) (((lvS L (oE M root).lv).map (Value.int .i64)))),(Mf b2 (Value.int .i64) (Value.int .i64) (setF (setF (fun _=>none) p0 0) p1 1))]) (by kernel_rfl) (px [0,1,2,3,4,5,6,7,8] rfl) ⟨(b2,u2),⟨rfl,rfl,rfl,rfl,rfl,rfl,rfl,rfl,trivial⟩,(hV2.trans hV3),(by first | with_reducible rfl | rw [setF_comm hne01])⟩
 refine ⟨_,rfl,?_⟩
 refine ops_call (σa:=[ζ11,ζ24,ζ8,ζ23,ζ4]) (σr:=[ζ1,ζ3,ζ2,(Mf b2 (Value.int .i64) (Value.int .i64) (fun _=>none))]) (leafN_c (u:=u1) (w:=w) (by omega) e1) rfl rfl (.refl _) (fun r4 V4 sg4 hV4 hp4=>?_)
 obtain ⟨rfl,u2,rfl⟩:=hp4
 let ζ6:Asrt:=Gr 3 1 u2 L2.length ((L2.map (Value.int .i64)))
 let ζ7:Asrt:=Arr 113 bb [u2,w,(Value.map (some ba)),(Value.map (some bi)),(.bool (decide (wd L2)))]
 refine ops_nil ⟨[ζ1,ζ3,ζ2],[ζ7,ζ6,ζ8,ζ5,ζ4,(Mf b2 (Value.int .i64) (Value.int .i64) (fun _=>none))],(px [5,6,7,0,1,2,3,4,8] rfl),.inl ⟨hV4,[],.refl _⟩,?_⟩
 refine el2 (i:=3) (j:=6) (by kernel_rfl) ?_ ?_
 refine ⟨_,rfl,?_⟩
 refine ops_mapins (k:=8) (key:=p0) (v:=0) Try.underlying110 (KeyT.int Try.underlying3) rfl rfl rfl rfl ?_
 refine ops_nil ⟨[ζ1,ζ3,ζ2],[ζ7,ζ6,ζ8,ζ5,ζ4,(Mf b2 (Value.int .i64) (Value.int .i64) (setF (fun _=>none) p0 0))],(px [5,6,7,0,1,2,3,4,8] rfl),.inl ⟨(Sub.refl _),[],.refl _⟩,?_⟩
 refine el1 (i:=6) (by kernel_rfl) ?_
 refine ⟨_,rfl,?_⟩
 refine ops_mapins (k:=8) (key:=p1) (v:=1) Try.underlying110 (KeyT.int Try.underlying3) rfl rfl rfl rfl ?_
 refine ops_nil ⟨[ζ1,ζ3,ζ2],[ζ7,ζ6,ζ8,ζ5,ζ4,(Mf b2 (Value.int .i64) (Value.int .i64) (setF (setF (fun _=>none) p0 0) p1 1))],(px [5,6,7,0,1,2,3,4,8] rfl),.inl ⟨(Sub.refl _),[],.refl _⟩,?_⟩
 refine eq_ (i:=7) (by kernel_rfl) rfl (qv_mv (Value.map (some b2)) rfl) ?_
 refine eq_ (i:=8) (by kernel_rfl) rfl (qv_as (Value.map (some b2)) rfl) ?_
 subst ζ4 ζ8 ζ10 ζ16 ζ18 ζ1 ζ28 ζ2 ζ3 ζ5 ζ32 ζ35 ζ11 ζ23 ζ24 ζ6 ζ7
 refine enil (σ':=[(Arr 113 bb [u2,w,(Value.map (some ba)),(Value.map (some bi)),(.bool (decide (wd L2)))]),(Gr 3 1 u2 L2.length ((L2.map (Value.int .i64)))),(Gr 80 3 w M.length ((fks M))),(Mf ba (Value.int .i64) (Value.int .i64) (lfF L2)),(Mf bi fkv (Value.int .i64) (idF M)),(Arr 59 b1 [(Value.int .i64 0),(Value.slice none 0 0),(Value.int .i64 0)]),(Gr 3 1 vn ((oE M root).nd.length) (((oE M root).nd.map (Value.int .i64)))),(Gr 3 1 vl ((oE M root).lv.length) (((lvS L (oE M root).lv).map (Value.int .i64)))),(Mf b2 (Value.int .i64) (Value.int .i64) (setF (setF (fun _=>none) p0 0) p1 1))]) (by kernel_rfl) (px [0,1,2,3,4,5,6,7,8] rfl) ⟨(b2,u2),⟨rfl,rfl,rfl,rfl,rfl,rfl,rfl,rfl,trivial⟩,(hV2.trans hV4),(by first | with_reducible rfl | rw [setF_comm hne01])⟩
 refine ⟨_,rfl,?_⟩
 refine ops_mapins (k:=8) (key:=p1) (v:=1) Try.underlying110 (KeyT.int Try.underlying3) rfl rfl rfl rfl ?_
 refine ops_nil ⟨[ζ1,ζ3,ζ2],[ζ7,ζ6,ζ8,ζ5,ζ4,(Mf b2 (Value.int .i64) (Value.int .i64) (setF (fun _=>none) p1 1))],(px [5,6,7,0,1,2,3,4,8] rfl),.inl ⟨(Sub.refl _),[],.refl _⟩,?_⟩
 refine el1 (i:=3) (by kernel_rfl) ?_
 refine ⟨_,rfl,?_⟩
 refine ops_mapins (k:=8) (key:=p0) (v:=0) Try.underlying110 (KeyT.int Try.underlying3) rfl rfl rfl rfl ?_
 refine ops_nil ⟨[ζ1,ζ3,ζ2],[ζ7,ζ6,ζ8,ζ5,ζ4,(Mf b2 (Value.int .i64) (Value.int .i64) (setF (setF (fun _=>none) p1 1) p0 0))],(px [5,6,7,0,1,2,3,4,8] rfl),.inl ⟨(Sub.refl _),[],.refl _⟩,?_⟩
 refine eq_ (i:=7) (by kernel_rfl) rfl (qv_mv (Value.map (some b2)) rfl) ?_
 refine eq_ (i:=8) (by kernel_rfl) rfl (qv_as (Value.map (some b2)) rfl) ?_
 subst ζ4 ζ8 ζ10 ζ16 ζ18 ζ1 ζ28 ζ2 ζ3 ζ5 ζ32 ζ35 ζ11 ζ23 ζ24 ζ6 ζ7
 refine enil (σ':=[(Arr 113 bb [u2,w,(Value.map (some ba)),(Value.map (some bi)),(.bool (decide (wd L2)))]),(Gr 3 1 u2 L2.length ((L2.map (Value.int .i64)))),(Gr 80 3 w M.length ((fks M))),(Mf ba (Value.int .i64) (Value.int .i64) (lfF L2)),(Mf bi fkv (Value.int .i64) (idF M)),(Arr 59 b1 [(Value.int .i64 0),(Value.slice none 0 0),(Value.int .i64 0)]),(Gr 3 1 vn ((oE M root).nd.length) (((oE M root).nd.map (Value.int .i64)))),(Gr 3 1 vl ((oE M root).lv.length) (((lvS L (oE M root).lv).map (Value.int .i64)))),(Mf b2 (Value.int .i64) (Value.int .i64) (setF (setF (fun _=>none) p1 1) p0 0))]) (by kernel_rfl) (px [0,1,2,3,4,5,6,7,8] rfl) ⟨(b2,u2),⟨rfl,rfl,rfl,rfl,rfl,rfl,rfl,rfl,trivial⟩,(hV2.trans hV4),(by first | with_reducible rfl | rw [setF_comm hne01])⟩
 refine ⟨_,rfl,?_⟩
 refine ops_call (σa:=[ζ10,ζ18,ζ8,ζ16,ζ4]) (σr:=[ζ1,ζ3,ζ2]) (leafN_c (u:=u) (w:=w) (by omega) e0) rfl rfl (.refl _) (fun r5 V5 sg5 hV5 hp5=>?_)
 obtain ⟨rfl,u1,rfl⟩:=hp5
 let ζ11:Asrt:=Arr 113 bb [u1,w,(Value.map (some ba)),(Value.map (some bi)),(.bool (decide (wd L1)))]
 let ζ23:Asrt:=Mf ba (Value.int .i64) (Value.int .i64) (lfF L1)
 let ζ24:Asrt:=Gr 3 1 u1 L1.length ((L1.map (Value.int .i64)))
 refine ops_nil ⟨[ζ1,ζ3,ζ2],[ζ11,ζ24,ζ8,ζ23,ζ4],(px [5,6,7,0,1,2,3,4] rfl),.inl ⟨hV5,[],.refl _⟩,?_⟩
 refine el2 (i:=0) (j:=5) (by kernel_rfl) ?_ ?_
 refine ⟨_,rfl,?_⟩
 refine ops_mkmap0 (Value.int .i64) (Value.int .i64) (fun b3=>?_)
 refine ops_nil ⟨[ζ1,ζ3,ζ2],[ζ11,ζ24,ζ8,ζ23,ζ4,(Mf b3 (Value.int .i64) (Value.int .i64) (fun _=>none))],(px [5,6,7,0,1,2,3,4,8] rfl),.inl ⟨(Sub.refl _),[],.refl _⟩,?_⟩
 refine el2 (i:=3) (j:=5) (by kernel_rfl) ?_ ?_
 refine ⟨_,rfl,?_⟩
 refine ops_mapins (k:=8) (key:=p0) (v:=0) Try.underlying110 (KeyT.int Try.underlying3) rfl rfl rfl rfl ?_
 refine ops_nil ⟨[ζ1,ζ3,ζ2],[ζ11,ζ24,ζ8,ζ23,ζ4,(Mf b3 (Value.int .i64) (Value.int .i64) (setF (fun _=>none) p0 0))],(px [5,6,7,0,1,2,3,4,8] rfl),.inl ⟨(Sub.refl _),[],.refl _⟩,?_⟩
 refine el1 (i:=5) (by kernel_rfl) ?_
 refine ⟨_,rfl,?_⟩
 refine ops_call (σa:=[ζ11,ζ24,ζ8,ζ23,ζ4]) (σr:=[ζ1,ζ3,ζ2,(Mf b3 (Value.int .i64) (Value.int .i64) (setF (fun _=>none) p0 0))]) (leafN_c (u:=u1) (w:=w) (by omega) e1) rfl rfl (.refl _) (fun r6 V6 sg6 hV6 hp6=>?_)
 obtain ⟨rfl,u2,rfl⟩:=hp6
 let ζ6:Asrt:=Gr 3 1 u2 L2.length ((L2.map (Value.int .i64)))
 let ζ7:Asrt:=Arr 113 bb [u2,w,(Value.map (some ba)),(Value.map (some bi)),(.bool (decide (wd L2)))]
 refine ops_nil ⟨[ζ1,ζ3,ζ2],[ζ7,ζ6,ζ8,ζ5,ζ4,(Mf b3 (Value.int .i64) (Value.int .i64) (setF (fun _=>none) p0 0))],(px [5,6,7,0,1,2,3,4,8] rfl),.inl ⟨hV6,[],.refl _⟩,?_⟩
 refine el1 (i:=6) (by kernel_rfl) ?_
 refine ⟨_,rfl,?_⟩
 refine ops_mapins (k:=8) (key:=p1) (v:=1) Try.underlying110 (KeyT.int Try.underlying3) rfl rfl rfl rfl ?_
 refine ops_nil ⟨[ζ1,ζ3,ζ2],[ζ7,ζ6,ζ8,ζ5,ζ4,(Mf b3 (Value.int .i64) (Value.int .i64) (setF (setF (fun _=>none) p0 0) p1 1))],(px [5,6,7,0,1,2,3,4,8] rfl),.inl ⟨(Sub.refl _),[],.refl _⟩,?_⟩
 refine eq_ (i:=7) (by kernel_rfl) rfl (qv_mv (Value.map (some b3)) rfl) ?_
 refine eq_ (i:=8) (by kernel_rfl) rfl (qv_as (Value.map (some b3)) rfl) ?_
 subst ζ4 ζ8 ζ10 ζ16 ζ18 ζ1 ζ28 ζ2 ζ3 ζ5 ζ32 ζ35 ζ11 ζ23 ζ24 ζ6 ζ7
 refine enil (σ':=[(Arr 113 bb [u2,w,(Value.map (some ba)),(Value.map (some bi)),(.bool (decide (wd L2)))]),(Gr 3 1 u2 L2.length ((L2.map (Value.int .i64)))),(Gr 80 3 w M.length ((fks M))),(Mf ba (Value.int .i64) (Value.int .i64) (lfF L2)),(Mf bi fkv (Value.int .i64) (idF M)),(Arr 59 b1 [(Value.int .i64 0),(Value.slice none 0 0),(Value.int .i64 0)]),(Gr 3 1 vn ((oE M root).nd.length) (((oE M root).nd.map (Value.int .i64)))),(Gr 3 1 vl ((oE M root).lv.length) (((lvS L (oE M root).lv).map (Value.int .i64)))),(Mf b3 (Value.int .i64) (Value.int .i64) (setF (setF (fun _=>none) p0 0) p1 1))]) (by kernel_rfl) (px [0,1,2,3,4,5,6,7,8] rfl) ⟨(b3,u2),⟨rfl,rfl,rfl,rfl,rfl,rfl,rfl,rfl,trivial⟩,(hV5.trans hV6),(by first | with_reducible rfl | rw [setF_comm hne01])⟩
 refine ⟨_,rfl,?_⟩
 refine ops_call (σa:=[ζ11,ζ24,ζ8,ζ23,ζ4]) (σr:=[ζ1,ζ3,ζ2,(Mf b3 (Value.int .i64) (Value.int .i64) (fun _=>none))]) (leafN_c (u:=u1) (w:=w) (by omega) e1) rfl rfl (.refl _) (fun r7 V7 sg7 hV7 hp7=>?_)
 obtain ⟨rfl,u2,rfl⟩:=hp7
 let ζ6:Asrt:=Gr 3 1 u2 L2.length ((L2.map (Value.int .i64)))
 let ζ7:Asrt:=Arr 113 bb [u2,w,(Value.map (some ba)),(Value.map (some bi)),(.bool (decide (wd L2)))]
 refine ops_nil ⟨[ζ1,ζ3,ζ2],[ζ7,ζ6,ζ8,ζ5,ζ4,(Mf b3 (Value.int .i64) (Value.int .i64) (fun _=>none))],(px [5,6,7,0,1,2,3,4,8] rfl),.inl ⟨hV7,[],.refl _⟩,?_⟩
 refine el2 (i:=3) (j:=6) (by kernel_rfl) ?_ ?_
 refine ⟨_,rfl,?_⟩
 refine ops_mapins (k:=8) (key:=p0) (v:=0) Try.underlying110 (KeyT.int Try.underlying3) rfl rfl rfl rfl ?_
 refine ops_nil ⟨[ζ1,ζ3,ζ2],[ζ7,ζ6,ζ8,ζ5,ζ4,(Mf b3 (Value.int .i64) (Value.int .i64) (setF (fun _=>none) p0 0))],(px [5,6,7,0,1,2,3,4,8] rfl),.inl ⟨(Sub.refl _),[],.refl _⟩,?_⟩
 refine el1 (i:=6) (by kernel_rfl) ?_
 refine ⟨_,rfl,?_⟩
 refine ops_mapins (k:=8) (key:=p1) (v:=1) Try.underlying110 (KeyT.int Try.underlying3) rfl rfl rfl rfl ?_
 refine ops_nil ⟨[ζ1,ζ3,ζ2],[ζ7,ζ6,ζ8,ζ5,ζ4,(Mf b3 (Value.int .i64) (Value.int .i64) (setF (setF (fun _=>none) p0 0) p1 1))],(px [5,6,7,0,1,2,3,4,8] rfl),.inl ⟨(Sub.refl _),[],.refl _⟩,?_⟩
 refine eq_ (i:=7) (by kernel_rfl) rfl (qv_mv (Value.map (some b3)) rfl) ?_
 refine eq_ (i:=8) (by kernel_rfl) rfl (qv_as (Value.map (some b3)) rfl) ?_
 subst ζ4 ζ8 ζ10 ζ16 ζ18 ζ1 ζ28 ζ2 ζ3 ζ5 ζ32 ζ35 ζ11 ζ23 ζ24 ζ6 ζ7
 refine enil (σ':=[(Arr 113 bb [u2,w,(Value.map (some ba)),(Value.map (some bi)),(.bool (decide (wd L2)))]),(Gr 3 1 u2 L2.length ((L2.map (Value.int .i64)))),(Gr 80 3 w M.length ((fks M))),(Mf ba (Value.int .i64) (Value.int .i64) (lfF L2)),(Mf bi fkv (Value.int .i64) (idF M)),(Arr 59 b1 [(Value.int .i64 0),(Value.slice none 0 0),(Value.int .i64 0)]),(Gr 3 1 vn ((oE M root).nd.length) (((oE M root).nd.map (Value.int .i64)))),(Gr 3 1 vl ((oE M root).lv.length) (((lvS L (oE M root).lv).map (Value.int .i64)))),(Mf b3 (Value.int .i64) (Value.int .i64) (setF (setF (fun _=>none) p0 0) p1 1))]) (by kernel_rfl) (px [0,1,2,3,4,5,6,7,8] rfl) ⟨(b3,u2),⟨rfl,rfl,rfl,rfl,rfl,rfl,rfl,rfl,trivial⟩,(hV5.trans hV7),(by first | with_reducible rfl | rw [setF_comm hne01])⟩
 refine ⟨_,rfl,?_⟩
 refine ops_mapins (k:=8) (key:=p1) (v:=1) Try.underlying110 (KeyT.int Try.underlying3) rfl rfl rfl rfl ?_
 refine ops_nil ⟨[ζ1,ζ3,ζ2],[ζ7,ζ6,ζ8,ζ5,ζ4,(Mf b3 (Value.int .i64) (Value.int .i64) (setF (fun _=>none) p1 1))],(px [5,6,7,0,1,2,3,4,8] rfl),.inl ⟨(Sub.refl _),[],.refl _⟩,?_⟩
 refine el1 (i:=3) (by kernel_rfl) ?_
 refine ⟨_,rfl,?_⟩
 refine ops_mapins (k:=8) (key:=p0) (v:=0) Try.underlying110 (KeyT.int Try.underlying3) rfl rfl rfl rfl ?_
 refine ops_nil ⟨[ζ1,ζ3,ζ2],[ζ7,ζ6,ζ8,ζ5,ζ4,(Mf b3 (Value.int .i64) (Value.int .i64) (setF (setF (fun _=>none) p1 1) p0 0))],(px [5,6,7,0,1,2,3,4,8] rfl),.inl ⟨(Sub.refl _),[],.refl _⟩,?_⟩
 refine eq_ (i:=7) (by kernel_rfl) rfl (qv_mv (Value.map (some b3)) rfl) ?_
 refine eq_ (i:=8) (by kernel_rfl) rfl (qv_as (Value.map (some b3)) rfl) ?_
 subst ζ4 ζ8 ζ10 ζ16 ζ18 ζ1 ζ28 ζ2 ζ3 ζ5 ζ32 ζ35 ζ11 ζ23 ζ24 ζ6 ζ7
 refine enil (σ':=[(Arr 113 bb [u2,w,(Value.map (some ba)),(Value.map (some bi)),(.bool (decide (wd L2)))]),(Gr 3 1 u2 L2.length ((L2.map (Value.int .i64)))),(Gr 80 3 w M.length ((fks M))),(Mf ba (Value.int .i64) (Value.int .i64) (lfF L2)),(Mf bi fkv (Value.int .i64) (idF M)),(Arr 59 b1 [(Value.int .i64 0),(Value.slice none 0 0),(Value.int .i64 0)]),(Gr 3 1 vn ((oE M root).nd.length) (((oE M root).nd.map (Value.int .i64)))),(Gr 3 1 vl ((oE M root).lv.length) (((lvS L (oE M root).lv).map (Value.int .i64)))),(Mf b3 (Value.int .i64) (Value.int .i64) (setF (setF (fun _=>none) p1 1) p0 0))]) (by kernel_rfl) (px [0,1,2,3,4,5,6,7,8] rfl) ⟨(b3,u2),⟨rfl,rfl,rfl,rfl,rfl,rfl,rfl,rfl,trivial⟩,(hV5.trans hV7),(by first | with_reducible rfl | rw [setF_comm hne01])⟩
 refine ⟨_,rfl,?_⟩
 refine ops_call (σa:=[ζ11,ζ24,ζ8,ζ23,ζ4]) (σr:=[ζ1,ζ3,ζ2]) (leafN_c (u:=u1) (w:=w) (by omega) e1) rfl rfl (.refl _) (fun r8 V8 sg8 hV8 hp8=>?_)
 obtain ⟨rfl,u2,rfl⟩:=hp8
 let ζ6:Asrt:=Gr 3 1 u2 L2.length ((L2.map (Value.int .i64)))
 let ζ7:Asrt:=Arr 113 bb [u2,w,(Value.map (some ba)),(Value.map (some bi)),(.bool (decide (wd L2)))]
 refine ops_nil ⟨[ζ1,ζ3,ζ2],[ζ7,ζ6,ζ8,ζ5,ζ4],(px [5,6,7,0,1,2,3,4] rfl),.inl ⟨hV8,[],.refl _⟩,?_⟩
 refine el1 (i:=0) (by kernel_rfl) ?_
 refine ⟨_,rfl,?_⟩
 refine ops_mkmap0 (Value.int .i64) (Value.int .i64) (fun b4=>?_)
 refine ops_nil ⟨[ζ1,ζ3,ζ2],[ζ7,ζ6,ζ8,ζ5,ζ4,(Mf b4 (Value.int .i64) (Value.int .i64) (fun _=>none))],(px [5,6,7,0,1,2,3,4,8] rfl),.inl ⟨(Sub.refl _),[],.refl _⟩,?_⟩
 refine el2 (i:=3) (j:=6) (by kernel_rfl) ?_ ?_
 refine ⟨_,rfl,?_⟩
 refine ops_mapins (k:=8) (key:=p0) (v:=0) Try.underlying110 (KeyT.int Try.underlying3) rfl rfl rfl rfl ?_
 refine ops_nil ⟨[ζ1,ζ3,ζ2],[ζ7,ζ6,ζ8,ζ5,ζ4,(Mf b4 (Value.int .i64) (Value.int .i64) (setF (fun _=>none) p0 0))],(px [5,6,7,0,1,2,3,4,8] rfl),.inl ⟨(Sub.refl _),[],.refl _⟩,?_⟩
 refine el1 (i:=6) (by kernel_rfl) ?_
 refine ⟨_,rfl,?_⟩
 refine ops_mapins (k:=8) (key:=p1) (v:=1) Try.underlying110 (KeyT.int Try.underlying3) rfl rfl rfl rfl ?_
 refine ops_nil ⟨[ζ1,ζ3,ζ2],[ζ7,ζ6,ζ8,ζ5,ζ4,(Mf b4 (Value.int .i64) (Value.int .i64) (setF (setF (fun _=>none) p0 0) p1 1))],(px [5,6,7,0,1,2,3,4,8] rfl),.inl ⟨(Sub.refl _),[],.refl _⟩,?_⟩
 refine eq_ (i:=7) (by kernel_rfl) rfl (qv_mv (Value.map (some b4)) rfl) ?_
 refine eq_ (i:=8) (by kernel_rfl) rfl (qv_as (Value.map (some b4)) rfl) ?_
 subst ζ4 ζ8 ζ10 ζ16 ζ18 ζ1 ζ28 ζ2 ζ3 ζ5 ζ32 ζ35 ζ11 ζ23 ζ24 ζ6 ζ7
 refine enil (σ':=[(Arr 113 bb [u2,w,(Value.map (some ba)),(Value.map (some bi)),(.bool (decide (wd L2)))]),(Gr 3 1 u2 L2.length ((L2.map (Value.int .i64)))),(Gr 80 3 w M.length ((fks M))),(Mf ba (Value.int .i64) (Value.int .i64) (lfF L2)),(Mf bi fkv (Value.int .i64) (idF M)),(Arr 59 b1 [(Value.int .i64 0),(Value.slice none 0 0),(Value.int .i64 0)]),(Gr 3 1 vn ((oE M root).nd.length) (((oE M root).nd.map (Value.int .i64)))),(Gr 3 1 vl ((oE M root).lv.length) (((lvS L (oE M root).lv).map (Value.int .i64)))),(Mf b4 (Value.int .i64) (Value.int .i64) (setF (setF (fun _=>none) p0 0) p1 1))]) (by kernel_rfl) (px [0,1,2,3,4,5,6,7,8] rfl) ⟨(b4,u2),⟨rfl,rfl,rfl,rfl,rfl,rfl,rfl,rfl,trivial⟩,(hV5.trans hV8),(by first | with_reducible rfl | rw [setF_comm hne01])⟩
 refine ⟨_,rfl,?_⟩
 refine ops_mapins (k:=8) (key:=p1) (v:=1) Try.underlying110 (KeyT.int Try.underlying3) rfl rfl rfl rfl ?_
 refine ops_nil ⟨[ζ1,ζ3,ζ2],[ζ7,ζ6,ζ8,ζ5,ζ4,(Mf b4 (Value.int .i64) (Value.int .i64) (setF (fun _=>none) p1 1))],(px [5,6,7,0,1,2,3,4,8] rfl),.inl ⟨(Sub.refl _),[],.refl _⟩,?_⟩
 refine el1 (i:=3) (by kernel_rfl) ?_
 refine ⟨_,rfl,?_⟩
 refine ops_mapins (k:=8) (key:=p0) (v:=0) Try.underlying110 (KeyT.int Try.underlying3) rfl rfl rfl rfl ?_
 refine ops_nil ⟨[ζ1,ζ3,ζ2],[ζ7,ζ6,ζ8,ζ5,ζ4,(Mf b4 (Value.int .i64) (Value.int .i64) (setF (setF (fun _=>none) p1 1) p0 0))],(px [5,6,7,0,1,2,3,4,8] rfl),.inl ⟨(Sub.refl _),[],.refl _⟩,?_⟩
 refine eq_ (i:=7) (by kernel_rfl) rfl (qv_mv (Value.map (some b4)) rfl) ?_
 refine eq_ (i:=8) (by kernel_rfl) rfl (qv_as (Value.map (some b4)) rfl) ?_
 subst ζ4 ζ8 ζ10 ζ16 ζ18 ζ1 ζ28 ζ2 ζ3 ζ5 ζ32 ζ35 ζ11 ζ23 ζ24 ζ6 ζ7
 refine enil (σ':=[(Arr 113 bb [u2,w,(Value.map (some ba)),(Value.map (some bi)),(.bool (decide (wd L2)))]),(Gr 3 1 u2 L2.length ((L2.map (Value.int .i64)))),(Gr 80 3 w M.length ((fks M))),(Mf ba (Value.int .i64) (Value.int .i64) (lfF L2)),(Mf bi fkv (Value.int .i64) (idF M)),(Arr 59 b1 [(Value.int .i64 0),(Value.slice none 0 0),(Value.int .i64 0)]),(Gr 3 1 vn ((oE M root).nd.length) (((oE M root).nd.map (Value.int .i64)))),(Gr 3 1 vl ((oE M root).lv.length) (((lvS L (oE M root).lv).map (Value.int .i64)))),(Mf b4 (Value.int .i64) (Value.int .i64) (setF (setF (fun _=>none) p1 1) p0 0))]) (by kernel_rfl) (px [0,1,2,3,4,5,6,7,8] rfl) ⟨(b4,u2),⟨rfl,rfl,rfl,rfl,rfl,rfl,rfl,rfl,trivial⟩,(hV5.trans hV8),(by first | with_reducible rfl | rw [setF_comm hne01])⟩
 rintro ⟨z25,u2⟩ e1 Vj1 σj1 hJ1
 let ζ6:Asrt:=Gr 3 1 u2 L2.length ((L2.map (Value.int .i64)))
 let ζ7:Asrt:=Arr 113 bb [u2,w,(Value.map (some ba)),(Value.map (some bi)),(.bool (decide (wd L2)))]
 obtain ⟨hSVj1,rfl⟩:Vc.Sub V1 Vj1∧[ζ7,ζ6,ζ8,ζ5,ζ4,ζ1,ζ3,ζ2,(Mf z25 (Value.int .i64) (Value.int .i64) (setF (setF (fun _=>none) p0 0) p1 1))]=σj1:=hJ1
 change VC _ _ _ _ _ _ (upds 75 [(0,ζ28),(1,(Value.int .i64 vars)),(2,(Value.int .i64 root)),(6,ζ35),(7,(Value.int .i64 0)),(8,vn),(10,(Value.map (some z25))),(23,ζ32)] e1) _ _
 refine vc_seq ?_
 refine vc_nil 80 3 ?_
 refine vc_region ?_
 refine oq (qv_mv (Value.int .i64 vars) rfl) ?_
 refine oq (qv_build (out:=[(Value.int .i64 vars),(Value.slice none 0 0),(Value.int .i64 0)]) Try.build59 [(0,[(Value.int .i64 vars)])] rfl rfl) ?_
 refine ops_alloc Try.ti59 rfl (fun b5=>?_)
 refine ops_stw (k:=10) (vs:=[(Value.int .i64 vars),(Value.slice none 0 0),(Value.int .i64 0)]) Try.size59 rfl rfl rfl rfl rfl rfl ?_
 refine ops_nil ?_
 refine vc_seq ?_
 refine vc_seq ?_
 let ζ12:Asrt:=Arr 59 b5 [(Value.int .i64 vars),(Value.slice none 0 0),(Value.int .i64 0)]
 let ζ25:Asrt:=Gr 80 3 ((Value.slice none 0 0)) 0 ([])
 refine vc_res (σ':=[ζ7,ζ6,ζ8,ζ5,ζ4,ζ1,ζ3,ζ2,(Mf z25 (Value.int .i64) (Value.int .i64) (setF (setF (fun _=>none) p0 0) p1 1)),ζ25,ζ12]) rfl ?_
 let ζ17:Asrt:=Arr 113 bb [u2,w,(Value.map (some ba)),(Value.map (some bi)),(Value.bool (decide (wd L2)))]
 refine vc_freezeG (v:=vl) (E:=3) (n:=(oE M root).lv.length) (xs:=((lvS L (oE M root).lv).map (Value.int .i64))) (σr:=[ζ17,ζ6,ζ8,ζ5,ζ4,ζ1,ζ3,(Mf z25 (Value.int .i64) (Value.int .i64) (setF (setF (fun _=>none) p0 0) p1 1)),ζ25,ζ12]) (List.perm_middle (l₁:=[ζ17,ζ6,ζ8,ζ5,ζ4,ζ1,ζ3]) (l₂:=[(Mf z25 (Value.int .i64) (Value.int .i64) (setF (setF (fun _=>none) p0 0) p1 1)),ζ25,ζ12])) (fun Vf2 hVf2 hc2=>?_)
 refine vc_freezeG (v:=vn) (E:=3) (n:=(oE M root).nd.length) (xs:=((oE M root).nd.map (Value.int .i64))) (σr:=[ζ17,ζ6,ζ8,ζ5,ζ4,ζ1,(Mf z25 (Value.int .i64) (Value.int .i64) (setF (setF (fun _=>none) p0 0) p1 1)),ζ25,ζ12]) (List.perm_middle (l₁:=[ζ17,ζ6,ζ8,ζ5,ζ4,ζ1]) (l₂:=[(Mf z25 (Value.int .i64) (Value.int .i64) (setF (setF (fun _=>none) p0 0) p1 1)),ζ25,ζ12])) (fun Vf3 hVf3 hc3=>?_)
 have hc2:=hc2.mono hVf3
 refine vc_freezeS (v:=w) (E:=80) (n:=M.length) (xs:=(fks M)) (σr:=[ζ17,ζ6,ζ5,ζ4,ζ1,(Mf z25 (Value.int .i64) (Value.int .i64) (setF (setF (fun _=>none) p0 0) p1 1)),ζ25,ζ12]) (List.perm_middle (l₁:=[ζ17,ζ6]) (l₂:=[ζ5,ζ4,ζ1,(Mf z25 (Value.int .i64) (Value.int .i64) (setF (setF (fun _=>none) p0 0) p1 1)),ζ25,ζ12])) (fun Vf4 hVf4 hc4=>?_)
 have hc2:=hc2.mono hVf4
 have hc3:=hc3.mono hVf4
 refine vc_freeze (b:=bb) (o:=.cells ([u2,w,(Value.map (some ba)),(Value.map (some bi)),(Value.bool (decide (wd L2)))]:List Value).toArray 113 (0,0)) (σr:=[ζ6,ζ5,ζ4,ζ1,(Mf z25 (Value.int .i64) (Value.int .i64) (setF (setF (fun _=>none) p0 0) p1 1)),ζ25,ζ12]) (List.perm_middle (l₁:=[]) (l₂:=[ζ6,ζ5,ζ4,ζ1,(Mf z25 (Value.int .i64) (Value.int .i64) (setF (setF (fun _=>none) p0 0) p1 1)),ζ25,ζ12])) (fun Vf5 hVf5 hb5=>?_)
 have hc5:Cells Vf5 bb [u2,w,(Value.map (some ba)),(Value.map (some bi)),(.bool (decide (wd L2)))]:=⟨_,_,hb5⟩
 have hc2:=hc2.mono hVf5
 have hc3:=hc3.mono hVf5
 have hc4:=hc4.mono hVf5
 refine vc_region ?_
 skip
 refine oq (qv_mv vn rfl) ?_
 refine oq (qv_lenI Try.underlying22 rfl hc3) ?_
 refine oq (qv_mv (Value.int .i64 0) rfl) ?_
 refine ops_nil ?_
 refine vc_block ?_
 refine vc_loop (α:=Int × Value) (fun (xx:Int × Value)=>[(0,(Value.pointer (some ⟨bb,0,none⟩))),(1,(Value.int .i64 vars)),(2,(Value.int .i64 root)),(6,(Value.pointer (some ⟨b1,0,none⟩))),(7,(Value.int .i64 0)),(8,vn),(10,(Value.map (some z25))),(11,(Value.pointer (some ⟨b5,0,none⟩))),(23,(.bool (decide (4096 < ((((oE M root).nd).length:Int)))))),(33,vn),(34,(.int .i64 ((((oE M root).nd).length:Int)))),(35,(Value.int .i64 xx.1))]) (fun (xx:Int × Value) V' σ'=>Vf5=V'∧[(Gr 3 1 u2 L2.length ((L2.map (Value.int .i64)))),(Mf ba (Value.int .i64) (Value.int .i64) (lfF L2)),(Mf bi fkv (Value.int .i64) (idF M)),(Arr 59 b1 [(Value.int .i64 0),(Value.slice none 0 0),(Value.int .i64 0)]),(Mf z25 (Value.int .i64) (Value.int .i64) (nmB p0 p1 (oE M root).nd xx.1.toNat)),(Gr 80 3 xx.2 xx.1.toNat ((fks (B.N.take xx.1.toNat)))),(Arr 59 b5 [(Value.int .i64 vars),xx.2,(Value.int .i64 0)])]=σ'∧0≤xx.1∧xx.1≤(oE M root).nd.length) (fun (xx:Int × Value)=>((oE M root).nd.length - xx.1).toNat) (0,(Value.slice none 0 0)) ?_ ?_ ?_
 exact ⟨rfl,rfl,rfl,rfl,rfl,rfl,rfl,rfl,rfl,rfl,rfl,rfl,trivial⟩
 exact ⟨rfl,(show [ζ6,ζ5,ζ4,ζ1,(Mf z25 (Value.int .i64) (Value.int .i64) (nmB p0 p1 (oE M root).nd (0:Int).toNat)),(Gr 80 3 ((Value.slice none 0 0)) (0:Int).toNat ((fks (B.N.take (0:Int).toNat)))),(Arr 59 b5 [(Value.int .i64 vars),((Value.slice none 0 0)),(Value.int .i64 0)])]=[ζ6,ζ5,ζ4,ζ1,(Mf z25 (Value.int .i64) (Value.int .i64) (setF (setF (fun _=>none) p0 0) p1 1)),ζ25,ζ12] from by rfl),by omega,by omega⟩
 rintro ⟨j,wo⟩ e2 V0l σ0l hI0
 let ζ13:Asrt:=Mf z25 (Value.int .i64) (Value.int .i64) (nmB p0 p1 (oE M root).nd j.toNat)
 let ζ31:Asrt:=Gr 80 3 wo j.toNat ((fks (B.N.take j.toNat)))
 let ζ33:Asrt:=Arr 59 b5 [(Value.int .i64 vars),wo,(Value.int .i64 0)]
 obtain ⟨rfl,rfl,i1,i2⟩:Vf5=V0l∧[ζ6,ζ5,ζ4,ζ1,ζ13,ζ31,ζ33]=σ0l∧0≤j∧j≤(oE M root).nd.length:=hI0
 change VC _ _ _ _ _ _ (upds 75 [(0,ζ28),(1,(Value.int .i64 vars)),(2,(Value.int .i64 root)),(6,ζ35),(7,(Value.int .i64 0)),(8,vn),(10,(Value.map (some z25))),(11,(Value.pointer (some ⟨b5,0,none⟩))),(23,ζ32),(33,vn),(34,(.int .i64 ((((oE M root).nd).length:Int)))),(35,(Value.int .i64 j))] e2) _ _
 refine vc_seq ?_
 refine vc_res (σ':=[ζ6,ζ5,ζ4,ζ1,ζ13,ζ31,ζ33]) rfl ?_
 refine vc_region ?_
 refine oq (qv_lss rfl rfl) ?_
 refine ops_nil ?_
 refine vc_seq ?_
 refine vc_if rfl (fun c2=>?_) (fun c2=>?_)
 refine vc_skip ?_
 refine vc_seq ?_
 refine vc_block ?_
 refine vc_seq ?_
 refine vc_region ?_
 refine oq (qv_mv (Value.int .i64 j) rfl) ?_
 refine oq (qv_iai (v:=vn) (i:=j) Try.underlying22 Try.size3 rfl (inVi hc3) rfl (by omega) (by omega)) ?_
 refine oq (qv_ldi (v:=vn) (i:=j) Try.plain3 rfl (inVi hc3) (by omega) (by omega)) ?_
 refine oq (qv_as (Value.int .i64 j) rfl) ?_
 refine oq (qv_as (.int .i64 (gi ((oE M root).nd) (j))) rfl) ?_
 refine ops_nil ?_
 refine vc_seq ?_
 have hlb:=F.ndb j (by omega) (by omega)
 have hlb1:=hlb.1
 have hlb2:=hlb.2
 refine vc_region ?_
 refine oq (qv_mv ζ28 rfl) ?_
 refine oq (qv_nilck rfl) ?_
 refine oq (qv_fa (off:=0) Try.field113_1 rfl) ?_
 refine oq (qv_ldp (v:=w) Try.plain23 rfl (inVc hc5) rfl) ?_
 refine oq (qv_mv (.int .i64 (gi ((oE M root).nd) (j))) rfl) ?_
 refine oq (qv_ias (v:=w) (i:=gi ((oE M root).nd) (j)) Try.underlying23 Try.size80 rfl hc4 rfl (by omega) (by omega)) ?_
 let ζ19:Value:=.int .i64 ((fk M (gi ((oE M root).nd) (j))).v)
 let ζ29:Value:=.int .i64 ((fk M (gi ((oE M root).nd) (j))).l)
 let ζ30:Value:=.int .i64 ((fk M (gi ((oE M root).nd) (j))).h)
 refine oq (qv_lds (v:=w) (i:=gi ((oE M root).nd) (j)) (vs:=[ζ19,ζ29,ζ30]) Try.agg80 rfl hc4 (by omega) (by omega) (fks_at (by omega) (by omega))) ?_
 refine ops_alloc Try.ti80 rfl (fun b6=>?_)
 refine ops_stw (k:=7) (vs:=[ζ19,ζ29,ζ30]) Try.size80 rfl rfl rfl rfl rfl rfl ?_
 refine ops_nil ?_
 refine vc_seq ?_
 refine vc_res (σ':=[ζ6,ζ5,ζ4,ζ1,ζ13,ζ31,ζ33,(Arr 80 b6 [ζ19,ζ29,ζ30])]) rfl ?_
 refine vc_region ?_
 refine oq (qv_fa (off:=0) Try.field59_1 rfl) ?_
 refine oq (qv_ldp (v:=wo) Try.plain23 rfl (inOc (k:=6) rfl) rfl) ?_
 refine oq (qv_fa (off:=0) Try.field80_0 rfl) ?_
 refine oq (qv_ldp (v:=ζ19) Try.plain3 rfl (inOc (k:=7) rfl) rfl) ?_
 refine oq (qv_mv (Value.map (some z25)) rfl) ?_
 refine oq (qv_fa (off:=0) Try.field80_1 rfl) ?_
 refine oq (qv_ldp (v:=ζ29) Try.plain3 rfl (inOc (k:=7) rfl) rfl) ?_
 refine oq (qv_look1 (a0:=0) (key:=(fk M (gi ((oE M root).nd) (j))).l) (k:=4) Try.underlying110 (KeyT.int Try.underlying3) Try.ti3 rfl rfl rfl) ?_
 refine oq (qv_mv (Value.map (some z25)) rfl) ?_
 refine oq (qv_fa (off:=0) Try.field80_2 rfl) ?_
 refine oq (qv_ldp (v:=ζ30) Try.plain3 rfl (inOc (k:=7) rfl) rfl) ?_
 refine oq (qv_look1 (a0:=0) (key:=(fk M (gi ((oE M root).nd) (j))).h) (k:=4) Try.underlying110 (KeyT.int Try.underlying3) Try.ti3 rfl rfl rfl) ?_
 let ζ20:Value:=.int .i64 (((nmB p0 p1 (oE M root).nd j.toNat) ((fk M (gi ((oE M root).nd) (j))).l)).getD 0)
 let ζ21:Value:=.int .i64 (((nmB p0 p1 (oE M root).nd j.toNat) ((fk M (gi ((oE M root).nd) (j))).h)).getD 0)
 refine oq (qv_build (out:=[ζ19,ζ20,ζ21]) Try.build80 [(0,[ζ19]),(1,[ζ20]),(2,[ζ21])] rfl rfl) ?_
 refine ops_lit (n:=1) (s:=3) (cs:=[ζ19,ζ20,ζ21]) Try.underlying23 Try.ti80 (Nat.le_of_ble_eq_true rfl) rfl rfl rfl (Nat.le_of_ble_eq_true rfl) rfl (fun b7=>?_)
 subst ζ4 ζ8 ζ10 ζ16 ζ18 ζ1 ζ28 ζ2 ζ3 ζ5 ζ32 ζ35 ζ6 ζ7 ζ12 ζ25 ζ17 ζ13 ζ31 ζ33 ζ19 ζ29 ζ30 ζ20 ζ21
 refine ops_append (k:=5) (n:=j.toNat) (s:=3) (m:=1) (v:=wo) (xs:=(fks (B.N.take j.toNat))) (news:=[(.int .i64 ((fk M (gi ((oE M root).nd) (j))).v)),(.int .i64 (((nmB p0 p1 (oE M root).nd j.toNat) ((fk M (gi ((oE M root).nd) (j))).l)).getD 0)),(.int .i64 (((nmB p0 p1 (oE M root).nd j.toNat) ((fk M (gi ((oE M root).nd) (j))).h)).getD 0))]) Try.underlying23 Try.ti80 rfl (Nat.le_of_ble_eq_true rfl) rfl rfl rfl rfl (news_own (j:=8) rfl) (by simp [Value.oneCell']) (by omega) (by simp only [maxLen]; omega) (fun v1 hn1=>?_)
 refine oq (qv_fa (off:=0) Try.field59_1 rfl) ?_
 refine ops_gr1 (k:=5) rfl (fun ho1=>?_)
 refine ops_stp (k:=6) (off:=1) (cs:=[(Value.int .i64 vars),wo,(Value.int .i64 0)]) Try.size23 rfl (rfl:ev _ _=v1) ho1 rfl (Nat.le_of_ble_eq_true rfl) ?_
 refine ops_nil ?_
 let ζ1:Asrt:=Arr 59 b1 [(Value.int .i64 0),(Value.slice none 0 0),(Value.int .i64 0)]
 let ζ4:Asrt:=Mf bi fkv (Value.int .i64) (idF M)
 let ζ5:Asrt:=Mf ba (Value.int .i64) (Value.int .i64) (lfF L2)
 let ζ6:Asrt:=Gr 3 1 u2 L2.length ((L2.map (Value.int .i64)))
 let ζ19:Value:=.int .i64 ((fk M (gi ((oE M root).nd) (j))).v)
 let ζ20:Value:=.int .i64 (((nmB p0 p1 (oE M root).nd j.toNat) ((fk M (gi ((oE M root).nd) (j))).l)).getD 0)
 let ζ21:Value:=.int .i64 (((nmB p0 p1 (oE M root).nd j.toNat) ((fk M (gi ((oE M root).nd) (j))).h)).getD 0)
 let ζ27:Asrt:=Arr 59 b5 [(Value.int .i64 vars),v1,(Value.int .i64 0)]
 let ζ29:Value:=.int .i64 ((fk M (gi ((oE M root).nd) (j))).l)
 let ζ30:Value:=.int .i64 ((fk M (gi ((oE M root).nd) (j))).h)
 let ζ34:Asrt:=Gr 80 3 v1 ((j.toNat+1)) (((fks (B.N.take j.toNat))++[ζ19,ζ20,ζ21]))
 refine vc_res (σ':=[ζ6,ζ5,ζ4,ζ1,(Mf z25 (Value.int .i64) (Value.int .i64) (nmB p0 p1 (oE M root).nd j.toNat)),ζ34,ζ27,(Arr 80 b6 [ζ19,ζ29,ζ30]),(Arr 80 b7 [ζ19,ζ20,ζ21])]) rfl ?_
 refine vc_region ?_
 refine oq (qv_mv (Value.map (some z25)) rfl) ?_
 refine oq (qv_mv (.int .i64 (gi ((oE M root).nd) (j))) rfl) ?_
 refine oq (qv_mul rfl rfl (by omega)) ?_
 refine oq (qv_add rfl rfl (by omega)) ?_
 refine oq (qv_mv (Value.int .i64 j) rfl) ?_
 refine oq (qv_add rfl rfl (by omega)) ?_
 refine ops_mapset (k:=4) (key:=(2 * (gi ((oE M root).nd) (j)))+1) (v:=2+j) Try.underlying110 (KeyT.int Try.underlying3) rfl rfl rfl rfl ?_
 refine ops_nil ?_
 let ζ15:Asrt:=Mf z25 (Value.int .i64) (Value.int .i64) (setF (nmB p0 p1 (oE M root).nd j.toNat) ((2 * (gi ((oE M root).nd) (j)))+1) (2+j))
 refine vc_res (σ':=[ζ6,ζ5,ζ4,ζ1,ζ15,ζ34,ζ27,(Arr 80 b6 [ζ19,ζ29,ζ30]),(Arr 80 b7 [ζ19,ζ20,ζ21])]) rfl ?_
 let ζ9:Asrt:=Gr 80 3 v1 ((j.toNat+1)) (((fks (B.N.take j.toNat))++[(Value.int .i64 ((fk M (gi ((oE M root).nd) (j))).v)),(Value.int .i64 (((nmB p0 p1 (oE M root).nd j.toNat) ((fk M (gi ((oE M root).nd) (j))).l)).getD 0)),(Value.int .i64 (((nmB p0 p1 (oE M root).nd j.toNat) ((fk M (gi ((oE M root).nd) (j))).h)).getD 0))]))
 let ζ14:Asrt:=Arr 80 b6 [(Value.int .i64 ((fk M (gi ((oE M root).nd) (j))).v)),(Value.int .i64 ((fk M (gi ((oE M root).nd) (j))).l)),(Value.int .i64 ((fk M (gi ((oE M root).nd) (j))).h))]
 refine vc_drop [ζ6,ζ5,ζ4,ζ1,ζ15,ζ9,ζ27,ζ14] [(Arr 80 b7 [(Value.int .i64 ((fk M (gi ((oE M root).nd) (j))).v)),(Value.int .i64 (((nmB p0 p1 (oE M root).nd j.toNat) ((fk M (gi ((oE M root).nd) (j))).l)).getD 0)),(Value.int .i64 (((nmB p0 p1 (oE M root).nd j.toNat) ((fk M (gi ((oE M root).nd) (j))).h)).getD 0))])] ((List.perm_middle (l₁:=[ζ6,ζ5,ζ4,ζ1,ζ15,ζ9,ζ27,ζ14]) (l₂:=[])).trans (List.perm_append_comm (l₁:=[(Arr 80 b7 [(Value.int .i64 ((fk M (gi ((oE M root).nd) (j))).v)),(Value.int .i64 (((nmB p0 p1 (oE M root).nd j.toNat) ((fk M (gi ((oE M root).nd) (j))).l)).getD 0)),(Value.int .i64 (((nmB p0 p1 (oE M root).nd j.toNat) ((fk M (gi ((oE M root).nd) (j))).h)).getD 0))])]))) ?_
 refine vc_drop [ζ6,ζ5,ζ4,ζ1,ζ15,ζ9,ζ27] [ζ14] ((List.perm_middle (l₁:=[ζ6,ζ5,ζ4,ζ1,ζ15,ζ9,ζ27]) (l₂:=[])).trans (List.perm_append_comm (l₁:=[ζ14]))) ?_
 refine vc_region ?_
 refine oq (qv_add rfl rfl (by omega)) ?_
 refine oq (qv_mv (.int .i64 (j+1)) rfl) ?_
 refine ops_nil ?_
 subst ζ1 ζ4 ζ5 ζ6 ζ19 ζ20 ζ21 ζ27 ζ29 ζ30 ζ34 ζ15 ζ9 ζ14
 refine ⟨(j+1,v1),⟨rfl,rfl,rfl,rfl,rfl,rfl,rfl,rfl,rfl,rfl,rfl,(congrArg (Value.int .i64) (show (j+1)=((j+1)) from by omega)),trivial⟩,⟨rfl,(show [(Gr 3 1 u2 L2.length ((L2.map (Value.int .i64)))),(Mf ba (Value.int .i64) (Value.int .i64) (lfF L2)),(Mf bi fkv (Value.int .i64) (idF M)),(Arr 59 b1 [(Value.int .i64 0),(Value.slice none 0 0),(Value.int .i64 0)]),(Mf z25 (Value.int .i64) (Value.int .i64) (nmB p0 p1 (oE M root).nd (j+1:Int).toNat)),(Gr 80 3 v1 (j+1:Int).toNat ((fks (B.N.take (j+1:Int).toNat)))),(Arr 59 b5 [(Value.int .i64 vars),v1,(Value.int .i64 0)])]=[(Gr 3 1 u2 L2.length ((L2.map (Value.int .i64)))),(Mf ba (Value.int .i64) (Value.int .i64) (lfF L2)),(Mf bi fkv (Value.int .i64) (idF M)),(Arr 59 b1 [(Value.int .i64 0),(Value.slice none 0 0),(Value.int .i64 0)]),(Mf z25 (Value.int .i64) (Value.int .i64) (setF (nmB p0 p1 (oE M root).nd j.toNat) ((2 * (gi ((oE M root).nd) (j)))+1) (2+j))),(Gr 80 3 v1 ((j.toNat+1)) (((fks (B.N.take j.toNat))++[(.int .i64 ((fk M (gi ((oE M root).nd) (j))).v)),(.int .i64 (((nmB p0 p1 (oE M root).nd j.toNat) ((fk M (gi ((oE M root).nd) (j))).l)).getD 0)),(.int .i64 (((nmB p0 p1 (oE M root).nd j.toNat) ((fk M (gi ((oE M root).nd) (j))).h)).getD 0))]))),(Arr 59 b5 [(Value.int .i64 vars),v1,(Value.int .i64 0)])] from by rw [show (j+1).toNat=j.toNat+1 by omega,nmB_step2 (by omega),tkf (by omega) (by omega),fks_snoc,F.nd j (by omega) (by omega)]; try rfl),by omega,by omega⟩,by omega⟩
 refine vc_exit ?_
 refine blockQ_hit ?_
 refine vc_seq ?_
 refine vc_region ?_
 refine oq (qv_mv (Value.map (some z25)) rfl) ?_
 refine oq (qv_mv (Value.int .i64 root) rfl) ?_
 refine oq (qv_look1 (a0:=0) (key:=root) (k:=4) Try.underlying110 (KeyT.int Try.underlying3) Try.ti3 rfl rfl rfl) ?_
 refine oq (qv_fa (off:=0) Try.field59_2 rfl) ?_
 let ζ22:Value:=.int .i64 (((nmB p0 p1 (oE M root).nd j.toNat) root).getD 0)
 refine ops_stp (k:=6) (off:=2) (cs:=[(Value.int .i64 vars),wo,(Value.int .i64 0)]) Try.size3 rfl (rfl:ev _ _=ζ22) rfl rfl (Nat.le_of_ble_eq_true rfl) ?_
 refine ops_nil ?_
 refine vc_seq ?_
 refine vc_res (σ':=[ζ6,ζ5,ζ4,ζ1,ζ13,ζ31,(Arr 59 b5 [(Value.int .i64 vars),wo,ζ22])]) rfl ?_
 let ζ26:Asrt:=Arr 59 b5 [(Value.int .i64 vars),wo,(Value.int .i64 (((nmB p0 p1 (oE M root).nd j.toNat) root).getD 0))]
 refine vc_freezeS (v:=wo) (E:=80) (n:=j.toNat) (xs:=(fks (B.N.take j.toNat))) (σr:=[ζ6,ζ5,ζ4,ζ1,ζ13,ζ26]) (List.perm_middle (l₁:=[ζ6,ζ5,ζ4,ζ1,ζ13]) (l₂:=[ζ26])) (fun Vf6 hVf6 hc6=>?_)
 have hc2:=hc2.mono hVf6
 have hc3:=hc3.mono hVf6
 have hc4:=hc4.mono hVf6
 have hc5:=hc5.mono hVf6
 refine vc_region ?_
 skip
 refine oq (qv_ldm (vs:=[(Value.int .i64 vars),wo,ζ22]) Try.agg59 rfl (inOc (k:=5) rfl) rfl rfl) ?_
 refine ops_stw (k:=3) (vs:=[(Value.int .i64 vars),wo,ζ22]) Try.size59 rfl rfl rfl (allc rfl (allc (SlS.one hc6) (allc rfl rfl))) rfl rfl ?_
 refine oq (qv_as (Value.int .i64 0) rfl) ?_
 refine ops_nil ?_
 refine vc_freeze (b:=b1) (o:=.cells ([(Value.int .i64 vars),wo,(Value.int .i64 (((nmB p0 p1 (oE M root).nd j.toNat) root).getD 0))]:List Value).toArray 59 (0,0)) (σr:=[ζ6,ζ5,ζ4,ζ13,ζ26]) (List.perm_middle (l₁:=[ζ6,ζ5,ζ4]) (l₂:=[ζ13,ζ26])) (fun Vf7 hVf7 hb7=>?_)
 have hc7:Cells Vf7 b1 [(Value.int .i64 vars),wo,ζ22]:=⟨_,_,hb7⟩
 have hc2:=hc2.mono hVf7
 have hc3:=hc3.mono hVf7
 have hc4:=hc4.mono hVf7
 have hc5:=hc5.mono hVf7
 have hc6:=hc6.mono hVf7
 refine vc_drop [] [ζ6,ζ5,ζ4,ζ13,(Arr 59 b5 [(Value.int .i64 vars),wo,ζ22])] (.refl _) ?_
 refine vc_ret ?_
 refine rs2 _ (Value.int .i64 0) (rv_c (vs:=[(Value.int .i64 vars),wo,ζ22]) Try.agg59 rfl (inVc hc7) rfl rfl) (rv_t rfl) ?_
 have hb:=fb_0 (B:=B) (by omega)
 subst ζ4 ζ8 ζ10 ζ16 ζ18 ζ1 ζ28 ζ2 ζ3 ζ5 ζ32 ζ35 ζ6 ζ7 ζ12 ζ25 ζ17 ζ13 ζ31 ζ33 ζ22 ζ26
 rw [hb.1,hb.2]
 have q2:=hc6
 rw [List.take_of_length_le (by omega),show j.toNat=B.N.length by omega] at q2
 have hrt:=F.rt
 rw [show (oE M root).nd.length=j.toNat by omega] at hrt
 exact ⟨rfl,wo,by rw [hrt,F.v],q2⟩
end Go.Proofs.Ytkmhjcjpohpiaaa
