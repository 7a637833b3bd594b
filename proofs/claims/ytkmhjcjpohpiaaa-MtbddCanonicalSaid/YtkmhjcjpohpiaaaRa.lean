import Derived.Test.YtkmhjcjpohpiaaaMk
import Derived.Test.YtkmhjcjpohpiaaaWo
/- Walks of mtbdd: what each function returns. Printed by a program out of notes. -/
namespace Go.Proofs.Ytkmhjcjpohpiaaa
open Go.Vc
open Classical
set_option maxRecDepth 100000
set_option maxHeartbeats 4000000
theorem lifted_c {V:HV} {nc:Value} {cv cr:Int} {cN:List Fk} (hC:Fks V nc cN) (hok:Bd.Ok cv cN cr) :
    FnC Try.prog 80 [(.agg #[(Value.int .i64 cv),nc,(Value.int .i64 cr)])] V [] (fun v V' σ'=>σ' = []∧∃ lv nv,v=.agg #[.int .i64 (lfD cv cN cr).v,lv,nv,.int .i64 (lfD cv cN cr).r]∧Mt V' lv nv (lfD cv cN cr)):=by
 refine fn_intro (N:=53) Try.func80 (by kernel_rfl) rfl rfl rfl (Nat.le_of_ble_eq_true rfl) ?_
 intro w0 D
 have hbn:=SlS.bound hC
 have hf:=hok.2.2.1.1
 have hr0:0≤cr:=hok.2.2.1.2.1
 have hr1:cr≤1+cN.length:=hok.2.2.1.2.2
 have hn4:cN.length≤4096:=hok.2.1
 refine vc_seq ?_
 refine vc_region ?_
 refine ops_box (v:=(.agg #[(Value.int .i64 cv),nc,(Value.int .i64 cr)])) (cs:=[(Value.int .i64 cv),nc,(Value.int .i64 cr)]) rfl rfl (fun b1=>?_)
 refine ops_alloc Try.ti25 rfl (fun b2=>?_)
 refine ops_nil ?_
 refine vc_seq ?_
 let ζ1:Asrt:=Arr 25 b2 [(Value.int .i64 0),(Value.slice none 0 0),(Value.slice none 0 0),(Value.int .i64 0)]
 let ζ2:Asrt:=Arr 59 b1 [(Value.int .i64 cv),nc,(Value.int .i64 cr)]
 refine vc_res (σ':=[ζ2,ζ1]) rfl ?_
 refine vc_region ?_
 refine ops_call (σa:=[]) (σr:=[ζ2,ζ1]) (newBuilder_c) rfl rfl (.refl _) (fun r1 V1 sg1 hV1 hp1=>?_)
 obtain ⟨bb,ba,bi,rfl,rfl⟩:=hp1
 have hC:=hC.mono hV1
 let ζ19:Value:=Value.pointer (some ⟨bb,0,none⟩)
 refine oq (qv_as ζ19 rfl) ?_
 refine ops_nil ?_
 refine vc_seq ?_
 let ζ23:Asrt:=Arr 113 bb [(Value.slice none 0 0),(Value.slice none 0 0),(Value.map (some ba)),(Value.map (some bi)),(.bool (decide (wd [])))]
 refine vc_res (σ':=[ζ23,(Mf ba (Value.int .i64) (Value.int .i64) (lfF [])),(Mf bi fkv (Value.int .i64) (idF [])),ζ2,ζ1]) rfl ?_
 refine vc_nil 3 1 ?_
 refine vc_nil 80 3 ?_
 refine vc_region ?_
 refine oq (qv_mv ζ19 rfl) ?_
 refine ops_call (σa:=[ζ23,(Gr 3 1 ((Value.slice none 0 0)) 0 ([])),(Gr 80 3 ((Value.slice none 0 0)) 0 ([])),(Mf ba (Value.int .i64) (Value.int .i64) (lfF [])),(Mf bi fkv (Value.int .i64) (idF []))]) (σr:=[ζ2,ζ1]) (leaf_c (L:=[]) (M:=([]:List Fk)) (z:=0) (u:=(Value.slice none 0 0)) (w:=(Value.slice none 0 0)) (Nat.zero_le _)) rfl rfl (perm_idx _ _ [0,5,6,1,2,3,4] rfl rfl) (fun r2 V2 sg2 hV2 hp2=>?_)
 obtain ⟨rfl,u1,rfl⟩:=hp2
 have hC:=hC.mono hV2
 refine ops_perm (σ':=[(Arr 113 bb [u1,(Value.slice none 0 0),(Value.map (some ba)),(Value.map (some bi)),(.bool (decide (wd (lfR [] (0)).1)))]),(Mf ba (Value.int .i64) (Value.int .i64) (lfF (lfR [] (0)).1)),(Mf bi fkv (Value.int .i64) (idF ([]:List Fk))),ζ2,ζ1,(Gr 3 1 u1 ((lfR [] (0)).1.length) (((lfR [] (0)).1.map (Value.int .i64)))),(Gr 80 3 ((Value.slice none 0 0)) (([]:List Fk).length) ((fks ([]:List Fk))))]) (perm_idx _ _ [0,3,4,5,6,1,2] rfl rfl) ?_
 refine oq (qv_mv ζ19 rfl) ?_
 subst ζ1 ζ2 ζ19 ζ23
 refine ops_call (σa:=[(Arr 113 bb [u1,(Value.slice none 0 0),(Value.map (some ba)),(Value.map (some bi)),(.bool (decide (wd (lfR [] (0)).1)))]),(Gr 3 1 u1 ((lfR [] (0)).1.length) (((lfR [] (0)).1.map (Value.int .i64)))),(Gr 80 3 ((Value.slice none 0 0)) (([]:List Fk).length) ((fks ([]:List Fk)))),(Mf ba (Value.int .i64) (Value.int .i64) (lfF (lfR [] (0)).1)),(Mf bi fkv (Value.int .i64) (idF ([]:List Fk)))]) (σr:=[(Arr 59 b1 [(Value.int .i64 cv),nc,(Value.int .i64 cr)]),(Arr 25 b2 [(Value.int .i64 0),(Value.slice none 0 0),(Value.slice none 0 0),(Value.int .i64 0)])]) (leaf_c (L:=(lfR [] 0).1) (M:=([]:List Fk)) (z:=1) (u:=u1) (w:=(Value.slice none 0 0)) (by have:=lfR_len (L:=[]) (z:=0); simp only [List.length_nil] at this; omega)) rfl rfl (perm_idx _ _ [0,5,6,1,2,3,4] rfl rfl) (fun r3 V3 sg3 hV3 hp3=>?_)
 obtain ⟨rfl,u2,rfl⟩:=hp3
 have hC:=hC.mono hV3
 let ζ1:Asrt:=Arr 25 b2 [(Value.int .i64 0),(Value.slice none 0 0),(Value.slice none 0 0),(Value.int .i64 0)]
 let ζ2:Asrt:=Arr 59 b1 [(Value.int .i64 cv),nc,(Value.int .i64 cr)]
 let ζ21:Asrt:=Gr 80 3 ((Value.slice none 0 0)) (([]:List Fk).length) ((fks ([]:List Fk)))
 let ζ22:Asrt:=Arr 113 bb [u2,(Value.slice none 0 0),(Value.map (some ba)),(Value.map (some bi)),(.bool (decide (wd (lfR (lfR [] 0).1 (1)).1)))]
 let ζ26:Asrt:=Mf bi fkv (Value.int .i64) (idF ([]:List Fk))
 let ζ28:Asrt:=Gr 3 1 u2 ((lfR (lfR [] 0).1 (1)).1.length) (((lfR (lfR [] 0).1 (1)).1.map (Value.int .i64)))
 let ζ30:Asrt:=Mf ba (Value.int .i64) (Value.int .i64) (lfF (lfR (lfR [] 0).1 (1)).1)
 refine ops_perm (σ':=[ζ22,ζ30,ζ26,ζ2,ζ1,ζ28,ζ21]) (perm_idx _ _ [0,3,4,5,6,1,2] rfl rfl) ?_
 refine ops_lit (n:=2) (s:=1) (cs:=[(.int .i64 ((lfR [] (0)).2)),(.int .i64 ((lfR (lfR [] 0).1 (1)).2))]) Try.underlying22 Try.ti3 (Nat.le_of_ble_eq_true rfl) rfl rfl rfl (Nat.le_of_ble_eq_true rfl) rfl (fun b3=>?_)
 refine oq (qv_as (.slice (some ⟨b3,0,none⟩) 2 2) rfl) ?_
 refine ops_nil ?_
 refine vc_seq ?_
 refine vc_seq ?_
 refine vc_res (σ':=[ζ22,ζ30,ζ26,ζ2,ζ1,ζ28,ζ21,(Arr 3 b3 [(.int .i64 ((lfR [] (0)).2)),(.int .i64 ((lfR (lfR [] 0).1 (1)).2))])]) rfl ?_
 subst ζ1 ζ2 ζ21 ζ22 ζ26 ζ28 ζ30
 refine vc_to_gr (k:=7) (n:=2) (cap:=2) 1 ([(lfR [] 0).2,(lfR (lfR [] 0).1 1).2].map (Value.int .i64)) rfl rfl (Nat.le_refl _) (by simp only [maxLen]; omega) rfl rfl ?_
 let ζ1:Asrt:=Arr 25 b2 [(Value.int .i64 0),(Value.slice none 0 0),(Value.slice none 0 0),(Value.int .i64 0)]
 let ζ2:Asrt:=Arr 59 b1 [(Value.int .i64 cv),nc,(Value.int .i64 cr)]
 let ζ21:Asrt:=Gr 80 3 ((Value.slice none 0 0)) (([]:List Fk).length) ((fks ([]:List Fk)))
 let ζ26:Asrt:=Mf bi fkv (Value.int .i64) (idF ([]:List Fk))
 let ζ29:Value:=.slice (some ⟨b3,0,none⟩) 2 2
 refine vc_res (σ':=[(Arr 113 bb [u2,(Value.slice none 0 0),(Value.map (some ba)),(Value.map (some bi)),(.bool (decide (wd (lfR (lfR [] 0).1 (1)).1)))]),(Mf ba (Value.int .i64) (Value.int .i64) (lfF (lfR (lfR [] 0).1 (1)).1)),ζ26,ζ2,ζ1,(Gr 3 1 u2 ((lfR (lfR [] 0).1 (1)).1.length) (((lfR (lfR [] 0).1 (1)).1.map (Value.int .i64)))),ζ21,(Gr 3 1 (ζ29) 2 (([(lfR [] 0).2,(lfR (lfR [] 0).1 1).2].map (Value.int .i64))))]) rfl ?_
 have hl0:=lf_0 (v:=cv) (r:=cr) (N:=cN)
 generalize (lfR (lfR [] 0).1 1).1=L2 at hl0 ⊢
 generalize (lfR (lfR [] 0).1 1).2=p1 at hl0 ⊢
 generalize (lfR [] 0).2=p0 at hl0 ⊢
 refine vc_region ?_
 refine oq (qv_fa (off:=0) Try.field59_1 rfl) ?_
 refine oq (qv_ldp (v:=nc) Try.plain23 rfl (inOc (k:=3) rfl) rfl) ?_
 refine oq (qv_lenSS Try.underlying23 rfl hC) ?_
 refine oq (qv_mv (Value.int .i64 0) rfl) ?_
 refine ops_nil ?_
 refine vc_block ?_
 refine vc_loop (α:=Int × List Fk × List Int × Value × Value) (fun (xx:Int × List Fk × List Int × Value × Value)=>[(0,(.agg #[(Value.int .i64 cv),nc,(Value.int .i64 cr)])),(1,(Value.pointer (some ⟨b1,0,none⟩))),(2,(Value.pointer (some ⟨b2,0,none⟩))),(3,(Value.pointer (some ⟨bb,0,none⟩))),(16,nc),(17,(.int .i64 ((cN.length:Int)))),(4,xx.2.2.2.2),(18,(Value.int .i64 xx.1))]) (fun (xx:Int × List Fk × List Int × Value × Value) V' σ'=>[(Arr 113 bb [u2,xx.2.2.2.1,(Value.map (some ba)),(Value.map (some bi)),(.bool (decide (wd L2)))]),(Mf ba (Value.int .i64) (Value.int .i64) (lfF L2)),(Mf bi fkv (Value.int .i64) (idF xx.2.1)),(Arr 59 b1 [(Value.int .i64 cv),nc,(Value.int .i64 cr)]),(Arr 25 b2 [(Value.int .i64 0),(Value.slice none 0 0),(Value.slice none 0 0),(Value.int .i64 0)]),(Gr 3 1 u2 L2.length ((L2.map (Value.int .i64)))),(Gr 80 3 xx.2.2.2.1 xx.2.1.length ((fks xx.2.1))),(Gr 3 1 xx.2.2.2.2 xx.2.2.1.length ((xx.2.2.1.map (Value.int .i64))))]=σ'∧Fks V' nc cN∧0≤xx.1∧xx.1≤cN.length∧RInv (pM cv cN cr) (-1) false L2 xx.2.1 xx.2.2.1∧(xx.2.2.1.length:Int)=2+xx.1) (fun (xx:Int × List Fk × List Int × Value × Value)=>(cN.length - xx.1).toNat) (0,[],[p0,p1],(Value.slice none 0 0),ζ29) ?_ ?_ ?_
 subst ζ1 ζ2 ζ21 ζ26 ζ29; exact ⟨rfl,rfl,rfl,rfl,rfl,rfl,(by first | rfl | (first | omega | simp)),rfl,trivial⟩
 exact (show [(Arr 113 bb [u2,((Value.slice none 0 0):Value),(Value.map (some ba)),(Value.map (some bi)),(.bool (decide (wd L2)))]),(Mf ba (Value.int .i64) (Value.int .i64) (lfF L2)),ζ26,ζ2,ζ1,(Gr 3 1 u2 L2.length ((L2.map (Value.int .i64)))),(Gr 80 3 ((Value.slice none 0 0):Value) ([]:List Fk).length ((fks ([]:List Fk)))),(Gr 3 1 (ζ29:Value) ([p0,p1]:List Int).length ((([p0,p1]:List Int).map (Value.int .i64))))]=[(Arr 113 bb [u2,(Value.slice none 0 0),(Value.map (some ba)),(Value.map (some bi)),(.bool (decide (wd L2)))]),(Mf ba (Value.int .i64) (Value.int .i64) (lfF L2)),ζ26,ζ2,ζ1,(Gr 3 1 u2 (L2.length) ((L2.map (Value.int .i64)))),ζ21,(Gr 3 1 (ζ29) 2 (([p0,p1].map (Value.int .i64))))]∧Fks V3 nc cN∧0≤(0:Int)∧(0:Int)≤cN.length∧RInv (pM cv cN cr) (-1) false L2 ([]:List Fk) ([p0,p1]:List Int)∧(([p0,p1]:List Int).length:Int)=2+(0:Int) from ⟨rfl,hC,by omega,by omega,hl0,rfl⟩)
 rintro ⟨j,M,S,w,sv⟩ e1 V0l σ0l hI0
 let ζ6:Asrt:=Gr 3 1 sv S.length ((S.map (Value.int .i64)))
 let ζ8:Asrt:=Mf ba (Value.int .i64) (Value.int .i64) (lfF L2)
 let ζ9:Asrt:=Gr 3 1 u2 L2.length ((L2.map (Value.int .i64)))
 let ζ10:Asrt:=Arr 113 bb [u2,w,(Value.map (some ba)),(Value.map (some bi)),(.bool (decide (wd L2)))]
 let ζ13:Asrt:=Mf bi fkv (Value.int .i64) (idF M)
 let ζ17:Asrt:=Gr 80 3 w M.length ((fks M))
 obtain ⟨rfl,hC,i1,i2,d,hj⟩:[ζ10,ζ8,ζ13,ζ2,ζ1,ζ9,ζ17,ζ6]=σ0l∧Fks V0l nc cN∧0≤j∧j≤cN.length∧RInv (pM cv cN cr) (-1) false L2 M S∧(S.length:Int)=2+j:=hI0
 let ζ19:Value:=Value.pointer (some ⟨bb,0,none⟩)
 let ζ20:Value:=.agg #[(Value.int .i64 cv),nc,(Value.int .i64 cr)]
 let ζ24:Value:=Value.pointer (some ⟨b1,0,none⟩)
 let ζ25:Value:=Value.pointer (some ⟨b2,0,none⟩)
 let ζ27:Value:=.int .i64 ((cN.length:Int))
 change VC _ _ _ _ _ _ (upds 53 [(0,ζ20),(1,ζ24),(2,ζ25),(3,ζ19),(16,nc),(17,ζ27),(4,sv),(18,(Value.int .i64 j))] e1) _ _
 refine vc_seq ?_
 refine vc_res (σ':=[ζ10,ζ8,ζ13,ζ2,ζ1,ζ9,ζ17,ζ6]) rfl ?_
 refine vc_region ?_
 refine oq (qv_lss rfl rfl) ?_
 refine ops_nil ?_
 refine vc_seq ?_
 refine vc_if rfl (fun c1=>?_) (fun c1=>?_)
 refine vc_skip ?_
 refine vc_seq ?_
 refine vc_block ?_
 refine vc_seq ?_
 refine vc_region ?_
 refine oq (qv_ias (v:=nc) (i:=j) Try.underlying23 Try.size80 rfl hC rfl (by omega) (by omega)) ?_
 refine oq (qv_lds (v:=nc) (i:=j) (vs:=[(.int .i64 ((fk cN (j)).v)),(.int .i64 ((fk cN (j)).l)),(.int .i64 ((fk cN (j)).h))]) Try.agg80 rfl hC (by omega) (by omega) (fks_at (by omega) (by omega))) ?_
 refine ops_alloc Try.ti80 rfl (fun b4=>?_)
 refine ops_stw (k:=8) (vs:=[(.int .i64 ((fk cN (j)).v)),(.int .i64 ((fk cN (j)).l)),(.int .i64 ((fk cN (j)).h))]) Try.size80 rfl rfl rfl rfl rfl rfl ?_
 refine ops_nil ?_
 let ζ3:Asrt:=Arr 80 b4 [(.int .i64 ((fk cN (j)).v)),(.int .i64 ((fk cN (j)).l)),(.int .i64 ((fk cN (j)).h))]
 refine vc_res (σ':=[ζ10,ζ8,ζ13,ζ2,ζ1,ζ9,ζ17,ζ6,ζ3]) rfl ?_
 refine vc_grshape (k:=7) (by omega) rfl (fun hsv=>?_)
 have hbj:(0≤(fk cN j).l∧(fk cN j).l < 2+j)∧(0≤(fk cN j).h∧(fk cN j).h < 2+j):=pm_bd2 hf (by omega) (by omega)
 have hbj1:=hbj.1
 have hbj2:=hbj.2
 have hdm:(M.length:Int)≤cN.length:=d.ml.1
 let ζ5:Asrt:=Mf bi fkv (Value.int .i64) (idF (ndR M ((fk cN (j)).v) (gi S (fk cN (j)).l) (gi S (fk cN (j)).h)).1)
 let ζ7:Value:=.int .i64 ((ndR M ((fk cN (j)).v) (gi S (fk cN (j)).l) (gi S (fk cN (j)).h)).2)
 refine vc_join (α:=Nat × Value × Value) (fun xx=>[(0,ζ20),(1,ζ24),(2,ζ25),(3,ζ19),(4,xx.2.1),(6,(Value.pointer (some ⟨b4,0,none⟩))),(16,nc),(17,ζ27),(18,(Value.int .i64 j)),(19,(.bool (decide (j < ((cN.length:Int))))))]) (fun xx V' σ'=>Vc.Sub V0l V'∧[(Arr 113 bb [u2,xx.2.2,(Value.map (some ba)),(Value.map (some bi)),(.bool (decide (wd L2)))]),ζ8,ζ5,ζ2,ζ1,ζ9,(Gr 80 3 xx.2.2 ((ndR M ((fk cN (j)).v) (gi S (fk cN (j)).l) (gi S (fk cN (j)).h)).1.length) ((fks (ndR M ((fk cN (j)).v) (gi S (fk cN (j)).l) (gi S (fk cN (j)).h)).1))),(Gr 3 1 xx.2.1 ((S.length+1)) (((S.map (Value.int .i64))++[ζ7]))),ζ3,(Arr 3 xx.1 [ζ7])]=σ') ?_ ?_
 refine vc_region_E (τ:=[ζ10,ζ8,ζ13,ζ9,ζ17,ζ6]) (n:=18) [ζ2,ζ1,ζ3] Try.mixed (perm_idx _ _ [3,4,8,0,1,2,5,6,7] rfl rfl) rfl ?_
 refine eq_ (i:=0) (by kernel_rfl) rfl (qv_mv sv rfl) ?_
 refine eq_ (i:=1) (by kernel_rfl) rfl (qv_mv ζ19 rfl) ?_
 refine eq_ (i:=2) (by kernel_rfl) rfl (qv_fa (off:=0) Try.field80_0 rfl) ?_
 refine eq_ (i:=3) (by kernel_rfl) rfl (qv_ldp (v:=(.int .i64 ((fk cN (j)).v))) Try.plain3 rfl (inOc (k:=2) rfl) rfl) ?_
 refine eq_ (i:=4) (by kernel_rfl) rfl (qv_mv sv rfl) ?_
 refine eq_ (i:=5) (by kernel_rfl) rfl (qv_fa (off:=0) Try.field80_1 rfl) ?_
 refine eq_ (i:=6) (by kernel_rfl) rfl (qv_ldp (v:=(.int .i64 ((fk cN (j)).l))) Try.plain3 rfl (inOc (k:=2) rfl) rfl) ?_
 refine eq_ (i:=7) (by kernel_rfl) rfl (qv_iash (v:=sv) (i:=(fk cN (j)).l) Try.underlying22 Try.size3 rfl hsv rfl (by omega) (by omega)) ?_
 refine eq_ (i:=9) (by kernel_rfl) rfl (qv_mv sv rfl) ?_
 refine eq_ (i:=10) (by kernel_rfl) rfl (qv_fa (off:=0) Try.field80_2 rfl) ?_
 refine eq_ (i:=11) (by kernel_rfl) rfl (qv_ldp (v:=(.int .i64 ((fk cN (j)).h))) Try.plain3 rfl (inOc (k:=2) rfl) rfl) ?_
 refine eq_ (i:=12) (by kernel_rfl) rfl (qv_iash (v:=sv) (i:=(fk cN (j)).h) Try.underlying22 Try.size3 rfl hsv rfl (by omega) (by omega)) ?_
 refine el2 (i:=8) (j:=13) (by kernel_rfl) ?_ ?_
 refine ⟨_,rfl,?_⟩
 refine oq (qv_ldi (v:=sv) (i:=(fk cN (j)).l) Try.plain3 rfl (inGi (k:=7) rfl) (by omega) (by omega)) ?_
 refine ops_nil ⟨[ζ2,ζ1,ζ3],[ζ10,ζ8,ζ13,ζ9,ζ17,ζ6],(perm_idx _ _ [3,4,8,0,1,2,5,6,7] rfl rfl),.inl ⟨(Sub.refl _),[],.refl _⟩,?_⟩
 refine el1 (i:=13) (by kernel_rfl) ?_
 refine ⟨_,rfl,?_⟩
 refine oq (qv_ldi (v:=sv) (i:=(fk cN (j)).h) Try.plain3 rfl (inGi (k:=7) rfl) (by omega) (by omega)) ?_
 refine ops_nil ⟨[ζ2,ζ1,ζ3],[ζ10,ζ8,ζ13,ζ9,ζ17,ζ6],(perm_idx _ _ [3,4,8,0,1,2,5,6,7] rfl rfl),.inl ⟨(Sub.refl _),[],.refl _⟩,?_⟩
 refine el1 (i:=14) (by kernel_rfl) ?_
 refine ⟨_,rfl,?_⟩
 refine ops_call (σa:=[ζ10,ζ9,ζ17,ζ8,ζ13]) (σr:=[ζ2,ζ1,ζ6,ζ3]) (node_c (L:=L2) (M:=M) (v:=(fk cN (j)).v) (l:=gi S (fk cN (j)).l) (h:=gi S (fk cN (j)).h) (u:=u2) (w:=w) (by omega)) rfl rfl (perm_idx _ _ [0,5,6,1,2,3,4,7,8] rfl rfl) (fun r4 V4 sg4 hV4 hp4=>?_)
 obtain ⟨rfl,w3,rfl⟩:=hp4
 have hC:=hC.mono hV4
 let ζ4:Asrt:=Gr 80 3 w3 ((ndR M ((fk cN (j)).v) (gi S (fk cN (j)).l) (gi S (fk cN (j)).h)).1.length) ((fks (ndR M ((fk cN (j)).v) (gi S (fk cN (j)).l) (gi S (fk cN (j)).h)).1))
 let ζ11:Asrt:=Arr 113 bb [u2,w3,(Value.map (some ba)),(Value.map (some bi)),(.bool (decide (wd L2)))]
 refine ops_perm (σ':=[ζ11,ζ8,ζ5,ζ2,ζ1,ζ9,ζ4,ζ6,ζ3]) (perm_idx _ _ [0,3,4,5,6,1,2,7,8] rfl rfl) ?_
 refine ops_nil ⟨[ζ2,ζ1,ζ3],[ζ11,ζ8,ζ5,ζ9,ζ4,ζ6],(perm_idx _ _ [3,4,8,0,1,2,5,6,7] rfl rfl),.inl ⟨hV4,[],.refl _⟩,?_⟩
 refine el1 (i:=15) (by kernel_rfl) ?_
 refine ⟨_,rfl,?_⟩
 refine ops_lit (n:=1) (s:=1) (cs:=[ζ7]) Try.underlying22 Try.ti3 (Nat.le_of_ble_eq_true rfl) rfl rfl rfl (Nat.le_of_ble_eq_true rfl) rfl (fun b5=>?_)
 refine ops_nil ⟨[ζ2,ζ1,ζ3,(Arr 3 b5 [ζ7])],[ζ11,ζ8,ζ5,ζ9,ζ4,ζ6],(perm_idx _ _ [3,4,8,9,0,1,2,5,6,7] rfl rfl),.inl ⟨(Sub.refl _),[(Arr 3 b5 [ζ7])],.refl _⟩,?_⟩
 refine el1 (i:=16) (by kernel_rfl) ?_
 refine ⟨_,rfl,?_⟩
 subst ζ1 ζ2 ζ21 ζ26 ζ29 ζ6 ζ8 ζ9 ζ10 ζ13 ζ17 ζ19 ζ20 ζ24 ζ25 ζ27 ζ3 ζ5 ζ7 ζ4 ζ11
 refine ops_append (k:=7) (n:=S.length) (s:=1) (m:=1) (v:=sv) (xs:=(S.map (Value.int .i64))) (news:=[(.int .i64 ((ndR M ((fk cN (j)).v) (gi S (fk cN (j)).l) (gi S (fk cN (j)).h)).2))]) Try.underlying22 Try.ti3 rfl (Nat.le_of_ble_eq_true rfl) rfl rfl rfl rfl (news_own (j:=9) rfl) (by simp [Value.oneCell']) (by omega) (by simp only [maxLen]; omega) (fun v1 hn1=>?_)
 let ζ1:Asrt:=Arr 25 b2 [(Value.int .i64 0),(Value.slice none 0 0),(Value.slice none 0 0),(Value.int .i64 0)]
 let ζ2:Asrt:=Arr 59 b1 [(Value.int .i64 cv),nc,(Value.int .i64 cr)]
 let ζ3:Asrt:=Arr 80 b4 [(.int .i64 ((fk cN (j)).v)),(.int .i64 ((fk cN (j)).l)),(.int .i64 ((fk cN (j)).h))]
 let ζ4:Asrt:=Gr 80 3 w3 ((ndR M ((fk cN (j)).v) (gi S (fk cN (j)).l) (gi S (fk cN (j)).h)).1.length) ((fks (ndR M ((fk cN (j)).v) (gi S (fk cN (j)).l) (gi S (fk cN (j)).h)).1))
 let ζ5:Asrt:=Mf bi fkv (Value.int .i64) (idF (ndR M ((fk cN (j)).v) (gi S (fk cN (j)).l) (gi S (fk cN (j)).h)).1)
 let ζ7:Value:=.int .i64 ((ndR M ((fk cN (j)).v) (gi S (fk cN (j)).l) (gi S (fk cN (j)).h)).2)
 let ζ8:Asrt:=Mf ba (Value.int .i64) (Value.int .i64) (lfF L2)
 let ζ9:Asrt:=Gr 3 1 u2 L2.length ((L2.map (Value.int .i64)))
 let ζ11:Asrt:=Arr 113 bb [u2,w3,(Value.map (some ba)),(Value.map (some bi)),(.bool (decide (wd L2)))]
 refine ops_nil ⟨[ζ2,ζ1,ζ3,(Arr 3 b5 [ζ7])],[ζ11,ζ8,ζ5,ζ9,ζ4,(Gr 3 1 v1 ((S.length+1)) (((S.map (Value.int .i64))++[ζ7])))],(perm_idx _ _ [3,4,8,9,0,1,2,5,6,7] rfl rfl),.inl ⟨(Sub.refl _),[],.refl _⟩,?_⟩
 refine eq_ (i:=17) (by kernel_rfl) rfl (qv_as v1 rfl) ?_
 refine enil (σ':=[ζ11,ζ8,ζ5,ζ2,ζ1,ζ9,ζ4,(Gr 3 1 v1 ((S.length+1)) (((S.map (Value.int .i64))++[ζ7]))),ζ3,(Arr 3 b5 [ζ7])]) (by kernel_rfl) (perm_idx _ _ [0,1,2,3,4,5,6,7,8,9] rfl rfl) ⟨(b5,v1,w3),⟨rfl,rfl,rfl,rfl,rfl,rfl,rfl,rfl,rfl,rfl,trivial⟩,hV4,rfl⟩
 refine ⟨_,rfl,?_⟩
 refine oq (qv_ldi (v:=sv) (i:=(fk cN (j)).h) Try.plain3 rfl (inGi (k:=7) rfl) (by omega) (by omega)) ?_
 refine ops_nil ⟨[ζ2,ζ1,ζ3],[ζ10,ζ8,ζ13,ζ9,ζ17,ζ6],(perm_idx _ _ [3,4,8,0,1,2,5,6,7] rfl rfl),.inl ⟨(Sub.refl _),[],.refl _⟩,?_⟩
 refine el1 (i:=8) (by kernel_rfl) ?_
 refine ⟨_,rfl,?_⟩
 refine oq (qv_ldi (v:=sv) (i:=(fk cN (j)).l) Try.plain3 rfl (inGi (k:=7) rfl) (by omega) (by omega)) ?_
 refine ops_nil ⟨[ζ2,ζ1,ζ3],[ζ10,ζ8,ζ13,ζ9,ζ17,ζ6],(perm_idx _ _ [3,4,8,0,1,2,5,6,7] rfl rfl),.inl ⟨(Sub.refl _),[],.refl _⟩,?_⟩
 refine el1 (i:=14) (by kernel_rfl) ?_
 refine ⟨_,rfl,?_⟩
 refine ops_call (σa:=[ζ10,ζ9,ζ17,ζ8,ζ13]) (σr:=[ζ2,ζ1,ζ6,ζ3]) (node_c (L:=L2) (M:=M) (v:=(fk cN (j)).v) (l:=gi S (fk cN (j)).l) (h:=gi S (fk cN (j)).h) (u:=u2) (w:=w) (by omega)) rfl rfl (perm_idx _ _ [0,5,6,1,2,3,4,7,8] rfl rfl) (fun r5 V5 sg5 hV5 hp5=>?_)
 obtain ⟨rfl,w3,rfl⟩:=hp5
 have hC:=hC.mono hV5
 let ζ4:Asrt:=Gr 80 3 w3 ((ndR M ((fk cN (j)).v) (gi S (fk cN (j)).l) (gi S (fk cN (j)).h)).1.length) ((fks (ndR M ((fk cN (j)).v) (gi S (fk cN (j)).l) (gi S (fk cN (j)).h)).1))
 let ζ11:Asrt:=Arr 113 bb [u2,w3,(Value.map (some ba)),(Value.map (some bi)),(.bool (decide (wd L2)))]
 refine ops_perm (σ':=[ζ11,ζ8,ζ5,ζ2,ζ1,ζ9,ζ4,ζ6,ζ3]) (perm_idx _ _ [0,3,4,5,6,1,2,7,8] rfl rfl) ?_
 refine ops_nil ⟨[ζ2,ζ1,ζ3],[ζ11,ζ8,ζ5,ζ9,ζ4,ζ6],(perm_idx _ _ [3,4,8,0,1,2,5,6,7] rfl rfl),.inl ⟨hV5,[],.refl _⟩,?_⟩
 refine el1 (i:=15) (by kernel_rfl) ?_
 refine ⟨_,rfl,?_⟩
 refine ops_lit (n:=1) (s:=1) (cs:=[ζ7]) Try.underlying22 Try.ti3 (Nat.le_of_ble_eq_true rfl) rfl rfl rfl (Nat.le_of_ble_eq_true rfl) rfl (fun b6=>?_)
 refine ops_nil ⟨[ζ2,ζ1,ζ3,(Arr 3 b6 [ζ7])],[ζ11,ζ8,ζ5,ζ9,ζ4,ζ6],(perm_idx _ _ [3,4,8,9,0,1,2,5,6,7] rfl rfl),.inl ⟨(Sub.refl _),[(Arr 3 b6 [ζ7])],.refl _⟩,?_⟩
 refine el1 (i:=16) (by kernel_rfl) ?_
 refine ⟨_,rfl,?_⟩
 subst ζ1 ζ2 ζ21 ζ26 ζ29 ζ6 ζ8 ζ9 ζ10 ζ13 ζ17 ζ19 ζ20 ζ24 ζ25 ζ27 ζ3 ζ5 ζ7 ζ4 ζ11
 refine ops_append (k:=7) (n:=S.length) (s:=1) (m:=1) (v:=sv) (xs:=(S.map (Value.int .i64))) (news:=[(.int .i64 ((ndR M ((fk cN (j)).v) (gi S (fk cN (j)).l) (gi S (fk cN (j)).h)).2))]) Try.underlying22 Try.ti3 rfl (Nat.le_of_ble_eq_true rfl) rfl rfl rfl rfl (news_own (j:=9) rfl) (by simp [Value.oneCell']) (by omega) (by simp only [maxLen]; omega) (fun v2 hn2=>?_)
 let ζ1:Asrt:=Arr 25 b2 [(Value.int .i64 0),(Value.slice none 0 0),(Value.slice none 0 0),(Value.int .i64 0)]
 let ζ2:Asrt:=Arr 59 b1 [(Value.int .i64 cv),nc,(Value.int .i64 cr)]
 let ζ3:Asrt:=Arr 80 b4 [(.int .i64 ((fk cN (j)).v)),(.int .i64 ((fk cN (j)).l)),(.int .i64 ((fk cN (j)).h))]
 let ζ4:Asrt:=Gr 80 3 w3 ((ndR M ((fk cN (j)).v) (gi S (fk cN (j)).l) (gi S (fk cN (j)).h)).1.length) ((fks (ndR M ((fk cN (j)).v) (gi S (fk cN (j)).l) (gi S (fk cN (j)).h)).1))
 let ζ5:Asrt:=Mf bi fkv (Value.int .i64) (idF (ndR M ((fk cN (j)).v) (gi S (fk cN (j)).l) (gi S (fk cN (j)).h)).1)
 let ζ7:Value:=.int .i64 ((ndR M ((fk cN (j)).v) (gi S (fk cN (j)).l) (gi S (fk cN (j)).h)).2)
 let ζ8:Asrt:=Mf ba (Value.int .i64) (Value.int .i64) (lfF L2)
 let ζ9:Asrt:=Gr 3 1 u2 L2.length ((L2.map (Value.int .i64)))
 let ζ11:Asrt:=Arr 113 bb [u2,w3,(Value.map (some ba)),(Value.map (some bi)),(.bool (decide (wd L2)))]
 refine ops_nil ⟨[ζ2,ζ1,ζ3,(Arr 3 b6 [ζ7])],[ζ11,ζ8,ζ5,ζ9,ζ4,(Gr 3 1 v2 ((S.length+1)) (((S.map (Value.int .i64))++[ζ7])))],(perm_idx _ _ [3,4,8,9,0,1,2,5,6,7] rfl rfl),.inl ⟨(Sub.refl _),[],.refl _⟩,?_⟩
 refine eq_ (i:=17) (by kernel_rfl) rfl (qv_as v2 rfl) ?_
 refine enil (σ':=[ζ11,ζ8,ζ5,ζ2,ζ1,ζ9,ζ4,(Gr 3 1 v2 ((S.length+1)) (((S.map (Value.int .i64))++[ζ7]))),ζ3,(Arr 3 b6 [ζ7])]) (by kernel_rfl) (perm_idx _ _ [0,1,2,3,4,5,6,7,8,9] rfl rfl) ⟨(b6,v2,w3),⟨rfl,rfl,rfl,rfl,rfl,rfl,rfl,rfl,rfl,rfl,trivial⟩,hV5,rfl⟩
 rintro ⟨z37,zg38,w3⟩ e2 Vj1 σj1 hJ1
 let ζ4:Asrt:=Gr 80 3 w3 ((ndR M ((fk cN (j)).v) (gi S (fk cN (j)).l) (gi S (fk cN (j)).h)).1.length) ((fks (ndR M ((fk cN (j)).v) (gi S (fk cN (j)).l) (gi S (fk cN (j)).h)).1))
 obtain ⟨hSVj1,rfl⟩:Vc.Sub V0l Vj1∧[(Arr 113 bb [u2,w3,(Value.map (some ba)),(Value.map (some bi)),(.bool (decide (wd L2)))]),ζ8,ζ5,ζ2,ζ1,ζ9,ζ4,(Gr 3 1 zg38 ((S.length+1)) (((S.map (Value.int .i64))++[ζ7]))),ζ3,(Arr 3 z37 [ζ7])]=σj1:=hJ1
 change VC _ _ _ _ _ _ (upds 53 [(0,ζ20),(1,ζ24),(2,ζ25),(3,ζ19),(4,zg38),(6,(Value.pointer (some ⟨b4,0,none⟩))),(16,nc),(17,ζ27),(18,(Value.int .i64 j)),(19,(.bool (decide (j < ((cN.length:Int))))))] e2) _ _
 have hC:=hC.mono hSVj1
 let ζ12:Asrt:=Gr 3 1 zg38 ((S.length+1)) (((S.map (Value.int .i64))++[(Value.int .i64 ((ndR M ((fk cN (j)).v) (gi S (fk cN (j)).l) (gi S (fk cN (j)).h)).2))]))
 let ζ14:Asrt:=Arr 80 b4 [(Value.int .i64 ((fk cN (j)).v)),(Value.int .i64 ((fk cN (j)).l)),(Value.int .i64 ((fk cN (j)).h))]
 let ζ18:Asrt:=Arr 113 bb [u2,w3,(Value.map (some ba)),(Value.map (some bi)),(Value.bool (decide (wd L2)))]
 refine vc_drop [ζ18,ζ8,ζ5,ζ2,ζ1,ζ9,ζ4,ζ12,ζ14] [(Arr 3 z37 [(Value.int .i64 ((ndR M ((fk cN (j)).v) (gi S (fk cN (j)).l) (gi S (fk cN (j)).h)).2))])] ((List.perm_middle (l₁:=[ζ18,ζ8,ζ5,ζ2,ζ1,ζ9,ζ4,ζ12,ζ14]) (l₂:=[])).trans (List.perm_append_comm (l₁:=[(Arr 3 z37 [(Value.int .i64 ((ndR M ((fk cN (j)).v) (gi S (fk cN (j)).l) (gi S (fk cN (j)).h)).2))])]))) ?_
 refine vc_drop [ζ18,ζ8,ζ5,ζ2,ζ1,ζ9,ζ4,ζ12] [ζ14] ((List.perm_middle (l₁:=[ζ18,ζ8,ζ5,ζ2,ζ1,ζ9,ζ4,ζ12]) (l₂:=[])).trans (List.perm_append_comm (l₁:=[ζ14]))) ?_
 refine vc_region ?_
 refine oq (qv_add rfl rfl (by omega)) ?_
 refine oq (qv_mv (.int .i64 (j+1)) rfl) ?_
 refine ops_nil ?_
 subst ζ1 ζ2 ζ21 ζ26 ζ29 ζ6 ζ8 ζ9 ζ10 ζ13 ζ17 ζ19 ζ20 ζ24 ζ25 ζ27 ζ3 ζ5 ζ7 ζ4 ζ12 ζ14 ζ18
 refine ⟨(j+1,(ndR M (fk cN (j)).v (gi S (fk cN (j)).l) (gi S (fk cN (j)).h)).1,S++[(ndR M (fk cN (j)).v (gi S (fk cN (j)).l) (gi S (fk cN (j)).h)).2],w3,zg38),⟨rfl,rfl,rfl,rfl,rfl,rfl,rfl,(congrArg (Value.int .i64) (show (j+1)=((j+1)) from by omega)),trivial⟩,(show [(Arr 113 bb [u2,w3,(Value.map (some ba)),(Value.map (some bi)),(.bool (decide (wd L2)))]),(Mf ba (Value.int .i64) (Value.int .i64) (lfF L2)),(Mf bi fkv (Value.int .i64) (idF ((ndR M (fk cN (j)).v (gi S (fk cN (j)).l) (gi S (fk cN (j)).h)).1:List Fk))),(Arr 59 b1 [(Value.int .i64 cv),nc,(Value.int .i64 cr)]),(Arr 25 b2 [(Value.int .i64 0),(Value.slice none 0 0),(Value.slice none 0 0),(Value.int .i64 0)]),(Gr 3 1 u2 L2.length ((L2.map (Value.int .i64)))),(Gr 80 3 w3 ((ndR M (fk cN (j)).v (gi S (fk cN (j)).l) (gi S (fk cN (j)).h)).1:List Fk).length ((fks ((ndR M (fk cN (j)).v (gi S (fk cN (j)).l) (gi S (fk cN (j)).h)).1:List Fk)))),(Gr 3 1 zg38 (S++[(ndR M (fk cN (j)).v (gi S (fk cN (j)).l) (gi S (fk cN (j)).h)).2]:List Int).length (((S++[(ndR M (fk cN (j)).v (gi S (fk cN (j)).l) (gi S (fk cN (j)).h)).2]:List Int).map (Value.int .i64))))]=[(Arr 113 bb [u2,w3,(Value.map (some ba)),(Value.map (some bi)),(.bool (decide (wd L2)))]),(Mf ba (Value.int .i64) (Value.int .i64) (lfF L2)),(Mf bi fkv (Value.int .i64) (idF (ndR M ((fk cN (j)).v) (gi S (fk cN (j)).l) (gi S (fk cN (j)).h)).1)),(Arr 59 b1 [(Value.int .i64 cv),nc,(Value.int .i64 cr)]),(Arr 25 b2 [(Value.int .i64 0),(Value.slice none 0 0),(Value.slice none 0 0),(Value.int .i64 0)]),(Gr 3 1 u2 L2.length ((L2.map (Value.int .i64)))),(Gr 80 3 w3 ((ndR M ((fk cN (j)).v) (gi S (fk cN (j)).l) (gi S (fk cN (j)).h)).1.length) ((fks (ndR M ((fk cN (j)).v) (gi S (fk cN (j)).l) (gi S (fk cN (j)).h)).1))),(Gr 3 1 zg38 ((S.length+1)) (((S.map (Value.int .i64))++[(.int .i64 ((ndR M ((fk cN (j)).v) (gi S (fk cN (j)).l) (gi S (fk cN (j)).h)).2))])))]∧Fks Vj1 nc cN∧0≤(j+1:Int)∧(j+1:Int)≤cN.length∧RInv (pM cv cN cr) (-1) false L2 ((ndR M (fk cN (j)).v (gi S (fk cN (j)).l) (gi S (fk cN (j)).h)).1:List Fk) (S++[(ndR M (fk cN (j)).v (gi S (fk cN (j)).l) (gi S (fk cN (j)).h)).2]:List Int)∧((S++[(ndR M (fk cN (j)).v (gi S (fk cN (j)).l) (gi S (fk cN (j)).h)).2]:List Int).length:Int)=2+(j+1:Int) from ⟨(show [(Arr 113 bb [u2,w3,(Value.map (some ba)),(Value.map (some bi)),(.bool (decide (wd L2)))]),(Mf ba (Value.int .i64) (Value.int .i64) (lfF L2)),(Mf bi fkv (Value.int .i64) (idF ((ndR M (fk cN (j)).v (gi S (fk cN (j)).l) (gi S (fk cN (j)).h)).1))),(Arr 59 b1 [(Value.int .i64 cv),nc,(Value.int .i64 cr)]),(Arr 25 b2 [(Value.int .i64 0),(Value.slice none 0 0),(Value.slice none 0 0),(Value.int .i64 0)]),(Gr 3 1 u2 L2.length ((L2.map (Value.int .i64)))),(Gr 80 3 w3 ((ndR M (fk cN (j)).v (gi S (fk cN (j)).l) (gi S (fk cN (j)).h)).1:List Fk).length ((fks ((ndR M (fk cN (j)).v (gi S (fk cN (j)).l) (gi S (fk cN (j)).h)).1)))),(Gr 3 1 zg38 (S++[(ndR M (fk cN (j)).v (gi S (fk cN (j)).l) (gi S (fk cN (j)).h)).2]:List Int).length (((S++[(ndR M (fk cN (j)).v (gi S (fk cN (j)).l) (gi S (fk cN (j)).h)).2]:List Int).map (Value.int .i64))))]=[(Arr 113 bb [u2,w3,(Value.map (some ba)),(Value.map (some bi)),(.bool (decide (wd L2)))]),(Mf ba (Value.int .i64) (Value.int .i64) (lfF L2)),(Mf bi fkv (Value.int .i64) (idF (ndR M ((fk cN (j)).v) (gi S (fk cN (j)).l) (gi S (fk cN (j)).h)).1)),(Arr 59 b1 [(Value.int .i64 cv),nc,(Value.int .i64 cr)]),(Arr 25 b2 [(Value.int .i64 0),(Value.slice none 0 0),(Value.slice none 0 0),(Value.int .i64 0)]),(Gr 3 1 u2 L2.length ((L2.map (Value.int .i64)))),(Gr 80 3 w3 ((ndR M ((fk cN (j)).v) (gi S (fk cN (j)).l) (gi S (fk cN (j)).h)).1.length) ((fks (ndR M ((fk cN (j)).v) (gi S (fk cN (j)).l) (gi S (fk cN (j)).h)).1))),(Gr 3 1 zg38 ((S.length+1)) (((S.map (Value.int .i64))++[(.int .i64 ((ndR M ((fk cN (j)).v) (gi S (fk cN (j)).l) (gi S (fk cN (j)).h)).2))])))] from by rw [List.map_append,List.length_append]; rfl),hC,by omega,by omega,lf_step hf d hj (by omega) (by omega),by rw [List.length_append]; show ((S.length+1:Nat):Int)=_; omega⟩),show (cN.length - (j+1)).toNat < (cN.length - j).toNat from by omega⟩
 refine vc_exit ?_
 refine blockQ_hit ?_
 refine vc_seq ?_
 refine vc_grshape (k:=7) (by omega) rfl (fun hsv=>?_)
 obtain ⟨hrf,hbd,hfe⟩:=lf_fin hok d (by omega)
 have hdl:_≤2:=d.ll.1
 have hdm:(M.length:Int)≤cN.length:=d.ml.1
 let ζ15:Value:=.int .i64 ((lfD cv cN cr).v)
 let ζ16:Value:=.int .i64 ((lfD cv cN cr).r)
 refine vc_join (α:=Nat × Value × Value) (fun xx=>[(0,ζ20),(1,ζ24),(2,ζ25),(3,ζ19),(4,sv),(7,(Value.pointer (some ⟨xx.1,0,none⟩))),(16,nc),(17,ζ27),(18,(Value.int .i64 j)),(19,(.bool (decide (j < ((cN.length:Int))))))]) (fun xx V' σ'=>Vc.Sub V0l V'∧[ζ2,ζ1,ζ6,(Arr 25 xx.1 [ζ15,xx.2.1,xx.2.2,ζ16])]=σ'∧Mt V' xx.2.1 xx.2.2 (lfD cv cN cr)) ?_ ?_
 refine vc_region_E (τ:=[ζ10,ζ8,ζ13,ζ9,ζ17]) (n:=15) [ζ2,ζ1,ζ6] Try.mixed (perm_idx _ _ [3,4,7,0,1,2,5,6] rfl rfl) rfl ?_
 refine eq_ (i:=0) (by kernel_rfl) rfl (qv_mv ζ19 rfl) ?_
 refine eq_ (i:=1) (by kernel_rfl) rfl (qv_fa (off:=0) Try.field59_0 rfl) ?_
 refine eq_ (i:=2) (by kernel_rfl) rfl (qv_ldp (v:=(Value.int .i64 cv)) Try.plain3 rfl (inOc (k:=0) rfl) rfl) ?_
 refine eq_ (i:=3) (by kernel_rfl) rfl (qv_mv sv rfl) ?_
 refine eq_ (i:=4) (by kernel_rfl) rfl (qv_fa (off:=0) Try.field59_2 rfl) ?_
 refine eq_ (i:=5) (by kernel_rfl) rfl (qv_ldp (v:=(Value.int .i64 cr)) Try.plain3 rfl (inOc (k:=0) rfl) rfl) ?_
 refine eq_ (i:=6) (by kernel_rfl) rfl (qv_iash (v:=sv) (i:=cr) Try.underlying22 Try.size3 rfl hsv rfl (by omega) (by omega)) ?_
 refine eq_ (i:=7) (by kernel_rfl) rfl (qv_ldi (v:=sv) (i:=cr) Try.plain3 rfl (inGi (k:=2) rfl) (by omega) (by omega)) ?_
 refine el2 (i:=8) (j:=12) (by kernel_rfl) ?_ ?_
 refine ⟨_,rfl,?_⟩
 subst ζ1 ζ2 ζ21 ζ26 ζ29 ζ6 ζ8 ζ9 ζ10 ζ13 ζ17 ζ19 ζ20 ζ24 ζ25 ζ27 ζ15 ζ16
 refine ops_call (σa:=[(Arr 113 bb [u2,w,(Value.map (some ba)),(Value.map (some bi)),(.bool (decide (wd L2)))]),(Gr 3 1 u2 L2.length ((L2.map (Value.int .i64)))),(Gr 80 3 w M.length ((fks M))),(Mf ba (Value.int .i64) (Value.int .i64) (lfF L2)),(Mf bi fkv (Value.int .i64) (idF M))]) (σr:=[(Arr 59 b1 [(Value.int .i64 cv),nc,(Value.int .i64 cr)]),(Arr 25 b2 [(Value.int .i64 0),(Value.slice none 0 0),(Value.slice none 0 0),(Value.int .i64 0)]),(Gr 3 1 sv S.length ((S.map (Value.int .i64))))]) (by have h:=finish_c (vars:=cv) (L:=L2) (M:=M) (fa:=lfF L2) (fb:=idF M) (root:=gi S cr) (u:=u2) (w:=w) (bb:=bb) (ba:=ba) (bi:=bi) (V:=V0l) hok.1.1 d.ok hrf (by omega) (by omega); rw [hfe,hbd,orZ_0] at h; exact h) rfl rfl (perm_idx _ _ [0,5,6,1,2,3,4,7] rfl rfl) (fun r6 V6 sg6 hV6 hp6=>?_)
 obtain ⟨rfl,lv1,nv1,rfl,hMt⟩:=hp6
 have hC:=hC.mono hV6
 let ζ1:Asrt:=Arr 25 b2 [(Value.int .i64 0),(Value.slice none 0 0),(Value.slice none 0 0),(Value.int .i64 0)]
 let ζ2:Asrt:=Arr 59 b1 [(Value.int .i64 cv),nc,(Value.int .i64 cr)]
 let ζ6:Asrt:=Gr 3 1 sv S.length ((S.map (Value.int .i64)))
 refine ops_nil ⟨[ζ2,ζ1,ζ6],[],(perm_nil _),.inl ⟨hV6,[],.refl _⟩,?_⟩
 let ζ15:Value:=.int .i64 ((lfD cv cN cr).v)
 let ζ16:Value:=.int .i64 ((lfD cv cN cr).r)
 refine eq_ (i:=9) (by kernel_rfl) rfl (qv_mv (.tuple #[(.agg #[ζ15,lv1,nv1,ζ16]),(Value.int .i64 0)]) rfl) ?_
 refine eq_ (i:=10) (by kernel_rfl) rfl (qv_ext (.agg #[ζ15,lv1,nv1,ζ16]) rfl rfl) ?_
 refine eq_ (i:=11) (by kernel_rfl) rfl (qv_ext (Value.int .i64 0) rfl rfl) ?_
 refine el1 (i:=12) (by kernel_rfl) ?_
 refine ⟨_,rfl,?_⟩
 refine ops_alloc Try.ti25 rfl (fun b7=>?_)
 refine ops_nil ⟨[ζ2,ζ1,ζ6],[(Arr 25 b7 [(Value.int .i64 0),(Value.slice none 0 0),(Value.slice none 0 0),(Value.int .i64 0)])],(perm_idx _ _ [0,1,2,3] rfl rfl),.inl ⟨(Sub.refl _),[],.refl _⟩,?_⟩
 refine el1 (i:=13) (by kernel_rfl) ?_
 refine ⟨_,rfl,?_⟩
 refine ops_stw (k:=3) (vs:=[ζ15,lv1,nv1,ζ16]) Try.size25 rfl rfl rfl (allc rfl (allc (Sl.one hMt.l) (allc (SlS.one hMt.n) (allc rfl rfl)))) rfl rfl ?_
 refine ops_nil ⟨[ζ2,ζ1,ζ6],[(Arr 25 b7 [ζ15,lv1,nv1,ζ16])],(perm_idx _ _ [0,1,2,3] rfl rfl),.inl ⟨(Sub.refl _),[],.refl _⟩,?_⟩
 refine eq_ (i:=14) (by kernel_rfl) rfl (qv_as (Value.int .i64 0) rfl) ?_
 refine enil (σ':=[ζ2,ζ1,ζ6,(Arr 25 b7 [ζ15,lv1,nv1,ζ16])]) (by kernel_rfl) (perm_idx _ _ [0,1,2,3] rfl rfl) ⟨(b7,lv1,nv1),⟨rfl,rfl,rfl,rfl,rfl,rfl,rfl,rfl,rfl,rfl,trivial⟩,hV6,rfl,hMt⟩
 refine ⟨_,rfl,?_⟩
 refine ops_alloc Try.ti25 rfl (fun b8=>?_)
 refine ops_nil ⟨[ζ2,ζ1,ζ6],[ζ10,ζ8,ζ13,ζ9,ζ17,(Arr 25 b8 [(Value.int .i64 0),(Value.slice none 0 0),(Value.slice none 0 0),(Value.int .i64 0)])],(perm_idx _ _ [3,4,7,0,1,2,5,6,8] rfl rfl),.inl ⟨(Sub.refl _),[],.refl _⟩,?_⟩
 refine el1 (i:=8) (by kernel_rfl) ?_
 refine ⟨_,rfl,?_⟩
 subst ζ1 ζ2 ζ21 ζ26 ζ29 ζ6 ζ8 ζ9 ζ10 ζ13 ζ17 ζ19 ζ20 ζ24 ζ25 ζ27 ζ15 ζ16
 refine ops_call (σa:=[(Arr 113 bb [u2,w,(Value.map (some ba)),(Value.map (some bi)),(.bool (decide (wd L2)))]),(Gr 3 1 u2 L2.length ((L2.map (Value.int .i64)))),(Gr 80 3 w M.length ((fks M))),(Mf ba (Value.int .i64) (Value.int .i64) (lfF L2)),(Mf bi fkv (Value.int .i64) (idF M))]) (σr:=[(Arr 59 b1 [(Value.int .i64 cv),nc,(Value.int .i64 cr)]),(Arr 25 b2 [(Value.int .i64 0),(Value.slice none 0 0),(Value.slice none 0 0),(Value.int .i64 0)]),(Gr 3 1 sv S.length ((S.map (Value.int .i64)))),(Arr 25 b8 [(Value.int .i64 0),(Value.slice none 0 0),(Value.slice none 0 0),(Value.int .i64 0)])]) (by have h:=finish_c (vars:=cv) (L:=L2) (M:=M) (fa:=lfF L2) (fb:=idF M) (root:=gi S cr) (u:=u2) (w:=w) (bb:=bb) (ba:=ba) (bi:=bi) (V:=V0l) hok.1.1 d.ok hrf (by omega) (by omega); rw [hfe,hbd,orZ_0] at h; exact h) rfl rfl (perm_idx _ _ [0,5,6,1,2,3,4,7,8] rfl rfl) (fun r7 V7 sg7 hV7 hp7=>?_)
 obtain ⟨rfl,lv1,nv1,rfl,hMt⟩:=hp7
 have hC:=hC.mono hV7
 let ζ1:Asrt:=Arr 25 b2 [(Value.int .i64 0),(Value.slice none 0 0),(Value.slice none 0 0),(Value.int .i64 0)]
 let ζ2:Asrt:=Arr 59 b1 [(Value.int .i64 cv),nc,(Value.int .i64 cr)]
 let ζ6:Asrt:=Gr 3 1 sv S.length ((S.map (Value.int .i64)))
 refine ops_nil ⟨[ζ2,ζ1,ζ6],[(Arr 25 b8 [(Value.int .i64 0),(Value.slice none 0 0),(Value.slice none 0 0),(Value.int .i64 0)])],(perm_idx _ _ [0,1,2,3] rfl rfl),.inl ⟨hV7,[],.refl _⟩,?_⟩
 let ζ15:Value:=.int .i64 ((lfD cv cN cr).v)
 let ζ16:Value:=.int .i64 ((lfD cv cN cr).r)
 refine eq_ (i:=9) (by kernel_rfl) rfl (qv_mv (.tuple #[(.agg #[ζ15,lv1,nv1,ζ16]),(Value.int .i64 0)]) rfl) ?_
 refine eq_ (i:=10) (by kernel_rfl) rfl (qv_ext (.agg #[ζ15,lv1,nv1,ζ16]) rfl rfl) ?_
 refine eq_ (i:=11) (by kernel_rfl) rfl (qv_ext (Value.int .i64 0) rfl rfl) ?_
 refine el1 (i:=13) (by kernel_rfl) ?_
 refine ⟨_,rfl,?_⟩
 refine ops_stw (k:=3) (vs:=[ζ15,lv1,nv1,ζ16]) Try.size25 rfl rfl rfl (allc rfl (allc (Sl.one hMt.l) (allc (SlS.one hMt.n) (allc rfl rfl)))) rfl rfl ?_
 refine ops_nil ⟨[ζ2,ζ1,ζ6],[(Arr 25 b8 [ζ15,lv1,nv1,ζ16])],(perm_idx _ _ [0,1,2,3] rfl rfl),.inl ⟨(Sub.refl _),[],.refl _⟩,?_⟩
 refine eq_ (i:=14) (by kernel_rfl) rfl (qv_as (Value.int .i64 0) rfl) ?_
 refine enil (σ':=[ζ2,ζ1,ζ6,(Arr 25 b8 [ζ15,lv1,nv1,ζ16])]) (by kernel_rfl) (perm_idx _ _ [0,1,2,3] rfl rfl) ⟨(b8,lv1,nv1),⟨rfl,rfl,rfl,rfl,rfl,rfl,rfl,rfl,rfl,rfl,trivial⟩,hV7,rfl,hMt⟩
 rintro ⟨z7,lv1,nv1⟩ e3 Vj2 σj2 hJ2
 obtain ⟨hSVj2,rfl,hMt⟩:Vc.Sub V0l Vj2∧[ζ2,ζ1,ζ6,(Arr 25 z7 [ζ15,lv1,nv1,ζ16])]=σj2∧Mt Vj2 lv1 nv1 (lfD cv cN cr):=hJ2
 change VC _ _ _ _ _ _ (upds 53 [(0,ζ20),(1,ζ24),(2,ζ25),(3,ζ19),(4,sv),(7,(Value.pointer (some ⟨z7,0,none⟩))),(16,nc),(17,ζ27),(18,(Value.int .i64 j)),(19,(.bool (decide (j < ((cN.length:Int))))))] e3) _ _
 have hC:=hC.mono hSVj2
 refine vc_seq ?_
 refine vc_region ?_
 refine oq (qv_ldm (vs:=[ζ15,lv1,nv1,ζ16]) Try.agg25 rfl (inOc (k:=3) rfl) rfl rfl) ?_
 refine ops_stw (k:=1) (vs:=[ζ15,lv1,nv1,ζ16]) Try.size25 rfl rfl rfl (allc rfl (allc (Sl.one hMt.l) (allc (SlS.one hMt.n) (allc rfl rfl)))) rfl rfl ?_
 refine ops_nil ?_
 refine vc_freeze (b:=b2) (o:=.cells ([(Value.int .i64 ((lfD cv cN cr).v)),lv1,nv1,(Value.int .i64 ((lfD cv cN cr).r))]:List Value).toArray 25 (0,0)) (σr:=[ζ2,ζ6,(Arr 25 z7 [(Value.int .i64 ((lfD cv cN cr).v)),lv1,nv1,(Value.int .i64 ((lfD cv cN cr).r))])]) (List.perm_middle (l₁:=[ζ2]) (l₂:=[ζ6,(Arr 25 z7 [(Value.int .i64 ((lfD cv cN cr).v)),lv1,nv1,(Value.int .i64 ((lfD cv cN cr).r))])])) (fun Vf1 hVf1 hb1=>?_)
 have hc1:Cells Vf1 b2 [ζ15,lv1,nv1,ζ16]:=⟨_,_,hb1⟩
 have hC:=hC.mono hVf1
 have hMt:=hMt.mono hVf1
 refine vc_drop [] [ζ2,ζ6,(Arr 25 z7 [ζ15,lv1,nv1,ζ16])] (.refl _) ?_
 refine vc_ret ?_
 refine rs1 _ (rv_c (vs:=[ζ15,lv1,nv1,ζ16]) Try.agg25 rfl (inVc hc1) rfl rfl) ?_
 exact ⟨rfl,lv1,nv1,rfl,hMt⟩
end Go.Proofs.Ytkmhjcjpohpiaaa
