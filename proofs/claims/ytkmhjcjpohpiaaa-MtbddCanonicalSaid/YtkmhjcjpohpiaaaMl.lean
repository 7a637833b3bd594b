import Derived.Test.YtkmhjcjpohpiaaaMk
/- Walks of mtbdd: what each function returns. Printed by a program out of notes. -/
namespace Go.Proofs.Ytkmhjcjpohpiaaa
open Go.Vc
open Classical
/-- What the building of a part does. -/
def FtC (vars:Int) (pr pm bb ba bi:Nat) (k:Nat):Prop:=∀ (V:HV) (v:Int) (L:List Int) (M:List Fk) (t:List Int) (tv u w:Value),Ints .i64 V tv t→t.length=2 ^ k→0≤v→v+k=vars→vars≤12→BOk vars L M→L.length+2 ^ k≤2199023255552→M.length+2 ^ k≤2199023255552→Cells V pr [.func (.func 57) #[] #[pt pm,pt pr]]→Cells V pm [.pointer (some ⟨bb,0,none⟩)] →
  FnC Try.prog 57 [tv,.int .i64 v,pt pm,pt pr] V [Arr 113 bb [u,w,.map (some ba),.map (some bi),.bool (decide (wd L))],Gr 3 1 u L.length (L.map (Value.int .i64)),Gr 80 3 w M.length (fks M),Mf ba (Value.int .i64) (Value.int .i64) (lfF L),Mf bi fkv (Value.int .i64) (idF M)] (fun r _ σ'=>∃ L' M' p u' w',r=.int .i64 p∧σ' = [Arr 113 bb [u',w',.map (some ba),.map (some bi),.bool (decide (wd L'))],Gr 3 1 u' L'.length (L'.map (Value.int .i64)),Gr 80 3 w' M'.length (fks M'),Mf ba (Value.int .i64) (Value.int .i64) (lfF L'),Mf bi fkv (Value.int .i64) (idF M')]∧FtOk vars L M k v t L' M' p)
set_option maxRecDepth 100000
set_option maxHeartbeats 4000000
theorem ft_step {V:HV} {vars:Int} {pr pm bb ba bi k0 k:Nat} {v:Int} {L:List Int} {M:List Fk} {t:List Int} {tv u w:Value} (IH:k0=k+1→FtC vars pr pm bb ba bi k) (htv:Ints .i64 V tv t) (ht0:t.length=2 ^ k0) (hk1:k0=0 ∨ k0=k+1) (v0:0≤v) (v1:v+k0=vars) (hv12:vars≤12) (hok:BOk vars L M) (hL:L.length+2 ^ k0≤2199023255552) (hM:M.length+2 ^ k0≤2199023255552) (hpr:Cells V pr [.func (.func 57) #[] #[pt pm,pt pr]]) (hpm:Cells V pm [.pointer (some ⟨bb,0,none⟩)]) :
    FnC Try.prog 57 [tv,(Value.int .i64 v),(Value.pointer (some ⟨pm,0,none⟩)),(Value.pointer (some ⟨pr,0,none⟩))] V [(Arr 113 bb [u,w,(Value.map (some ba)),(Value.map (some bi)),(.bool (decide (wd L)))]),(Gr 3 1 u L.length ((L.map (Value.int .i64)))),(Gr 80 3 w M.length ((fks M))),(Mf ba (Value.int .i64) (Value.int .i64) (lfF L)),(Mf bi fkv (Value.int .i64) (idF M))] (fun r _ σ'=>∃ L' M' p u' w',r=.int .i64 p∧σ' = [Arr 113 bb [u',w',.map (some ba),.map (some bi),.bool (decide (wd L'))],Gr 3 1 u' L'.length (L'.map (Value.int .i64)),Gr 80 3 w' M'.length (fks M'),Mf ba (Value.int .i64) (Value.int .i64) (lfF L'),Mf bi fkv (Value.int .i64) (idF M')]∧FtOk vars L M k0 v t L' M' p):=by
 refine fn_intro (N:=38) Try.func57 (by kernel_rfl) rfl rfl rfl (Nat.le_of_ble_eq_true rfl) ?_
 intro w0 D
 have hb:=htv.bound
 refine vc_seq ?_
 refine vc_res (σ':=[(Arr 113 bb [u,w,(Value.map (some ba)),(Value.map (some bi)),(.bool (decide (wd L)))]),(Gr 3 1 u L.length ((L.map (Value.int .i64)))),(Gr 80 3 w M.length ((fks M))),(Mf ba (Value.int .i64) (Value.int .i64) (lfF L)),(Mf bi fkv (Value.int .i64) (idF M))]) rfl ?_
 refine vc_region ?_
 refine oq (qv_as (Value.int .i64 0) rfl) ?_
 refine ops_nil ?_
 refine vc_seq ?_
 refine vc_seq ?_
 refine vc_region ?_
 refine oq (qv_mv tv rfl) ?_
 refine oq (qv_lenI Try.underlying22 rfl htv) ?_
 refine oq (qv_eql rfl rfl) ?_
 refine ops_nil ?_
 refine vc_if rfl (fun c1=>?_) (fun c1=>?_)
 refine vc_seq ?_
 have hk0:k0=0:=by
   rcases hk1 with e | e
   exact e
   have q:2 ^ (k+1)=2 ^ k+2 ^ k:=by rw [Nat.pow_succ]; omega
   have:=one_le_two_pow' k
   rw [e,q] at ht0; omega
 subst hk0
 have hq0:(2:Nat) ^ 0=1:=rfl
 have htz:t=[gi t 0]:=gi_dd (by omega)
 let ζ7:Asrt:=Arr 113 bb [u,w,(Value.map (some ba)),(Value.map (some bi)),(.bool (decide (wd L)))]
 let ζ9:Asrt:=Mf bi fkv (Value.int .i64) (idF M)
 refine vc_region_order (τ:=[ζ7,(Gr 3 1 u L.length ((L.map (Value.int .i64)))),(Gr 80 3 w M.length ((fks M))),(Mf ba (Value.int .i64) (Value.int .i64) (lfF L)),ζ9]) [(0,false),(1,false),(2,false),(3,false),(4,true),(5,false)] [] Try.mixed (perm_idx _ _ [0,1,2,3,4] rfl rfl) (by kernel_rfl) ?_
 refine rq rfl (qv_ldp (v:=(Value.pointer (some ⟨bb,0,none⟩))) Try.plain91 rfl (inVc hpm) rfl) ?_
 refine rq rfl (qv_mv tv rfl) ?_
 refine rq rfl (qv_iai (v:=tv) (i:=0) Try.underlying22 Try.size3 rfl (inVi htv) rfl (by omega) (by omega)) ?_
 refine rq rfl (qv_ldi (v:=tv) (i:=0) Try.plain3 rfl (inVi htv) (by omega) (by omega)) ?_
 refine rl rfl ?_
 refine ops_call (σa:=[ζ7,(Gr 3 1 u L.length ((L.map (Value.int .i64)))),(Gr 80 3 w M.length ((fks M))),(Mf ba (Value.int .i64) (Value.int .i64) (lfF L)),ζ9]) (σr:=[]) (leaf_c (L:=L) (M:=M) (z:=gi t 0) (u:=u) (w:=w) (by omega)) rfl rfl (.refl _) (fun r1 V1 sg1 hV1 hp1=>?_)
 obtain ⟨rfl,u3,rfl⟩:=hp1
 have htv:=htv.mono hV1
 have hpr:=hpr.mono hV1
 have hpm:=hpm.mono hV1
 refine ops_nil ⟨[],[(Arr 113 bb [u3,w,(Value.map (some ba)),(Value.map (some bi)),(.bool (decide (wd (lfR L (gi t 0)).1)))]),(Gr 3 1 u3 ((lfR L (gi t 0)).1.length) (((lfR L (gi t 0)).1.map (Value.int .i64)))),(Gr 80 3 w M.length ((fks M))),(Mf ba (Value.int .i64) (Value.int .i64) (lfF (lfR L (gi t 0)).1)),ζ9],hV1,(perm_idx _ _ [0,1,2,3,4] rfl rfl),⟨[],.refl _⟩,?_⟩
 refine rq rfl (qv_as (.int .i64 ((lfR L (gi t 0)).2)) rfl) ?_
 refine rnil ?_
 refine vc_ret ?_
 refine rq1 (.int .i64 ((lfR L (gi t 0)).2)) rfl ?_
 refine ⟨_,M,_,u3,w,rfl,rfl,?_⟩
 have q:=ft_leaf (z:=gi t 0) (v:=v) hok (by omega)
 subst ζ7 ζ9
 rw [← htz] at q
 exact q
 refine vc_skip ?_
 refine vc_seq ?_
 have hk0:k0=k+1:=by
   rcases hk1 with e | e
   rw [e] at ht0; have q:(2:Nat) ^ 0=1:=rfl; omega
   exact e
 subst hk0
 have IH:=IH rfl
 have ht:t.length=2 ^ (k+1):=ht0
 have hpk:2 ^ (k+1)=2 ^ k+2 ^ k:=by rw [Nat.pow_succ]; omega
 have hpk1:=one_le_two_pow' k
 have hhalf:((t.length:Int) / 2).toNat=2 ^ k:=by omega
 have hl1:(t.take (2 ^ k)).length=2 ^ k:=by rw [List.length_take]; omega
 have hl2:(t.drop (2 ^ k)).length=2 ^ k:=by rw [List.length_drop]; omega
 refine vc_region_order (τ:=[(Arr 113 bb [u,w,(Value.map (some ba)),(Value.map (some bi)),(.bool (decide (wd L)))]),(Gr 3 1 u L.length ((L.map (Value.int .i64)))),(Gr 80 3 w M.length ((fks M))),(Mf ba (Value.int .i64) (Value.int .i64) (lfF L)),(Mf bi fkv (Value.int .i64) (idF M))]) [(0,false),(1,false),(2,false),(3,false),(4,false),(5,false),(6,false),(7,false),(8,true),(9,false)] [] Try.mixed (perm_idx _ _ [0,1,2,3,4] rfl rfl) (by kernel_rfl) ?_
 refine rq rfl (qv_ldp (v:=(Value.func (.func 57) #[] #[(Value.pointer (some ⟨pm,0,none⟩)),(Value.pointer (some ⟨pr,0,none⟩))])) Try.plain93 rfl (inVc hpr) rfl) ?_
 refine rq rfl (qv_mv tv rfl) ?_
 refine rq rfl (qv_mv tv rfl) ?_
 refine rq rfl (qv_lenI Try.underlying22 rfl htv) ?_
 refine rq rfl (qv_quo rfl rfl (by omega) (by omega)) ?_
 refine rq rfl (qv_sliceHi Try.underlying22 Try.size3 rfl htv rfl (by omega) (by rw [List.length_map]; omega)) ?_
 refine rq rfl (qv_mv (Value.int .i64 v) rfl) ?_
 refine rq rfl (qv_add rfl rfl (by omega)) ?_
 refine rl rfl ?_
 refine ops_call (σa:=[(Arr 113 bb [u,w,(Value.map (some ba)),(Value.map (some bi)),(.bool (decide (wd L)))]),(Gr 3 1 u L.length ((L.map (Value.int .i64)))),(Gr 80 3 w M.length ((fks M))),(Mf ba (Value.int .i64) (Value.int .i64) (lfF L)),(Mf bi fkv (Value.int .i64) (idF M))]) (σr:=[]) (IH _ (v+1) L M (t.take (2 ^ k)) (takeS tv (((t.length:Int)) / 2).toNat) u w (by have q:=htv.take (n:=2 ^ k) (by omega); rw [hhalf]; exact q) (by omega) (by omega) (by omega) hv12 hok (by omega) (by omega) hpr hpm) rfl rfl (.refl _) (fun r2 V2 sg2 hV2 hp2=>?_)
 obtain ⟨L1,M1,p1,u1,w1,rfl,rfl,X1⟩:=hp2
 have XL1:=X1.ll
 have XM1:=X1.ml
 have htv:=htv.mono hV2
 have hpr:=hpr.mono hV2
 have hpm:=hpm.mono hV2
 let ζ1:Asrt:=Arr 113 bb [u1,w1,(Value.map (some ba)),(Value.map (some bi)),(.bool (decide (wd L1)))]
 let ζ2:Asrt:=Mf ba (Value.int .i64) (Value.int .i64) (lfF L1)
 let ζ4:Asrt:=Gr 3 1 u1 L1.length ((L1.map (Value.int .i64)))
 let ζ8:Asrt:=Mf bi fkv (Value.int .i64) (idF M1)
 refine ops_nil ⟨[],[ζ1,ζ4,(Gr 80 3 w1 M1.length ((fks M1))),ζ2,ζ8],hV2,(perm_idx _ _ [0,1,2,3,4] rfl rfl),⟨[],.refl _⟩,?_⟩
 refine rq rfl (qv_as (Value.int .i64 p1) rfl) ?_
 refine rnil ?_
 refine vc_seq ?_
 refine vc_res (σ':=[ζ1,ζ4,(Gr 80 3 w1 M1.length ((fks M1))),ζ2,ζ8]) rfl ?_
 refine vc_region_order (τ:=[ζ1,ζ4,(Gr 80 3 w1 M1.length ((fks M1))),ζ2,ζ8]) [(0,false),(1,false),(2,false),(3,false),(4,false),(5,false),(6,false),(7,false),(8,false),(9,false),(10,false),(11,true),(12,true),(13,false)] [] Try.mixed (perm_idx _ _ [0,1,2,3,4] rfl rfl) (by kernel_rfl) ?_
 refine rq rfl (qv_ldp (v:=(Value.pointer (some ⟨bb,0,none⟩))) Try.plain91 rfl (inVc hpm) rfl) ?_
 refine rq rfl (qv_mv (Value.int .i64 v) rfl) ?_
 refine rq rfl (qv_mv (Value.int .i64 p1) rfl) ?_
 refine rq rfl (qv_ldp (v:=(Value.func (.func 57) #[] #[(Value.pointer (some ⟨pm,0,none⟩)),(Value.pointer (some ⟨pr,0,none⟩))])) Try.plain93 rfl (inVc hpr) rfl) ?_
 refine rq rfl (qv_mv tv rfl) ?_
 refine rq rfl (qv_mv tv rfl) ?_
 refine rq rfl (qv_lenI Try.underlying22 rfl htv) ?_
 refine rq rfl (qv_quo rfl rfl (by omega) (by omega)) ?_
 subst ζ1 ζ2 ζ4 ζ8
 refine rq rfl (qv_sliceLoS Try.underlying22 Try.size3 rfl htv rfl (by omega) (by rw [List.length_map]; omega)) ?_
 refine rq rfl (qv_mv (Value.int .i64 v) rfl) ?_
 refine rq rfl (qv_add rfl rfl (by omega)) ?_
 refine rl rfl ?_
 refine ops_call (σa:=[(Arr 113 bb [u1,w1,(Value.map (some ba)),(Value.map (some bi)),(.bool (decide (wd L1)))]),(Gr 3 1 u1 L1.length ((L1.map (Value.int .i64)))),(Gr 80 3 w1 M1.length ((fks M1))),(Mf ba (Value.int .i64) (Value.int .i64) (lfF L1)),(Mf bi fkv (Value.int .i64) (idF M1))]) (σr:=[]) (IH _ (v+1) L1 M1 (t.drop (2 ^ k)) (dropS tv (((t.length:Int)) / 2).toNat) u1 w1 (by have q:=Ints.dropI htv (n:=2 ^ k) (by omega); rw [hhalf]; exact q) (by omega) (by omega) (by omega) hv12 X1.ok (by omega) (by omega) hpr hpm) rfl rfl (.refl _) (fun r3 V3 sg3 hV3 hp3=>?_)
 obtain ⟨L2,M2,p2,u2,w2,rfl,rfl,X2⟩:=hp3
 have XL2:=X2.ll
 have XM2:=X2.ml
 have htv:=htv.mono hV3
 have hpr:=hpr.mono hV3
 have hpm:=hpm.mono hV3
 let ζ3:Asrt:=Mf ba (Value.int .i64) (Value.int .i64) (lfF L2)
 let ζ5:Asrt:=Gr 3 1 u2 L2.length ((L2.map (Value.int .i64)))
 let ζ6:Asrt:=Arr 113 bb [u2,w2,(Value.map (some ba)),(Value.map (some bi)),(.bool (decide (wd L2)))]
 refine ops_nil ⟨[],[ζ6,ζ5,(Gr 80 3 w2 M2.length ((fks M2))),ζ3,(Mf bi fkv (Value.int .i64) (idF M2))],hV3,(perm_idx _ _ [0,1,2,3,4] rfl rfl),⟨[],.refl _⟩,?_⟩
 refine rl rfl ?_
 refine ops_call (σa:=[ζ6,ζ5,(Gr 80 3 w2 M2.length ((fks M2))),ζ3,(Mf bi fkv (Value.int .i64) (idF M2))]) (σr:=[]) (node_c (L:=L2) (M:=M2) (v:=v) (l:=p1) (h:=p2) (u:=u2) (w:=w2) (by omega)) rfl rfl (.refl _) (fun r4 V4 sg4 hV4 hp4=>?_)
 obtain ⟨rfl,w3,rfl⟩:=hp4
 have htv:=htv.mono hV4
 have hpr:=hpr.mono hV4
 have hpm:=hpm.mono hV4
 refine ops_nil ⟨[],[(Arr 113 bb [u2,w3,(Value.map (some ba)),(Value.map (some bi)),(.bool (decide (wd L2)))]),ζ5,(Gr 80 3 w3 ((ndR M2 (v) (p1) (p2)).1.length) ((fks (ndR M2 (v) (p1) (p2)).1))),ζ3,(Mf bi fkv (Value.int .i64) (idF (ndR M2 (v) (p1) (p2)).1))],hV4,(perm_idx _ _ [0,1,2,3,4] rfl rfl),⟨[],.refl _⟩,?_⟩
 refine rq rfl (qv_as (.int .i64 ((ndR M2 (v) (p1) (p2)).2)) rfl) ?_
 refine rnil ?_
 refine vc_ret ?_
 refine rq1 (.int .i64 ((ndR M2 (v) (p1) (p2)).2)) rfl ?_
 refine ⟨L2,_,_,u2,w3,rfl,rfl,?_⟩
 have q:=ft_node X1 X2 v0 (by omega)
 subst ζ3 ζ5 ζ6
 rw [List.take_append_drop] at q
 exact q
theorem ft_c {vars:Int} {pr pm bb ba bi:Nat}:∀ k,FtC vars pr pm bb ba bi k
  | 0=>fun V v L M t tv u w h1 h2 h3 h4 h5 h6 h7 h8 h9 h10=>ft_step (k:=0) (fun q=>by omega) h1 h2 (.inl rfl) h3 h4 h5 h6 h7 h8 h9 h10
  | k+1=>fun V v L M t tv u w h1 h2 h3 h4 h5 h6 h7 h8 h9 h10=>ft_step (k:=k) (fun _=>ft_c k) h1 h2 (.inr rfl) h3 h4 h5 h6 h7 h8 h9 h10
theorem FromTable_c {V:HV} {vars:Int} {t:List Int} {tv:Value} (ht:Ints .i64 V tv t) :
    FnC Try.prog 20 [(Value.int .i64 vars),tv] V [] (fun v V' σ'=>σ' = []∧MRs V' v (ftD vars t) (ftE vars t)):=by
 refine fn_intro (N:=31) Try.func20 (by kernel_rfl) rfl rfl rfl (Nat.le_of_ble_eq_true rfl) ?_
 intro w0 D
 have hb:=ht.bound
 refine vc_seq ?_
 refine vc_region ?_
 refine ops_alloc Try.ti25 rfl (fun b1=>?_)
 refine oq (qv_as (Value.int .i64 0) rfl) ?_
 refine ops_nil ?_
 refine vc_seq ?_
 refine vc_seq ?_
 let ζ1:Asrt:=Arr 25 b1 [(Value.int .i64 0),(Value.slice none 0 0),(Value.slice none 0 0),(Value.int .i64 0)]
 refine vc_res (σ':=[ζ1]) rfl ?_
 refine vc_region ?_
 refine oq (qv_mv (Value.int .i64 vars) rfl) ?_
 refine oq (qv_lss rfl rfl) ?_
 refine oq (qv_mv (.bool (decide (vars < 0))) rfl) ?_
 by_cases g1:vars < 0
 refine os (want_fn g1 rfl rfl rfl) ?_
 refine os (want_fn g1 rfl rfl rfl) ?_
 refine oq (qv_pick_t g1 rfl (rfl:ev _ _=(Value.bool true))) ?_
 refine ops_nil ?_
 refine vc_tt rfl ?_
 refine vc_seq ?_
 refine vc_region ?_
 refine oq (qv_build (out:=[(Value.int .i64 0),(Value.slice none 0 0),(Value.slice none 0 0),(Value.int .i64 0)]) Try.build25 [] rfl rfl) ?_
 refine ops_stw (k:=0) (vs:=[(Value.int .i64 0),(Value.slice none 0 0),(Value.slice none 0 0),(Value.int .i64 0)]) Try.size25 rfl rfl rfl rfl rfl rfl ?_
 refine oq (qv_as (Value.int .i64 3) rfl) ?_
 refine ops_nil ?_
 refine vc_freeze (b:=b1) (o:=.cells ([(Value.int .i64 0),(Value.slice none 0 0),(Value.slice none 0 0),(Value.int .i64 0)]:List Value).toArray 25 (0,0)) (σr:=[]) (List.perm_middle (l₁:=[]) (l₂:=[])) (fun Vf1 hVf1 hb1=>?_)
 have hc1:Cells Vf1 b1 [(Value.int .i64 0),(Value.slice none 0 0),(Value.slice none 0 0),(Value.int .i64 0)]:=⟨_,_,hb1⟩
 have ht:=ht.mono hVf1
 refine vc_ret ?_
 refine rs2 _ (Value.int .i64 3) (rv_c (vs:=[(Value.int .i64 0),(Value.slice none 0 0),(Value.slice none 0 0),(Value.int .i64 0)]) Try.agg25 rfl (inVc hc1) rfl rfl) (rv_t rfl) ?_
 have e:=ft_3 (vars:=vars) (t:=t) (by omega)
 subst ζ1
 rw [e.1,e.2]
 exact ⟨rfl,MRs.zero⟩
 refine og (qv_mv (Value.int .i64 vars) rfl) (want_f g1 rfl rfl rfl) ?_
 refine og (qv_gtr rfl rfl) (want_f g1 rfl rfl rfl) ?_
 refine oq (qv_pick_f g1 rfl (rfl:ev _ _=(.bool (decide (12 < vars))))) ?_
 refine ops_nil ?_
 refine vc_if rfl (fun c1=>?_) (fun c1=>?_)
 refine vc_seq ?_
 refine vc_region ?_
 refine oq (qv_build (out:=[(Value.int .i64 0),(Value.slice none 0 0),(Value.slice none 0 0),(Value.int .i64 0)]) Try.build25 [] rfl rfl) ?_
 refine ops_stw (k:=0) (vs:=[(Value.int .i64 0),(Value.slice none 0 0),(Value.slice none 0 0),(Value.int .i64 0)]) Try.size25 rfl rfl rfl rfl rfl rfl ?_
 refine oq (qv_as (Value.int .i64 3) rfl) ?_
 refine ops_nil ?_
 refine vc_freeze (b:=b1) (o:=.cells ([(Value.int .i64 0),(Value.slice none 0 0),(Value.slice none 0 0),(Value.int .i64 0)]:List Value).toArray 25 (0,0)) (σr:=[]) (List.perm_middle (l₁:=[]) (l₂:=[])) (fun Vf2 hVf2 hb2=>?_)
 have hc2:Cells Vf2 b1 [(Value.int .i64 0),(Value.slice none 0 0),(Value.slice none 0 0),(Value.int .i64 0)]:=⟨_,_,hb2⟩
 have ht:=ht.mono hVf2
 refine vc_ret ?_
 refine rs2 _ (Value.int .i64 3) (rv_c (vs:=[(Value.int .i64 0),(Value.slice none 0 0),(Value.slice none 0 0),(Value.int .i64 0)]) Try.agg25 rfl (inVc hc2) rfl rfl) (rv_t rfl) ?_
 have e:=ft_3 (vars:=vars) (t:=t) (by omega)
 subst ζ1
 rw [e.1,e.2]
 exact ⟨rfl,MRs.zero⟩
 refine vc_skip ?_
 refine vc_seq ?_
 refine vc_seq ?_
 have hpw:=pow2_12 (n:=vars.toNat) (by omega)
 refine vc_region ?_
 refine oq (qv_mv tv rfl) ?_
 refine oq (qv_lenI Try.underlying22 rfl ht) ?_
 refine oq (qv_mv (Value.int .i64 vars) rfl) ?_
 refine oq (qv_shli rfl rfl (by omega) (by omega) (by omega)) ?_
 refine oq (qv_neq rfl rfl) ?_
 refine ops_nil ?_
 refine vc_if rfl (fun c2=>?_) (fun c2=>?_)
 refine vc_seq ?_
 refine vc_region ?_
 refine oq (qv_build (out:=[(Value.int .i64 0),(Value.slice none 0 0),(Value.slice none 0 0),(Value.int .i64 0)]) Try.build25 [] rfl rfl) ?_
 refine ops_stw (k:=0) (vs:=[(Value.int .i64 0),(Value.slice none 0 0),(Value.slice none 0 0),(Value.int .i64 0)]) Try.size25 rfl rfl rfl rfl rfl rfl ?_
 refine oq (qv_as (Value.int .i64 2) rfl) ?_
 refine ops_nil ?_
 refine vc_freeze (b:=b1) (o:=.cells ([(Value.int .i64 0),(Value.slice none 0 0),(Value.slice none 0 0),(Value.int .i64 0)]:List Value).toArray 25 (0,0)) (σr:=[]) (List.perm_middle (l₁:=[]) (l₂:=[])) (fun Vf3 hVf3 hb3=>?_)
 have hc3:Cells Vf3 b1 [(Value.int .i64 0),(Value.slice none 0 0),(Value.slice none 0 0),(Value.int .i64 0)]:=⟨_,_,hb3⟩
 have ht:=ht.mono hVf3
 refine vc_ret ?_
 refine rs2 _ (Value.int .i64 2) (rv_c (vs:=[(Value.int .i64 0),(Value.slice none 0 0),(Value.slice none 0 0),(Value.int .i64 0)]) Try.agg25 rfl (inVc hc3) rfl rfl) (rv_t rfl) ?_
 have e:=ft_2 (vars:=vars) (t:=t) (by omega) (by omega)
 subst ζ1
 rw [e.1,e.2]
 exact ⟨rfl,MRs.zero⟩
 refine vc_skip ?_
 refine vc_seq ?_
 have hp2:2 ^ vars.toNat≤2 ^ 12:=Nat.pow_le_pow_right (by omega) (by omega)
 have hlq:(t.length:Int)=2 ^ vars.toNat:=by omega
 have hl:t.length=2 ^ vars.toNat:=by have e:((2 ^ vars.toNat:Nat):Int)=(2:Int) ^ vars.toNat:=by simp
                                     omega
 refine vc_region ?_
 refine ops_call (σa:=[]) (σr:=[ζ1]) (newBuilder_c) rfl rfl (.refl _) (fun r1 V1 sg1 hV1 hp1=>?_)
 obtain ⟨bb,ba,bi,rfl,rfl⟩:=hp1
 have ht:=ht.mono hV1
 refine ops_alloc Try.ti91 rfl (fun b2=>?_)
 let ζ7:Value:=Value.pointer (some ⟨bb,0,none⟩)
 refine ops_stp (k:=4) (off:=0) (cs:=[(Value.pointer none)]) Try.size91 rfl (rfl:ev _ _=ζ7) rfl rfl (Nat.le_of_ble_eq_true rfl) ?_
 refine ops_nil ?_
 refine vc_seq ?_
 let ζ2:Asrt:=Arr 113 bb [(Value.slice none 0 0),(Value.slice none 0 0),(Value.map (some ba)),(Value.map (some bi)),(.bool (decide (wd [])))]
 let ζ5:Asrt:=Mf ba (Value.int .i64) (Value.int .i64) (lfF [])
 let ζ6:Asrt:=Mf bi fkv (Value.int .i64) (idF [])
 refine vc_res (σ':=[ζ2,ζ5,ζ6,ζ1,(Arr 91 b2 [ζ7])]) rfl ?_
 refine vc_region ?_
 refine ops_alloc Try.ti93 rfl (fun b3=>?_)
 refine ops_nil ?_
 refine vc_seq ?_
 refine vc_res (σ':=[ζ2,ζ5,ζ6,ζ1,(Arr 91 b2 [ζ7]),(Arr 93 b3 [Value.nilFunc])]) rfl ?_
 refine vc_region ?_
 refine oq (qv_func (cs:=[(Value.pointer (some ⟨b2,0,none⟩)),(Value.pointer (some ⟨b3,0,none⟩))]) rfl) ?_
 let ζ3:Value:=Value.func (.func 57) #[] #[(Value.pointer (some ⟨b2,0,none⟩)),(Value.pointer (some ⟨b3,0,none⟩))]
 refine ops_stp (k:=5) (off:=0) (cs:=[Value.nilFunc]) Try.size93 rfl (rfl:ev _ _=ζ3) rfl rfl (Nat.le_of_ble_eq_true rfl) ?_
 refine ops_nil ?_
 refine vc_seq ?_
 refine vc_res (σ':=[ζ2,ζ5,ζ6,ζ1,(Arr 91 b2 [ζ7]),(Arr 93 b3 [ζ3])]) rfl ?_
 let ζ4:Asrt:=Arr 113 bb [(Value.slice none 0 0),(Value.slice none 0 0),(Value.map (some ba)),(Value.map (some bi)),(Value.bool (decide (wd [])))]
 refine vc_freeze (b:=b3) (o:=.cells ([ζ3]:List Value).toArray 93 (0,0)) (σr:=[ζ4,ζ5,ζ6,ζ1,(Arr 91 b2 [ζ7])]) (List.perm_middle (l₁:=[ζ4,ζ5,ζ6,ζ1,(Arr 91 b2 [ζ7])]) (l₂:=[])) (fun Vf4 hVf4 hb4=>?_)
 have hc4:Cells Vf4 b3 [ζ3]:=⟨_,_,hb4⟩
 have ht:=ht.mono hVf4
 refine vc_freeze (b:=b2) (o:=.cells ([ζ7]:List Value).toArray 91 (0,0)) (σr:=[ζ4,ζ5,ζ6,ζ1]) (List.perm_middle (l₁:=[ζ4,ζ5,ζ6,ζ1]) (l₂:=[])) (fun Vf5 hVf5 hb5=>?_)
 have hc5:Cells Vf5 b2 [ζ7]:=⟨_,_,hb5⟩
 have ht:=ht.mono hVf5
 have hc4:=hc4.mono hVf5
 refine vc_nil 3 1 ?_
 refine vc_nil 80 3 ?_
 refine vc_region_order (τ:=[ζ2,ζ5,ζ6,ζ1,(Gr 3 1 ((Value.slice none 0 0)) 0 ([])),(Gr 80 3 ((Value.slice none 0 0)) 0 ([]))]) [(0,false),(1,false),(2,false),(3,false),(4,true),(5,true),(6,false),(7,false),(8,true),(9,false)] [] Try.mixed (perm_idx _ _ [0,1,2,3,4,5] rfl rfl) (by kernel_rfl) ?_
 refine rq rfl (qv_ldp (v:=ζ7) Try.plain91 rfl (inVc hc5) rfl) ?_
 refine rq rfl (qv_mv (Value.int .i64 vars) rfl) ?_
 refine rq rfl (qv_ldp (v:=ζ3) Try.plain93 rfl (inVc hc4) rfl) ?_
 refine rq rfl (qv_mv tv rfl) ?_
 refine rl rfl ?_
 refine ops_call (σa:=[ζ2,(Gr 3 1 ((Value.slice none 0 0)) 0 ([])),(Gr 80 3 ((Value.slice none 0 0)) 0 ([])),ζ5,ζ6]) (σr:=[ζ1]) (by have h:=ft_c (vars:=vars) (ba:=ba) (bi:=bi) vars.toNat _ 0 [] [] t tv (Value.slice none 0 0) (Value.slice none 0 0) ht hl (by omega) (by omega) (by omega) bok_nil (by show 0+_≤_; omega) (by show 0+_≤_; omega) hc4 hc5; exact h) rfl rfl (perm_idx _ _ [0,4,5,1,2,3] rfl rfl) (fun r2 V2 sg2 hV2 hp2=>?_)
 obtain ⟨L1,M1,p1,u1,w1,rfl,rfl,X⟩:=hp2
 have hXl:L1.length≤0+2 ^ vars.toNat:=X.ll
 have hXm:M1.length+1≤0+2 ^ vars.toNat:=X.ml
 obtain ⟨hbd,hbe⟩:=ft_fin (vars:=vars) (by omega) X
 subst ζ1 ζ7 ζ2 ζ5 ζ6 ζ3 ζ4
 rw [hbd] at hbe
 have ht:=ht.mono hV2
 have hc4:=hc4.mono hV2
 have hc5:=hc5.mono hV2
 let ζ1:Asrt:=Arr 25 b1 [(Value.int .i64 0),(Value.slice none 0 0),(Value.slice none 0 0),(Value.int .i64 0)]
 let ζ10:Asrt:=Arr 113 bb [u1,w1,(Value.map (some ba)),(Value.map (some bi)),(.bool (decide (wd L1)))]
 refine ops_perm (σ':=[ζ10,(Mf ba (Value.int .i64) (Value.int .i64) (lfF L1)),(Mf bi fkv (Value.int .i64) (idF M1)),ζ1,(Gr 3 1 u1 L1.length ((L1.map (Value.int .i64)))),(Gr 80 3 w1 M1.length ((fks M1)))]) (perm_idx _ _ [0,3,4,5,1,2] rfl rfl) ?_
 refine ops_nil ⟨[],[ζ10,(Mf ba (Value.int .i64) (Value.int .i64) (lfF L1)),(Mf bi fkv (Value.int .i64) (idF M1)),ζ1,(Gr 3 1 u1 L1.length ((L1.map (Value.int .i64)))),(Gr 80 3 w1 M1.length ((fks M1)))],hV2,(perm_idx _ _ [0,1,2,3,4,5] rfl rfl),⟨[],.refl _⟩,?_⟩
 refine rl rfl ?_
 subst ζ1 ζ10
 refine ops_call (σa:=[(Arr 113 bb [u1,w1,(Value.map (some ba)),(Value.map (some bi)),(.bool (decide (wd L1)))]),(Gr 3 1 u1 L1.length ((L1.map (Value.int .i64)))),(Gr 80 3 w1 M1.length ((fks M1))),(Mf ba (Value.int .i64) (Value.int .i64) (lfF L1)),(Mf bi fkv (Value.int .i64) (idF M1))]) (σr:=[(Arr 25 b1 [(Value.int .i64 0),(Value.slice none 0 0),(Value.slice none 0 0),(Value.int .i64 0)])]) (by have h:=finish_c (vars:=vars) (L:=L1) (M:=M1) (fa:=lfF L1) (fb:=idF M1) (root:=p1) (u:=u1) (w:=w1) (bb:=bb) (ba:=ba) (bi:=bi) (V:=V2) (by omega) X.ok X.rf (by omega) (by omega); rw [hbd,hbe] at h; exact h) rfl rfl (perm_idx _ _ [0,4,5,1,2,3] rfl rfl) (fun r3 V3 sg3 hV3 hp3=>?_)
 obtain ⟨rfl,lv1,nv1,rfl,hMt⟩:=hp3
 have ht:=ht.mono hV3
 have hc4:=hc4.mono hV3
 have hc5:=hc5.mono hV3
 refine ops_nil ⟨[],[(Arr 25 b1 [(Value.int .i64 0),(Value.slice none 0 0),(Value.slice none 0 0),(Value.int .i64 0)])],hV3,(perm_idx _ _ [0] rfl rfl),⟨[],.refl _⟩,?_⟩
 let ζ8:Value:=.int .i64 ((mkD vars t).v)
 let ζ9:Value:=.int .i64 ((mkD vars t).r)
 refine rq rfl (qv_ext (.agg #[ζ8,lv1,nv1,ζ9]) rfl rfl) ?_
 refine rq rfl (qv_ext (.int .i64 (mkE vars t)) rfl rfl) ?_
 refine rl1 (by kernel_rfl) rfl ?_
 refine ops_stw (k:=0) (vs:=[ζ8,lv1,nv1,ζ9]) Try.size25 rfl rfl rfl (allc rfl (allc (Sl.one hMt.l) (allc (SlS.one hMt.n) (allc rfl rfl)))) rfl rfl ?_
 refine ops_nil ⟨[],[(Arr 25 b1 [ζ8,lv1,nv1,ζ9])],(perm_idx _ _ [0] rfl rfl),?_⟩
 refine rq rfl (qv_as (.int .i64 (mkE vars t)) rfl) ?_
 refine rnil ?_
 refine vc_freeze (b:=b1) (o:=.cells ([(Value.int .i64 ((mkD vars t).v)),lv1,nv1,(Value.int .i64 ((mkD vars t).r))]:List Value).toArray 25 (0,0)) (σr:=[]) (List.perm_middle (l₁:=[]) (l₂:=[])) (fun Vf6 hVf6 hb6=>?_)
 have hc6:Cells Vf6 b1 [ζ8,lv1,nv1,ζ9]:=⟨_,_,hb6⟩
 have ht:=ht.mono hVf6
 have hc4:=hc4.mono hVf6
 have hc5:=hc5.mono hVf6
 have hMt:=hMt.mono hVf6
 refine vc_ret ?_
 refine rs2 _ (.int .i64 (mkE vars t)) (rv_c (vs:=[ζ8,lv1,nv1,ζ9]) Try.agg25 rfl (inVc hc6) rfl rfl) (rv_t rfl) ?_
 have e:=ft_0 (vars:=vars) (t:=t) (by omega) (by omega)
 subst ζ8 ζ9
 rw [e.1,e.2]
 exact ⟨rfl,lv1,nv1,rfl,hMt⟩
end Go.Proofs.Ytkmhjcjpohpiaaa
