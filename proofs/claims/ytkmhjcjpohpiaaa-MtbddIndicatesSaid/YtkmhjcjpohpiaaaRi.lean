import Derived.Test.YtkmhjcjpohpiaaaRh
/- Walks of mtbdd: what each function returns. Printed by a program out of notes. -/
namespace Go.Proofs.Ytkmhjcjpohpiaaa
open Go.Vc
open Classical
set_option maxRecDepth 100000
set_option maxHeartbeats 4000000
theorem Indicates_c {V:HV} {nc:Value} {cv cr:Int} {cN:List Fk} (hC:Fks V nc cN) {no yes:Int} :
    FnC Try.prog 10 [(.agg #[(Value.int .i64 cv),nc,(Value.int .i64 cr)]),(Value.int .i64 no),(Value.int .i64 yes)] V [] (fun v _ _=>v=(Value.bool true)):=by
 refine fn_intro (N:=135) Try.func10 (by kernel_rfl) rfl rfl rfl (Nat.le_of_ble_eq_true rfl) ?_
 intro w0 D
 have hbc:=SlS.bound hC
 refine vc_seq ?_
 refine vc_region ?_
 refine ops_box (v:=(.agg #[(Value.int .i64 cv),nc,(Value.int .i64 cr)])) (cs:=[(Value.int .i64 cv),nc,(Value.int .i64 cr)]) rfl rfl (fun b1=>?_)
 refine oq (qv_as (Value.bool false) rfl) ?_
 refine ops_nil ?_
 refine vc_seq ?_
 refine vc_seq ?_
 let ζ1:Asrt:=Arr 59 b1 [(Value.int .i64 cv),nc,(Value.int .i64 cr)]
 refine vc_res (σ':=[ζ1]) rfl ?_
 refine vc_region ?_
 refine oq (qv_call (v:=(Value.bool true)) (known_c) rfl rfl) ?_
 refine oq (qv_notc rfl) ?_
 refine ops_nil ?_
 refine vc_ff rfl ?_
 refine vc_skip ?_
 refine vc_seq ?_
 refine vc_seq ?_
 refine vc_region ?_
 refine oq (qv_fa (off:=0) Try.field59_1 rfl) ?_
 refine oq (qv_ldp (v:=nc) Try.plain23 rfl (inOc (k:=0) rfl) rfl) ?_
 refine oq (qv_lenSS Try.underlying23 rfl hC) ?_
 refine oq (qv_gtr rfl rfl) ?_
 refine oq (qv_mv (.bool (decide (300 < ((cN.length:Int))))) rfl) ?_
 by_cases g1:300 < ((cN.length:Int))
 refine os (want_fn g1 rfl rfl rfl) ?_
 refine os (want_fn g1 rfl rfl rfl) ?_
 refine os (want_fn g1 rfl rfl rfl) ?_
 refine os (want_fn g1 rfl rfl rfl) ?_
 refine os (want_u rfl rfl rfl) ?_
 refine os (want_u rfl rfl rfl) ?_
 refine os (want_u rfl rfl rfl) ?_
 refine os (want_fn g1 rfl rfl rfl) ?_
 refine oq (qv_pick_t g1 rfl (rfl:ev _ _=(Value.bool true))) ?_
 refine ops_nil ?_
 refine vc_tt rfl ?_
 refine vc_seq ?_
 refine vc_region ?_
 refine oq (qv_as (Value.bool true) rfl) ?_
 refine ops_nil ?_
 refine vc_drop [] [ζ1] (.refl _) ?_
 refine vc_ret ?_
 exact rq1 (Value.bool true) rfl rfl
 refine og (qv_ldm (vs:=[(Value.int .i64 cv),nc,(Value.int .i64 cr)]) Try.agg59 rfl (inOc (k:=0) rfl) rfl rfl) (want_f g1 rfl rfl rfl) ?_
 refine og (qv_call (v:=(.int .i64 (Bd.chkC cv cN cr))) (Checked27_c hC) rfl rfl) (want_f g1 rfl rfl rfl) ?_
 refine og (qv_eql rfl rfl) (want_f g1 rfl rfl rfl) ?_
 refine og (qv_mv (.bool (decide ((Bd.chkC cv cN cr)=0))) rfl) (want_f g1 rfl rfl rfl) ?_
 by_cases g2:(Bd.chkC cv cN cr)=0
 refine og (qv_fa (off:=0) Try.field59_0 rfl) (want_t g2 rfl rfl rfl) ?_
 refine og (qv_ldp (v:=(Value.int .i64 cv)) Try.plain3 rfl (inOc (k:=0) rfl) rfl) (want_t g2 rfl rfl rfl) ?_
 refine og (qv_gtr rfl rfl) (want_t g2 rfl rfl rfl) ?_
 refine og (qv_pick_t g2 rfl (rfl:ev _ _=(.bool (decide (8 < cv))))) (want_f g1 rfl rfl rfl) ?_
 refine oq (qv_pick_f g1 rfl (rfl:ev _ _=(.bool (decide (8 < cv))))) ?_
 refine ops_nil ?_
 refine vc_if rfl (fun c1=>?_) (fun c1=>?_)
 refine vc_seq ?_
 refine vc_region ?_
 refine oq (qv_as (Value.bool true) rfl) ?_
 refine ops_nil ?_
 refine vc_drop [] [ζ1] (.refl _) ?_
 refine vc_ret ?_
 exact rq1 (Value.bool true) rfl rfl
 refine vc_skip ?_
 refine vc_seq ?_
 have hv12:Bd.Ok cv cN cr→cv≤12:=fun q=>by have hq:=Bd.chk_0 q; omega
 refine vc_region ?_
 refine oq (qv_ldm (vs:=[(Value.int .i64 cv),nc,(Value.int .i64 cr)]) Try.agg59 rfl (inOc (k:=0) rfl) rfl rfl) ?_
 refine oq (qv_mv (Value.int .i64 no) rfl) ?_
 refine oq (qv_mv (Value.int .i64 yes) rfl) ?_
 refine ops_call (σa:=[]) (σr:=[ζ1]) (Of_c (no:=no) (yes:=yes) hC hv12) rfl rfl (.refl _) (fun r1 V1 sg1 hV1 hp1=>?_)
 obtain ⟨rfl,lv1,nv1,rfl,hMt⟩:=hp1
 have hC:=hC.mono hV1
 let ζ6:Value:=.int .i64 (ofE cv cN cr no yes)
 let ζ8:Value:=.int .i64 ((ofD cv cN cr no yes).v)
 let ζ9:Value:=.int .i64 ((ofD cv cN cr no yes).r)
 refine oq (qv_mv (.tuple #[(.agg #[ζ8,lv1,nv1,ζ9]),ζ6]) rfl) ?_
 refine oq (qv_ext (.agg #[ζ8,lv1,nv1,ζ9]) rfl rfl) ?_
 refine oq (qv_ext ζ6 rfl rfl) ?_
 refine ops_alloc Try.ti25 rfl (fun b2=>?_)
 refine ops_stw (k:=1) (vs:=[ζ8,lv1,nv1,ζ9]) Try.size25 rfl rfl rfl (allc rfl (allc (Sl.one hMt.l) (allc (SlS.one hMt.n) (allc rfl rfl)))) rfl rfl ?_
 refine oq (qv_as ζ6 rfl) ?_
 refine ops_nil ?_
 refine vc_seq ?_
 refine vc_seq ?_
 let ζ3:Asrt:=Arr 25 b2 [(.int .i64 ((ofD cv cN cr no yes).v)),lv1,nv1,(.int .i64 ((ofD cv cN cr no yes).r))]
 refine vc_res (σ':=[ζ1,ζ3]) rfl ?_
 refine vc_region ?_
 refine oq (qv_ldm (vs:=[(Value.int .i64 cv),nc,(Value.int .i64 cr)]) Try.agg59 rfl (inOc (k:=0) rfl) rfl rfl) ?_
 refine oq (qv_call (v:=(.int .i64 (Bd.chkC cv cN cr))) (Checked27_c hC) rfl rfl) ?_
 refine oq (qv_neq rfl rfl) ?_
 refine ops_nil ?_
 refine vc_if rfl (fun c2=>?_) (fun c2=>?_)
 refine vc_seq ?_
 refine vc_region ?_
 refine oq (qv_ldm (vs:=[ζ8,lv1,nv1,ζ9]) Try.agg25 rfl (inOc (k:=1) rfl) rfl rfl) ?_
 refine oq (qv_mv ζ6 rfl) ?_
 refine oq (qv_build (out:=[(Value.int .i64 0),(Value.slice none 0 0),(Value.slice none 0 0),(Value.int .i64 0)]) Try.build25 [] rfl rfl) ?_
 let ζ21:Value:=.bool (decide ((ofE cv cN cr no yes)=1∧(ofD cv cN cr no yes)=zM))
 refine oq (qv_call (v:=ζ21) (is_c (A:=(ofD cv cN cr no yes)) (B:=zM) (ee:=(ofE cv cN cr no yes)) (cc:=1) hMt Mt.nil) rfl rfl) ?_
 refine oq (qv_as ζ21 rfl) ?_
 refine ops_nil ?_
 refine vc_drop [] [ζ1,ζ3] (.refl _) ?_
 refine vc_ret ?_
 exact rq1 (Value.bool true) (congrArg Value.bool (decide_eq_true (show ((ofE cv cN cr no yes)=1∧(ofD cv cN cr no yes)=zM) from by exact of_1 (fun q=>absurd (Bd.chk_0 q) (by assumption))))) rfl
 refine vc_skip ?_
 refine vc_seq ?_
 refine vc_seq ?_
 have hbok:Bd.Ok cv cN cr:=Bd.chk_ok.1 (by omega)
 have hcv8:=hv12 hbok
 refine vc_region ?_
 refine oq (qv_mv (Value.int .i64 no) rfl) ?_
 refine oq (qv_call (v:=(.bool (decide (inR (no))))) (inRangeR_c) rfl rfl) ?_
 refine oq (qv_not rfl) ?_
 refine oq (qv_mv (.bool (decide (¬ (inR (no))))) rfl) ?_
 by_cases g3:¬ (inR (no))
 refine os (want_fn g3 rfl rfl rfl) ?_
 refine os (want_fn g3 rfl rfl rfl) ?_
 refine os (want_fn g3 rfl rfl rfl) ?_
 refine oq (qv_pick_t g3 rfl (rfl:ev _ _=(Value.bool true))) ?_
 refine ops_nil ?_
 refine vc_tt rfl ?_
 refine vc_seq ?_
 refine vc_region ?_
 refine oq (qv_ldm (vs:=[ζ8,lv1,nv1,ζ9]) Try.agg25 rfl (inOc (k:=1) rfl) rfl rfl) ?_
 refine oq (qv_mv ζ6 rfl) ?_
 refine oq (qv_build (out:=[(Value.int .i64 0),(Value.slice none 0 0),(Value.slice none 0 0),(Value.int .i64 0)]) Try.build25 [] rfl rfl) ?_
 let ζ16:Value:=.bool (decide ((ofE cv cN cr no yes)=3∧(ofD cv cN cr no yes)=zM))
 refine oq (qv_call (v:=ζ16) (is_c (A:=(ofD cv cN cr no yes)) (B:=zM) (ee:=(ofE cv cN cr no yes)) (cc:=3) hMt Mt.nil) rfl rfl) ?_
 refine oq (qv_as ζ16 rfl) ?_
 refine ops_nil ?_
 refine vc_drop [] [ζ1,ζ3] (.refl _) ?_
 refine vc_ret ?_
 exact rq1 (Value.bool true) (congrArg Value.bool (decide_eq_true (show ((ofE cv cN cr no yes)=3∧(ofD cv cN cr no yes)=zM) from by exact of_3 hbok (by first | exact .inl (by assumption) | exact .inr (by assumption))))) rfl
 refine og (qv_mv (Value.int .i64 yes) rfl) (want_f g3 rfl rfl rfl) ?_
 refine og (qv_call (v:=(.bool (decide (inR (yes))))) (inRangeR_c) rfl rfl) (want_f g3 rfl rfl rfl) ?_
 refine og (qv_not rfl) (want_f g3 rfl rfl rfl) ?_
 refine oq (qv_pick_f g3 rfl (rfl:ev _ _=(.bool (decide (¬ (inR (yes))))))) ?_
 refine ops_nil ?_
 refine vc_if rfl (fun c3=>?_) (fun c3=>?_)
 refine vc_seq ?_
 refine vc_region ?_
 refine oq (qv_ldm (vs:=[ζ8,lv1,nv1,ζ9]) Try.agg25 rfl (inOc (k:=1) rfl) rfl rfl) ?_
 refine oq (qv_mv ζ6 rfl) ?_
 refine oq (qv_build (out:=[(Value.int .i64 0),(Value.slice none 0 0),(Value.slice none 0 0),(Value.int .i64 0)]) Try.build25 [] rfl rfl) ?_
 let ζ16:Value:=.bool (decide ((ofE cv cN cr no yes)=3∧(ofD cv cN cr no yes)=zM))
 refine oq (qv_call (v:=ζ16) (is_c (A:=(ofD cv cN cr no yes)) (B:=zM) (ee:=(ofE cv cN cr no yes)) (cc:=3) hMt Mt.nil) rfl rfl) ?_
 refine oq (qv_as ζ16 rfl) ?_
 refine ops_nil ?_
 refine vc_drop [] [ζ1,ζ3] (.refl _) ?_
 refine vc_ret ?_
 exact rq1 (Value.bool true) (congrArg Value.bool (decide_eq_true (show ((ofE cv cN cr no yes)=3∧(ofD cv cN cr no yes)=zM) from by exact of_3 hbok (by first | exact .inl (by assumption) | exact .inr (by assumption))))) rfl
 refine vc_skip ?_
 refine vc_seq ?_
 have hv0:=hbok.1.1
 have hin1:inR no:=(by first | assumption | exact Classical.not_not.1 (by assumption))
 have hin2:inR yes:=(by first | assumption | exact Classical.not_not.1 (by assumption))
 have hl3:((Bd.tbD ⟨cv,cN,cr⟩).length:Int)=2 ^ cv.toNat:=Bd.tbD_lenI ⟨cv,cN,cr⟩
 have hl4:(((ofT cv cN cr no yes).length:Nat):Int)=2 ^ cv.toNat:=tabv_lenI hv0
 have hpw8:=pow2_12 (n:=cv.toNat) (by omega)
 have hof:=of_0 hbok hin1 hin2
 have hlv:=ind_lv hbok hcv8 hin1 hin2
 subst ζ1 ζ6 ζ8 ζ9 ζ3
 rw [← hof.2] at hlv
 refine vc_nil 3 1 ?_
 refine vc_region ?_
 refine oq (qv_as (Value.slice none 0 0) rfl) ?_
 refine ops_nil ?_
 refine vc_seq ?_
 refine vc_seq ?_
 let ζ1:Asrt:=Arr 59 b1 [(Value.int .i64 cv),nc,(Value.int .i64 cr)]
 let ζ3:Asrt:=Arr 25 b2 [(.int .i64 ((ofD cv cN cr no yes).v)),lv1,nv1,(.int .i64 ((ofD cv cN cr no yes).r))]
 refine vc_res (σ':=[ζ1,ζ3,(Gr 3 1 ((Value.slice none 0 0)) 0 ([]))]) rfl ?_
 refine vc_region ?_
 refine oq (qv_ldm (vs:=[(Value.int .i64 cv),nc,(Value.int .i64 cr)]) Try.agg59 rfl (inOc (k:=0) rfl) rfl rfl) ?_
 refine ops_call (σa:=[]) (σr:=[ζ1,ζ3,(Gr 3 1 ((Value.slice none 0 0)) 0 ([]))]) (Truths27_c hC hbok hcv8) rfl rfl (.refl _) (fun r2 V2 sg2 hV2 hp2=>?_)
 obtain ⟨rfl,hTt⟩:=hp2
 obtain ⟨tt,htt⟩:∃ x,x=r2:=⟨_,rfl⟩
 subst ζ1 ζ3
 subst htt
 have hC:=hC.mono hV2
 have hMt:=hMt.mono hV2
 refine oq (qv_lenB Try.underlying30 rfl hTt) ?_
 refine oq (qv_mv (Value.int .i64 0) rfl) ?_
 refine ops_nil ?_
 refine vc_block ?_
 let ζ3:Asrt:=Arr 25 b2 [(.int .i64 ((ofD cv cN cr no yes).v)),lv1,nv1,(.int .i64 ((ofD cv cN cr no yes).r))]
 let ζ6:Value:=.int .i64 (ofE cv cN cr no yes)
 refine vc_loop (α:=Int × Value) (fun (xx:Int × Value)=>[(0,(.agg #[(Value.int .i64 cv),nc,(Value.int .i64 cr)])),(1,(Value.int .i64 no)),(2,(Value.int .i64 yes)),(3,(Value.pointer (some ⟨b1,0,none⟩))),(6,(Value.bool false)),(7,(Value.pointer (some ⟨b2,0,none⟩))),(8,ζ6),(18,(Value.bool false)),(32,(.bool (decide (8 < cv)))),(42,(.bool (decide ((Bd.chkC cv cN cr) ≠ 0)))),(54,(.bool (decide (¬ (inR (yes)))))),(60,tt),(61,(.int .i64 ((((Bd.tbD ⟨cv,cN,cr⟩)).length:Int)))),(9,xx.2),(62,(Value.int .i64 xx.1))]) (fun (xx:Int × Value) V' σ'=>V2=V'∧[(Arr 59 b1 [(Value.int .i64 cv),nc,(Value.int .i64 cr)]),ζ3,(Gr 3 1 xx.2 xx.1.toNat ((((ofT cv cN cr no yes).take xx.1.toNat).map (Value.int .i64))))]=σ'∧0≤xx.1∧xx.1≤(2:Int) ^ cv.toNat) (fun (xx:Int × Value)=>((2:Int) ^ cv.toNat - xx.1).toNat) (0,(Value.slice none 0 0)) ?_ ?_ ?_
 subst ζ3 ζ6; exact ⟨rfl,rfl,rfl,rfl,rfl,rfl,rfl,rfl,rfl,rfl,rfl,rfl,rfl,(by first | rfl | (first | omega | simp)),rfl,trivial⟩
 exact ⟨rfl,(show [(Arr 59 b1 [(Value.int .i64 cv),nc,(Value.int .i64 cr)]),ζ3,(Gr 3 1 ((Value.slice none 0 0)) (0:Int).toNat ((((ofT cv cN cr no yes).take (0:Int).toNat).map (Value.int .i64))))]=[(Arr 59 b1 [(Value.int .i64 cv),nc,(Value.int .i64 cr)]),ζ3,(Gr 3 1 ((Value.slice none 0 0)) 0 ([]))] from by rfl),by omega,by omega⟩
 rintro ⟨i,iv⟩ e1 V0l σ0l hI0
 let ζ1:Asrt:=Arr 59 b1 [(Value.int .i64 cv),nc,(Value.int .i64 cr)]
 let ζ20:Asrt:=Gr 3 1 iv i.toNat ((((ofT cv cN cr no yes).take i.toNat).map (Value.int .i64)))
 obtain ⟨rfl,rfl,i1,i2⟩:V2=V0l∧[ζ1,ζ3,ζ20]=σ0l∧0≤i∧i≤(2:Int) ^ cv.toNat:=hI0
 change VC _ _ _ _ _ _ (upds 135 [(0,(.agg #[(Value.int .i64 cv),nc,(Value.int .i64 cr)])),(1,(Value.int .i64 no)),(2,(Value.int .i64 yes)),(3,(Value.pointer (some ⟨b1,0,none⟩))),(6,(Value.bool false)),(7,(Value.pointer (some ⟨b2,0,none⟩))),(8,ζ6),(18,(Value.bool false)),(32,(.bool (decide (8 < cv)))),(42,(.bool (decide ((Bd.chkC cv cN cr) ≠ 0)))),(54,(.bool (decide (¬ (inR (yes)))))),(60,tt),(61,(.int .i64 ((((Bd.tbD ⟨cv,cN,cr⟩)).length:Int)))),(9,iv),(62,(Value.int .i64 i))] e1) _ _
 refine vc_seq ?_
 refine vc_res (σ':=[ζ1,ζ3,ζ20]) rfl ?_
 refine vc_region ?_
 refine oq (qv_lss rfl rfl) ?_
 refine ops_nil ?_
 refine vc_seq ?_
 refine vc_if rfl (fun c4=>?_) (fun c4=>?_)
 refine vc_skip ?_
 refine vc_seq ?_
 refine vc_block ?_
 refine vc_seq ?_
 refine vc_region ?_
 refine oq (qv_iab (v:=tt) (i:=i) Try.underlying30 Try.size4 rfl (inVb hTt) rfl (by omega) (by omega)) ?_
 refine oq (qv_ldb (v:=tt) (i:=i) Try.plain4 rfl (inVb hTt) (by omega) (by omega)) ?_
 let ζ22:Value:=.bool (decide (gb ((Bd.tbD ⟨cv,cN,cr⟩)) (i)=true))
 refine oq (qv_as ζ22 rfl) ?_
 refine ops_nil ?_
 refine vc_seq ?_
 refine vc_region ?_
 refine oq (qv_mv ζ22 rfl) ?_
 refine ops_nil ?_
 refine vc_if rfl (fun c5=>?_) (fun c5=>?_)
 refine vc_region ?_
 refine oq (qv_mv iv rfl) ?_
 refine oq (qv_mv (Value.int .i64 yes) rfl) ?_
 refine ops_lit (n:=1) (s:=1) (cs:=[(Value.int .i64 yes)]) Try.underlying22 Try.ti3 (Nat.le_of_ble_eq_true rfl) rfl rfl rfl (Nat.le_of_ble_eq_true rfl) rfl (fun b3=>?_)
 subst ζ3 ζ6 ζ1 ζ20 ζ22
 refine ops_append (k:=2) (n:=i.toNat) (s:=1) (m:=1) (v:=iv) (xs:=(((ofT cv cN cr no yes).take i.toNat).map (Value.int .i64))) (news:=[(Value.int .i64 yes)]) Try.underlying22 Try.ti3 rfl (Nat.le_of_ble_eq_true rfl) rfl rfl rfl rfl (news_own (j:=3) rfl) (by simp [Value.oneCell']) (by omega) (by simp only [maxLen]; omega) (fun v1 hn1=>?_)
 refine oq (qv_as v1 rfl) ?_
 refine ops_nil ?_
 let ζ1:Asrt:=Arr 59 b1 [(Value.int .i64 cv),nc,(Value.int .i64 cr)]
 let ζ13:Asrt:=Gr 3 1 v1 ((i.toNat+1)) (((((ofT cv cN cr no yes).take i.toNat).map (Value.int .i64))++[(Value.int .i64 yes)]))
 refine vc_res (σ':=[ζ1,(Arr 25 b2 [(.int .i64 ((ofD cv cN cr no yes).v)),lv1,nv1,(.int .i64 ((ofD cv cN cr no yes).r))]),ζ13,(Arr 3 b3 [(Value.int .i64 yes)])]) rfl ?_
 refine vc_drop [ζ1,(Arr 25 b2 [(Value.int .i64 ((ofD cv cN cr no yes).v)),lv1,nv1,(Value.int .i64 ((ofD cv cN cr no yes).r))]),ζ13] [(Arr 3 b3 [(Value.int .i64 yes)])] ((List.perm_middle (l₁:=[ζ1,(Arr 25 b2 [(Value.int .i64 ((ofD cv cN cr no yes).v)),lv1,nv1,(Value.int .i64 ((ofD cv cN cr no yes).r))]),ζ13]) (l₂:=[])).trans (List.perm_append_comm (l₁:=[(Arr 3 b3 [(Value.int .i64 yes)])]))) ?_
 refine vc_region ?_
 refine oq (qv_add rfl rfl (by omega)) ?_
 refine oq (qv_mv (.int .i64 (i+1)) rfl) ?_
 refine ops_nil ?_
 subst ζ1 ζ13
 refine ⟨(i+1,v1),⟨rfl,rfl,rfl,rfl,rfl,rfl,rfl,rfl,rfl,rfl,rfl,rfl,rfl,rfl,(congrArg (Value.int .i64) (show (i+1)=((i+1)) from by omega)),trivial⟩,⟨rfl,(show [(Arr 59 b1 [(Value.int .i64 cv),nc,(Value.int .i64 cr)]),(Arr 25 b2 [(.int .i64 ((ofD cv cN cr no yes).v)),lv1,nv1,(.int .i64 ((ofD cv cN cr no yes).r))]),(Gr 3 1 v1 (i+1:Int).toNat ((((ofT cv cN cr no yes).take (i+1:Int).toNat).map (Value.int .i64))))]=[(Arr 59 b1 [(Value.int .i64 cv),nc,(Value.int .i64 cr)]),(Arr 25 b2 [(.int .i64 ((ofD cv cN cr no yes).v)),lv1,nv1,(.int .i64 ((ofD cv cN cr no yes).r))]),(Gr 3 1 v1 ((i.toNat+1)) (((((ofT cv cN cr no yes).take i.toNat).map (Value.int .i64))++[(Value.int .i64 yes)])))] from by rw [of_take hbok (by omega) (by omega),List.map_append,show (i+1).toNat=i.toNat+1 by omega] <;> first | (rw [if_pos (by assumption)]; rfl) | (rw [if_neg (by assumption)]; rfl)),by omega,by omega⟩,by omega⟩
 refine vc_region ?_
 refine oq (qv_mv iv rfl) ?_
 refine oq (qv_mv (Value.int .i64 no) rfl) ?_
 refine ops_lit (n:=1) (s:=1) (cs:=[(Value.int .i64 no)]) Try.underlying22 Try.ti3 (Nat.le_of_ble_eq_true rfl) rfl rfl rfl (Nat.le_of_ble_eq_true rfl) rfl (fun b4=>?_)
 subst ζ3 ζ6 ζ1 ζ20 ζ22
 refine ops_append (k:=2) (n:=i.toNat) (s:=1) (m:=1) (v:=iv) (xs:=(((ofT cv cN cr no yes).take i.toNat).map (Value.int .i64))) (news:=[(Value.int .i64 no)]) Try.underlying22 Try.ti3 rfl (Nat.le_of_ble_eq_true rfl) rfl rfl rfl rfl (news_own (j:=3) rfl) (by simp [Value.oneCell']) (by omega) (by simp only [maxLen]; omega) (fun v2 hn2=>?_)
 refine oq (qv_as v2 rfl) ?_
 refine ops_nil ?_
 let ζ1:Asrt:=Arr 59 b1 [(Value.int .i64 cv),nc,(Value.int .i64 cr)]
 let ζ15:Asrt:=Gr 3 1 v2 ((i.toNat+1)) (((((ofT cv cN cr no yes).take i.toNat).map (Value.int .i64))++[(Value.int .i64 no)]))
 refine vc_res (σ':=[ζ1,(Arr 25 b2 [(.int .i64 ((ofD cv cN cr no yes).v)),lv1,nv1,(.int .i64 ((ofD cv cN cr no yes).r))]),ζ15,(Arr 3 b4 [(Value.int .i64 no)])]) rfl ?_
 refine vc_drop [ζ1,(Arr 25 b2 [(Value.int .i64 ((ofD cv cN cr no yes).v)),lv1,nv1,(Value.int .i64 ((ofD cv cN cr no yes).r))]),ζ15] [(Arr 3 b4 [(Value.int .i64 no)])] ((List.perm_middle (l₁:=[ζ1,(Arr 25 b2 [(Value.int .i64 ((ofD cv cN cr no yes).v)),lv1,nv1,(Value.int .i64 ((ofD cv cN cr no yes).r))]),ζ15]) (l₂:=[])).trans (List.perm_append_comm (l₁:=[(Arr 3 b4 [(Value.int .i64 no)])]))) ?_
 refine vc_region ?_
 refine oq (qv_add rfl rfl (by omega)) ?_
 refine oq (qv_mv (.int .i64 (i+1)) rfl) ?_
 refine ops_nil ?_
 subst ζ1 ζ15
 refine ⟨(i+1,v2),⟨rfl,rfl,rfl,rfl,rfl,rfl,rfl,rfl,rfl,rfl,rfl,rfl,rfl,rfl,(congrArg (Value.int .i64) (show (i+1)=((i+1)) from by omega)),trivial⟩,⟨rfl,(show [(Arr 59 b1 [(Value.int .i64 cv),nc,(Value.int .i64 cr)]),(Arr 25 b2 [(.int .i64 ((ofD cv cN cr no yes).v)),lv1,nv1,(.int .i64 ((ofD cv cN cr no yes).r))]),(Gr 3 1 v2 (i+1:Int).toNat ((((ofT cv cN cr no yes).take (i+1:Int).toNat).map (Value.int .i64))))]=[(Arr 59 b1 [(Value.int .i64 cv),nc,(Value.int .i64 cr)]),(Arr 25 b2 [(.int .i64 ((ofD cv cN cr no yes).v)),lv1,nv1,(.int .i64 ((ofD cv cN cr no yes).r))]),(Gr 3 1 v2 ((i.toNat+1)) (((((ofT cv cN cr no yes).take i.toNat).map (Value.int .i64))++[(Value.int .i64 no)])))] from by rw [of_take hbok (by omega) (by omega),List.map_append,show (i+1).toNat=i.toNat+1 by omega] <;> first | (rw [if_pos (by assumption)]; rfl) | (rw [if_neg (by assumption)]; rfl)),by omega,by omega⟩,by omega⟩
 refine vc_exit ?_
 refine blockQ_hit ?_
 refine vc_seq ?_
 refine vc_seq ?_
 refine vc_freezeG (v:=iv) (E:=3) (n:=i.toNat) (xs:=(((ofT cv cN cr no yes).take i.toNat).map (Value.int .i64))) (σr:=[ζ1,(Arr 25 b2 [(Value.int .i64 ((ofD cv cN cr no yes).v)),lv1,nv1,(Value.int .i64 ((ofD cv cN cr no yes).r))])]) (List.perm_middle (l₁:=[ζ1,(Arr 25 b2 [(Value.int .i64 ((ofD cv cN cr no yes).v)),lv1,nv1,(Value.int .i64 ((ofD cv cN cr no yes).r))])]) (l₂:=[])) (fun Vf1 hVf1 hc1=>?_)
 have hC:=hC.mono hVf1
 have hMt:=hMt.mono hVf1
 have hTt:=hTt.mono hVf1
 refine vc_region_order (τ:=[]) [(0,false),(1,false),(2,false),(3,false),(4,false),(5,true),(6,false),(7,false)] [ζ1,ζ3] Try.mixed (perm_nil _) (by kernel_rfl) ?_
 have hIx0:=hc1
 have hIx:Ints .i64 Vf1 iv (ofT cv cN cr no yes):=by have q:=hIx0; rw [of_all (by omega)] at q; exact q
 let ζ8:Value:=.int .i64 ((ofD cv cN cr no yes).v)
 let ζ9:Value:=.int .i64 ((ofD cv cN cr no yes).r)
 refine rq rfl (qv_ldm (vs:=[ζ8,lv1,nv1,ζ9]) Try.agg25 rfl (inOc (k:=1) rfl) rfl rfl) ?_
 refine rq rfl (qv_mv ζ6 rfl) ?_
 refine rq rfl (qv_fa (off:=0) Try.field59_0 rfl) ?_
 refine rq rfl (qv_ldp (v:=(Value.int .i64 cv)) Try.plain3 rfl (inOc (k:=0) rfl) rfl) ?_
 refine rq rfl (qv_mv iv rfl) ?_
 refine rl rfl ?_
 refine ops_call (σa:=[]) (σr:=[ζ1,ζ3]) (diagram_c (vars:=cv) (t:=(ofT cv cN cr no yes)) hIx hv0 (by omega) of_len) rfl rfl (.refl _) (fun r3 V3 sg3 hV3 hp3=>?_)
 obtain ⟨rfl,lv2,nv2,rfl,hDg2⟩:=hp3
 have hC:=hC.mono hV3
 have hMt:=hMt.mono hV3
 have hTt:=hTt.mono hV3
 have hc1:=hc1.mono hV3
 have hIx:=hIx.mono hV3
 refine ops_nil ⟨[ζ1,ζ3],[],hV3,perm_nil _,⟨[],(.refl _)⟩,?_⟩
 refine rq rfl (qv_call (v:=(.bool (decide ((ofE cv cN cr no yes)=0∧(ofD cv cN cr no yes)=(dg cv (ofT cv cN cr no yes)))))) (is_c (A:=(ofD cv cN cr no yes)) (B:=(dg cv (ofT cv cN cr no yes))) (ee:=(ofE cv cN cr no yes)) (cc:=0) hMt hDg2) rfl rfl) ?_
 refine rq rfl (qv_not rfl) ?_
 refine rnil ?_
 refine vc_if rfl (fun c6=>?_) (fun c6=>?_)
 exact absurd hof c6
 refine vc_skip ?_
 refine vc_seq ?_
 refine vc_res (σ':=[ζ1,ζ3]) rfl ?_
 refine vc_region ?_
 refine oq (qv_ldm (vs:=[ζ8,lv1,nv1,ζ9]) Try.agg25 rfl (inOc (k:=1) rfl) rfl rfl) ?_
 refine oq (qv_mv (Value.int .i64 yes) rfl) ?_
 subst ζ3 ζ6 ζ1 ζ20 ζ8 ζ9
 refine ops_call (σa:=[]) (σr:=[(Arr 59 b1 [(Value.int .i64 cv),nc,(Value.int .i64 cr)]),(Arr 25 b2 [(.int .i64 ((ofD cv cN cr no yes).v)),lv1,nv1,(.int .i64 ((ofD cv cN cr no yes).r))])]) (by have h:=Level_c (A:=(ofD cv cN cr no yes)) (x0:=yes) hMt; rw [hlv.1,hlv.2] at h; exact h) rfl rfl (.refl _) (fun r4 V4 sg4 hV4 hp4=>?_)
 obtain ⟨rfl,nvl,rfl,hNl⟩:=hp4
 have hC:=hC.mono hV4
 have hMt:=hMt.mono hV4
 have hTt:=hTt.mono hV4
 have hc1:=hc1.mono hV4
 have hIx:=hIx.mono hV4
 have hDg2:=hDg2.mono hV4
 let ζ4:Value:=.int .i64 ((Bd.bldD cv (wtT cv cN cr no yes)).v)
 let ζ5:Value:=.int .i64 ((Bd.bldD cv (wtT cv cN cr no yes)).r)
 refine oq (qv_mv (.tuple #[(.agg #[ζ4,nvl,ζ5]),(Value.int .i64 0)]) rfl) ?_
 refine oq (qv_ext (.agg #[ζ4,nvl,ζ5]) rfl rfl) ?_
 refine oq (qv_ext (Value.int .i64 0) rfl rfl) ?_
 refine ops_alloc Try.ti59 rfl (fun b5=>?_)
 refine ops_stw (k:=2) (vs:=[ζ4,nvl,ζ5]) Try.size59 rfl rfl rfl (allc rfl (allc (SlS.one hNl) (allc rfl rfl))) rfl rfl ?_
 refine oq (qv_as (Value.int .i64 0) rfl) ?_
 refine ops_nil ?_
 refine vc_seq ?_
 let ζ1:Asrt:=Arr 59 b1 [(Value.int .i64 cv),nc,(Value.int .i64 cr)]
 let ζ3:Asrt:=Arr 25 b2 [(.int .i64 ((ofD cv cN cr no yes).v)),lv1,nv1,(.int .i64 ((ofD cv cN cr no yes).r))]
 refine vc_res (σ':=[ζ1,ζ3,(Arr 59 b5 [ζ4,nvl,ζ5])]) rfl ?_
 refine vc_region ?_
 refine oq (qv_mv iv rfl) ?_
 refine oq (qv_lenI Try.underlying22 rfl hIx) ?_
 refine ops_make (n:=(((ofT cv cN cr no yes)).length:Int)) Try.underlying30 Try.ti4 rfl rfl rfl rfl (by omega) (by omega) (by omega) (fun b6=>?_)
 let ζ11:Value:=.slice (some ⟨b6,0,none⟩) ((((ofT cv cN cr no yes)).length:Int)).toNat ((((ofT cv cN cr no yes)).length:Int)).toNat
 refine oq (qv_as ζ11 rfl) ?_
 refine ops_nil ?_
 refine vc_seq ?_
 refine vc_seq ?_
 refine vc_res (σ':=[ζ1,ζ3,(Arr 59 b5 [ζ4,nvl,ζ5]),(Arr 4 b6 (List.replicate ((((ofT cv cN cr no yes)).length:Int)).toNat (Value.bool false)))]) rfl ?_
 refine vc_region ?_
 refine oq (qv_mv iv rfl) ?_
 refine oq (qv_lenI Try.underlying22 rfl hIx) ?_
 refine oq (qv_mv (Value.int .i64 0) rfl) ?_
 refine ops_nil ?_
 refine vc_block ?_
 let ζ6:Value:=.int .i64 (ofE cv cN cr no yes)
 let ζ17:Value:=.bool (decide (¬ ((ofE cv cN cr no yes)=0∧(ofD cv cN cr no yes)=(dg cv (ofT cv cN cr no yes)))))
 let ζ23:Value:=.agg #[(Value.int .i64 cv),nc,(Value.int .i64 cr)]
 refine vc_loop (α:=Int × List Bool) (fun (xx:Int × List Bool)=>[(0,ζ23),(1,(Value.int .i64 no)),(2,(Value.int .i64 yes)),(3,(Value.pointer (some ⟨b1,0,none⟩))),(6,(Value.bool false)),(7,(Value.pointer (some ⟨b2,0,none⟩))),(8,ζ6),(9,iv),(12,(Value.pointer (some ⟨b5,0,none⟩))),(13,(Value.int .i64 0)),(14,(.slice (some ⟨b6,0,none⟩) ((((ofT cv cN cr no yes)).length:Int)).toNat ((((ofT cv cN cr no yes)).length:Int)).toNat)),(18,(Value.bool false)),(32,(.bool (decide (8 < cv)))),(42,(.bool (decide ((Bd.chkC cv cN cr) ≠ 0)))),(54,(.bool (decide (¬ (inR (yes)))))),(60,tt),(61,(.int .i64 ((((Bd.tbD ⟨cv,cN,cr⟩)).length:Int)))),(62,(Value.int .i64 i)),(63,(.bool (decide (i < ((((Bd.tbD ⟨cv,cN,cr⟩)).length:Int)))))),(83,ζ17),(94,(.int .i64 ((((ofT cv cN cr no yes)).length:Int)))),(95,(Value.int .i64 xx.1))]) (fun (xx:Int × List Bool) V' σ'=>V4=V'∧[ζ1,ζ3,(Arr 59 b5 [ζ4,nvl,ζ5]),(Arr 4 b6 (bvs xx.2))]=σ'∧0≤xx.1∧xx.1≤(ofT cv cN cr no yes).length∧xx.2.length=(ofT cv cN cr no yes).length∧∀ x:Int,0≤x→x < xx.1→gb xx.2 x=gb (wtT cv cN cr no yes) x) (fun (xx:Int × List Bool)=>((ofT cv cN cr no yes).length - xx.1).toNat) (0,(List.replicate (ofT cv cN cr no yes).length false)) ?_ ?_ ?_
 exact ⟨rfl,rfl,rfl,rfl,rfl,rfl,rfl,rfl,rfl,rfl,rfl,rfl,rfl,rfl,rfl,rfl,rfl,rfl,rfl,rfl,rfl,rfl,trivial⟩
 subst ζ4 ζ5 ζ1 ζ3 ζ11 ζ6 ζ17 ζ23; exact ⟨rfl,(show [(Arr 59 b1 [(Value.int .i64 cv),nc,(Value.int .i64 cr)]),(Arr 25 b2 [(.int .i64 ((ofD cv cN cr no yes).v)),lv1,nv1,(.int .i64 ((ofD cv cN cr no yes).r))]),(Arr 59 b5 [(.int .i64 ((Bd.bldD cv (wtT cv cN cr no yes)).v)),nvl,(.int .i64 ((Bd.bldD cv (wtT cv cN cr no yes)).r))]),(Arr 4 b6 (bvs ((List.replicate (ofT cv cN cr no yes).length false))))]=[(Arr 59 b1 [(Value.int .i64 cv),nc,(Value.int .i64 cr)]),(Arr 25 b2 [(.int .i64 ((ofD cv cN cr no yes).v)),lv1,nv1,(.int .i64 ((ofD cv cN cr no yes).r))]),(Arr 59 b5 [(.int .i64 ((Bd.bldD cv (wtT cv cN cr no yes)).v)),nvl,(.int .i64 ((Bd.bldD cv (wtT cv cN cr no yes)).r))]),(Arr 4 b6 (List.replicate ((((ofT cv cN cr no yes)).length:Int)).toNat (Value.bool false)))] from by rw [show (List.replicate _ (Value.bool false))=_ from bvs_rep] <;> rfl),by omega,by omega,List.length_replicate ..,fun x a b=>by omega⟩
 rintro ⟨q,W⟩ e2 V1l σ1l hI1
 obtain ⟨rfl,rfl,i3,i4,hWl,hW⟩:V4=V1l∧[ζ1,ζ3,(Arr 59 b5 [ζ4,nvl,ζ5]),(Arr 4 b6 (bvs W))]=σ1l∧0≤q∧q≤(ofT cv cN cr no yes).length∧W.length=(ofT cv cN cr no yes).length∧∀ x:Int,0≤x→x < q→gb W x=gb (wtT cv cN cr no yes) x:=hI1
 change VC _ _ _ _ _ _ (upds 135 [(0,ζ23),(1,(Value.int .i64 no)),(2,(Value.int .i64 yes)),(3,(Value.pointer (some ⟨b1,0,none⟩))),(6,(Value.bool false)),(7,(Value.pointer (some ⟨b2,0,none⟩))),(8,ζ6),(9,iv),(12,(Value.pointer (some ⟨b5,0,none⟩))),(13,(Value.int .i64 0)),(14,ζ11),(18,(Value.bool false)),(32,(.bool (decide (8 < cv)))),(42,(.bool (decide ((Bd.chkC cv cN cr) ≠ 0)))),(54,(.bool (decide (¬ (inR (yes)))))),(60,tt),(61,(.int .i64 ((((Bd.tbD ⟨cv,cN,cr⟩)).length:Int)))),(62,(Value.int .i64 i)),(63,(.bool (decide (i < ((((Bd.tbD ⟨cv,cN,cr⟩)).length:Int)))))),(83,ζ17),(94,(.int .i64 ((((ofT cv cN cr no yes)).length:Int)))),(95,(Value.int .i64 q))] e2) _ _
 refine vc_seq ?_
 refine vc_res (σ':=[ζ1,ζ3,(Arr 59 b5 [ζ4,nvl,ζ5]),(Arr 4 b6 (bvs W))]) rfl ?_
 refine vc_region ?_
 refine oq (qv_lss rfl rfl) ?_
 refine ops_nil ?_
 refine vc_seq ?_
 refine vc_if rfl (fun c7=>?_) (fun c7=>?_)
 refine vc_skip ?_
 refine vc_seq ?_
 refine vc_block ?_
 refine vc_seq ?_
 refine vc_region ?_
 refine oq (qv_mv (Value.int .i64 q) rfl) ?_
 refine oq (qv_as (Value.int .i64 q) rfl) ?_
 refine ops_nil ?_
 refine vc_region ?_
 refine oq (qv_mv ζ11 rfl) ?_
 refine oq (qv_mv (Value.int .i64 q) rfl) ?_
 refine oq (qv_mv iv rfl) ?_
 refine oq (qv_mv (Value.int .i64 q) rfl) ?_
 subst ζ4 ζ5 ζ1 ζ3 ζ11 ζ6 ζ17 ζ23
 refine oq (qv_iai (v:=iv) (i:=q) Try.underlying22 Try.size3 rfl (inVi hIx) rfl (by omega) (by first | omega | (simp only [bvs,List.length_map]; omega))) ?_
 refine oq (qv_ldi (v:=iv) (i:=q) Try.plain3 rfl (inVi hIx) (by omega) (by first | omega | (simp only [bvs,List.length_map]; omega))) ?_
 refine oq (qv_mv (Value.int .i64 yes) rfl) ?_
 refine oq (qv_eql rfl rfl) ?_
 refine oq (qv_ia (v:=(.slice (some ⟨b6,0,none⟩) ((((ofT cv cN cr no yes)).length:Int)).toNat ((((ofT cv cN cr no yes)).length:Int)).toNat)) (i:=q) Try.underlying30 Try.size4 rfl (inO (k:=3) rfl (by simp only [bvs,List.length_map]; omega) (Nat.le_refl _) (by omega)) rfl (by omega) (by first | omega | (simp only [bvs,List.length_map]; omega))) ?_
 refine ops_ste (k:=3) (b:=b6) (n:=((((ofT cv cN cr no yes)).length:Int)).toNat) (c:=((((ofT cv cN cr no yes)).length:Int)).toNat) (i:=q) (cs:=(bvs W)) Try.size4 rfl (rfl:ev _ _=(.bool (decide ((gi ((ofT cv cN cr no yes)) (q))=yes)))) rfl rfl (by omega) (by first | omega | (simp only [bvs,List.length_map]; omega)) ?_
 refine ops_nil ?_
 refine vc_res (σ':=[(Arr 59 b1 [(Value.int .i64 cv),nc,(Value.int .i64 cr)]),(Arr 25 b2 [(.int .i64 ((ofD cv cN cr no yes).v)),lv1,nv1,(.int .i64 ((ofD cv cN cr no yes).r))]),(Arr 59 b5 [(.int .i64 ((Bd.bldD cv (wtT cv cN cr no yes)).v)),nvl,(.int .i64 ((Bd.bldD cv (wtT cv cN cr no yes)).r))]),(Arr 4 b6 (((bvs W)).set (q).toNat (.bool (decide ((gi ((ofT cv cN cr no yes)) (q))=yes)))))]) rfl ?_
 refine vc_region ?_
 refine oq (qv_add rfl rfl (by omega)) ?_
 refine oq (qv_mv (.int .i64 (q+1)) rfl) ?_
 refine ops_nil ?_
 refine ⟨(q+1,(W.set q.toNat (decide (gi (ofT cv cN cr no yes) q=yes)))),⟨rfl,rfl,rfl,rfl,rfl,rfl,rfl,rfl,rfl,rfl,rfl,rfl,rfl,rfl,rfl,rfl,rfl,rfl,rfl,rfl,rfl,(congrArg (Value.int .i64) (show (q+1)=((q+1)) from by omega)),trivial⟩,⟨rfl,(show [(Arr 59 b1 [(Value.int .i64 cv),nc,(Value.int .i64 cr)]),(Arr 25 b2 [(.int .i64 ((ofD cv cN cr no yes).v)),lv1,nv1,(.int .i64 ((ofD cv cN cr no yes).r))]),(Arr 59 b5 [(.int .i64 ((Bd.bldD cv (wtT cv cN cr no yes)).v)),nvl,(.int .i64 ((Bd.bldD cv (wtT cv cN cr no yes)).r))]),(Arr 4 b6 (bvs ((W.set q.toNat (decide (gi (ofT cv cN cr no yes) q=yes))))))]=[(Arr 59 b1 [(Value.int .i64 cv),nc,(Value.int .i64 cr)]),(Arr 25 b2 [(.int .i64 ((ofD cv cN cr no yes).v)),lv1,nv1,(.int .i64 ((ofD cv cN cr no yes).r))]),(Arr 59 b5 [(.int .i64 ((Bd.bldD cv (wtT cv cN cr no yes)).v)),nvl,(.int .i64 ((Bd.bldD cv (wtT cv cN cr no yes)).r))]),(Arr 4 b6 (((bvs W)).set (q).toNat (.bool (decide ((gi ((ofT cv cN cr no yes)) (q))=yes)))))] from by rw [bvs_set]),by omega,by omega,by rw [List.length_set]; exact hWl,fun x a b=>by rw [gb_set (by omega) (by omega) a]; split; (rename_i e; rw [← e,wt_gb hbok (by omega) (by omega)]); exact hW x a (by omega)⟩,by omega⟩
 refine vc_exit ?_
 refine blockQ_hit ?_
 refine vc_seq ?_
 refine vc_freeze (b:=b6) (o:=.cells ((bvs W):List Value).toArray 4 (0,0)) (σr:=[ζ1,(Arr 25 b2 [(Value.int .i64 ((ofD cv cN cr no yes).v)),lv1,nv1,(Value.int .i64 ((ofD cv cN cr no yes).r))]),(Arr 59 b5 [(Value.int .i64 ((Bd.bldD cv (wtT cv cN cr no yes)).v)),nvl,(Value.int .i64 ((Bd.bldD cv (wtT cv cN cr no yes)).r))])]) (List.perm_middle (l₁:=[ζ1,(Arr 25 b2 [(Value.int .i64 ((ofD cv cN cr no yes).v)),lv1,nv1,(Value.int .i64 ((ofD cv cN cr no yes).r))]),(Arr 59 b5 [(Value.int .i64 ((Bd.bldD cv (wtT cv cN cr no yes)).v)),nvl,(Value.int .i64 ((Bd.bldD cv (wtT cv cN cr no yes)).r))])]) (l₂:=[])) (fun Vf2 hVf2 hb2=>?_)
 have hc2:Cells Vf2 b6 (bvs W):=⟨_,_,hb2⟩
 have hC:=hC.mono hVf2
 have hMt:=hMt.mono hVf2
 have hTt:=hTt.mono hVf2
 have hc1:=hc1.mono hVf2
 have hIx:=hIx.mono hVf2
 have hDg2:=hDg2.mono hVf2
 have hNl:=hNl.mono hVf2
 refine vc_region ?_
 have hWe:W=(wtT cv cN cr no yes):=ext_gb (by rw [hWl,of_len,wt_len]) (fun x a b=>hW x a (by omega))
 have hWc:=hc2
 subst ζ4 ζ5 ζ1 ζ3 ζ11 ζ6 ζ17 ζ23
 rw [hWe] at hWc
 have hWb:=bls_cells hWc (n:=(ofT cv cN cr no yes).length) (c:=(ofT cv cN cr no yes).length) (by rw [of_len,wt_len]) (Nat.le_refl _) (by omega)
 refine oq (qv_fa (off:=0) Try.field59_0 rfl) ?_
 refine oq (qv_ldp (v:=(Value.int .i64 cv)) Try.plain3 rfl (inOc (k:=0) rfl) rfl) ?_
 refine oq (qv_mv (.slice (some ⟨b6,0,none⟩) ((((ofT cv cN cr no yes)).length:Int)).toNat ((((ofT cv cN cr no yes)).length:Int)).toNat) rfl) ?_
 let ζ1:Asrt:=Arr 59 b1 [(Value.int .i64 cv),nc,(Value.int .i64 cr)]
 let ζ3:Asrt:=Arr 25 b2 [(.int .i64 ((ofD cv cN cr no yes).v)),lv1,nv1,(.int .i64 ((ofD cv cN cr no yes).r))]
 let ζ4:Value:=.int .i64 ((Bd.bldD cv (wtT cv cN cr no yes)).v)
 let ζ5:Value:=.int .i64 ((Bd.bldD cv (wtT cv cN cr no yes)).r)
 refine ops_call (σa:=[]) (σr:=[ζ1,ζ3,(Arr 59 b5 [ζ4,nvl,ζ5])]) (Diagram27_c (vars:=cv) (t:=(wtT cv cN cr no yes)) hWb hv0 (by omega) wt_len) rfl rfl (.refl _) (fun r5 V5 sg5 hV5 hp5=>?_)
 obtain ⟨rfl,nvd,rfl,hNd⟩:=hp5
 have hC:=hC.mono hV5
 have hMt:=hMt.mono hV5
 have hTt:=hTt.mono hV5
 have hc1:=hc1.mono hV5
 have hIx:=hIx.mono hV5
 have hDg2:=hDg2.mono hV5
 have hNl:=hNl.mono hV5
 have hc2:=hc2.mono hV5
 have hWb:=hWb.mono hV5
 refine ops_alloc Try.ti59 rfl (fun b7=>?_)
 refine ops_stw (k:=3) (vs:=[ζ4,nvd,ζ5]) Try.size59 rfl rfl rfl (allc rfl (allc (SlS.one hNd) (allc rfl rfl))) rfl rfl ?_
 refine ops_nil ?_
 refine vc_seq ?_
 refine vc_res (σ':=[ζ1,ζ3,(Arr 59 b5 [ζ4,nvl,ζ5]),(Arr 59 b7 [ζ4,nvd,ζ5])]) rfl ?_
 refine vc_region ?_
 refine oq (qv_mv (Value.int .i64 0) rfl) ?_
 refine oq (qv_eql rfl rfl) ?_
 refine oq (qv_mv (.bool (decide (0=0))) rfl) ?_
 by_cases g4:0=0
 refine og (qv_fa (off:=0) Try.field59_0 rfl) (want_t g4 rfl rfl rfl) ?_
 refine og (qv_ldp (v:=ζ4) Try.plain3 rfl (inOc (k:=2) rfl) rfl) (want_t g4 rfl rfl rfl) ?_
 refine og (qv_fa (off:=0) Try.field59_0 rfl) (want_t g4 rfl rfl rfl) ?_
 refine og (qv_ldp (v:=ζ4) Try.plain3 rfl (inOc (k:=3) rfl) rfl) (want_t g4 rfl rfl rfl) ?_
 refine og (qv_eql rfl rfl) (want_t g4 rfl rfl rfl) ?_
 let ζ18:Value:=.bool (decide (((Bd.bldD cv (wtT cv cN cr no yes)).v)=((Bd.bldD cv (wtT cv cN cr no yes)).v)))
 refine oq (qv_pick_t g4 rfl (rfl:ev _ _=ζ18)) ?_
 refine oq (qv_mv ζ18 rfl) ?_
 by_cases g5:((Bd.bldD cv (wtT cv cN cr no yes)).v)=((Bd.bldD cv (wtT cv cN cr no yes)).v)
 refine og (qv_fa (off:=0) Try.field59_2 rfl) (want_t g5 rfl rfl rfl) ?_
 refine og (qv_ldp (v:=ζ5) Try.plain3 rfl (inOc (k:=2) rfl) rfl) (want_t g5 rfl rfl rfl) ?_
 refine og (qv_fa (off:=0) Try.field59_2 rfl) (want_t g5 rfl rfl rfl) ?_
 refine og (qv_ldp (v:=ζ5) Try.plain3 rfl (inOc (k:=3) rfl) rfl) (want_t g5 rfl rfl rfl) ?_
 refine og (qv_eql rfl rfl) (want_t g5 rfl rfl rfl) ?_
 let ζ19:Value:=.bool (decide (((Bd.bldD cv (wtT cv cN cr no yes)).r)=((Bd.bldD cv (wtT cv cN cr no yes)).r)))
 refine oq (qv_pick_t g5 rfl (rfl:ev _ _=ζ19)) ?_
 refine oq (qv_mv ζ19 rfl) ?_
 by_cases g6:((Bd.bldD cv (wtT cv cN cr no yes)).r)=((Bd.bldD cv (wtT cv cN cr no yes)).r)
 refine og (qv_fa (off:=0) Try.field59_1 rfl) (want_t g6 rfl rfl rfl) ?_
 refine og (qv_ldp (v:=nvl) Try.plain23 rfl (inOc (k:=2) rfl) rfl) (want_t g6 rfl rfl rfl) ?_
 refine og (qv_fa (off:=0) Try.field59_1 rfl) (want_t g6 rfl rfl rfl) ?_
 refine og (qv_ldp (v:=nvd) Try.plain23 rfl (inOc (k:=3) rfl) rfl) (want_t g6 rfl rfl rfl) ?_
 let ζ7:Value:=.bool (decide ((Bd.bldD cv (wtT cv cN cr no yes)).N=(Bd.bldD cv (wtT cv cN cr no yes)).N))
 refine og (qv_call (v:=ζ7) (EqF_c hNl hNd) rfl rfl) (want_t g6 rfl rfl rfl) ?_
 refine oq (qv_pick_t g6 rfl (rfl:ev _ _=ζ7)) ?_
 refine oq (qv_as ζ7 rfl) ?_
 refine ops_nil ?_
 refine vc_drop [] [ζ1,ζ3,(Arr 59 b5 [ζ4,nvl,ζ5]),(Arr 59 b7 [ζ4,nvd,ζ5])] (.refl _) ?_
 refine vc_ret ?_
 exact rq1 (Value.bool true) (congrArg Value.bool (decide_eq_true (show ((Bd.bldD cv (wtT cv cN cr no yes)).N=(Bd.bldD cv (wtT cv cN cr no yes)).N) from by first | rfl | exact hof))) rfl
 exact absurd rfl g6
 exact absurd rfl g5
 exact absurd rfl g4
 refine os (want_tn g2 rfl rfl rfl) ?_
 refine os (want_tn g2 rfl rfl rfl) ?_
 refine os (want_tn g2 rfl rfl rfl) ?_
 refine og (qv_pick_f g2 rfl (rfl:ev _ _=(Value.bool false))) (want_f g1 rfl rfl rfl) ?_
 refine oq (qv_pick_f g1 rfl (rfl:ev _ _=(Value.bool false))) ?_
 refine ops_nil ?_
 refine vc_ff rfl ?_
 refine vc_skip ?_
 refine vc_seq ?_
 have hv12:Bd.Ok cv cN cr→cv≤12:=fun q=>by have hq:=Bd.chk_0 q; omega
 refine vc_region ?_
 refine oq (qv_ldm (vs:=[(Value.int .i64 cv),nc,(Value.int .i64 cr)]) Try.agg59 rfl (inOc (k:=0) rfl) rfl rfl) ?_
 refine oq (qv_mv (Value.int .i64 no) rfl) ?_
 refine oq (qv_mv (Value.int .i64 yes) rfl) ?_
 refine ops_call (σa:=[]) (σr:=[ζ1]) (Of_c (no:=no) (yes:=yes) hC hv12) rfl rfl (.refl _) (fun r6 V6 sg6 hV6 hp6=>?_)
 obtain ⟨rfl,lv1,nv1,rfl,hMt⟩:=hp6
 have hC:=hC.mono hV6
 let ζ6:Value:=.int .i64 (ofE cv cN cr no yes)
 let ζ8:Value:=.int .i64 ((ofD cv cN cr no yes).v)
 let ζ9:Value:=.int .i64 ((ofD cv cN cr no yes).r)
 refine oq (qv_mv (.tuple #[(.agg #[ζ8,lv1,nv1,ζ9]),ζ6]) rfl) ?_
 refine oq (qv_ext (.agg #[ζ8,lv1,nv1,ζ9]) rfl rfl) ?_
 refine oq (qv_ext ζ6 rfl rfl) ?_
 refine ops_alloc Try.ti25 rfl (fun b8=>?_)
 refine ops_stw (k:=1) (vs:=[ζ8,lv1,nv1,ζ9]) Try.size25 rfl rfl rfl (allc rfl (allc (Sl.one hMt.l) (allc (SlS.one hMt.n) (allc rfl rfl)))) rfl rfl ?_
 refine oq (qv_as ζ6 rfl) ?_
 refine ops_nil ?_
 refine vc_seq ?_
 refine vc_seq ?_
 let ζ2:Asrt:=Arr 25 b8 [(.int .i64 ((ofD cv cN cr no yes).v)),lv1,nv1,(.int .i64 ((ofD cv cN cr no yes).r))]
 refine vc_res (σ':=[ζ1,ζ2]) rfl ?_
 refine vc_region ?_
 refine oq (qv_ldm (vs:=[(Value.int .i64 cv),nc,(Value.int .i64 cr)]) Try.agg59 rfl (inOc (k:=0) rfl) rfl rfl) ?_
 refine oq (qv_call (v:=(.int .i64 (Bd.chkC cv cN cr))) (Checked27_c hC) rfl rfl) ?_
 refine oq (qv_neq rfl rfl) ?_
 refine ops_nil ?_
 refine vc_if rfl (fun c8=>?_) (fun c8=>?_)
 refine vc_seq ?_
 refine vc_region ?_
 refine oq (qv_ldm (vs:=[ζ8,lv1,nv1,ζ9]) Try.agg25 rfl (inOc (k:=1) rfl) rfl rfl) ?_
 refine oq (qv_mv ζ6 rfl) ?_
 refine oq (qv_build (out:=[(Value.int .i64 0),(Value.slice none 0 0),(Value.slice none 0 0),(Value.int .i64 0)]) Try.build25 [] rfl rfl) ?_
 let ζ21:Value:=.bool (decide ((ofE cv cN cr no yes)=1∧(ofD cv cN cr no yes)=zM))
 refine oq (qv_call (v:=ζ21) (is_c (A:=(ofD cv cN cr no yes)) (B:=zM) (ee:=(ofE cv cN cr no yes)) (cc:=1) hMt Mt.nil) rfl rfl) ?_
 refine oq (qv_as ζ21 rfl) ?_
 refine ops_nil ?_
 refine vc_drop [] [ζ1,ζ2] (.refl _) ?_
 refine vc_ret ?_
 exact rq1 (Value.bool true) (congrArg Value.bool (decide_eq_true (show ((ofE cv cN cr no yes)=1∧(ofD cv cN cr no yes)=zM) from by exact of_1 (fun q=>absurd (Bd.chk_0 q) (by assumption))))) rfl
 refine vc_skip ?_
 refine vc_seq ?_
 refine vc_seq ?_
 have hbok:Bd.Ok cv cN cr:=Bd.chk_ok.1 (by omega)
 have hcv8:=hv12 hbok
 refine vc_region ?_
 refine oq (qv_mv (Value.int .i64 no) rfl) ?_
 refine oq (qv_call (v:=(.bool (decide (inR (no))))) (inRangeR_c) rfl rfl) ?_
 refine oq (qv_not rfl) ?_
 refine oq (qv_mv (.bool (decide (¬ (inR (no))))) rfl) ?_
 by_cases g7:¬ (inR (no))
 refine os (want_fn g7 rfl rfl rfl) ?_
 refine os (want_fn g7 rfl rfl rfl) ?_
 refine os (want_fn g7 rfl rfl rfl) ?_
 refine oq (qv_pick_t g7 rfl (rfl:ev _ _=(Value.bool true))) ?_
 refine ops_nil ?_
 refine vc_tt rfl ?_
 refine vc_seq ?_
 refine vc_region ?_
 refine oq (qv_ldm (vs:=[ζ8,lv1,nv1,ζ9]) Try.agg25 rfl (inOc (k:=1) rfl) rfl rfl) ?_
 refine oq (qv_mv ζ6 rfl) ?_
 refine oq (qv_build (out:=[(Value.int .i64 0),(Value.slice none 0 0),(Value.slice none 0 0),(Value.int .i64 0)]) Try.build25 [] rfl rfl) ?_
 let ζ16:Value:=.bool (decide ((ofE cv cN cr no yes)=3∧(ofD cv cN cr no yes)=zM))
 refine oq (qv_call (v:=ζ16) (is_c (A:=(ofD cv cN cr no yes)) (B:=zM) (ee:=(ofE cv cN cr no yes)) (cc:=3) hMt Mt.nil) rfl rfl) ?_
 refine oq (qv_as ζ16 rfl) ?_
 refine ops_nil ?_
 refine vc_drop [] [ζ1,ζ2] (.refl _) ?_
 refine vc_ret ?_
 exact rq1 (Value.bool true) (congrArg Value.bool (decide_eq_true (show ((ofE cv cN cr no yes)=3∧(ofD cv cN cr no yes)=zM) from by exact of_3 hbok (by first | exact .inl (by assumption) | exact .inr (by assumption))))) rfl
 refine og (qv_mv (Value.int .i64 yes) rfl) (want_f g7 rfl rfl rfl) ?_
 refine og (qv_call (v:=(.bool (decide (inR (yes))))) (inRangeR_c) rfl rfl) (want_f g7 rfl rfl rfl) ?_
 refine og (qv_not rfl) (want_f g7 rfl rfl rfl) ?_
 refine oq (qv_pick_f g7 rfl (rfl:ev _ _=(.bool (decide (¬ (inR (yes))))))) ?_
 refine ops_nil ?_
 refine vc_if rfl (fun c9=>?_) (fun c9=>?_)
 refine vc_seq ?_
 refine vc_region ?_
 refine oq (qv_ldm (vs:=[ζ8,lv1,nv1,ζ9]) Try.agg25 rfl (inOc (k:=1) rfl) rfl rfl) ?_
 refine oq (qv_mv ζ6 rfl) ?_
 refine oq (qv_build (out:=[(Value.int .i64 0),(Value.slice none 0 0),(Value.slice none 0 0),(Value.int .i64 0)]) Try.build25 [] rfl rfl) ?_
 let ζ16:Value:=.bool (decide ((ofE cv cN cr no yes)=3∧(ofD cv cN cr no yes)=zM))
 refine oq (qv_call (v:=ζ16) (is_c (A:=(ofD cv cN cr no yes)) (B:=zM) (ee:=(ofE cv cN cr no yes)) (cc:=3) hMt Mt.nil) rfl rfl) ?_
 refine oq (qv_as ζ16 rfl) ?_
 refine ops_nil ?_
 refine vc_drop [] [ζ1,ζ2] (.refl _) ?_
 refine vc_ret ?_
 exact rq1 (Value.bool true) (congrArg Value.bool (decide_eq_true (show ((ofE cv cN cr no yes)=3∧(ofD cv cN cr no yes)=zM) from by exact of_3 hbok (by first | exact .inl (by assumption) | exact .inr (by assumption))))) rfl
 refine vc_skip ?_
 refine vc_seq ?_
 have hv0:=hbok.1.1
 have hin1:inR no:=(by first | assumption | exact Classical.not_not.1 (by assumption))
 have hin2:inR yes:=(by first | assumption | exact Classical.not_not.1 (by assumption))
 have hl3:((Bd.tbD ⟨cv,cN,cr⟩).length:Int)=2 ^ cv.toNat:=Bd.tbD_lenI ⟨cv,cN,cr⟩
 have hl4:(((ofT cv cN cr no yes).length:Nat):Int)=2 ^ cv.toNat:=tabv_lenI hv0
 have hpw8:=pow2_12 (n:=cv.toNat) (by omega)
 have hof:=of_0 hbok hin1 hin2
 have hlv:=ind_lv hbok hcv8 hin1 hin2
 subst ζ1 ζ6 ζ8 ζ9 ζ2
 rw [← hof.2] at hlv
 refine vc_nil 3 1 ?_
 refine vc_region ?_
 refine oq (qv_as (Value.slice none 0 0) rfl) ?_
 refine ops_nil ?_
 refine vc_seq ?_
 refine vc_seq ?_
 let ζ1:Asrt:=Arr 59 b1 [(Value.int .i64 cv),nc,(Value.int .i64 cr)]
 let ζ2:Asrt:=Arr 25 b8 [(.int .i64 ((ofD cv cN cr no yes).v)),lv1,nv1,(.int .i64 ((ofD cv cN cr no yes).r))]
 refine vc_res (σ':=[ζ1,ζ2,(Gr 3 1 ((Value.slice none 0 0)) 0 ([]))]) rfl ?_
 refine vc_region ?_
 refine oq (qv_ldm (vs:=[(Value.int .i64 cv),nc,(Value.int .i64 cr)]) Try.agg59 rfl (inOc (k:=0) rfl) rfl rfl) ?_
 refine ops_call (σa:=[]) (σr:=[ζ1,ζ2,(Gr 3 1 ((Value.slice none 0 0)) 0 ([]))]) (Truths27_c hC hbok hcv8) rfl rfl (.refl _) (fun r7 V7 sg7 hV7 hp7=>?_)
 obtain ⟨rfl,hTt⟩:=hp7
 obtain ⟨tt,htt⟩:∃ x,x=r7:=⟨_,rfl⟩
 subst ζ1 ζ2
 subst htt
 have hC:=hC.mono hV7
 have hMt:=hMt.mono hV7
 refine oq (qv_lenB Try.underlying30 rfl hTt) ?_
 refine oq (qv_mv (Value.int .i64 0) rfl) ?_
 refine ops_nil ?_
 refine vc_block ?_
 let ζ2:Asrt:=Arr 25 b8 [(.int .i64 ((ofD cv cN cr no yes).v)),lv1,nv1,(.int .i64 ((ofD cv cN cr no yes).r))]
 let ζ6:Value:=.int .i64 (ofE cv cN cr no yes)
 refine vc_loop (α:=Int × Value) (fun (xx:Int × Value)=>[(0,(.agg #[(Value.int .i64 cv),nc,(Value.int .i64 cr)])),(1,(Value.int .i64 no)),(2,(Value.int .i64 yes)),(3,(Value.pointer (some ⟨b1,0,none⟩))),(6,(Value.bool false)),(7,(Value.pointer (some ⟨b8,0,none⟩))),(8,ζ6),(18,(Value.bool false)),(32,(Value.bool false)),(42,(.bool (decide ((Bd.chkC cv cN cr) ≠ 0)))),(54,(.bool (decide (¬ (inR (yes)))))),(60,tt),(61,(.int .i64 ((((Bd.tbD ⟨cv,cN,cr⟩)).length:Int)))),(9,xx.2),(62,(Value.int .i64 xx.1))]) (fun (xx:Int × Value) V' σ'=>V7=V'∧[(Arr 59 b1 [(Value.int .i64 cv),nc,(Value.int .i64 cr)]),ζ2,(Gr 3 1 xx.2 xx.1.toNat ((((ofT cv cN cr no yes).take xx.1.toNat).map (Value.int .i64))))]=σ'∧0≤xx.1∧xx.1≤(2:Int) ^ cv.toNat) (fun (xx:Int × Value)=>((2:Int) ^ cv.toNat - xx.1).toNat) (0,(Value.slice none 0 0)) ?_ ?_ ?_
 subst ζ2 ζ6; exact ⟨rfl,rfl,rfl,rfl,rfl,rfl,rfl,rfl,rfl,rfl,rfl,rfl,rfl,(by first | rfl | (first | omega | simp)),rfl,trivial⟩
 exact ⟨rfl,(show [(Arr 59 b1 [(Value.int .i64 cv),nc,(Value.int .i64 cr)]),ζ2,(Gr 3 1 ((Value.slice none 0 0)) (0:Int).toNat ((((ofT cv cN cr no yes).take (0:Int).toNat).map (Value.int .i64))))]=[(Arr 59 b1 [(Value.int .i64 cv),nc,(Value.int .i64 cr)]),ζ2,(Gr 3 1 ((Value.slice none 0 0)) 0 ([]))] from by rfl),by omega,by omega⟩
 rintro ⟨i,iv⟩ e3 V0l σ0l hI0
 let ζ1:Asrt:=Arr 59 b1 [(Value.int .i64 cv),nc,(Value.int .i64 cr)]
 let ζ20:Asrt:=Gr 3 1 iv i.toNat ((((ofT cv cN cr no yes).take i.toNat).map (Value.int .i64)))
 obtain ⟨rfl,rfl,i5,i6⟩:V7=V0l∧[ζ1,ζ2,ζ20]=σ0l∧0≤i∧i≤(2:Int) ^ cv.toNat:=hI0
 change VC _ _ _ _ _ _ (upds 135 [(0,(.agg #[(Value.int .i64 cv),nc,(Value.int .i64 cr)])),(1,(Value.int .i64 no)),(2,(Value.int .i64 yes)),(3,(Value.pointer (some ⟨b1,0,none⟩))),(6,(Value.bool false)),(7,(Value.pointer (some ⟨b8,0,none⟩))),(8,ζ6),(18,(Value.bool false)),(32,(Value.bool false)),(42,(.bool (decide ((Bd.chkC cv cN cr) ≠ 0)))),(54,(.bool (decide (¬ (inR (yes)))))),(60,tt),(61,(.int .i64 ((((Bd.tbD ⟨cv,cN,cr⟩)).length:Int)))),(9,iv),(62,(Value.int .i64 i))] e3) _ _
 refine vc_seq ?_
 refine vc_res (σ':=[ζ1,ζ2,ζ20]) rfl ?_
 refine vc_region ?_
 refine oq (qv_lss rfl rfl) ?_
 refine ops_nil ?_
 refine vc_seq ?_
 refine vc_if rfl (fun c10=>?_) (fun c10=>?_)
 refine vc_skip ?_
 refine vc_seq ?_
 refine vc_block ?_
 refine vc_seq ?_
 refine vc_region ?_
 refine oq (qv_iab (v:=tt) (i:=i) Try.underlying30 Try.size4 rfl (inVb hTt) rfl (by omega) (by omega)) ?_
 refine oq (qv_ldb (v:=tt) (i:=i) Try.plain4 rfl (inVb hTt) (by omega) (by omega)) ?_
 let ζ22:Value:=.bool (decide (gb ((Bd.tbD ⟨cv,cN,cr⟩)) (i)=true))
 refine oq (qv_as ζ22 rfl) ?_
 refine ops_nil ?_
 refine vc_seq ?_
 refine vc_region ?_
 refine oq (qv_mv ζ22 rfl) ?_
 refine ops_nil ?_
 refine vc_if rfl (fun c11=>?_) (fun c11=>?_)
 refine vc_region ?_
 refine oq (qv_mv iv rfl) ?_
 refine oq (qv_mv (Value.int .i64 yes) rfl) ?_
 refine ops_lit (n:=1) (s:=1) (cs:=[(Value.int .i64 yes)]) Try.underlying22 Try.ti3 (Nat.le_of_ble_eq_true rfl) rfl rfl rfl (Nat.le_of_ble_eq_true rfl) rfl (fun b9=>?_)
 subst ζ2 ζ6 ζ1 ζ20 ζ22
 refine ops_append (k:=2) (n:=i.toNat) (s:=1) (m:=1) (v:=iv) (xs:=(((ofT cv cN cr no yes).take i.toNat).map (Value.int .i64))) (news:=[(Value.int .i64 yes)]) Try.underlying22 Try.ti3 rfl (Nat.le_of_ble_eq_true rfl) rfl rfl rfl rfl (news_own (j:=3) rfl) (by simp [Value.oneCell']) (by omega) (by simp only [maxLen]; omega) (fun v3 hn3=>?_)
 refine oq (qv_as v3 rfl) ?_
 refine ops_nil ?_
 let ζ1:Asrt:=Arr 59 b1 [(Value.int .i64 cv),nc,(Value.int .i64 cr)]
 let ζ12:Asrt:=Gr 3 1 v3 ((i.toNat+1)) (((((ofT cv cN cr no yes).take i.toNat).map (Value.int .i64))++[(Value.int .i64 yes)]))
 refine vc_res (σ':=[ζ1,(Arr 25 b8 [(.int .i64 ((ofD cv cN cr no yes).v)),lv1,nv1,(.int .i64 ((ofD cv cN cr no yes).r))]),ζ12,(Arr 3 b9 [(Value.int .i64 yes)])]) rfl ?_
 refine vc_drop [ζ1,(Arr 25 b8 [(Value.int .i64 ((ofD cv cN cr no yes).v)),lv1,nv1,(Value.int .i64 ((ofD cv cN cr no yes).r))]),ζ12] [(Arr 3 b9 [(Value.int .i64 yes)])] ((List.perm_middle (l₁:=[ζ1,(Arr 25 b8 [(Value.int .i64 ((ofD cv cN cr no yes).v)),lv1,nv1,(Value.int .i64 ((ofD cv cN cr no yes).r))]),ζ12]) (l₂:=[])).trans (List.perm_append_comm (l₁:=[(Arr 3 b9 [(Value.int .i64 yes)])]))) ?_
 refine vc_region ?_
 refine oq (qv_add rfl rfl (by omega)) ?_
 refine oq (qv_mv (.int .i64 (i+1)) rfl) ?_
 refine ops_nil ?_
 subst ζ1 ζ12
 refine ⟨(i+1,v3),⟨rfl,rfl,rfl,rfl,rfl,rfl,rfl,rfl,rfl,rfl,rfl,rfl,rfl,rfl,(congrArg (Value.int .i64) (show (i+1)=((i+1)) from by omega)),trivial⟩,⟨rfl,(show [(Arr 59 b1 [(Value.int .i64 cv),nc,(Value.int .i64 cr)]),(Arr 25 b8 [(.int .i64 ((ofD cv cN cr no yes).v)),lv1,nv1,(.int .i64 ((ofD cv cN cr no yes).r))]),(Gr 3 1 v3 (i+1:Int).toNat ((((ofT cv cN cr no yes).take (i+1:Int).toNat).map (Value.int .i64))))]=[(Arr 59 b1 [(Value.int .i64 cv),nc,(Value.int .i64 cr)]),(Arr 25 b8 [(.int .i64 ((ofD cv cN cr no yes).v)),lv1,nv1,(.int .i64 ((ofD cv cN cr no yes).r))]),(Gr 3 1 v3 ((i.toNat+1)) (((((ofT cv cN cr no yes).take i.toNat).map (Value.int .i64))++[(Value.int .i64 yes)])))] from by rw [of_take hbok (by omega) (by omega),List.map_append,show (i+1).toNat=i.toNat+1 by omega] <;> first | (rw [if_pos (by assumption)]; rfl) | (rw [if_neg (by assumption)]; rfl)),by omega,by omega⟩,by omega⟩
 refine vc_region ?_
 refine oq (qv_mv iv rfl) ?_
 refine oq (qv_mv (Value.int .i64 no) rfl) ?_
 refine ops_lit (n:=1) (s:=1) (cs:=[(Value.int .i64 no)]) Try.underlying22 Try.ti3 (Nat.le_of_ble_eq_true rfl) rfl rfl rfl (Nat.le_of_ble_eq_true rfl) rfl (fun b10=>?_)
 subst ζ2 ζ6 ζ1 ζ20 ζ22
 refine ops_append (k:=2) (n:=i.toNat) (s:=1) (m:=1) (v:=iv) (xs:=(((ofT cv cN cr no yes).take i.toNat).map (Value.int .i64))) (news:=[(Value.int .i64 no)]) Try.underlying22 Try.ti3 rfl (Nat.le_of_ble_eq_true rfl) rfl rfl rfl rfl (news_own (j:=3) rfl) (by simp [Value.oneCell']) (by omega) (by simp only [maxLen]; omega) (fun v4 hn4=>?_)
 refine oq (qv_as v4 rfl) ?_
 refine ops_nil ?_
 let ζ1:Asrt:=Arr 59 b1 [(Value.int .i64 cv),nc,(Value.int .i64 cr)]
 let ζ14:Asrt:=Gr 3 1 v4 ((i.toNat+1)) (((((ofT cv cN cr no yes).take i.toNat).map (Value.int .i64))++[(Value.int .i64 no)]))
 refine vc_res (σ':=[ζ1,(Arr 25 b8 [(.int .i64 ((ofD cv cN cr no yes).v)),lv1,nv1,(.int .i64 ((ofD cv cN cr no yes).r))]),ζ14,(Arr 3 b10 [(Value.int .i64 no)])]) rfl ?_
 refine vc_drop [ζ1,(Arr 25 b8 [(Value.int .i64 ((ofD cv cN cr no yes).v)),lv1,nv1,(Value.int .i64 ((ofD cv cN cr no yes).r))]),ζ14] [(Arr 3 b10 [(Value.int .i64 no)])] ((List.perm_middle (l₁:=[ζ1,(Arr 25 b8 [(Value.int .i64 ((ofD cv cN cr no yes).v)),lv1,nv1,(Value.int .i64 ((ofD cv cN cr no yes).r))]),ζ14]) (l₂:=[])).trans (List.perm_append_comm (l₁:=[(Arr 3 b10 [(Value.int .i64 no)])]))) ?_
 refine vc_region ?_
 refine oq (qv_add rfl rfl (by omega)) ?_
 refine oq (qv_mv (.int .i64 (i+1)) rfl) ?_
 refine ops_nil ?_
 subst ζ1 ζ14
 refine ⟨(i+1,v4),⟨rfl,rfl,rfl,rfl,rfl,rfl,rfl,rfl,rfl,rfl,rfl,rfl,rfl,rfl,(congrArg (Value.int .i64) (show (i+1)=((i+1)) from by omega)),trivial⟩,⟨rfl,(show [(Arr 59 b1 [(Value.int .i64 cv),nc,(Value.int .i64 cr)]),(Arr 25 b8 [(.int .i64 ((ofD cv cN cr no yes).v)),lv1,nv1,(.int .i64 ((ofD cv cN cr no yes).r))]),(Gr 3 1 v4 (i+1:Int).toNat ((((ofT cv cN cr no yes).take (i+1:Int).toNat).map (Value.int .i64))))]=[(Arr 59 b1 [(Value.int .i64 cv),nc,(Value.int .i64 cr)]),(Arr 25 b8 [(.int .i64 ((ofD cv cN cr no yes).v)),lv1,nv1,(.int .i64 ((ofD cv cN cr no yes).r))]),(Gr 3 1 v4 ((i.toNat+1)) (((((ofT cv cN cr no yes).take i.toNat).map (Value.int .i64))++[(Value.int .i64 no)])))] from by rw [of_take hbok (by omega) (by omega),List.map_append,show (i+1).toNat=i.toNat+1 by omega] <;> first | (rw [if_pos (by assumption)]; rfl) | (rw [if_neg (by assumption)]; rfl)),by omega,by omega⟩,by omega⟩
 refine vc_exit ?_
 refine blockQ_hit ?_
 refine vc_seq ?_
 refine vc_seq ?_
 refine vc_freezeG (v:=iv) (E:=3) (n:=i.toNat) (xs:=(((ofT cv cN cr no yes).take i.toNat).map (Value.int .i64))) (σr:=[ζ1,(Arr 25 b8 [(Value.int .i64 ((ofD cv cN cr no yes).v)),lv1,nv1,(Value.int .i64 ((ofD cv cN cr no yes).r))])]) (List.perm_middle (l₁:=[ζ1,(Arr 25 b8 [(Value.int .i64 ((ofD cv cN cr no yes).v)),lv1,nv1,(Value.int .i64 ((ofD cv cN cr no yes).r))])]) (l₂:=[])) (fun Vf3 hVf3 hc3=>?_)
 have hC:=hC.mono hVf3
 have hMt:=hMt.mono hVf3
 have hTt:=hTt.mono hVf3
 refine vc_region_order (τ:=[]) [(0,false),(1,false),(2,false),(3,false),(4,false),(5,true),(6,false),(7,false)] [ζ1,ζ2] Try.mixed (perm_nil _) (by kernel_rfl) ?_
 have hIx0:=hc3
 have hIx:Ints .i64 Vf3 iv (ofT cv cN cr no yes):=by have q:=hIx0; rw [of_all (by omega)] at q; exact q
 let ζ8:Value:=.int .i64 ((ofD cv cN cr no yes).v)
 let ζ9:Value:=.int .i64 ((ofD cv cN cr no yes).r)
 refine rq rfl (qv_ldm (vs:=[ζ8,lv1,nv1,ζ9]) Try.agg25 rfl (inOc (k:=1) rfl) rfl rfl) ?_
 refine rq rfl (qv_mv ζ6 rfl) ?_
 refine rq rfl (qv_fa (off:=0) Try.field59_0 rfl) ?_
 refine rq rfl (qv_ldp (v:=(Value.int .i64 cv)) Try.plain3 rfl (inOc (k:=0) rfl) rfl) ?_
 refine rq rfl (qv_mv iv rfl) ?_
 refine rl rfl ?_
 refine ops_call (σa:=[]) (σr:=[ζ1,ζ2]) (diagram_c (vars:=cv) (t:=(ofT cv cN cr no yes)) hIx hv0 (by omega) of_len) rfl rfl (.refl _) (fun r8 V8 sg8 hV8 hp8=>?_)
 obtain ⟨rfl,lv2,nv2,rfl,hDg2⟩:=hp8
 have hC:=hC.mono hV8
 have hMt:=hMt.mono hV8
 have hTt:=hTt.mono hV8
 have hc3:=hc3.mono hV8
 have hIx:=hIx.mono hV8
 refine ops_nil ⟨[ζ1,ζ2],[],hV8,perm_nil _,⟨[],(.refl _)⟩,?_⟩
 refine rq rfl (qv_call (v:=(.bool (decide ((ofE cv cN cr no yes)=0∧(ofD cv cN cr no yes)=(dg cv (ofT cv cN cr no yes)))))) (is_c (A:=(ofD cv cN cr no yes)) (B:=(dg cv (ofT cv cN cr no yes))) (ee:=(ofE cv cN cr no yes)) (cc:=0) hMt hDg2) rfl rfl) ?_
 refine rq rfl (qv_not rfl) ?_
 refine rnil ?_
 refine vc_if rfl (fun c12=>?_) (fun c12=>?_)
 exact absurd hof c12
 refine vc_skip ?_
 refine vc_seq ?_
 refine vc_res (σ':=[ζ1,ζ2]) rfl ?_
 refine vc_region ?_
 refine oq (qv_ldm (vs:=[ζ8,lv1,nv1,ζ9]) Try.agg25 rfl (inOc (k:=1) rfl) rfl rfl) ?_
 refine oq (qv_mv (Value.int .i64 yes) rfl) ?_
 subst ζ2 ζ6 ζ1 ζ20 ζ8 ζ9
 refine ops_call (σa:=[]) (σr:=[(Arr 59 b1 [(Value.int .i64 cv),nc,(Value.int .i64 cr)]),(Arr 25 b8 [(.int .i64 ((ofD cv cN cr no yes).v)),lv1,nv1,(.int .i64 ((ofD cv cN cr no yes).r))])]) (by have h:=Level_c (A:=(ofD cv cN cr no yes)) (x0:=yes) hMt; rw [hlv.1,hlv.2] at h; exact h) rfl rfl (.refl _) (fun r9 V9 sg9 hV9 hp9=>?_)
 obtain ⟨rfl,nvl,rfl,hNl⟩:=hp9
 have hC:=hC.mono hV9
 have hMt:=hMt.mono hV9
 have hTt:=hTt.mono hV9
 have hc3:=hc3.mono hV9
 have hIx:=hIx.mono hV9
 have hDg2:=hDg2.mono hV9
 let ζ4:Value:=.int .i64 ((Bd.bldD cv (wtT cv cN cr no yes)).v)
 let ζ5:Value:=.int .i64 ((Bd.bldD cv (wtT cv cN cr no yes)).r)
 refine oq (qv_mv (.tuple #[(.agg #[ζ4,nvl,ζ5]),(Value.int .i64 0)]) rfl) ?_
 refine oq (qv_ext (.agg #[ζ4,nvl,ζ5]) rfl rfl) ?_
 refine oq (qv_ext (Value.int .i64 0) rfl rfl) ?_
 refine ops_alloc Try.ti59 rfl (fun b11=>?_)
 refine ops_stw (k:=2) (vs:=[ζ4,nvl,ζ5]) Try.size59 rfl rfl rfl (allc rfl (allc (SlS.one hNl) (allc rfl rfl))) rfl rfl ?_
 refine oq (qv_as (Value.int .i64 0) rfl) ?_
 refine ops_nil ?_
 refine vc_seq ?_
 let ζ1:Asrt:=Arr 59 b1 [(Value.int .i64 cv),nc,(Value.int .i64 cr)]
 let ζ2:Asrt:=Arr 25 b8 [(.int .i64 ((ofD cv cN cr no yes).v)),lv1,nv1,(.int .i64 ((ofD cv cN cr no yes).r))]
 refine vc_res (σ':=[ζ1,ζ2,(Arr 59 b11 [ζ4,nvl,ζ5])]) rfl ?_
 refine vc_region ?_
 refine oq (qv_mv iv rfl) ?_
 refine oq (qv_lenI Try.underlying22 rfl hIx) ?_
 refine ops_make (n:=(((ofT cv cN cr no yes)).length:Int)) Try.underlying30 Try.ti4 rfl rfl rfl rfl (by omega) (by omega) (by omega) (fun b12=>?_)
 let ζ10:Value:=.slice (some ⟨b12,0,none⟩) ((((ofT cv cN cr no yes)).length:Int)).toNat ((((ofT cv cN cr no yes)).length:Int)).toNat
 refine oq (qv_as ζ10 rfl) ?_
 refine ops_nil ?_
 refine vc_seq ?_
 refine vc_seq ?_
 refine vc_res (σ':=[ζ1,ζ2,(Arr 59 b11 [ζ4,nvl,ζ5]),(Arr 4 b12 (List.replicate ((((ofT cv cN cr no yes)).length:Int)).toNat (Value.bool false)))]) rfl ?_
 refine vc_region ?_
 refine oq (qv_mv iv rfl) ?_
 refine oq (qv_lenI Try.underlying22 rfl hIx) ?_
 refine oq (qv_mv (Value.int .i64 0) rfl) ?_
 refine ops_nil ?_
 refine vc_block ?_
 let ζ6:Value:=.int .i64 (ofE cv cN cr no yes)
 let ζ17:Value:=.bool (decide (¬ ((ofE cv cN cr no yes)=0∧(ofD cv cN cr no yes)=(dg cv (ofT cv cN cr no yes)))))
 let ζ23:Value:=.agg #[(Value.int .i64 cv),nc,(Value.int .i64 cr)]
 refine vc_loop (α:=Int × List Bool) (fun (xx:Int × List Bool)=>[(0,ζ23),(1,(Value.int .i64 no)),(2,(Value.int .i64 yes)),(3,(Value.pointer (some ⟨b1,0,none⟩))),(6,(Value.bool false)),(7,(Value.pointer (some ⟨b8,0,none⟩))),(8,ζ6),(9,iv),(12,(Value.pointer (some ⟨b11,0,none⟩))),(13,(Value.int .i64 0)),(14,(.slice (some ⟨b12,0,none⟩) ((((ofT cv cN cr no yes)).length:Int)).toNat ((((ofT cv cN cr no yes)).length:Int)).toNat)),(18,(Value.bool false)),(32,(Value.bool false)),(42,(.bool (decide ((Bd.chkC cv cN cr) ≠ 0)))),(54,(.bool (decide (¬ (inR (yes)))))),(60,tt),(61,(.int .i64 ((((Bd.tbD ⟨cv,cN,cr⟩)).length:Int)))),(62,(Value.int .i64 i)),(63,(.bool (decide (i < ((((Bd.tbD ⟨cv,cN,cr⟩)).length:Int)))))),(83,ζ17),(94,(.int .i64 ((((ofT cv cN cr no yes)).length:Int)))),(95,(Value.int .i64 xx.1))]) (fun (xx:Int × List Bool) V' σ'=>V9=V'∧[ζ1,ζ2,(Arr 59 b11 [ζ4,nvl,ζ5]),(Arr 4 b12 (bvs xx.2))]=σ'∧0≤xx.1∧xx.1≤(ofT cv cN cr no yes).length∧xx.2.length=(ofT cv cN cr no yes).length∧∀ x:Int,0≤x→x < xx.1→gb xx.2 x=gb (wtT cv cN cr no yes) x) (fun (xx:Int × List Bool)=>((ofT cv cN cr no yes).length - xx.1).toNat) (0,(List.replicate (ofT cv cN cr no yes).length false)) ?_ ?_ ?_
 exact ⟨rfl,rfl,rfl,rfl,rfl,rfl,rfl,rfl,rfl,rfl,rfl,rfl,rfl,rfl,rfl,rfl,rfl,rfl,rfl,rfl,rfl,rfl,trivial⟩
 subst ζ4 ζ5 ζ1 ζ2 ζ10 ζ6 ζ17 ζ23; exact ⟨rfl,(show [(Arr 59 b1 [(Value.int .i64 cv),nc,(Value.int .i64 cr)]),(Arr 25 b8 [(.int .i64 ((ofD cv cN cr no yes).v)),lv1,nv1,(.int .i64 ((ofD cv cN cr no yes).r))]),(Arr 59 b11 [(.int .i64 ((Bd.bldD cv (wtT cv cN cr no yes)).v)),nvl,(.int .i64 ((Bd.bldD cv (wtT cv cN cr no yes)).r))]),(Arr 4 b12 (bvs ((List.replicate (ofT cv cN cr no yes).length false))))]=[(Arr 59 b1 [(Value.int .i64 cv),nc,(Value.int .i64 cr)]),(Arr 25 b8 [(.int .i64 ((ofD cv cN cr no yes).v)),lv1,nv1,(.int .i64 ((ofD cv cN cr no yes).r))]),(Arr 59 b11 [(.int .i64 ((Bd.bldD cv (wtT cv cN cr no yes)).v)),nvl,(.int .i64 ((Bd.bldD cv (wtT cv cN cr no yes)).r))]),(Arr 4 b12 (List.replicate ((((ofT cv cN cr no yes)).length:Int)).toNat (Value.bool false)))] from by rw [show (List.replicate _ (Value.bool false))=_ from bvs_rep] <;> rfl),by omega,by omega,List.length_replicate ..,fun x a b=>by omega⟩
 rintro ⟨q,W⟩ e4 V1l σ1l hI1
 obtain ⟨rfl,rfl,i7,i8,hWl,hW⟩:V9=V1l∧[ζ1,ζ2,(Arr 59 b11 [ζ4,nvl,ζ5]),(Arr 4 b12 (bvs W))]=σ1l∧0≤q∧q≤(ofT cv cN cr no yes).length∧W.length=(ofT cv cN cr no yes).length∧∀ x:Int,0≤x→x < q→gb W x=gb (wtT cv cN cr no yes) x:=hI1
 change VC _ _ _ _ _ _ (upds 135 [(0,ζ23),(1,(Value.int .i64 no)),(2,(Value.int .i64 yes)),(3,(Value.pointer (some ⟨b1,0,none⟩))),(6,(Value.bool false)),(7,(Value.pointer (some ⟨b8,0,none⟩))),(8,ζ6),(9,iv),(12,(Value.pointer (some ⟨b11,0,none⟩))),(13,(Value.int .i64 0)),(14,ζ10),(18,(Value.bool false)),(32,(Value.bool false)),(42,(.bool (decide ((Bd.chkC cv cN cr) ≠ 0)))),(54,(.bool (decide (¬ (inR (yes)))))),(60,tt),(61,(.int .i64 ((((Bd.tbD ⟨cv,cN,cr⟩)).length:Int)))),(62,(Value.int .i64 i)),(63,(.bool (decide (i < ((((Bd.tbD ⟨cv,cN,cr⟩)).length:Int)))))),(83,ζ17),(94,(.int .i64 ((((ofT cv cN cr no yes)).length:Int)))),(95,(Value.int .i64 q))] e4) _ _
 refine vc_seq ?_
 refine vc_res (σ':=[ζ1,ζ2,(Arr 59 b11 [ζ4,nvl,ζ5]),(Arr 4 b12 (bvs W))]) rfl ?_
 refine vc_region ?_
 refine oq (qv_lss rfl rfl) ?_
 refine ops_nil ?_
 refine vc_seq ?_
 refine vc_if rfl (fun c13=>?_) (fun c13=>?_)
 refine vc_skip ?_
 refine vc_seq ?_
 refine vc_block ?_
 refine vc_seq ?_
 refine vc_region ?_
 refine oq (qv_mv (Value.int .i64 q) rfl) ?_
 refine oq (qv_as (Value.int .i64 q) rfl) ?_
 refine ops_nil ?_
 refine vc_region ?_
 refine oq (qv_mv ζ10 rfl) ?_
 refine oq (qv_mv (Value.int .i64 q) rfl) ?_
 refine oq (qv_mv iv rfl) ?_
 refine oq (qv_mv (Value.int .i64 q) rfl) ?_
 subst ζ4 ζ5 ζ1 ζ2 ζ10 ζ6 ζ17 ζ23
 refine oq (qv_iai (v:=iv) (i:=q) Try.underlying22 Try.size3 rfl (inVi hIx) rfl (by omega) (by first | omega | (simp only [bvs,List.length_map]; omega))) ?_
 refine oq (qv_ldi (v:=iv) (i:=q) Try.plain3 rfl (inVi hIx) (by omega) (by first | omega | (simp only [bvs,List.length_map]; omega))) ?_
 refine oq (qv_mv (Value.int .i64 yes) rfl) ?_
 refine oq (qv_eql rfl rfl) ?_
 refine oq (qv_ia (v:=(.slice (some ⟨b12,0,none⟩) ((((ofT cv cN cr no yes)).length:Int)).toNat ((((ofT cv cN cr no yes)).length:Int)).toNat)) (i:=q) Try.underlying30 Try.size4 rfl (inO (k:=3) rfl (by simp only [bvs,List.length_map]; omega) (Nat.le_refl _) (by omega)) rfl (by omega) (by first | omega | (simp only [bvs,List.length_map]; omega))) ?_
 refine ops_ste (k:=3) (b:=b12) (n:=((((ofT cv cN cr no yes)).length:Int)).toNat) (c:=((((ofT cv cN cr no yes)).length:Int)).toNat) (i:=q) (cs:=(bvs W)) Try.size4 rfl (rfl:ev _ _=(.bool (decide ((gi ((ofT cv cN cr no yes)) (q))=yes)))) rfl rfl (by omega) (by first | omega | (simp only [bvs,List.length_map]; omega)) ?_
 refine ops_nil ?_
 refine vc_res (σ':=[(Arr 59 b1 [(Value.int .i64 cv),nc,(Value.int .i64 cr)]),(Arr 25 b8 [(.int .i64 ((ofD cv cN cr no yes).v)),lv1,nv1,(.int .i64 ((ofD cv cN cr no yes).r))]),(Arr 59 b11 [(.int .i64 ((Bd.bldD cv (wtT cv cN cr no yes)).v)),nvl,(.int .i64 ((Bd.bldD cv (wtT cv cN cr no yes)).r))]),(Arr 4 b12 (((bvs W)).set (q).toNat (.bool (decide ((gi ((ofT cv cN cr no yes)) (q))=yes)))))]) rfl ?_
 refine vc_region ?_
 refine oq (qv_add rfl rfl (by omega)) ?_
 refine oq (qv_mv (.int .i64 (q+1)) rfl) ?_
 refine ops_nil ?_
 refine ⟨(q+1,(W.set q.toNat (decide (gi (ofT cv cN cr no yes) q=yes)))),⟨rfl,rfl,rfl,rfl,rfl,rfl,rfl,rfl,rfl,rfl,rfl,rfl,rfl,rfl,rfl,rfl,rfl,rfl,rfl,rfl,rfl,(congrArg (Value.int .i64) (show (q+1)=((q+1)) from by omega)),trivial⟩,⟨rfl,(show [(Arr 59 b1 [(Value.int .i64 cv),nc,(Value.int .i64 cr)]),(Arr 25 b8 [(.int .i64 ((ofD cv cN cr no yes).v)),lv1,nv1,(.int .i64 ((ofD cv cN cr no yes).r))]),(Arr 59 b11 [(.int .i64 ((Bd.bldD cv (wtT cv cN cr no yes)).v)),nvl,(.int .i64 ((Bd.bldD cv (wtT cv cN cr no yes)).r))]),(Arr 4 b12 (bvs ((W.set q.toNat (decide (gi (ofT cv cN cr no yes) q=yes))))))]=[(Arr 59 b1 [(Value.int .i64 cv),nc,(Value.int .i64 cr)]),(Arr 25 b8 [(.int .i64 ((ofD cv cN cr no yes).v)),lv1,nv1,(.int .i64 ((ofD cv cN cr no yes).r))]),(Arr 59 b11 [(.int .i64 ((Bd.bldD cv (wtT cv cN cr no yes)).v)),nvl,(.int .i64 ((Bd.bldD cv (wtT cv cN cr no yes)).r))]),(Arr 4 b12 (((bvs W)).set (q).toNat (.bool (decide ((gi ((ofT cv cN cr no yes)) (q))=yes)))))] from by rw [bvs_set]),by omega,by omega,by rw [List.length_set]; exact hWl,fun x a b=>by rw [gb_set (by omega) (by omega) a]; split; (rename_i e; rw [← e,wt_gb hbok (by omega) (by omega)]); exact hW x a (by omega)⟩,by omega⟩
 refine vc_exit ?_
 refine blockQ_hit ?_
 refine vc_seq ?_
 refine vc_freeze (b:=b12) (o:=.cells ((bvs W):List Value).toArray 4 (0,0)) (σr:=[ζ1,(Arr 25 b8 [(Value.int .i64 ((ofD cv cN cr no yes).v)),lv1,nv1,(Value.int .i64 ((ofD cv cN cr no yes).r))]),(Arr 59 b11 [(Value.int .i64 ((Bd.bldD cv (wtT cv cN cr no yes)).v)),nvl,(Value.int .i64 ((Bd.bldD cv (wtT cv cN cr no yes)).r))])]) (List.perm_middle (l₁:=[ζ1,(Arr 25 b8 [(Value.int .i64 ((ofD cv cN cr no yes).v)),lv1,nv1,(Value.int .i64 ((ofD cv cN cr no yes).r))]),(Arr 59 b11 [(Value.int .i64 ((Bd.bldD cv (wtT cv cN cr no yes)).v)),nvl,(Value.int .i64 ((Bd.bldD cv (wtT cv cN cr no yes)).r))])]) (l₂:=[])) (fun Vf4 hVf4 hb4=>?_)
 have hc4:Cells Vf4 b12 (bvs W):=⟨_,_,hb4⟩
 have hC:=hC.mono hVf4
 have hMt:=hMt.mono hVf4
 have hTt:=hTt.mono hVf4
 have hc3:=hc3.mono hVf4
 have hIx:=hIx.mono hVf4
 have hDg2:=hDg2.mono hVf4
 have hNl:=hNl.mono hVf4
 refine vc_region ?_
 have hWe:W=(wtT cv cN cr no yes):=ext_gb (by rw [hWl,of_len,wt_len]) (fun x a b=>hW x a (by omega))
 have hWc:=hc4
 subst ζ4 ζ5 ζ1 ζ2 ζ10 ζ6 ζ17 ζ23
 rw [hWe] at hWc
 have hWb:=bls_cells hWc (n:=(ofT cv cN cr no yes).length) (c:=(ofT cv cN cr no yes).length) (by rw [of_len,wt_len]) (Nat.le_refl _) (by omega)
 refine oq (qv_fa (off:=0) Try.field59_0 rfl) ?_
 refine oq (qv_ldp (v:=(Value.int .i64 cv)) Try.plain3 rfl (inOc (k:=0) rfl) rfl) ?_
 refine oq (qv_mv (.slice (some ⟨b12,0,none⟩) ((((ofT cv cN cr no yes)).length:Int)).toNat ((((ofT cv cN cr no yes)).length:Int)).toNat) rfl) ?_
 let ζ1:Asrt:=Arr 59 b1 [(Value.int .i64 cv),nc,(Value.int .i64 cr)]
 let ζ2:Asrt:=Arr 25 b8 [(.int .i64 ((ofD cv cN cr no yes).v)),lv1,nv1,(.int .i64 ((ofD cv cN cr no yes).r))]
 let ζ4:Value:=.int .i64 ((Bd.bldD cv (wtT cv cN cr no yes)).v)
 let ζ5:Value:=.int .i64 ((Bd.bldD cv (wtT cv cN cr no yes)).r)
 refine ops_call (σa:=[]) (σr:=[ζ1,ζ2,(Arr 59 b11 [ζ4,nvl,ζ5])]) (Diagram27_c (vars:=cv) (t:=(wtT cv cN cr no yes)) hWb hv0 (by omega) wt_len) rfl rfl (.refl _) (fun r10 V10 sg10 hV10 hp10=>?_)
 obtain ⟨rfl,nvd,rfl,hNd⟩:=hp10
 have hC:=hC.mono hV10
 have hMt:=hMt.mono hV10
 have hTt:=hTt.mono hV10
 have hc3:=hc3.mono hV10
 have hIx:=hIx.mono hV10
 have hDg2:=hDg2.mono hV10
 have hNl:=hNl.mono hV10
 have hc4:=hc4.mono hV10
 have hWb:=hWb.mono hV10
 refine ops_alloc Try.ti59 rfl (fun b13=>?_)
 refine ops_stw (k:=3) (vs:=[ζ4,nvd,ζ5]) Try.size59 rfl rfl rfl (allc rfl (allc (SlS.one hNd) (allc rfl rfl))) rfl rfl ?_
 refine ops_nil ?_
 refine vc_seq ?_
 refine vc_res (σ':=[ζ1,ζ2,(Arr 59 b11 [ζ4,nvl,ζ5]),(Arr 59 b13 [ζ4,nvd,ζ5])]) rfl ?_
 refine vc_region ?_
 refine oq (qv_mv (Value.int .i64 0) rfl) ?_
 refine oq (qv_eql rfl rfl) ?_
 refine oq (qv_mv (.bool (decide (0=0))) rfl) ?_
 by_cases g8:0=0
 refine og (qv_fa (off:=0) Try.field59_0 rfl) (want_t g8 rfl rfl rfl) ?_
 refine og (qv_ldp (v:=ζ4) Try.plain3 rfl (inOc (k:=2) rfl) rfl) (want_t g8 rfl rfl rfl) ?_
 refine og (qv_fa (off:=0) Try.field59_0 rfl) (want_t g8 rfl rfl rfl) ?_
 refine og (qv_ldp (v:=ζ4) Try.plain3 rfl (inOc (k:=3) rfl) rfl) (want_t g8 rfl rfl rfl) ?_
 refine og (qv_eql rfl rfl) (want_t g8 rfl rfl rfl) ?_
 let ζ18:Value:=.bool (decide (((Bd.bldD cv (wtT cv cN cr no yes)).v)=((Bd.bldD cv (wtT cv cN cr no yes)).v)))
 refine oq (qv_pick_t g8 rfl (rfl:ev _ _=ζ18)) ?_
 refine oq (qv_mv ζ18 rfl) ?_
 by_cases g9:((Bd.bldD cv (wtT cv cN cr no yes)).v)=((Bd.bldD cv (wtT cv cN cr no yes)).v)
 refine og (qv_fa (off:=0) Try.field59_2 rfl) (want_t g9 rfl rfl rfl) ?_
 refine og (qv_ldp (v:=ζ5) Try.plain3 rfl (inOc (k:=2) rfl) rfl) (want_t g9 rfl rfl rfl) ?_
 refine og (qv_fa (off:=0) Try.field59_2 rfl) (want_t g9 rfl rfl rfl) ?_
 refine og (qv_ldp (v:=ζ5) Try.plain3 rfl (inOc (k:=3) rfl) rfl) (want_t g9 rfl rfl rfl) ?_
 refine og (qv_eql rfl rfl) (want_t g9 rfl rfl rfl) ?_
 let ζ19:Value:=.bool (decide (((Bd.bldD cv (wtT cv cN cr no yes)).r)=((Bd.bldD cv (wtT cv cN cr no yes)).r)))
 refine oq (qv_pick_t g9 rfl (rfl:ev _ _=ζ19)) ?_
 refine oq (qv_mv ζ19 rfl) ?_
 by_cases g10:((Bd.bldD cv (wtT cv cN cr no yes)).r)=((Bd.bldD cv (wtT cv cN cr no yes)).r)
 refine og (qv_fa (off:=0) Try.field59_1 rfl) (want_t g10 rfl rfl rfl) ?_
 refine og (qv_ldp (v:=nvl) Try.plain23 rfl (inOc (k:=2) rfl) rfl) (want_t g10 rfl rfl rfl) ?_
 refine og (qv_fa (off:=0) Try.field59_1 rfl) (want_t g10 rfl rfl rfl) ?_
 refine og (qv_ldp (v:=nvd) Try.plain23 rfl (inOc (k:=3) rfl) rfl) (want_t g10 rfl rfl rfl) ?_
 let ζ7:Value:=.bool (decide ((Bd.bldD cv (wtT cv cN cr no yes)).N=(Bd.bldD cv (wtT cv cN cr no yes)).N))
 refine og (qv_call (v:=ζ7) (EqF_c hNl hNd) rfl rfl) (want_t g10 rfl rfl rfl) ?_
 refine oq (qv_pick_t g10 rfl (rfl:ev _ _=ζ7)) ?_
 refine oq (qv_as ζ7 rfl) ?_
 refine ops_nil ?_
 refine vc_drop [] [ζ1,ζ2,(Arr 59 b11 [ζ4,nvl,ζ5]),(Arr 59 b13 [ζ4,nvd,ζ5])] (.refl _) ?_
 refine vc_ret ?_
 exact rq1 (Value.bool true) (congrArg Value.bool (decide_eq_true (show ((Bd.bldD cv (wtT cv cN cr no yes)).N=(Bd.bldD cv (wtT cv cN cr no yes)).N) from by first | rfl | exact hof))) rfl
 exact absurd rfl g10
 exact absurd rfl g9
 exact absurd rfl g8
end Go.Proofs.Ytkmhjcjpohpiaaa
