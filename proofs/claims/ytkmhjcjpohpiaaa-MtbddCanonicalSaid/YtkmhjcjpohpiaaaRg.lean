import Derived.Test.YtkmhjcjpohpiaaaRf
import Derived.Test.YtkmhjcjpohpiaaaWo
/- Walks of mtbdd: what each function returns. Printed by a program out of notes. -/
namespace Go.Proofs.Ytkmhjcjpohpiaaa
open Go.Vc
open Classical
set_option maxRecDepth 100000
set_option maxHeartbeats 4000000
theorem flag_c {V:HV} {p:Prop} [Decidable p] :
    FnC Try.prog 73 [(.bool (decide (p)))] V [] (fun v _ _=>v=(.int .i64 (if p then 1 else 0))):=by
 refine fn_intro (N:=4) Try.func73 (by kernel_rfl) rfl rfl rfl (Nat.le_of_ble_eq_true rfl) ?_
 intro w0 D
 refine vc_seq ?_
 refine vc_region ?_
 refine oq (qv_as (Value.int .i64 0) rfl) ?_
 refine ops_nil ?_
 refine vc_seq ?_
 refine vc_seq ?_
 refine vc_region ?_
 refine oq (qv_mv (.bool (decide (p))) rfl) ?_
 refine ops_nil ?_
 refine vc_if rfl (fun c1=>?_) (fun c1=>?_)
 refine vc_seq ?_
 refine vc_region ?_
 refine oq (qv_as (Value.int .i64 1) rfl) ?_
 refine ops_nil ?_
 refine vc_ret ?_
 exact rq1 (.int .i64 (if p then 1 else 0)) (congrArg (Value.int .i64) (show 1=(if p then 1 else 0) from by rw [if_pos (by assumption)])) rfl
 refine vc_skip ?_
 refine vc_seq ?_
 refine vc_region ?_
 refine oq (qv_as (Value.int .i64 0) rfl) ?_
 refine ops_nil ?_
 refine vc_ret ?_
 exact rq1 (.int .i64 (if p then 1 else 0)) (congrArg (Value.int .i64) (show 0=(if p then 1 else 0) from by rw [if_neg (by assumption)])) rfl
theorem Level1_c {V:HV} {x y z x0:Int} {pv:Nat} (hv:Cells V pv [.int .i64 x0]) :
    FnC Try.prog 72 [(.agg #[(Value.int .i64 x),(Value.int .i64 y),(Value.int .i64 z)]),(Value.pointer (some ⟨pv,0,none⟩))] V [] (fun v _ _=>v=(.int .i64 (if x=x0 then 1 else 0))):=by
 refine fn_intro (N:=9) Try.func72 (by kernel_rfl) rfl rfl rfl (Nat.le_of_ble_eq_true rfl) ?_
 intro w0 D
 refine vc_seq ?_
 refine vc_region ?_
 refine ops_box (v:=(.agg #[(Value.int .i64 x),(Value.int .i64 y),(Value.int .i64 z)])) (cs:=[(Value.int .i64 x),(Value.int .i64 y),(Value.int .i64 z)]) rfl rfl (fun b1=>?_)
 refine oq (qv_as (Value.int .i64 0) rfl) ?_
 refine ops_nil ?_
 refine vc_seq ?_
 refine vc_res (σ':=[(Arr 97 b1 [(Value.int .i64 x),(Value.int .i64 y),(Value.int .i64 z)])]) rfl ?_
 refine vc_region ?_
 refine oq (qv_iaa (i:=0) (off:=0) Try.underlying97 Try.size3 rfl rfl (by omega) (by omega) rfl) ?_
 refine oq (qv_ldp (v:=(Value.int .i64 x)) Try.plain3 rfl (inOc (k:=0) rfl) rfl) ?_
 refine oq (qv_ldp (v:=(Value.int .i64 x0)) Try.plain3 rfl (inVc hv) rfl) ?_
 refine oq (qv_eql rfl rfl) ?_
 let ζ1:Value:=.int .i64 (if x=x0 then 1 else 0)
 refine oq (qv_call (v:=ζ1) (flag_c) rfl rfl) ?_
 refine oq (qv_as ζ1 rfl) ?_
 refine ops_nil ?_
 refine vc_ret ?_
 exact rq1 ζ1 rfl rfl
theorem Level_c {V:HV} {la na:Value} {A:Mg} (hA:Mt V la na A) {x0:Int} :
    FnC Try.prog 29 [(.agg #[(.int .i64 A.v),la,na,(.int .i64 A.r)]),(Value.int .i64 x0)] V [] (fun v V' σ'=>σ' = []∧∃ nv,v=.tuple #[.agg #[.int .i64 (lvB A x0).v,nv,.int .i64 (lvB A x0).r],.int .i64 (lvE A x0)]∧Fks V' nv (lvB A x0).N):=by
 refine fn_intro (N:=29) Try.func29 (by kernel_rfl) rfl rfl rfl (Nat.le_of_ble_eq_true rfl) ?_
 intro w0 D
 have hbl:=Ints.bound hA.l
 have hbn:=SlS.bound hA.n
 refine vc_seq ?_
 refine vc_region ?_
 refine ops_box (v:=(.agg #[(.int .i64 A.v),la,na,(.int .i64 A.r)])) (cs:=[(.int .i64 A.v),la,na,(.int .i64 A.r)]) rfl rfl (fun b1=>?_)
 refine ops_box (v:=(Value.int .i64 x0)) (cs:=[(Value.int .i64 x0)]) rfl rfl (fun b2=>?_)
 refine ops_alloc Try.ti59 rfl (fun b3=>?_)
 refine oq (qv_as (Value.int .i64 0) rfl) ?_
 refine ops_nil ?_
 refine vc_seq ?_
 refine vc_seq ?_
 let ζ1:Asrt:=Arr 59 b3 [(Value.int .i64 0),(Value.slice none 0 0),(Value.int .i64 0)]
 let ζ4:Asrt:=Arr 3 b2 [(Value.int .i64 x0)]
 let ζ6:Asrt:=Arr 25 b1 [(.int .i64 A.v),la,na,(.int .i64 A.r)]
 refine vc_res (σ':=[ζ6,ζ4,ζ1]) rfl ?_
 refine vc_region ?_
 refine oq (qv_ldm (vs:=[(.int .i64 A.v),la,na,(.int .i64 A.r)]) Try.agg25 rfl (inOc (k:=0) rfl) rfl rfl) ?_
 refine ops_lit (n:=1) (s:=4) (cs:=[(.int .i64 A.v),la,na,(.int .i64 A.r)]) Try.underlying102 Try.ti25 (Nat.le_of_ble_eq_true rfl) rfl rfl rfl (Nat.le_of_ble_eq_true rfl) rfl (fun b4=>?_)
 let ζ2:Asrt:=Arr 25 b1 [(Value.int .i64 (A.v)),la,na,(Value.int .i64 (A.r))]
 refine ops_freeze (b:=b4) (o:=.cells ([(Value.int .i64 (A.v)),la,na,(Value.int .i64 (A.r))]:List Value).toArray 25 (0,0)) (σr:=[ζ2,ζ4,ζ1]) (List.perm_middle (l₁:=[ζ2,ζ4,ζ1]) (l₂:=[])) (fun Vf1 hVf1 hb1=>?_)
 have hc1:Cells Vf1 b4 [(.int .i64 A.v),la,na,(.int .i64 A.r)]:=⟨_,_,hb1⟩
 have hA:=hA.mono hVf1
 refine oq (qv_call (v:=(.int .i64 (vE [A]))) (checked_c (Mdl.one hc1 hA) (by show 1≤1; omega)) rfl rfl) ?_
 refine oq (qv_as (.int .i64 (vE [A])) rfl) ?_
 refine ops_nil ?_
 refine vc_seq ?_
 refine vc_region ?_
 refine oq (qv_mv (.int .i64 (vE [A])) rfl) ?_
 refine oq (qv_neq rfl rfl) ?_
 refine ops_nil ?_
 refine vc_if rfl (fun c1=>?_) (fun c1=>?_)
 refine vc_seq ?_
 refine vc_region ?_
 refine oq (qv_build (out:=[(Value.int .i64 0),(Value.slice none 0 0),(Value.int .i64 0)]) Try.build59 [] rfl rfl) ?_
 refine oq (qv_mv (.int .i64 (vE [A])) rfl) ?_
 refine ops_stw (k:=2) (vs:=[(Value.int .i64 0),(Value.slice none 0 0),(Value.int .i64 0)]) Try.size59 rfl rfl rfl rfl rfl rfl ?_
 refine oq (qv_as (.int .i64 (vE [A])) rfl) ?_
 refine ops_nil ?_
 refine vc_freeze (b:=b3) (o:=.cells ([(Value.int .i64 0),(Value.slice none 0 0),(Value.int .i64 0)]:List Value).toArray 59 (0,0)) (σr:=[ζ2,ζ4]) (List.perm_middle (l₁:=[ζ2,ζ4]) (l₂:=[])) (fun Vf2 hVf2 hb2=>?_)
 have hc2:Cells Vf2 b3 [(Value.int .i64 0),(Value.slice none 0 0),(Value.int .i64 0)]:=⟨_,_,hb2⟩
 have hA:=hA.mono hVf2
 have hc1:=hc1.mono hVf2
 refine vc_drop [] [ζ6,ζ4] (.refl _) ?_
 refine vc_ret ?_
 refine rs2 _ (.int .i64 (vE [A])) (rv_c (vs:=[(Value.int .i64 0),(Value.slice none 0 0),(Value.int .i64 0)]) Try.agg59 rfl (inVc hc2) rfl rfl) (rv_t rfl) ?_
 obtain ⟨hn,e1⟩:=vE1_n (A:=A) (by omega)
 have e:=lv_n (x0:=x0) hn
 subst ζ1 ζ4 ζ6 ζ2
 rw [e.1,e.2,e1]
 exact ⟨rfl,_,rfl,Fks.nil⟩
 refine vc_skip ?_
 refine vc_seq ?_
 have hz:vE [A]=0:=by omega
 have hok:=vE1_ok.1 hz
 refine vc_region ?_
 refine ops_call (σa:=[]) (σr:=[ζ6,ζ4,ζ1]) (newBuilder_c) rfl rfl (.refl _) (fun r1 V1 sg1 hV1 hp1=>?_)
 obtain ⟨bb,ba,bi,rfl,rfl⟩:=hp1
 have hA:=hA.mono hV1
 have hc1:=hc1.mono hV1
 refine oq (qv_as (Value.pointer (some ⟨bb,0,none⟩)) rfl) ?_
 refine ops_nil ?_
 refine vc_seq ?_
 let ζ5:Asrt:=Mf ba (Value.int .i64) (Value.int .i64) (lfF [])
 let ζ7:Asrt:=Mf bi fkv (Value.int .i64) (idF [])
 refine vc_res (σ':=[(Arr 113 bb [(Value.slice none 0 0),(Value.slice none 0 0),(Value.map (some ba)),(Value.map (some bi)),(.bool (decide (wd [])))]),ζ5,ζ7,ζ6,ζ4,ζ1]) rfl ?_
 let ζ3:Asrt:=Arr 113 bb [(Value.slice none 0 0),(Value.slice none 0 0),(Value.map (some ba)),(Value.map (some bi)),(Value.bool (decide (wd [])))]
 refine vc_freeze (b:=b2) (o:=.cells ([(Value.int .i64 x0)]:List Value).toArray 3 (0,0)) (σr:=[ζ3,ζ5,ζ7,ζ2,ζ1]) (List.perm_middle (l₁:=[ζ3,ζ5,ζ7,ζ2]) (l₂:=[ζ1])) (fun Vf3 hVf3 hb3=>?_)
 have hc3:Cells Vf3 b2 [(Value.int .i64 x0)]:=⟨_,_,hb3⟩
 have hA:=hA.mono hVf3
 have hc1:=hc1.mono hVf3
 refine vc_nil 3 1 ?_
 refine vc_nil 80 3 ?_
 refine vc_region ?_
 skip
 refine oq (qv_mv (Value.pointer (some ⟨bb,0,none⟩)) rfl) ?_
 refine oq (qv_ldm (vs:=[(.int .i64 A.v),la,na,(.int .i64 A.r)]) Try.agg25 rfl (inOc (k:=3) rfl) rfl rfl) ?_
 refine ops_lit (n:=1) (s:=4) (cs:=[(.int .i64 A.v),la,na,(.int .i64 A.r)]) Try.underlying102 Try.ti25 (Nat.le_of_ble_eq_true rfl) rfl rfl rfl (Nat.le_of_ble_eq_true rfl) rfl (fun b5=>?_)
 refine oq (qv_func (cs:=[(Value.pointer (some ⟨b2,0,none⟩))]) rfl) ?_
 refine ops_freeze (b:=b5) (o:=.cells ([(Value.int .i64 (A.v)),la,na,(Value.int .i64 (A.r))]:List Value).toArray 25 (0,0)) (σr:=[ζ3,ζ5,ζ7,ζ2,ζ1,(Gr 3 1 ((Value.slice none 0 0)) 0 ([])),(Gr 80 3 ((Value.slice none 0 0)) 0 ([]))]) (List.perm_middle (l₁:=[ζ3,ζ5,ζ7,ζ2,ζ1,(Gr 3 1 ((Value.slice none 0 0)) 0 ([])),(Gr 80 3 ((Value.slice none 0 0)) 0 ([]))]) (l₂:=[])) (fun Vf4 hVf4 hb4=>?_)
 have hc4:Cells Vf4 b5 [(.int .i64 A.v),la,na,(.int .i64 A.r)]:=⟨_,_,hb4⟩
 have hA:=hA.mono hVf4
 have hc1:=hc1.mono hVf4
 have hc3:=hc3.mono hVf4
 subst ζ1 ζ4 ζ6 ζ2 ζ5 ζ7 ζ3
 refine ops_call (σa:=[(Arr 113 bb [(Value.slice none 0 0),(Value.slice none 0 0),(Value.map (some ba)),(Value.map (some bi)),(.bool (decide (wd [])))]),(Gr 3 1 ((Value.slice none 0 0)) 0 ([])),(Gr 80 3 ((Value.slice none 0 0)) 0 ([])),(Mf ba (Value.int .i64) (Value.int .i64) (lfF [])),(Mf bi fkv (Value.int .i64) (idF []))]) (σr:=[(Arr 25 b1 [(.int .i64 A.v),la,na,(.int .i64 A.r)]),(Arr 59 b3 [(Value.int .i64 0),(Value.slice none 0 0),(Value.int .i64 0)])]) (combine_c (F:=(fun x _ _=>if x=x0 then (1:Int) else 0)) (u:=.slice none 0 0) (w:=.slice none 0 0) (L:=[]) (M:=[]) (ba:=ba) (bi:=bi) (Mdl.one hc4 hA) (ds1 hok.1 hok.loc).1 (ds1 hok.1 hok.loc).2.1 (ds1 hok.1 hok.loc).2.2.1 (Nat.le_refl 1) (ds1 hok.1 hok.loc).2.2.2 bok_nil (by simp) (by simp) (fun W q x y z _ _ _=>Level1_c (hc3.mono q))) rfl rfl (px [0,5,6,1,2,3,4] rfl) (fun r2 V2 sg2 hV2 hp2=>?_)
 obtain ⟨L1,M1,p1,u1,w1,rfl,rfl,hok1,hst1,hrc1,hml1,hll1⟩:=hp2
 have z1:M1.length≤0+1099511627776:=hml1
 have z2:L1.length≤0+1099511627776:=hll1
 have hA:=hA.mono hV2
 have hc1:=hc1.mono hV2
 have hc3:=hc3.mono hV2
 have hc4:=hc4.mono hV2
 let ζ1:Asrt:=Arr 59 b3 [(Value.int .i64 0),(Value.slice none 0 0),(Value.int .i64 0)]
 let ζ6:Asrt:=Arr 25 b1 [(.int .i64 A.v),la,na,(.int .i64 A.r)]
 let ζ10:Asrt:=Arr 113 bb [u1,w1,(Value.map (some ba)),(Value.map (some bi)),(.bool (decide (wd L1)))]
 refine ops_perm (σ':=[ζ10,(Mf ba (Value.int .i64) (Value.int .i64) (lfF L1)),(Mf bi fkv (Value.int .i64) (idF M1)),ζ6,ζ1,(Gr 3 1 u1 L1.length ((L1.map (Value.int .i64)))),(Gr 80 3 w1 M1.length ((fks M1)))]) (px [0,3,4,5,6,1,2] rfl) ?_
 refine oq (qv_as (Value.int .i64 p1) rfl) ?_
 refine ops_nil ?_
 refine vc_seq ?_
 refine vc_res (σ':=[ζ10,(Mf ba (Value.int .i64) (Value.int .i64) (lfF L1)),(Mf bi fkv (Value.int .i64) (idF M1)),ζ6,ζ1,(Gr 3 1 u1 L1.length ((L1.map (Value.int .i64)))),(Gr 80 3 w1 M1.length ((fks M1)))]) rfl ?_
 refine vc_region ?_
 refine oq (qv_mv (Value.pointer (some ⟨bb,0,none⟩)) rfl) ?_
 refine oq (qv_fa (off:=0) Try.field25_0 rfl) ?_
 refine oq (qv_ldp (v:=(.int .i64 A.v)) Try.plain3 rfl (inOc (k:=3) rfl) rfl) ?_
 refine oq (qv_mv (Value.int .i64 p1) rfl) ?_
 subst ζ1 ζ6 ζ10
 refine ops_call (σa:=[(Arr 113 bb [u1,w1,(Value.map (some ba)),(Value.map (some bi)),(.bool (decide (wd L1)))]),(Gr 3 1 u1 L1.length ((L1.map (Value.int .i64)))),(Gr 80 3 w1 M1.length ((fks M1))),(Mf ba (Value.int .i64) (Value.int .i64) (lfF L1)),(Mf bi fkv (Value.int .i64) (idF M1))]) (σr:=[(Arr 25 b1 [(.int .i64 A.v),la,na,(.int .i64 A.r)]),(Arr 59 b3 [(Value.int .i64 0),(Value.slice none 0 0),(Value.int .i64 0)])]) (by have h:=finishBool_c (vars:=A.v) (L:=L1) (M:=M1) (root:=p1) (u:=u1) (w:=w1) (bb:=bb) (ba:=ba) (bi:=bi) (V:=V2) hok.1.1 hok1 hst1.rf (lv_in hrc1) (by omega) (by omega) (lv_01 hst1); rw [lv_tab hst1] at h; exact h) rfl rfl (px [0,5,6,1,2,3,4] rfl) (fun r3 V3 sg3 hV3 hp3=>?_)
 obtain ⟨rfl,nvb,rfl,hNb⟩:=hp3
 have hA:=hA.mono hV3
 have hc1:=hc1.mono hV3
 have hc3:=hc3.mono hV3
 have hc4:=hc4.mono hV3
 let ζ8:Value:=.int .i64 ((fbZ (bB A.v (lvT A x0))).v)
 let ζ9:Value:=.int .i64 ((fbZ (bB A.v (lvT A x0))).r)
 refine oq (qv_ext (.agg #[ζ8,nvb,ζ9]) rfl rfl) ?_
 let ζ11:Value:=.int .i64 (fbE (bB A.v (lvT A x0)))
 refine oq (qv_ext ζ11 rfl rfl) ?_
 refine ops_stw (k:=1) (vs:=[ζ8,nvb,ζ9]) Try.size59 rfl rfl rfl (allc rfl (allc (SlS.one hNb) (allc rfl rfl))) rfl rfl ?_
 refine oq (qv_as ζ11 rfl) ?_
 refine ops_nil ?_
 refine vc_freeze (b:=b3) (o:=.cells ([(Value.int .i64 ((fbZ (bB A.v (lvT A x0))).v)),nvb,(Value.int .i64 ((fbZ (bB A.v (lvT A x0))).r))]:List Value).toArray 59 (0,0)) (σr:=[(Arr 25 b1 [(Value.int .i64 (A.v)),la,na,(Value.int .i64 (A.r))])]) (List.perm_middle (l₁:=[(Arr 25 b1 [(Value.int .i64 (A.v)),la,na,(Value.int .i64 (A.r))])]) (l₂:=[])) (fun Vf5 hVf5 hb5=>?_)
 have hc5:Cells Vf5 b3 [ζ8,nvb,ζ9]:=⟨_,_,hb5⟩
 have hA:=hA.mono hVf5
 have hc1:=hc1.mono hVf5
 have hc3:=hc3.mono hVf5
 have hc4:=hc4.mono hVf5
 have hNb:=hNb.mono hVf5
 refine vc_drop [] [(Arr 25 b1 [(.int .i64 A.v),la,na,(.int .i64 A.r)])] (.refl _) ?_
 refine vc_ret ?_
 refine rs2 _ ζ11 (rv_c (vs:=[ζ8,nvb,ζ9]) Try.agg59 rfl (inVc hc5) rfl rfl) (rv_t rfl) ?_
 have e:=lv_y (x0:=x0) hok
 subst ζ8 ζ9 ζ11
 rw [e.1,e.2]
 exact ⟨rfl,nvb,rfl,hNb⟩
end Go.Proofs.Ytkmhjcjpohpiaaa
