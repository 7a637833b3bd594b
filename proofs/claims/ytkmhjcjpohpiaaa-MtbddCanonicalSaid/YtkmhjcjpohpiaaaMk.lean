import Derived.Test.YtkmhjcjpohpiaaaMj
/- Walks of mtbdd: what each function returns. Printed by a program out of notes. -/
namespace Go.Proofs.Ytkmhjcjpohpiaaa
open Go.Vc
open Classical
set_option maxRecDepth 100000
set_option maxHeartbeats 4000000
theorem Restrict_c {V:HV} {la na:Value} {A:Mg} (hA:Mt V la na A) {i:Int} {b:Bool} :
    FnC Try.prog 33 [(.agg #[(.int .i64 A.v),la,na,(.int .i64 A.r)]),(Value.int .i64 i),(.bool (decide (b=true)))] V [] (fun v V' σ'=>σ' = []∧MRs V' v (rsD A i b) (rsE A i)):=by
 refine fn_intro (N:=31) Try.func33 (by kernel_rfl) rfl rfl rfl (Nat.le_of_ble_eq_true rfl) ?_
 intro w0 D
 have hbl:=Ints.bound hA.l
 have hbn:=SlS.bound hA.n
 refine vc_seq ?_
 refine vc_region ?_
 refine ops_box (v:=(.agg #[(.int .i64 A.v),la,na,(.int .i64 A.r)])) (cs:=[(.int .i64 A.v),la,na,(.int .i64 A.r)]) rfl rfl (fun b1=>?_)
 refine ops_alloc Try.ti25 rfl (fun b2=>?_)
 refine oq (qv_as (Value.int .i64 0) rfl) ?_
 refine ops_nil ?_
 refine vc_seq ?_
 refine vc_seq ?_
 let ζ2:Asrt:=Arr 25 b2 [(Value.int .i64 0),(Value.slice none 0 0),(Value.slice none 0 0),(Value.int .i64 0)]
 let ζ3:Asrt:=Arr 25 b1 [(.int .i64 A.v),la,na,(.int .i64 A.r)]
 refine vc_res (σ':=[ζ3,ζ2]) rfl ?_
 refine vc_region ?_
 refine oq (qv_ldm (vs:=[(.int .i64 A.v),la,na,(.int .i64 A.r)]) Try.agg25 rfl (inOc (k:=0) rfl) rfl rfl) ?_
 refine ops_lit (n:=1) (s:=4) (cs:=[(.int .i64 A.v),la,na,(.int .i64 A.r)]) Try.underlying102 Try.ti25 (Nat.le_of_ble_eq_true rfl) rfl rfl rfl (Nat.le_of_ble_eq_true rfl) rfl (fun b3=>?_)
 let ζ1:Asrt:=Arr 25 b1 [(Value.int .i64 (A.v)),la,na,(Value.int .i64 (A.r))]
 refine ops_freeze (b:=b3) (o:=.cells ([(Value.int .i64 (A.v)),la,na,(Value.int .i64 (A.r))]:List Value).toArray 25 (0,0)) (σr:=[ζ1,ζ2]) (List.perm_middle (l₁:=[ζ1,ζ2]) (l₂:=[])) (fun Vf1 hVf1 hb1=>?_)
 have hc1:Cells Vf1 b3 [(.int .i64 A.v),la,na,(.int .i64 A.r)]:=⟨_,_,hb1⟩
 have hA:=hA.mono hVf1
 refine oq (qv_call (v:=(.int .i64 (vE [A]))) (checked_c (Mdl.one hc1 hA) (by show 1≤1; omega)) rfl rfl) ?_
 refine oq (qv_as (.int .i64 (vE [A])) rfl) ?_
 refine ops_nil ?_
 refine vc_seq ?_
 refine vc_region ?_
 refine oq (qv_mv (.int .i64 (vE [A])) rfl) ?_
 refine oq (qv_neq rfl rfl) ?_
 refine ops_nil ?_
 refine vc_if rfl (fun c1=>?_) (fun c1=>?_)
 refine vc_seq ?_
 refine vc_region ?_
 refine oq (qv_build (out:=[(Value.int .i64 0),(Value.slice none 0 0),(Value.slice none 0 0),(Value.int .i64 0)]) Try.build25 [] rfl rfl) ?_
 refine oq (qv_mv (.int .i64 (vE [A])) rfl) ?_
 refine ops_stw (k:=1) (vs:=[(Value.int .i64 0),(Value.slice none 0 0),(Value.slice none 0 0),(Value.int .i64 0)]) Try.size25 rfl rfl rfl rfl rfl rfl ?_
 refine oq (qv_as (.int .i64 (vE [A])) rfl) ?_
 refine ops_nil ?_
 refine vc_freeze (b:=b2) (o:=.cells ([(Value.int .i64 0),(Value.slice none 0 0),(Value.slice none 0 0),(Value.int .i64 0)]:List Value).toArray 25 (0,0)) (σr:=[ζ1]) (List.perm_middle (l₁:=[ζ1]) (l₂:=[])) (fun Vf2 hVf2 hb2=>?_)
 have hc2:Cells Vf2 b2 [(Value.int .i64 0),(Value.slice none 0 0),(Value.slice none 0 0),(Value.int .i64 0)]:=⟨_,_,hb2⟩
 have hA:=hA.mono hVf2
 have hc1:=hc1.mono hVf2
 refine vc_drop [] [ζ3] (.refl _) ?_
 refine vc_ret ?_
 refine rs2 _ (.int .i64 (vE [A])) (rv_c (vs:=[(Value.int .i64 0),(Value.slice none 0 0),(Value.slice none 0 0),(Value.int .i64 0)]) Try.agg25 rfl (inVc hc2) rfl rfl) (rv_t rfl) ?_
 obtain ⟨hn,e1⟩:=vE1_n (A:=A) (by omega)
 have e:=rsE_1 (A:=A) (i:=i) hn
 subst ζ2 ζ3 ζ1
 rw [rsD_n (by omega),e,e1]
 exact ⟨rfl,MRs.zero⟩
 refine vc_skip ?_
 refine vc_seq ?_
 refine vc_seq ?_
 have hz:vE [A]=0:=by omega
 have hok:=vE1_ok.1 hz
 refine vc_region ?_
 refine oq (qv_mv (Value.int .i64 i) rfl) ?_
 refine oq (qv_lss rfl rfl) ?_
 refine oq (qv_mv (.bool (decide (i < 0))) rfl) ?_
 by_cases g1:i < 0
 refine os (want_fn g1 rfl rfl rfl) ?_
 refine os (want_fn g1 rfl rfl rfl) ?_
 refine os (want_fn g1 rfl rfl rfl) ?_
 refine os (want_fn g1 rfl rfl rfl) ?_
 refine oq (qv_pick_t g1 rfl (rfl:ev _ _=(Value.bool true))) ?_
 refine ops_nil ?_
 refine vc_tt rfl ?_
 refine vc_seq ?_
 refine vc_region ?_
 refine oq (qv_build (out:=[(Value.int .i64 0),(Value.slice none 0 0),(Value.slice none 0 0),(Value.int .i64 0)]) Try.build25 [] rfl rfl) ?_
 refine ops_stw (k:=1) (vs:=[(Value.int .i64 0),(Value.slice none 0 0),(Value.slice none 0 0),(Value.int .i64 0)]) Try.size25 rfl rfl rfl rfl rfl rfl ?_
 refine oq (qv_as (Value.int .i64 3) rfl) ?_
 refine ops_nil ?_
 refine vc_freeze (b:=b2) (o:=.cells ([(Value.int .i64 0),(Value.slice none 0 0),(Value.slice none 0 0),(Value.int .i64 0)]:List Value).toArray 25 (0,0)) (σr:=[ζ1]) (List.perm_middle (l₁:=[ζ1]) (l₂:=[])) (fun Vf3 hVf3 hb3=>?_)
 have hc3:Cells Vf3 b2 [(Value.int .i64 0),(Value.slice none 0 0),(Value.slice none 0 0),(Value.int .i64 0)]:=⟨_,_,hb3⟩
 have hA:=hA.mono hVf3
 have hc1:=hc1.mono hVf3
 refine vc_drop [] [ζ3] (.refl _) ?_
 refine vc_ret ?_
 refine rs2 _ (Value.int .i64 3) (rv_c (vs:=[(Value.int .i64 0),(Value.slice none 0 0),(Value.slice none 0 0),(Value.int .i64 0)]) Try.agg25 rfl (inVc hc3) rfl rfl) (rv_t rfl) ?_
 have e:=rsE_3 (A:=A) (i:=i) hok (by omega)
 subst ζ2 ζ3 ζ1
 rw [rsD_n (by omega),e]
 exact ⟨rfl,MRs.zero⟩
 refine og (qv_mv (Value.int .i64 i) rfl) (want_f g1 rfl rfl rfl) ?_
 refine og (qv_fa (off:=0) Try.field25_0 rfl) (want_f g1 rfl rfl rfl) ?_
 refine og (qv_ldp (v:=(.int .i64 A.v)) Try.plain3 rfl (inOc (k:=0) rfl) rfl) (want_f g1 rfl rfl rfl) ?_
 refine og (qv_geq rfl rfl) (want_f g1 rfl rfl rfl) ?_
 refine oq (qv_pick_f g1 rfl (rfl:ev _ _=(.bool (decide (A.v≤i))))) ?_
 refine ops_nil ?_
 refine vc_if rfl (fun c2=>?_) (fun c2=>?_)
 refine vc_seq ?_
 refine vc_region ?_
 refine oq (qv_build (out:=[(Value.int .i64 0),(Value.slice none 0 0),(Value.slice none 0 0),(Value.int .i64 0)]) Try.build25 [] rfl rfl) ?_
 refine ops_stw (k:=1) (vs:=[(Value.int .i64 0),(Value.slice none 0 0),(Value.slice none 0 0),(Value.int .i64 0)]) Try.size25 rfl rfl rfl rfl rfl rfl ?_
 refine oq (qv_as (Value.int .i64 3) rfl) ?_
 refine ops_nil ?_
 refine vc_freeze (b:=b2) (o:=.cells ([(Value.int .i64 0),(Value.slice none 0 0),(Value.slice none 0 0),(Value.int .i64 0)]:List Value).toArray 25 (0,0)) (σr:=[ζ1]) (List.perm_middle (l₁:=[ζ1]) (l₂:=[])) (fun Vf4 hVf4 hb4=>?_)
 have hc4:Cells Vf4 b2 [(Value.int .i64 0),(Value.slice none 0 0),(Value.slice none 0 0),(Value.int .i64 0)]:=⟨_,_,hb4⟩
 have hA:=hA.mono hVf4
 have hc1:=hc1.mono hVf4
 refine vc_drop [] [ζ3] (.refl _) ?_
 refine vc_ret ?_
 refine rs2 _ (Value.int .i64 3) (rv_c (vs:=[(Value.int .i64 0),(Value.slice none 0 0),(Value.slice none 0 0),(Value.int .i64 0)]) Try.agg25 rfl (inVc hc4) rfl rfl) (rv_t rfl) ?_
 have e:=rsE_3 (A:=A) (i:=i) hok (by omega)
 subst ζ2 ζ3 ζ1
 rw [rsD_n (by omega),e]
 exact ⟨rfl,MRs.zero⟩
 refine vc_skip ?_
 refine vc_seq ?_
 refine vc_region ?_
 refine oq (qv_ldm (vs:=[(.int .i64 A.v),la,na,(.int .i64 A.r)]) Try.agg25 rfl (inOc (k:=0) rfl) rfl rfl) ?_
 refine oq (qv_mv (Value.int .i64 i) rfl) ?_
 refine oq (qv_mv (.bool (decide (b=true))) rfl) ?_
 refine ops_call (σa:=[]) (σr:=[ζ3,ζ2]) (restricted_c (i:=i) (b:=b) hA hok) rfl rfl (.refl _) (fun r1 V1 sg1 hV1 hp1=>?_)
 obtain ⟨rfl,lv1,nv1,rfl,hMt⟩:=hp1
 have hA:=hA.mono hV1
 have hc1:=hc1.mono hV1
 let ζ4:Value:=.int .i64 ((dg A.v (rsT A i b)).v)
 let ζ5:Value:=.int .i64 ((dg A.v (rsT A i b)).r)
 refine oq (qv_ext (.agg #[ζ4,lv1,nv1,ζ5]) rfl rfl) ?_
 refine oq (qv_ext (Value.int .i64 0) rfl rfl) ?_
 refine ops_stw (k:=1) (vs:=[ζ4,lv1,nv1,ζ5]) Try.size25 rfl rfl rfl (allc rfl (allc (Sl.one hMt.l) (allc (SlS.one hMt.n) (allc rfl rfl)))) rfl rfl ?_
 refine oq (qv_as (Value.int .i64 0) rfl) ?_
 refine ops_nil ?_
 refine vc_freeze (b:=b2) (o:=.cells ([(Value.int .i64 ((dg A.v (rsT A i b)).v)),lv1,nv1,(Value.int .i64 ((dg A.v (rsT A i b)).r))]:List Value).toArray 25 (0,0)) (σr:=[ζ1]) (List.perm_middle (l₁:=[ζ1]) (l₂:=[])) (fun Vf5 hVf5 hb5=>?_)
 have hc5:Cells Vf5 b2 [ζ4,lv1,nv1,ζ5]:=⟨_,_,hb5⟩
 have hA:=hA.mono hVf5
 have hc1:=hc1.mono hVf5
 have hMt:=hMt.mono hVf5
 refine vc_drop [] [ζ3] (.refl _) ?_
 refine vc_ret ?_
 refine rs2 _ (Value.int .i64 0) (rv_c (vs:=[ζ4,lv1,nv1,ζ5]) Try.agg25 rfl (inVc hc5) rfl rfl) (rv_t rfl) ?_
 have e:=rsE_0 (A:=A) (i:=i) hok (by omega)
 subst ζ2 ζ3 ζ1 ζ4 ζ5
 rw [rsD_0 e,e]
 exact ⟨rfl,lv1,nv1,rfl,hMt⟩
theorem SumOut1_c {V:HV} {x y z:Int} (hx:inR x) (hy:inR y) :
    FnC Try.prog 62 [(.agg #[(Value.int .i64 x),(Value.int .i64 y),(Value.int .i64 z)])] V [] (fun v _ _=>v=(.int .i64 (x+y))):=by
 refine fn_intro (N:=8) Try.func62 (by kernel_rfl) rfl rfl rfl (Nat.le_of_ble_eq_true rfl) ?_
 intro w0 D
 have hx1:=hx.1
 have hx2:=hx.2
 have hy1:=hy.1
 have hy2:=hy.2
 refine vc_seq ?_
 refine vc_region ?_
 refine ops_box (v:=(.agg #[(Value.int .i64 x),(Value.int .i64 y),(Value.int .i64 z)])) (cs:=[(Value.int .i64 x),(Value.int .i64 y),(Value.int .i64 z)]) rfl rfl (fun b1=>?_)
 refine oq (qv_as (Value.int .i64 0) rfl) ?_
 refine ops_nil ?_
 refine vc_seq ?_
 refine vc_res (σ':=[(Arr 97 b1 [(Value.int .i64 x),(Value.int .i64 y),(Value.int .i64 z)])]) rfl ?_
 refine vc_region ?_
 refine oq (qv_iaa (i:=0) (off:=0) Try.underlying97 Try.size3 rfl rfl (by omega) (by omega) rfl) ?_
 refine oq (qv_ldp (v:=(Value.int .i64 x)) Try.plain3 rfl (inOc (k:=0) rfl) rfl) ?_
 refine oq (qv_iaa (i:=1) (off:=0) Try.underlying97 Try.size3 rfl rfl (by omega) (by omega) rfl) ?_
 refine oq (qv_ldp (v:=(Value.int .i64 y)) Try.plain3 rfl (inOc (k:=0) rfl) rfl) ?_
 refine oq (qv_add rfl rfl (by omega)) ?_
 refine oq (qv_as (.int .i64 (x+y)) rfl) ?_
 refine ops_nil ?_
 refine vc_ret ?_
 exact rq1 (.int .i64 (x+y)) rfl rfl
theorem both_c {V:HV} {la na:Value} {A:Mg} (hA:Mt V la na A) {i:Int} {F:Int→Int→Int→Int} {fid:Nat} {fcaps:List Value} (hf:∀ W,Vc.Sub V W→∀ x y z:Int,inR x→inR y→inR z→FnC Try.prog fid (.agg #[.int .i64 x,.int .i64 y,.int .i64 z] :: fcaps) W [] (fun v _ _=>v=.int .i64 (F x y z))) :
    FnC Try.prog 61 [(.agg #[(.int .i64 A.v),la,na,(.int .i64 A.r)]),(Value.int .i64 i),(Value.func (.func fid) #[] fcaps.toArray)] V [] (fun v V' σ'=>σ' = []∧MRs V' v (boD A i F) (boE A i F)):=by
 refine fn_intro (N:=38) Try.func61 (by kernel_rfl) rfl rfl rfl (Nat.le_of_ble_eq_true rfl) ?_
 intro w0 D
 have hbl:=Ints.bound hA.l
 have hbn:=SlS.bound hA.n
 have hsub:=Vc.Sub.refl V
 refine vc_seq ?_
 refine vc_region ?_
 refine ops_box (v:=(.agg #[(.int .i64 A.v),la,na,(.int .i64 A.r)])) (cs:=[(.int .i64 A.v),la,na,(.int .i64 A.r)]) rfl rfl (fun b1=>?_)
 refine ops_alloc Try.ti25 rfl (fun b2=>?_)
 refine oq (qv_as (Value.int .i64 0) rfl) ?_
 refine ops_nil ?_
 refine vc_seq ?_
 let ζ1:Asrt:=Arr 25 b2 [(Value.int .i64 0),(Value.slice none 0 0),(Value.slice none 0 0),(Value.int .i64 0)]
 let ζ3:Asrt:=Arr 25 b1 [(.int .i64 A.v),la,na,(.int .i64 A.r)]
 refine vc_res (σ':=[ζ3,ζ1]) rfl ?_
 refine vc_region ?_
 refine oq (qv_ldm (vs:=[(.int .i64 A.v),la,na,(.int .i64 A.r)]) Try.agg25 rfl (inOc (k:=0) rfl) rfl rfl) ?_
 refine oq (qv_mv (Value.int .i64 i) rfl) ?_
 refine ops_call (σa:=[]) (σr:=[ζ3,ζ1]) (Restrict_c (i:=i) (b:=false) hA) rfl rfl (.refl _) (fun r1 V1 sg1 hV1 hp1=>?_)
 obtain ⟨rfl,lv1,nv1,rfl,hMt⟩:=hp1
 have hA:=hA.mono hV1
 have hsub:=hsub.mono hV1
 let ζ6:Value:=.int .i64 ((rsD A i false).v)
 let ζ7:Value:=.int .i64 ((rsD A i false).r)
 refine oq (qv_mv (.tuple #[(.agg #[ζ6,lv1,nv1,ζ7]),(.int .i64 (rsE A i))]) rfl) ?_
 refine oq (qv_ext (.agg #[ζ6,lv1,nv1,ζ7]) rfl rfl) ?_
 refine oq (qv_ext (.int .i64 (rsE A i)) rfl rfl) ?_
 refine ops_alloc Try.ti25 rfl (fun b3=>?_)
 refine ops_stw (k:=2) (vs:=[ζ6,lv1,nv1,ζ7]) Try.size25 rfl rfl rfl (allc rfl (allc (Sl.one hMt.l) (allc (SlS.one hMt.n) (allc rfl rfl)))) rfl rfl ?_
 refine oq (qv_as (.int .i64 (rsE A i)) rfl) ?_
 refine ops_nil ?_
 refine vc_seq ?_
 refine vc_seq ?_
 let ζ2:Asrt:=Arr 25 b3 [(.int .i64 ((rsD A i false).v)),lv1,nv1,(.int .i64 ((rsD A i false).r))]
 refine vc_res (σ':=[ζ3,ζ1,ζ2]) rfl ?_
 refine vc_region ?_
 refine oq (qv_mv (.int .i64 (rsE A i)) rfl) ?_
 refine oq (qv_neq rfl rfl) ?_
 refine ops_nil ?_
 refine vc_if rfl (fun c1=>?_) (fun c1=>?_)
 refine vc_seq ?_
 refine vc_region ?_
 refine oq (qv_build (out:=[(Value.int .i64 0),(Value.slice none 0 0),(Value.slice none 0 0),(Value.int .i64 0)]) Try.build25 [] rfl rfl) ?_
 refine oq (qv_mv (.int .i64 (rsE A i)) rfl) ?_
 refine ops_stw (k:=1) (vs:=[(Value.int .i64 0),(Value.slice none 0 0),(Value.slice none 0 0),(Value.int .i64 0)]) Try.size25 rfl rfl rfl rfl rfl rfl ?_
 refine oq (qv_as (.int .i64 (rsE A i)) rfl) ?_
 refine ops_nil ?_
 refine vc_freeze (b:=b2) (o:=.cells ([(Value.int .i64 0),(Value.slice none 0 0),(Value.slice none 0 0),(Value.int .i64 0)]:List Value).toArray 25 (0,0)) (σr:=[(Arr 25 b1 [(Value.int .i64 (A.v)),la,na,(Value.int .i64 (A.r))]),(Arr 25 b3 [(Value.int .i64 ((rsD A i false).v)),lv1,nv1,(Value.int .i64 ((rsD A i false).r))])]) (List.perm_middle (l₁:=[(Arr 25 b1 [(Value.int .i64 (A.v)),la,na,(Value.int .i64 (A.r))])]) (l₂:=[(Arr 25 b3 [(Value.int .i64 ((rsD A i false).v)),lv1,nv1,(Value.int .i64 ((rsD A i false).r))])])) (fun Vf1 hVf1 hb1=>?_)
 have hc1:Cells Vf1 b2 [(Value.int .i64 0),(Value.slice none 0 0),(Value.slice none 0 0),(Value.int .i64 0)]:=⟨_,_,hb1⟩
 have hA:=hA.mono hVf1
 have hsub:=hsub.mono hVf1
 have hMt:=hMt.mono hVf1
 refine vc_drop [] [ζ3,ζ2] (.refl _) ?_
 refine vc_ret ?_
 refine rs2 _ (.int .i64 (rsE A i)) (rv_c (vs:=[(Value.int .i64 0),(Value.slice none 0 0),(Value.slice none 0 0),(Value.int .i64 0)]) Try.agg25 rfl (inVc hc1) rfl rfl) (rv_t rfl) ?_
 subst ζ1 ζ3 ζ6 ζ7 ζ2
 rw [boD_n (by omega),boE_n (by omega)]
 exact ⟨rfl,MRs.zero⟩
 refine vc_skip ?_
 refine vc_seq ?_
 refine vc_region ?_
 refine oq (qv_ldm (vs:=[(.int .i64 A.v),la,na,(.int .i64 A.r)]) Try.agg25 rfl (inOc (k:=0) rfl) rfl rfl) ?_
 refine oq (qv_mv (Value.int .i64 i) rfl) ?_
 refine ops_call (σa:=[]) (σr:=[ζ3,ζ1,ζ2]) (Restrict_c (i:=i) (b:=true) hA) rfl rfl (.refl _) (fun r2 V2 sg2 hV2 hp2=>?_)
 obtain ⟨rfl,lv1b,nv1b,rfl,hMtb⟩:=hp2
 have hA:=hA.mono hV2
 have hsub:=hsub.mono hV2
 have hMt:=hMt.mono hV2
 let ζ4:Value:=.int .i64 ((rsD A i true).v)
 let ζ5:Value:=.int .i64 ((rsD A i true).r)
 refine oq (qv_mv (.tuple #[(.agg #[ζ4,lv1b,nv1b,ζ5]),(.int .i64 (rsE A i))]) rfl) ?_
 refine oq (qv_ext (.agg #[ζ4,lv1b,nv1b,ζ5]) rfl rfl) ?_
 refine oq (qv_ext (.int .i64 (rsE A i)) rfl rfl) ?_
 refine ops_alloc Try.ti25 rfl (fun b4=>?_)
 refine ops_stw (k:=3) (vs:=[ζ4,lv1b,nv1b,ζ5]) Try.size25 rfl rfl rfl (allc rfl (allc (Sl.one hMtb.l) (allc (SlS.one hMtb.n) (allc rfl rfl)))) rfl rfl ?_
 refine oq (qv_as (.int .i64 (rsE A i)) rfl) ?_
 refine ops_nil ?_
 refine vc_seq ?_
 refine vc_seq ?_
 refine vc_res (σ':=[ζ3,ζ1,ζ2,(Arr 25 b4 [ζ4,lv1b,nv1b,ζ5])]) rfl ?_
 refine vc_region ?_
 refine oq (qv_mv (.int .i64 (rsE A i)) rfl) ?_
 refine oq (qv_neq rfl rfl) ?_
 refine ops_nil ?_
 refine vc_if_f rfl c1 ?_
 refine vc_skip ?_
 refine vc_seq ?_
 have hz:rsE A i=0:=by omega
 have hh:=bo_hyp hz
 refine vc_region ?_
 refine oq (qv_mv (Value.func (.func fid) #[] fcaps.toArray) rfl) ?_
 refine oq (qv_ldm (vs:=[ζ6,lv1,nv1,ζ7]) Try.agg25 rfl (inOc (k:=2) rfl) rfl rfl) ?_
 refine oq (qv_ldm (vs:=[ζ4,lv1b,nv1b,ζ5]) Try.agg25 rfl (inOc (k:=3) rfl) rfl rfl) ?_
 refine ops_lit (n:=2) (s:=4) (cs:=[ζ6,lv1,nv1,ζ7,ζ4,lv1b,nv1b,ζ5]) Try.underlying102 Try.ti25 (Nat.le_of_ble_eq_true rfl) rfl rfl rfl (Nat.le_of_ble_eq_true rfl) rfl (fun b5=>?_)
 let ζ8:Value:=Value.int .i64 ((rsD A i false).v)
 let ζ9:Value:=Value.int .i64 ((rsD A i false).r)
 refine ops_freeze (b:=b5) (o:=.cells ([ζ8,lv1,nv1,ζ9,(Value.int .i64 ((rsD A i true).v)),lv1b,nv1b,(Value.int .i64 ((rsD A i true).r))]:List Value).toArray 25 (0,0)) (σr:=[(Arr 25 b1 [(Value.int .i64 (A.v)),la,na,(Value.int .i64 (A.r))]),ζ1,(Arr 25 b3 [ζ8,lv1,nv1,ζ9]),(Arr 25 b4 [(Value.int .i64 ((rsD A i true).v)),lv1b,nv1b,(Value.int .i64 ((rsD A i true).r))])]) (List.perm_middle (l₁:=[(Arr 25 b1 [(Value.int .i64 (A.v)),la,na,(Value.int .i64 (A.r))]),ζ1,(Arr 25 b3 [ζ8,lv1,nv1,ζ9]),(Arr 25 b4 [(Value.int .i64 ((rsD A i true).v)),lv1b,nv1b,(Value.int .i64 ((rsD A i true).r))])]) (l₂:=[])) (fun Vf2 hVf2 hb2=>?_)
 have hc2:Cells Vf2 b5 [ζ6,lv1,nv1,ζ7,ζ4,lv1b,nv1b,ζ5]:=⟨_,_,hb2⟩
 have hA:=hA.mono hVf2
 have hsub:=hsub.mono hVf2
 have hMt:=hMt.mono hVf2
 have hMtb:=hMtb.mono hVf2
 subst ζ1 ζ3 ζ6 ζ7 ζ2 ζ4 ζ5 ζ8 ζ9
 refine ops_call (σa:=[]) (σr:=[(Arr 25 b1 [(.int .i64 A.v),la,na,(.int .i64 A.r)]),(Arr 25 b2 [(Value.int .i64 0),(Value.slice none 0 0),(Value.slice none 0 0),(Value.int .i64 0)]),(Arr 25 b3 [(.int .i64 ((rsD A i false).v)),lv1,nv1,(.int .i64 ((rsD A i false).r))]),(Arr 25 b4 [(.int .i64 ((rsD A i true).v)),lv1b,nv1b,(.int .i64 ((rsD A i true).r))])]) (by have h:=made_c (vars:=A.v) (F:=F) (Mdl.two hc2 hMt hMtb) hh.1 hh.2.1 hh.2.2.1 (by show 1≤2; omega) hh.2.2.2 (fun W q=>hf W (hsub.trans q)); rw [bo_res hz,← boD_0 hz,← boE_0 hz] at h; exact h) rfl rfl (.refl _) (fun r3 V3 sg3 hV3 hp3=>?_)
 obtain ⟨rfl,lv1c,nv1c,rfl,hMtc⟩:=hp3
 have hA:=hA.mono hV3
 have hsub:=hsub.mono hV3
 have hMt:=hMt.mono hV3
 have hMtb:=hMtb.mono hV3
 have hc2:=hc2.mono hV3
 refine oq (qv_ext (.agg #[(.int .i64 ((boD A i F).v)),lv1c,nv1c,(.int .i64 ((boD A i F).r))]) rfl rfl) ?_
 refine oq (qv_ext (.int .i64 (boE A i F)) rfl rfl) ?_
 refine ops_stw (k:=1) (vs:=[(.int .i64 ((boD A i F).v)),lv1c,nv1c,(.int .i64 ((boD A i F).r))]) Try.size25 rfl rfl rfl (allc rfl (allc (Sl.one hMtc.l) (allc (SlS.one hMtc.n) (allc rfl rfl)))) rfl rfl ?_
 refine oq (qv_as (.int .i64 (boE A i F)) rfl) ?_
 refine ops_nil ?_
 refine vc_freeze (b:=b2) (o:=.cells ([(Value.int .i64 ((boD A i F).v)),lv1c,nv1c,(Value.int .i64 ((boD A i F).r))]:List Value).toArray 25 (0,0)) (σr:=[(Arr 25 b1 [(Value.int .i64 (A.v)),la,na,(Value.int .i64 (A.r))]),(Arr 25 b3 [(Value.int .i64 ((rsD A i false).v)),lv1,nv1,(Value.int .i64 ((rsD A i false).r))]),(Arr 25 b4 [(Value.int .i64 ((rsD A i true).v)),lv1b,nv1b,(Value.int .i64 ((rsD A i true).r))])]) (List.perm_middle (l₁:=[(Arr 25 b1 [(Value.int .i64 (A.v)),la,na,(Value.int .i64 (A.r))])]) (l₂:=[(Arr 25 b3 [(Value.int .i64 ((rsD A i false).v)),lv1,nv1,(Value.int .i64 ((rsD A i false).r))]),(Arr 25 b4 [(Value.int .i64 ((rsD A i true).v)),lv1b,nv1b,(Value.int .i64 ((rsD A i true).r))])])) (fun Vf3 hVf3 hb3=>?_)
 have hc3:Cells Vf3 b2 [(.int .i64 ((boD A i F).v)),lv1c,nv1c,(.int .i64 ((boD A i F).r))]:=⟨_,_,hb3⟩
 have hA:=hA.mono hVf3
 have hsub:=hsub.mono hVf3
 have hMt:=hMt.mono hVf3
 have hMtb:=hMtb.mono hVf3
 have hc2:=hc2.mono hVf3
 have hMtc:=hMtc.mono hVf3
 refine vc_drop [] [(Arr 25 b1 [(.int .i64 A.v),la,na,(.int .i64 A.r)]),(Arr 25 b3 [(.int .i64 ((rsD A i false).v)),lv1,nv1,(.int .i64 ((rsD A i false).r))]),(Arr 25 b4 [(.int .i64 ((rsD A i true).v)),lv1b,nv1b,(.int .i64 ((rsD A i true).r))])] (.refl _) ?_
 refine vc_ret ?_
 refine rs2 _ (.int .i64 (boE A i F)) (rv_c (vs:=[(.int .i64 ((boD A i F).v)),lv1c,nv1c,(.int .i64 ((boD A i F).r))]) Try.agg25 rfl (inVc hc3) rfl rfl) (rv_t rfl) ?_
 exact ⟨rfl,lv1c,nv1c,rfl,hMtc⟩
theorem SumOut_c {V:HV} {la na:Value} {A:Mg} (hA:Mt V la na A) {i:Int} :
    FnC Try.prog 21 [(.agg #[(.int .i64 A.v),la,na,(.int .i64 A.r)]),(Value.int .i64 i)] V [] (fun v V' σ'=>σ' = []∧MRs V' v (boD A i sumF) (boE A i sumF)):=by
 refine fn_intro (N:=11) Try.func21 (by kernel_rfl) rfl rfl rfl (Nat.le_of_ble_eq_true rfl) ?_
 intro w0 D
 have hbl:=Ints.bound hA.l
 have hbn:=SlS.bound hA.n
 refine vc_seq ?_
 refine vc_region ?_
 refine ops_box (v:=(.agg #[(.int .i64 A.v),la,na,(.int .i64 A.r)])) (cs:=[(.int .i64 A.v),la,na,(.int .i64 A.r)]) rfl rfl (fun b1=>?_)
 refine ops_alloc Try.ti25 rfl (fun b2=>?_)
 refine oq (qv_as (Value.int .i64 0) rfl) ?_
 refine ops_nil ?_
 refine vc_seq ?_
 let ζ1:Asrt:=Arr 25 b1 [(.int .i64 A.v),la,na,(.int .i64 A.r)]
 let ζ2:Asrt:=Arr 25 b2 [(Value.int .i64 0),(Value.slice none 0 0),(Value.slice none 0 0),(Value.int .i64 0)]
 refine vc_res (σ':=[ζ1,ζ2]) rfl ?_
 refine vc_region ?_
 refine oq (qv_ldm (vs:=[(.int .i64 A.v),la,na,(.int .i64 A.r)]) Try.agg25 rfl (inOc (k:=0) rfl) rfl rfl) ?_
 refine oq (qv_mv (Value.int .i64 i) rfl) ?_
 refine ops_call (σa:=[]) (σr:=[ζ1,ζ2]) (both_c (i:=i) (F:=sumF) (fcaps:=[]) hA (fun W q x y z hx hy hz=>SumOut1_c hx hy)) rfl rfl (.refl _) (fun r1 V1 sg1 hV1 hp1=>?_)
 obtain ⟨rfl,lv1,nv1,rfl,hMt⟩:=hp1
 have hA:=hA.mono hV1
 let ζ3:Value:=.int .i64 ((boD A i sumF).v)
 let ζ4:Value:=.int .i64 ((boD A i sumF).r)
 refine oq (qv_ext (.agg #[ζ3,lv1,nv1,ζ4]) rfl rfl) ?_
 refine oq (qv_ext (.int .i64 (boE A i sumF)) rfl rfl) ?_
 refine ops_stw (k:=1) (vs:=[ζ3,lv1,nv1,ζ4]) Try.size25 rfl rfl rfl (allc rfl (allc (Sl.one hMt.l) (allc (SlS.one hMt.n) (allc rfl rfl)))) rfl rfl ?_
 refine oq (qv_as (.int .i64 (boE A i sumF)) rfl) ?_
 refine ops_nil ?_
 refine vc_freeze (b:=b2) (o:=.cells ([(Value.int .i64 ((boD A i sumF).v)),lv1,nv1,(Value.int .i64 ((boD A i sumF).r))]:List Value).toArray 25 (0,0)) (σr:=[(Arr 25 b1 [(Value.int .i64 (A.v)),la,na,(Value.int .i64 (A.r))])]) (List.perm_middle (l₁:=[(Arr 25 b1 [(Value.int .i64 (A.v)),la,na,(Value.int .i64 (A.r))])]) (l₂:=[])) (fun Vf1 hVf1 hb1=>?_)
 have hc1:Cells Vf1 b2 [ζ3,lv1,nv1,ζ4]:=⟨_,_,hb1⟩
 have hA:=hA.mono hVf1
 have hMt:=hMt.mono hVf1
 refine vc_drop [] [ζ1] (.refl _) ?_
 refine vc_ret ?_
 refine rs2 _ (.int .i64 (boE A i sumF)) (rv_c (vs:=[ζ3,lv1,nv1,ζ4]) Try.agg25 rfl (inVc hc1) rfl rfl) (rv_t rfl) ?_
 exact ⟨rfl,lv1,nv1,rfl,hMt⟩
end Go.Proofs.Ytkmhjcjpohpiaaa
