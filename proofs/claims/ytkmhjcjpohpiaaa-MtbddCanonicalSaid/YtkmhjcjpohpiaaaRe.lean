import Derived.Test.YtkmhjcjpohpiaaaRa
import Derived.Test.YtkmhjcjpohpiaaaWo
import Derived.Test.YtkmhjcjpohpiaaaBt
/- Walks of mtbdd: what each function returns. Printed by a program out of notes. -/
namespace Go.Proofs.Ytkmhjcjpohpiaaa
open Go.Vc
open Classical
set_option maxRecDepth 100000
set_option maxHeartbeats 4000000
theorem Of1_c {V:HV} {x y z no yes:Int} {py pn:Nat} (hy:Cells V py [.int .i64 yes]) (hn:Cells V pn [.int .i64 no]) :
    FnC Try.prog 79 [(.agg #[(Value.int .i64 x),(Value.int .i64 y),(Value.int .i64 z)]),(Value.pointer (some ⟨py,0,none⟩)),(Value.pointer (some ⟨pn,0,none⟩))] V [] (fun v _ _=>v=(.int .i64 (if x=1 then yes else no))):=by
 refine fn_intro (N:=10) Try.func79 (by kernel_rfl) rfl rfl rfl (Nat.le_of_ble_eq_true rfl) ?_
 intro w0 D
 refine vc_seq ?_
 refine vc_region ?_
 refine ops_box (v:=(.agg #[(Value.int .i64 x),(Value.int .i64 y),(Value.int .i64 z)])) (cs:=[(Value.int .i64 x),(Value.int .i64 y),(Value.int .i64 z)]) rfl rfl (fun b1=>?_)
 refine oq (qv_as (Value.int .i64 0) rfl) ?_
 refine ops_nil ?_
 refine vc_seq ?_
 refine vc_seq ?_
 refine vc_res (σ':=[(Arr 97 b1 [(Value.int .i64 x),(Value.int .i64 y),(Value.int .i64 z)])]) rfl ?_
 refine vc_region ?_
 refine oq (qv_iaa (i:=0) (off:=0) Try.underlying97 Try.size3 rfl rfl (by omega) (by omega) rfl) ?_
 refine oq (qv_ldp (v:=(Value.int .i64 x)) Try.plain3 rfl (inOc (k:=0) rfl) rfl) ?_
 refine oq (qv_eql rfl rfl) ?_
 refine ops_nil ?_
 refine vc_if rfl (fun c1=>?_) (fun c1=>?_)
 refine vc_seq ?_
 refine vc_region ?_
 refine oq (qv_ldp (v:=(Value.int .i64 yes)) Try.plain3 rfl (inVc hy) rfl) ?_
 refine oq (qv_as (Value.int .i64 yes) rfl) ?_
 refine ops_nil ?_
 refine vc_ret ?_
 exact rq1 (.int .i64 (if x=1 then yes else no)) (congrArg (Value.int .i64) (show yes=(if x=1 then yes else no) from by first | exact if_pos (by assumption) | exact if_neg (by assumption) | exact (if_pos (by assumption)).symm | exact (if_neg (by assumption)).symm)) rfl
 refine vc_skip ?_
 refine vc_seq ?_
 refine vc_region ?_
 refine oq (qv_ldp (v:=(Value.int .i64 no)) Try.plain3 rfl (inVc hn) rfl) ?_
 refine oq (qv_as (Value.int .i64 no) rfl) ?_
 refine ops_nil ?_
 refine vc_ret ?_
 exact rq1 (.int .i64 (if x=1 then yes else no)) (congrArg (Value.int .i64) (show no=(if x=1 then yes else no) from by first | exact if_pos (by assumption) | exact if_neg (by assumption) | exact (if_pos (by assumption)).symm | exact (if_neg (by assumption)).symm)) rfl
theorem Of_c {V:HV} {nc:Value} {cv cr:Int} {cN:List Fk} (hC:Fks V nc cN) {no yes:Int} (h12:Bd.Ok cv cN cr→cv≤12) :
    FnC Try.prog 31 [(.agg #[(Value.int .i64 cv),nc,(Value.int .i64 cr)]),(Value.int .i64 no),(Value.int .i64 yes)] V [] (fun v V' σ'=>σ' = []∧MRs V' v (ofD cv cN cr no yes) (ofE cv cN cr no yes)):=by
 refine fn_intro (N:=28) Try.func31 (by kernel_rfl) rfl rfl rfl (Nat.le_of_ble_eq_true rfl) ?_
 intro w0 D
 have hbc:=SlS.bound hC
 refine vc_seq ?_
 refine vc_region ?_
 refine ops_box (v:=(.agg #[(Value.int .i64 cv),nc,(Value.int .i64 cr)])) (cs:=[(Value.int .i64 cv),nc,(Value.int .i64 cr)]) rfl rfl (fun b1=>?_)
 refine ops_box (v:=(Value.int .i64 no)) (cs:=[(Value.int .i64 no)]) rfl rfl (fun b2=>?_)
 refine ops_box (v:=(Value.int .i64 yes)) (cs:=[(Value.int .i64 yes)]) rfl rfl (fun b3=>?_)
 refine ops_alloc Try.ti25 rfl (fun b4=>?_)
 refine oq (qv_as (Value.int .i64 0) rfl) ?_
 refine ops_nil ?_
 refine vc_seq ?_
 refine vc_seq ?_
 let ζ1:Asrt:=Arr 59 b1 [(Value.int .i64 cv),nc,(Value.int .i64 cr)]
 let ζ2:Asrt:=Arr 25 b4 [(Value.int .i64 0),(Value.slice none 0 0),(Value.slice none 0 0),(Value.int .i64 0)]
 let ζ3:Asrt:=Arr 3 b3 [(Value.int .i64 yes)]
 let ζ4:Asrt:=Arr 3 b2 [(Value.int .i64 no)]
 refine vc_res (σ':=[ζ1,ζ4,ζ3,ζ2]) rfl ?_
 refine vc_region ?_
 refine oq (qv_ldm (vs:=[(Value.int .i64 cv),nc,(Value.int .i64 cr)]) Try.agg59 rfl (inOc (k:=0) rfl) rfl rfl) ?_
 refine oq (qv_call (v:=(.int .i64 (Bd.chkC cv cN cr))) (Bd.Check_c hC) rfl rfl) ?_
 refine oq (qv_neq rfl rfl) ?_
 refine ops_nil ?_
 refine vc_if rfl (fun c1=>?_) (fun c1=>?_)
 refine vc_seq ?_
 refine vc_region ?_
 refine oq (qv_build (out:=[(Value.int .i64 0),(Value.slice none 0 0),(Value.slice none 0 0),(Value.int .i64 0)]) Try.build25 [] rfl rfl) ?_
 refine ops_stw (k:=3) (vs:=[(Value.int .i64 0),(Value.slice none 0 0),(Value.slice none 0 0),(Value.int .i64 0)]) Try.size25 rfl rfl rfl rfl rfl rfl ?_
 refine oq (qv_as (Value.int .i64 1) rfl) ?_
 refine ops_nil ?_
 refine vc_freeze (b:=b4) (o:=.cells ([(Value.int .i64 0),(Value.slice none 0 0),(Value.slice none 0 0),(Value.int .i64 0)]:List Value).toArray 25 (0,0)) (σr:=[ζ1,ζ4,ζ3]) (List.perm_middle (l₁:=[ζ1,ζ4,ζ3]) (l₂:=[])) (fun Vf1 hVf1 hb1=>?_)
 have hc1:Cells Vf1 b4 [(Value.int .i64 0),(Value.slice none 0 0),(Value.slice none 0 0),(Value.int .i64 0)]:=⟨_,_,hb1⟩
 have hC:=hC.mono hVf1
 refine vc_drop [] [ζ1,ζ4,ζ3] (.refl _) ?_
 refine vc_ret ?_
 refine rs2 _ (Value.int .i64 1) (rv_c (vs:=[(Value.int .i64 0),(Value.slice none 0 0),(Value.slice none 0 0),(Value.int .i64 0)]) Try.agg25 rfl (inVc hc1) rfl rfl) (rv_t rfl) ?_
 have e:=of_1 (no:=no) (yes:=yes) (fun q=>absurd (Bd.chk_0 q) (by assumption))
 subst ζ1 ζ2 ζ3 ζ4
 rw [e.1,e.2]
 exact ⟨rfl,MRs.zero⟩
 refine vc_skip ?_
 refine vc_seq ?_
 refine vc_seq ?_
 have hbok:Bd.Ok cv cN cr:=Bd.chk_ok.1 (by omega)
 have hcv:=h12 hbok
 have hlf:=lf_ok hbok hcv
 refine vc_region ?_
 refine oq (qv_ldp (v:=(Value.int .i64 no)) Try.plain3 rfl (inOc (k:=1) rfl) rfl) ?_
 refine oq (qv_call (v:=(.bool (decide (inR (no))))) (inRange_c) rfl rfl) ?_
 refine oq (qv_not rfl) ?_
 refine oq (qv_mv (.bool (decide (¬ (inR (no))))) rfl) ?_
 by_cases g1:¬ (inR (no))
 refine os (want_fn g1 rfl rfl rfl) ?_
 refine os (want_fn g1 rfl rfl rfl) ?_
 refine os (want_fn g1 rfl rfl rfl) ?_
 refine oq (qv_pick_t g1 rfl (rfl:ev _ _=(Value.bool true))) ?_
 refine ops_nil ?_
 refine vc_tt rfl ?_
 refine vc_seq ?_
 refine vc_region ?_
 refine oq (qv_build (out:=[(Value.int .i64 0),(Value.slice none 0 0),(Value.slice none 0 0),(Value.int .i64 0)]) Try.build25 [] rfl rfl) ?_
 refine ops_stw (k:=3) (vs:=[(Value.int .i64 0),(Value.slice none 0 0),(Value.slice none 0 0),(Value.int .i64 0)]) Try.size25 rfl rfl rfl rfl rfl rfl ?_
 refine oq (qv_as (Value.int .i64 3) rfl) ?_
 refine ops_nil ?_
 refine vc_freeze (b:=b4) (o:=.cells ([(Value.int .i64 0),(Value.slice none 0 0),(Value.slice none 0 0),(Value.int .i64 0)]:List Value).toArray 25 (0,0)) (σr:=[ζ1,ζ4,ζ3]) (List.perm_middle (l₁:=[ζ1,ζ4,ζ3]) (l₂:=[])) (fun Vf2 hVf2 hb2=>?_)
 have hc2:Cells Vf2 b4 [(Value.int .i64 0),(Value.slice none 0 0),(Value.slice none 0 0),(Value.int .i64 0)]:=⟨_,_,hb2⟩
 have hC:=hC.mono hVf2
 refine vc_drop [] [ζ1,ζ4,ζ3] (.refl _) ?_
 refine vc_ret ?_
 refine rs2 _ (Value.int .i64 3) (rv_c (vs:=[(Value.int .i64 0),(Value.slice none 0 0),(Value.slice none 0 0),(Value.int .i64 0)]) Try.agg25 rfl (inVc hc2) rfl rfl) (rv_t rfl) ?_
 have e:=of_3 (no:=no) (yes:=yes) hbok (by first | exact .inl (by assumption) | exact .inr (by assumption))
 subst ζ1 ζ2 ζ3 ζ4
 rw [e.1,e.2]
 exact ⟨rfl,MRs.zero⟩
 refine og (qv_ldp (v:=(Value.int .i64 yes)) Try.plain3 rfl (inOc (k:=2) rfl) rfl) (want_f g1 rfl rfl rfl) ?_
 refine og (qv_call (v:=(.bool (decide (inR (yes))))) (inRange_c) rfl rfl) (want_f g1 rfl rfl rfl) ?_
 refine og (qv_not rfl) (want_f g1 rfl rfl rfl) ?_
 refine oq (qv_pick_f g1 rfl (rfl:ev _ _=(.bool (decide (¬ (inR (yes))))))) ?_
 refine ops_nil ?_
 refine vc_if rfl (fun c2=>?_) (fun c2=>?_)
 refine vc_seq ?_
 refine vc_region ?_
 refine oq (qv_build (out:=[(Value.int .i64 0),(Value.slice none 0 0),(Value.slice none 0 0),(Value.int .i64 0)]) Try.build25 [] rfl rfl) ?_
 refine ops_stw (k:=3) (vs:=[(Value.int .i64 0),(Value.slice none 0 0),(Value.slice none 0 0),(Value.int .i64 0)]) Try.size25 rfl rfl rfl rfl rfl rfl ?_
 refine oq (qv_as (Value.int .i64 3) rfl) ?_
 refine ops_nil ?_
 refine vc_freeze (b:=b4) (o:=.cells ([(Value.int .i64 0),(Value.slice none 0 0),(Value.slice none 0 0),(Value.int .i64 0)]:List Value).toArray 25 (0,0)) (σr:=[ζ1,ζ4,ζ3]) (List.perm_middle (l₁:=[ζ1,ζ4,ζ3]) (l₂:=[])) (fun Vf3 hVf3 hb3=>?_)
 have hc3:Cells Vf3 b4 [(Value.int .i64 0),(Value.slice none 0 0),(Value.slice none 0 0),(Value.int .i64 0)]:=⟨_,_,hb3⟩
 have hC:=hC.mono hVf3
 refine vc_drop [] [ζ1,ζ4,ζ3] (.refl _) ?_
 refine vc_ret ?_
 refine rs2 _ (Value.int .i64 3) (rv_c (vs:=[(Value.int .i64 0),(Value.slice none 0 0),(Value.slice none 0 0),(Value.int .i64 0)]) Try.agg25 rfl (inVc hc3) rfl rfl) (rv_t rfl) ?_
 have e:=of_3 (no:=no) (yes:=yes) hbok (by first | exact .inl (by assumption) | exact .inr (by assumption))
 subst ζ1 ζ2 ζ3 ζ4
 rw [e.1,e.2]
 exact ⟨rfl,MRs.zero⟩
 refine vc_skip ?_
 refine vc_seq ?_
 refine vc_freeze (b:=b2) (o:=.cells ([(Value.int .i64 no)]:List Value).toArray 3 (0,0)) (σr:=[ζ1,ζ3,ζ2]) (List.perm_middle (l₁:=[ζ1]) (l₂:=[ζ3,ζ2])) (fun Vf4 hVf4 hb4=>?_)
 have hc4:Cells Vf4 b2 [(Value.int .i64 no)]:=⟨_,_,hb4⟩
 have hC:=hC.mono hVf4
 refine vc_freeze (b:=b3) (o:=.cells ([(Value.int .i64 yes)]:List Value).toArray 3 (0,0)) (σr:=[ζ1,ζ2]) (List.perm_middle (l₁:=[ζ1]) (l₂:=[ζ2])) (fun Vf5 hVf5 hb5=>?_)
 have hc5:Cells Vf5 b3 [(Value.int .i64 yes)]:=⟨_,_,hb5⟩
 have hC:=hC.mono hVf5
 have hc4:=hc4.mono hVf5
 refine vc_region ?_
 skip
 refine oq (qv_func (cs:=[(Value.pointer (some ⟨b3,0,none⟩)),(Value.pointer (some ⟨b2,0,none⟩))]) rfl) ?_
 refine oq (qv_ldm (vs:=[(Value.int .i64 cv),nc,(Value.int .i64 cr)]) Try.agg59 rfl (inOc (k:=0) rfl) rfl rfl) ?_
 refine ops_call (σa:=[]) (σr:=[ζ1,ζ2]) (lifted_c hC hbok) rfl rfl (.refl _) (fun r1 V1 sg1 hV1 hp1=>?_)
 obtain ⟨rfl,lvd,nvd,rfl,hMd⟩:=hp1
 have hC:=hC.mono hV1
 have hc4:=hc4.mono hV1
 have hc5:=hc5.mono hV1
 refine ops_lit (n:=1) (s:=4) (cs:=[(.int .i64 ((lfD cv cN cr).v)),lvd,nvd,(.int .i64 ((lfD cv cN cr).r))]) Try.underlying102 Try.ti25 (Nat.le_of_ble_eq_true rfl) rfl rfl rfl (Nat.le_of_ble_eq_true rfl) rfl (fun b5=>?_)
 refine ops_freeze (b:=b5) (o:=.cells ([(Value.int .i64 ((lfD cv cN cr).v)),lvd,nvd,(Value.int .i64 ((lfD cv cN cr).r))]:List Value).toArray 25 (0,0)) (σr:=[ζ1,ζ2]) (List.perm_middle (l₁:=[ζ1,ζ2]) (l₂:=[])) (fun Vf6 hVf6 hb6=>?_)
 have hc6:Cells Vf6 b5 [(.int .i64 ((lfD cv cN cr).v)),lvd,nvd,(.int .i64 ((lfD cv cN cr).r))]:=⟨_,_,hb6⟩
 have hC:=hC.mono hVf6
 have hc4:=hc4.mono hVf6
 have hc5:=hc5.mono hVf6
 have hMd:=hMd.mono hVf6
 subst ζ1 ζ2 ζ3 ζ4
 refine ops_call (σa:=[]) (σr:=[(Arr 59 b1 [(Value.int .i64 cv),nc,(Value.int .i64 cr)]),(Arr 25 b4 [(Value.int .i64 0),(Value.slice none 0 0),(Value.slice none 0 0),(Value.int .i64 0)])]) (by have h:=made_c (Ds:=[(lfD cv cN cr)]) (vars:=cv) (F:=fun x _ _=>if x=1 then yes else no) (fid:=79) (fcaps:=[(Value.pointer (some ⟨b3,0,none⟩)),(Value.pointer (some ⟨b2,0,none⟩))]) (Mdl.one hc6 hMd) (ds1 hlf.1.1 hlf.1.loc).1 (ds1 hlf.1.1 hlf.1.loc).2.1 (ds1 hlf.1.1 hlf.1.loc).2.2.1 (Nat.le_refl 1) (ds1 hlf.1.1 hlf.1.loc).2.2.2 (fun W q x y z _ _ _=>Of1_c (hc5.mono q) (hc4.mono q)); rw [cT1,of_cT hbok hcv] at h; exact h) rfl rfl (.refl _) (fun r2 V2 sg2 hV2 hp2=>?_)
 obtain ⟨rfl,lv1,nv1,rfl,hMt⟩:=hp2
 have hC:=hC.mono hV2
 have hc4:=hc4.mono hV2
 have hc5:=hc5.mono hV2
 have hMd:=hMd.mono hV2
 have hc6:=hc6.mono hV2
 let ζ5:Value:=.int .i64 ((mkD cv (ofT cv cN cr no yes)).v)
 let ζ6:Value:=.int .i64 ((mkD cv (ofT cv cN cr no yes)).r)
 refine oq (qv_ext (.agg #[ζ5,lv1,nv1,ζ6]) rfl rfl) ?_
 let ζ7:Value:=.int .i64 (mkE cv (ofT cv cN cr no yes))
 refine oq (qv_ext ζ7 rfl rfl) ?_
 refine ops_stw (k:=1) (vs:=[ζ5,lv1,nv1,ζ6]) Try.size25 rfl rfl rfl (allc rfl (allc (Sl.one hMt.l) (allc (SlS.one hMt.n) (allc rfl rfl)))) rfl rfl ?_
 refine oq (qv_as ζ7 rfl) ?_
 refine ops_nil ?_
 let ζ1:Asrt:=Arr 59 b1 [(Value.int .i64 cv),nc,(Value.int .i64 cr)]
 refine vc_freeze (b:=b4) (o:=.cells ([(Value.int .i64 ((mkD cv (ofT cv cN cr no yes)).v)),lv1,nv1,(Value.int .i64 ((mkD cv (ofT cv cN cr no yes)).r))]:List Value).toArray 25 (0,0)) (σr:=[ζ1]) (List.perm_middle (l₁:=[ζ1]) (l₂:=[])) (fun Vf7 hVf7 hb7=>?_)
 have hc7:Cells Vf7 b4 [ζ5,lv1,nv1,ζ6]:=⟨_,_,hb7⟩
 have hC:=hC.mono hVf7
 have hc4:=hc4.mono hVf7
 have hc5:=hc5.mono hVf7
 have hMd:=hMd.mono hVf7
 have hc6:=hc6.mono hVf7
 have hMt:=hMt.mono hVf7
 refine vc_drop [] [ζ1] (.refl _) ?_
 refine vc_ret ?_
 refine rs2 _ ζ7 (rv_c (vs:=[ζ5,lv1,nv1,ζ6]) Try.agg25 rfl (inVc hc7) rfl rfl) (rv_t rfl) ?_
 have e:=of_0 hbok (show inR no from (by first | assumption | exact Classical.not_not.1 (by assumption))) (show inR yes from (by first | assumption | exact Classical.not_not.1 (by assumption)))
 have m:=of_mk hbok hcv (show inR no from (by first | assumption | exact Classical.not_not.1 (by assumption))) (show inR yes from (by first | assumption | exact Classical.not_not.1 (by assumption)))
 subst ζ5 ζ6 ζ7 ζ1
 rw [e.1,e.2,← m.2,m.1]
 exact ⟨rfl,lv1,nv1,rfl,hMt⟩
end Go.Proofs.Ytkmhjcjpohpiaaa
