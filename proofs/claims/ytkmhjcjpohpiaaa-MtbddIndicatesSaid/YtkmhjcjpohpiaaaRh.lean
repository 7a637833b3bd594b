import Derived.Test.YtkmhjcjpohpiaaaRe
import Derived.Test.YtkmhjcjpohpiaaaRg
import Derived.Test.YtkmhjcjpohpiaaaWo
import Derived.Test.YtkmhjcjpohpiaaaBu
import Derived.Test.YtkmhjcjpohpiaaaMn
import Derived.Test.YtkmhjcjpohpiaaaMu
import Derived.Test.YtkmhjcjpohpiaaaMv
/- Walks of mtbdd: what each function returns. Printed by a program out of notes. -/
namespace Go.Proofs.Ytkmhjcjpohpiaaa
open Go.Vc
open Classical
set_option maxRecDepth 100000
set_option maxHeartbeats 4000000
theorem Checked27_c {V:HV} {nc:Value} {cv cr:Int} {cN:List Fk} (hC:Fks V nc cN) :
    FnC Try.prog 42 [(.agg #[(Value.int .i64 cv),nc,(Value.int .i64 cr)])] V [] (fun v _ _=>v=(.int .i64 (Bd.chkC cv cN cr))):=by
 refine fn_intro (N:=5) Try.func42 (by kernel_rfl) rfl rfl rfl (Nat.le_of_ble_eq_true rfl) ?_
 intro w0 D
 have hbn:=SlS.bound hC
 refine vc_seq ?_
 refine vc_region ?_
 refine ops_box (v:=(.agg #[(Value.int .i64 cv),nc,(Value.int .i64 cr)])) (cs:=[(Value.int .i64 cv),nc,(Value.int .i64 cr)]) rfl rfl (fun b1=>?_)
 refine oq (qv_as (Value.int .i64 0) rfl) ?_
 refine ops_nil ?_
 refine vc_seq ?_
 refine vc_res (σ':=[(Arr 59 b1 [(Value.int .i64 cv),nc,(Value.int .i64 cr)])]) rfl ?_
 refine vc_region ?_
 refine oq (qv_ldm (vs:=[(Value.int .i64 cv),nc,(Value.int .i64 cr)]) Try.agg59 rfl (inOc (k:=0) rfl) rfl rfl) ?_
 refine oq (qv_call (v:=(.int .i64 (Bd.chkC cv cN cr))) (Bd.check_c hC) rfl rfl) ?_
 refine oq (qv_as (.int .i64 (Bd.chkC cv cN cr)) rfl) ?_
 refine ops_nil ?_
 refine vc_ret ?_
 exact rq1 (.int .i64 (Bd.chkC cv cN cr)) rfl rfl
theorem Truths27_c {V:HV} {nc:Value} {cv cr:Int} {cN:List Fk} (hC:Fks V nc cN) (hok:Bd.Ok cv cN cr) (h12:cv≤12) :
    FnC Try.prog 43 [(.agg #[(Value.int .i64 cv),nc,(Value.int .i64 cr)])] V [] (fun v V' σ'=>σ' = []∧Bls V' v (Bd.tbD ⟨cv,cN,cr⟩)):=by
 refine fn_intro (N:=5) Try.func43 (by kernel_rfl) rfl rfl rfl (Nat.le_of_ble_eq_true rfl) ?_
 intro w0 D
 have hbn:=SlS.bound hC
 refine vc_seq ?_
 refine vc_region ?_
 refine ops_box (v:=(.agg #[(Value.int .i64 cv),nc,(Value.int .i64 cr)])) (cs:=[(Value.int .i64 cv),nc,(Value.int .i64 cr)]) rfl rfl (fun b1=>?_)
 refine oq (qv_as (Value.slice none 0 0) rfl) ?_
 refine ops_nil ?_
 refine vc_seq ?_
 refine vc_res (σ':=[(Arr 59 b1 [(Value.int .i64 cv),nc,(Value.int .i64 cr)])]) rfl ?_
 refine vc_region ?_
 refine oq (qv_ldm (vs:=[(Value.int .i64 cv),nc,(Value.int .i64 cr)]) Try.agg59 rfl (inOc (k:=0) rfl) rfl rfl) ?_
 refine ops_call (σa:=[]) (σr:=[(Arr 59 b1 [(Value.int .i64 cv),nc,(Value.int .i64 cr)])]) (Bd.table_c (A:=⟨cv,cN,cr⟩) hC hok h12) rfl rfl (.refl _) (fun r1 V1 sg1 hV1 hp1=>?_)
 obtain ⟨rfl,hTt⟩:=hp1
 obtain ⟨tt,htt⟩:∃ x,x=r1:=⟨_,rfl⟩
 subst htt
 have hC:=hC.mono hV1
 refine oq (qv_as tt rfl) ?_
 refine ops_nil ?_
 refine vc_drop [] [(Arr 59 b1 [(Value.int .i64 cv),nc,(Value.int .i64 cr)])] (.refl _) ?_
 refine vc_ret ?_
 refine rq1 tt rfl ?_
 exact ⟨rfl,hTt⟩
theorem Diagram27_c {V:HV} {vars:Int} {t:List Bool} {tv:Value} (ht:Bls V tv t) (h0:0≤vars) (h20:vars≤20) (hl:t.length=2 ^ vars.toNat) :
    FnC Try.prog 44 [(Value.int .i64 vars),tv] V [] (fun v V' σ'=>σ' = []∧∃ nv,v=.agg #[.int .i64 (Bd.bldD vars t).v,nv,.int .i64 (Bd.bldD vars t).r]∧Fks V' nv (Bd.bldD vars t).N):=by
 refine fn_intro (N:=8) Try.func44 (by kernel_rfl) rfl rfl rfl (Nat.le_of_ble_eq_true rfl) ?_
 intro w0 D
 refine vc_seq ?_
 refine vc_region ?_
 refine ops_alloc Try.ti59 rfl (fun b1=>?_)
 refine ops_nil ?_
 refine vc_seq ?_
 let ζ1:Asrt:=Arr 59 b1 [(Value.int .i64 0),(Value.slice none 0 0),(Value.int .i64 0)]
 refine vc_res (σ':=[ζ1]) rfl ?_
 refine vc_region ?_
 refine oq (qv_mv (Value.int .i64 vars) rfl) ?_
 refine oq (qv_mv tv rfl) ?_
 refine ops_call (σa:=[]) (σr:=[ζ1]) (Bd.build_c ht h0 h20 hl) rfl rfl (.refl _) (fun r1 V1 sg1 hV1 hp1=>?_)
 obtain ⟨rfl,nvd,rfl,hNd⟩:=hp1
 have ht:=ht.mono hV1
 refine ops_stw (k:=0) (vs:=[(.int .i64 ((Bd.bldD vars t).v)),nvd,(.int .i64 ((Bd.bldD vars t).r))]) Try.size59 rfl rfl rfl (allc rfl (allc (SlS.one hNd) (allc rfl rfl))) rfl rfl ?_
 refine ops_nil ?_
 refine vc_freeze (b:=b1) (o:=.cells ([(Value.int .i64 ((Bd.bldD vars t).v)),nvd,(Value.int .i64 ((Bd.bldD vars t).r))]:List Value).toArray 59 (0,0)) (σr:=[]) (List.perm_middle (l₁:=[]) (l₂:=[])) (fun Vf1 hVf1 hb1=>?_)
 have hc1:Cells Vf1 b1 [(.int .i64 ((Bd.bldD vars t).v)),nvd,(.int .i64 ((Bd.bldD vars t).r))]:=⟨_,_,hb1⟩
 have ht:=ht.mono hVf1
 have hNd:=hNd.mono hVf1
 refine vc_ret ?_
 refine rs1 _ (rv_c (vs:=[(.int .i64 ((Bd.bldD vars t).v)),nvd,(.int .i64 ((Bd.bldD vars t).r))]) Try.agg59 rfl (inVc hc1) rfl rfl) ?_
 exact ⟨rfl,nvd,rfl,hNd⟩
end Go.Proofs.Ytkmhjcjpohpiaaa
