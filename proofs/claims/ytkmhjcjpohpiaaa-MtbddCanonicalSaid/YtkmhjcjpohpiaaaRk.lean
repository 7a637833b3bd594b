import Derived.Test.YtkmhjcjpohpiaaaRj
import Derived.Test.YtkmhjcjpohpiaaaRe
import Derived.Test.YtkmhjcjpohpiaaaBo
import Derived.Test.YtkmhjcjpohpiaaaWo
import Derived.Test.YtkmhjcjpohpiaaaMm
import Derived.Test.YtkmhjcjpohpiaaaMn
import Derived.Test.YtkmhjcjpohpiaaaMv
import Derived.Test.YtkmhjcjpohpiaaaMt
import Derived.Test.YtkmhjcjpohpiaaaMi
/- Walks of mtbdd: what each function returns. Printed by a program out of notes. -/
namespace Go.Proofs.Ytkmhjcjpohpiaaa
open Go.Vc
open Classical
set_option maxRecDepth 100000
set_option maxHeartbeats 4000000
theorem Canonical_c {V:HV} {la na:Value} {A:Mg} (hA:Mt V la na A) {lb nb:Value} {B:Mg} (hB:Mt V lb nb B) :
    FnC Try.prog 6 [(.agg #[(.int .i64 A.v),la,na,(.int .i64 A.r)]),(.agg #[(.int .i64 B.v),lb,nb,(.int .i64 B.r)])] V [] (fun v _ _=>v=(Value.bool true)):=by
 refine fn_intro (N:=166) Try.func6 (by kernel_rfl) rfl rfl rfl (Nat.le_of_ble_eq_true rfl) ?_
 intro w0 D
 have hbl:=Ints.bound hA.l
 have hbn:=SlS.bound hA.n
 refine vc_seq ?_
 refine vc_region ?_
 refine ops_box (v:=(.agg #[(.int .i64 A.v),la,na,(.int .i64 A.r)])) (cs:=[(.int .i64 A.v),la,na,(.int .i64 A.r)]) rfl rfl (fun b1=>?_)
 refine ops_box (v:=(.agg #[(.int .i64 B.v),lb,nb,(.int .i64 B.r)])) (cs:=[(.int .i64 B.v),lb,nb,(.int .i64 B.r)]) rfl rfl (fun b2=>?_)
 refine oq (qv_as (Value.bool false) rfl) ?_
 refine ops_nil ?_
 refine vc_seq ?_
 refine vc_seq ?_
 let ζ1:Asrt:=Arr 25 b1 [(.int .i64 A.v),la,na,(.int .i64 A.r)]
 let ζ2:Asrt:=Arr 25 b2 [(.int .i64 B.v),lb,nb,(.int .i64 B.r)]
 refine vc_res (σ':=[ζ1,ζ2]) rfl ?_
 refine vc_region ?_
 refine oq (qv_call (v:=(Value.bool true)) (known_c) rfl rfl) ?_
 refine oq (qv_notc rfl) ?_
 refine ops_nil ?_
 refine vc_ff rfl ?_
 refine vc_skip ?_
 refine vc_seq ?_
 refine vc_seq ?_
 refine vc_region ?_
 refine oq (qv_ldm (vs:=[(.int .i64 A.v),la,na,(.int .i64 A.r)]) Try.agg25 rfl (inOc (k:=0) rfl) rfl rfl) ?_
 refine oq (qv_call (v:=(.bool (decide (fewP A∧(¬ chkC A=0 ∨ A.v≤8))))) (small_c hA) rfl rfl) ?_
 refine oq (qv_not rfl) ?_
 refine oq (qv_mv (.bool (decide (¬ (fewP A∧(¬ chkC A=0 ∨ A.v≤8))))) rfl) ?_
 by_cases g1:¬ (fewP A∧(¬ chkC A=0 ∨ A.v≤8))
 refine os (want_fn g1 rfl rfl rfl) ?_
 refine os (want_fn g1 rfl rfl rfl) ?_
 refine os (want_fn g1 rfl rfl rfl) ?_
 refine oq (qv_pick_t g1 rfl (rfl:ev _ _=(Value.bool true))) ?_
 refine oq (qv_mv (Value.bool true) rfl) ?_
 refine os (want_fnc rfl rfl rfl) ?_
 refine os (want_fnc rfl rfl rfl) ?_
 refine os (want_fnc rfl rfl rfl) ?_
 refine oq (qv_pick_tc rfl (rfl:ev _ _=(Value.bool true))) ?_
 refine oq (qv_mv (Value.bool true) rfl) ?_
 refine os (want_fnc rfl rfl rfl) ?_
 refine os (want_fnc rfl rfl rfl) ?_
 refine os (want_fnc rfl rfl rfl) ?_
 refine oq (qv_pick_tc rfl (rfl:ev _ _=(Value.bool true))) ?_
 refine oq (qv_mv (Value.bool true) rfl) ?_
 refine os (want_fnc rfl rfl rfl) ?_
 refine os (want_fnc rfl rfl rfl) ?_
 refine os (want_fnc rfl rfl rfl) ?_
 refine oq (qv_pick_tc rfl (rfl:ev _ _=(Value.bool true))) ?_
 refine oq (qv_mv (Value.bool true) rfl) ?_
 refine os (want_fnc rfl rfl rfl) ?_
 refine os (want_fnc rfl rfl rfl) ?_
 refine os (want_fnc rfl rfl rfl) ?_
 refine oq (qv_pick_tc rfl (rfl:ev _ _=(Value.bool true))) ?_
 refine ops_nil ?_
 refine vc_tt rfl ?_
 refine vc_seq ?_
 refine vc_region ?_
 refine oq (qv_as (Value.bool true) rfl) ?_
 refine ops_nil ?_
 refine vc_drop [] [ζ1,ζ2] (.refl _) ?_
 refine vc_ret ?_
 exact rq1 (Value.bool true) rfl rfl
 refine og (qv_ldm (vs:=[(.int .i64 B.v),lb,nb,(.int .i64 B.r)]) Try.agg25 rfl (inOc (k:=1) rfl) rfl rfl) (want_f g1 rfl rfl rfl) ?_
 refine og (qv_call (v:=(.bool (decide (fewP B∧(¬ chkC B=0 ∨ B.v≤8))))) (small_c hB) rfl rfl) (want_f g1 rfl rfl rfl) ?_
 refine og (qv_not rfl) (want_f g1 rfl rfl rfl) ?_
 refine oq (qv_pick_f g1 rfl (rfl:ev _ _=(.bool (decide (¬ (fewP B∧(¬ chkC B=0 ∨ B.v≤8))))))) ?_
 refine oq (qv_mv (.bool (decide (¬ (fewP B∧(¬ chkC B=0 ∨ B.v≤8))))) rfl) ?_
 by_cases g2:¬ (fewP B∧(¬ chkC B=0 ∨ B.v≤8))
 refine os (want_fn g2 rfl rfl rfl) ?_
 refine os (want_fn g2 rfl rfl rfl) ?_
 refine os (want_fn g2 rfl rfl rfl) ?_
 refine oq (qv_pick_t g2 rfl (rfl:ev _ _=(Value.bool true))) ?_
 refine oq (qv_mv (Value.bool true) rfl) ?_
 refine os (want_fnc rfl rfl rfl) ?_
 refine os (want_fnc rfl rfl rfl) ?_
 refine os (want_fnc rfl rfl rfl) ?_
 refine oq (qv_pick_tc rfl (rfl:ev _ _=(Value.bool true))) ?_
 refine oq (qv_mv (Value.bool true) rfl) ?_
 refine os (want_fnc rfl rfl rfl) ?_
 refine os (want_fnc rfl rfl rfl) ?_
 refine os (want_fnc rfl rfl rfl) ?_
 refine oq (qv_pick_tc rfl (rfl:ev _ _=(Value.bool true))) ?_
 refine oq (qv_mv (Value.bool true) rfl) ?_
 refine os (want_fnc rfl rfl rfl) ?_
 refine os (want_fnc rfl rfl rfl) ?_
 refine os (want_fnc rfl rfl rfl) ?_
 refine oq (qv_pick_tc rfl (rfl:ev _ _=(Value.bool true))) ?_
 refine ops_nil ?_
 refine vc_tt rfl ?_
 refine vc_seq ?_
 refine vc_region ?_
 refine oq (qv_as (Value.bool true) rfl) ?_
 refine ops_nil ?_
 refine vc_drop [] [ζ1,ζ2] (.refl _) ?_
 refine vc_ret ?_
 exact rq1 (Value.bool true) rfl rfl
 refine og (qv_ldm (vs:=[(.int .i64 A.v),la,na,(.int .i64 A.r)]) Try.agg25 rfl (inOc (k:=0) rfl) rfl rfl) (want_f g2 rfl rfl rfl) ?_
 refine og (qv_call (v:=(.int .i64 (chkC A))) (Check_c hA) rfl rfl) (want_f g2 rfl rfl rfl) ?_
 refine og (qv_neq rfl rfl) (want_f g2 rfl rfl rfl) ?_
 refine oq (qv_pick_f g2 rfl (rfl:ev _ _=(.bool (decide ((chkC A) ≠ 0))))) ?_
 refine oq (qv_mv (.bool (decide ((chkC A) ≠ 0))) rfl) ?_
 by_cases g3:(chkC A) ≠ 0
 refine os (want_fn g3 rfl rfl rfl) ?_
 refine os (want_fn g3 rfl rfl rfl) ?_
 refine os (want_fn g3 rfl rfl rfl) ?_
 refine oq (qv_pick_t g3 rfl (rfl:ev _ _=(Value.bool true))) ?_
 refine oq (qv_mv (Value.bool true) rfl) ?_
 refine os (want_fnc rfl rfl rfl) ?_
 refine os (want_fnc rfl rfl rfl) ?_
 refine os (want_fnc rfl rfl rfl) ?_
 refine oq (qv_pick_tc rfl (rfl:ev _ _=(Value.bool true))) ?_
 refine oq (qv_mv (Value.bool true) rfl) ?_
 refine os (want_fnc rfl rfl rfl) ?_
 refine os (want_fnc rfl rfl rfl) ?_
 refine os (want_fnc rfl rfl rfl) ?_
 refine oq (qv_pick_tc rfl (rfl:ev _ _=(Value.bool true))) ?_
 refine ops_nil ?_
 refine vc_tt rfl ?_
 refine vc_seq ?_
 refine vc_region ?_
 refine oq (qv_as (Value.bool true) rfl) ?_
 refine ops_nil ?_
 refine vc_drop [] [ζ1,ζ2] (.refl _) ?_
 refine vc_ret ?_
 exact rq1 (Value.bool true) rfl rfl
 refine og (qv_ldm (vs:=[(.int .i64 B.v),lb,nb,(.int .i64 B.r)]) Try.agg25 rfl (inOc (k:=1) rfl) rfl rfl) (want_f g3 rfl rfl rfl) ?_
 refine og (qv_call (v:=(.int .i64 (chkC B))) (Check_c hB) rfl rfl) (want_f g3 rfl rfl rfl) ?_
 refine og (qv_neq rfl rfl) (want_f g3 rfl rfl rfl) ?_
 refine oq (qv_pick_f g3 rfl (rfl:ev _ _=(.bool (decide ((chkC B) ≠ 0))))) ?_
 refine oq (qv_mv (.bool (decide ((chkC B) ≠ 0))) rfl) ?_
 by_cases g4:(chkC B) ≠ 0
 refine os (want_fn g4 rfl rfl rfl) ?_
 refine os (want_fn g4 rfl rfl rfl) ?_
 refine os (want_fn g4 rfl rfl rfl) ?_
 refine oq (qv_pick_t g4 rfl (rfl:ev _ _=(Value.bool true))) ?_
 refine oq (qv_mv (Value.bool true) rfl) ?_
 refine os (want_fnc rfl rfl rfl) ?_
 refine os (want_fnc rfl rfl rfl) ?_
 refine os (want_fnc rfl rfl rfl) ?_
 refine oq (qv_pick_tc rfl (rfl:ev _ _=(Value.bool true))) ?_
 refine ops_nil ?_
 refine vc_tt rfl ?_
 refine vc_seq ?_
 refine vc_region ?_
 refine oq (qv_as (Value.bool true) rfl) ?_
 refine ops_nil ?_
 refine vc_drop [] [ζ1,ζ2] (.refl _) ?_
 refine vc_ret ?_
 exact rq1 (Value.bool true) rfl rfl
 refine og (qv_fa (off:=0) Try.field25_0 rfl) (want_f g4 rfl rfl rfl) ?_
 refine og (qv_ldp (v:=(.int .i64 A.v)) Try.plain3 rfl (inOc (k:=0) rfl) rfl) (want_f g4 rfl rfl rfl) ?_
 refine og (qv_gtr rfl rfl) (want_f g4 rfl rfl rfl) ?_
 refine oq (qv_pick_f g4 rfl (rfl:ev _ _=(.bool (decide (8 < A.v))))) ?_
 refine oq (qv_mv (.bool (decide (8 < A.v))) rfl) ?_
 by_cases g5:8 < A.v
 refine os (want_fn g5 rfl rfl rfl) ?_
 refine os (want_fn g5 rfl rfl rfl) ?_
 refine os (want_fn g5 rfl rfl rfl) ?_
 refine oq (qv_pick_t g5 rfl (rfl:ev _ _=(Value.bool true))) ?_
 refine ops_nil ?_
 refine vc_tt rfl ?_
 refine vc_seq ?_
 refine vc_region ?_
 refine oq (qv_as (Value.bool true) rfl) ?_
 refine ops_nil ?_
 refine vc_drop [] [ζ1,ζ2] (.refl _) ?_
 refine vc_ret ?_
 exact rq1 (Value.bool true) rfl rfl
 refine og (qv_fa (off:=0) Try.field25_0 rfl) (want_f g5 rfl rfl rfl) ?_
 refine og (qv_ldp (v:=(.int .i64 B.v)) Try.plain3 rfl (inOc (k:=1) rfl) rfl) (want_f g5 rfl rfl rfl) ?_
 refine og (qv_gtr rfl rfl) (want_f g5 rfl rfl rfl) ?_
 refine oq (qv_pick_f g5 rfl (rfl:ev _ _=(.bool (decide (8 < B.v))))) ?_
 refine ops_nil ?_
 refine vc_if rfl (fun c1=>?_) (fun c1=>?_)
 refine vc_seq ?_
 refine vc_region ?_
 refine oq (qv_as (Value.bool true) rfl) ?_
 refine ops_nil ?_
 refine vc_drop [] [ζ1,ζ2] (.refl _) ?_
 refine vc_ret ?_
 exact rq1 (Value.bool true) rfl rfl
 refine vc_skip ?_
 refine vc_seq ?_
 have h8A:=Classical.not_not.1 g1
 have h8B:=Classical.not_not.1 g2
 have hokA:=chk_ok.1 (by omega:chkC A=0)
 have hokB:=chk_ok.1 (by omega:chkC B=0)
 have h12:A.v≤12:=by omega
 have htA:=tb_0 hokA (by omega)
 have htB:=tb_0 hokB (by omega)
 have hvE:=vE1_0 hokA
 have hgr:hgR A=hgL A:=if_pos hokA
 have hgl:=hg_len A
 have hc0:=cn_0' hokA
 have hp12:=pow2_12 (n:=A.v.toNat) (by omega)
 have hv0:=hokA.1.1
 have hfl:=few_len hokA h8A.1
 refine vc_region ?_
 refine oq (qv_ldm (vs:=[(.int .i64 A.v),la,na,(.int .i64 A.r)]) Try.agg25 rfl (inOc (k:=0) rfl) rfl rfl) ?_
 subst ζ1 ζ2
 refine ops_call (σa:=[]) (σr:=[(Arr 25 b1 [(.int .i64 A.v),la,na,(.int .i64 A.r)]),(Arr 25 b2 [(.int .i64 B.v),lb,nb,(.int .i64 B.r)])]) (by have h:=Table_c (A:=A) hA; rw [htA.1,htA.2] at h; exact h) rfl rfl (.refl _) (fun r1 V1 sg1 hV1 hp1=>?_)
 obtain ⟨rfl,u1,rfl,hT1⟩:=hp1
 have hA:=hA.mono hV1
 have hB:=hB.mono hV1
 refine oq (qv_mv (.tuple #[u1,(Value.int .i64 0)]) rfl) ?_
 refine oq (qv_ext u1 rfl rfl) ?_
 refine oq (qv_ext (Value.int .i64 0) rfl rfl) ?_
 refine oq (qv_as u1 rfl) ?_
 refine oq (qv_as (Value.int .i64 0) rfl) ?_
 refine ops_nil ?_
 refine vc_seq ?_
 refine vc_region ?_
 refine oq (qv_ldm (vs:=[(.int .i64 B.v),lb,nb,(.int .i64 B.r)]) Try.agg25 rfl (inOc (k:=1) rfl) rfl rfl) ?_
 refine ops_call (σa:=[]) (σr:=[(Arr 25 b1 [(.int .i64 A.v),la,na,(.int .i64 A.r)]),(Arr 25 b2 [(.int .i64 B.v),lb,nb,(.int .i64 B.r)])]) (by have h:=Table_c (A:=B) hB; rw [htB.1,htB.2] at h; exact h) rfl rfl (.refl _) (fun r2 V2 sg2 hV2 hp2=>?_)
 obtain ⟨rfl,u2,rfl,hT2⟩:=hp2
 have hA:=hA.mono hV2
 have hB:=hB.mono hV2
 have hT1:=hT1.mono hV2
 refine oq (qv_mv (.tuple #[u2,(Value.int .i64 0)]) rfl) ?_
 refine oq (qv_ext u2 rfl rfl) ?_
 refine oq (qv_ext (Value.int .i64 0) rfl rfl) ?_
 refine oq (qv_as u2 rfl) ?_
 refine oq (qv_as (Value.int .i64 0) rfl) ?_
 refine ops_nil ?_
 refine vc_seq ?_
 refine vc_seq ?_
 refine vc_region ?_
 refine oq (qv_mv (Value.int .i64 0) rfl) ?_
 refine oq (qv_neq rfl rfl) ?_
 refine oq (qv_mv (.bool (decide (0 ≠ 0))) rfl) ?_
 by_cases g6:0 ≠ 0
 omega
 refine og (qv_mv (Value.int .i64 0) rfl) (want_f g6 rfl rfl rfl) ?_
 refine og (qv_neq rfl rfl) (want_f g6 rfl rfl rfl) ?_
 refine oq (qv_pick_f g6 rfl (rfl:ev _ _=(.bool (decide (0 ≠ 0))))) ?_
 refine oq (qv_mv (.bool (decide (0 ≠ 0))) rfl) ?_
 refine og (qv_fa (off:=0) Try.field25_0 rfl) (want_f g6 rfl rfl rfl) ?_
 refine og (qv_ldp (v:=(.int .i64 A.v)) Try.plain3 rfl (inOc (k:=0) rfl) rfl) (want_f g6 rfl rfl rfl) ?_
 refine og (qv_fa (off:=0) Try.field25_0 rfl) (want_f g6 rfl rfl rfl) ?_
 refine og (qv_ldp (v:=(.int .i64 B.v)) Try.plain3 rfl (inOc (k:=1) rfl) rfl) (want_f g6 rfl rfl rfl) ?_
 refine og (qv_eql rfl rfl) (want_f g6 rfl rfl rfl) ?_
 refine og (qv_mv (.bool (decide (A.v=B.v))) rfl) (want_f g6 rfl rfl rfl) ?_
 by_cases g7:A.v=B.v
 refine og (qv_ldm (vs:=[(.int .i64 A.v),la,na,(.int .i64 A.r)]) Try.agg25 rfl (inOc (k:=0) rfl) rfl rfl) (want_t g7 rfl rfl rfl) ?_
 refine og (qv_ldm (vs:=[(.int .i64 B.v),lb,nb,(.int .i64 B.r)]) Try.agg25 rfl (inOc (k:=1) rfl) rfl rfl) (want_t g7 rfl rfl rfl) ?_
 refine og (qv_call (v:=(.bool (decide (A=B)))) (same_c hA hB) rfl rfl) (want_t g7 rfl rfl rfl) ?_
 refine og (qv_mv u1 rfl) (want_t g7 rfl rfl rfl) ?_
 refine og (qv_mv u2 rfl) (want_t g7 rfl rfl rfl) ?_
 refine og (qv_call (v:=(.bool (decide (vT A=vT B)))) (EqI_c hT1 hT2) rfl rfl) (want_t g7 rfl rfl rfl) ?_
 refine og (qv_niffb Try.underlying4 rfl rfl) (want_t g7 rfl rfl rfl) ?_
 refine og (qv_pick_t g7 rfl (rfl:ev _ _=(.bool (decide (¬ ((A=B) ↔ (vT A=vT B))))))) (want_f g6 rfl rfl rfl) ?_
 refine oq (qv_pick_f g6 rfl (rfl:ev _ _=(.bool (decide (¬ ((A=B) ↔ (vT A=vT B))))))) ?_
 refine ops_nil ?_
 refine vc_if rfl (fun c2=>?_) (fun c2=>?_)
 exact absurd (canon_iff hokA hokB (by assumption)) c2
 refine vc_skip ?_
 refine vc_seq ?_
 refine vc_region ?_
 refine oq (qv_ldm (vs:=[(.int .i64 A.v),la,na,(.int .i64 A.r)]) Try.agg25 rfl (inOc (k:=0) rfl) rfl rfl) ?_
 refine ops_call (σa:=[]) (σr:=[(Arr 25 b1 [(.int .i64 A.v),la,na,(.int .i64 A.r)]),(Arr 25 b2 [(.int .i64 B.v),lb,nb,(.int .i64 B.r)])]) (by have h:=Histogram_c hA; rw [hvE,hgr] at h; exact h) rfl rfl (.refl _) (fun r3 V3 sg3 hV3 hp3=>?_)
 obtain ⟨rfl,u3,rfl,hH⟩:=hp3
 have hA:=hA.mono hV3
 have hB:=hB.mono hV3
 have hT1:=hT1.mono hV3
 have hT2:=hT2.mono hV3
 refine oq (qv_mv (.tuple #[u3,(Value.int .i64 0)]) rfl) ?_
 refine oq (qv_ext u3 rfl rfl) ?_
 refine oq (qv_ext (Value.int .i64 0) rfl rfl) ?_
 refine oq (qv_as u3 rfl) ?_
 refine oq (qv_as (Value.int .i64 0) rfl) ?_
 refine ops_nil ?_
 refine vc_seq ?_
 refine vc_region ?_
 refine oq (qv_fa (off:=0) Try.field25_0 rfl) ?_
 refine oq (qv_ldp (v:=(.int .i64 A.v)) Try.plain3 rfl (inOc (k:=0) rfl) rfl) ?_
 refine ops_call (σa:=[]) (σr:=[(Arr 25 b1 [(.int .i64 A.v),la,na,(.int .i64 A.r)]),(Arr 25 b2 [(.int .i64 B.v),lb,nb,(.int .i64 B.r)])]) (by have h:=Constant_c (V:=V3) (vars:=A.v) (z:=0); rw [hc0.1,hc0.2] at h; exact h) rfl rfl (.refl _) (fun r4 V4 sg4 hV4 hp4=>?_)
 obtain ⟨rfl,lvz,nvz,rfl,hMz⟩:=hp4
 have hA:=hA.mono hV4
 have hB:=hB.mono hV4
 have hT1:=hT1.mono hV4
 have hT2:=hT2.mono hV4
 have hH:=hH.mono hV4
 let ζ20:Value:=.agg #[(.int .i64 ((smD A 0).v)),lvz,nvz,(.int .i64 ((smD A 0).r))]
 refine oq (qv_mv (.tuple #[ζ20,(Value.int .i64 0)]) rfl) ?_
 refine oq (qv_ext ζ20 rfl rfl) ?_
 refine oq (qv_ext (Value.int .i64 0) rfl rfl) ?_
 refine ops_alloc Try.ti25 rfl (fun b3=>?_)
 refine ops_stw (k:=2) (vs:=[(.int .i64 ((smD A 0).v)),lvz,nvz,(.int .i64 ((smD A 0).r))]) Try.size25 rfl rfl rfl (allc rfl (allc (Sl.one hMz.l) (allc (SlS.one hMz.n) (allc rfl rfl)))) rfl rfl ?_
 refine oq (qv_as (Value.int .i64 0) rfl) ?_
 refine ops_nil ?_
 refine vc_seq ?_
 refine vc_seq ?_
 let ζ1:Asrt:=Arr 25 b1 [(.int .i64 A.v),la,na,(.int .i64 A.r)]
 let ζ2:Asrt:=Arr 25 b2 [(.int .i64 B.v),lb,nb,(.int .i64 B.r)]
 let ζ19:Asrt:=Arr 25 b3 [(.int .i64 ((smD A 0).v)),lvz,nvz,(.int .i64 ((smD A 0).r))]
 refine vc_res (σ':=[ζ1,ζ2,ζ19]) rfl ?_
 refine vc_region ?_
 refine oq (qv_mv (Value.int .i64 0) rfl) ?_
 refine oq (qv_neq rfl rfl) ?_
 refine oq (qv_mv (.bool (decide (0 ≠ 0))) rfl) ?_
 refine og (qv_mv (Value.int .i64 0) rfl) (want_f g6 rfl rfl rfl) ?_
 refine og (qv_neq rfl rfl) (want_f g6 rfl rfl rfl) ?_
 refine oq (qv_pick_f g6 rfl (rfl:ev _ _=(.bool (decide (0 ≠ 0))))) ?_
 refine oq (qv_mv (.bool (decide (0 ≠ 0))) rfl) ?_
 refine og (qv_mv u3 rfl) (want_f g6 rfl rfl rfl) ?_
 refine og (qv_lenSS Try.underlying53 rfl hH) (want_f g6 rfl rfl rfl) ?_
 refine og (qv_gtr rfl rfl) (want_f g6 rfl rfl rfl) ?_
 refine oq (qv_pick_f g6 rfl (rfl:ev _ _=(.bool (decide (300 < (((hgL A).length:Int))))))) ?_
 refine ops_nil ?_
 refine vc_if rfl (fun c3=>?_) (fun c3=>?_)
 omega
 refine vc_skip ?_
 refine vc_seq ?_
 refine vc_region ?_
 refine oq (qv_as (Value.int .i64 0) rfl) ?_
 refine ops_nil ?_
 refine vc_seq ?_
 refine vc_seq ?_
 refine vc_region ?_
 refine oq (qv_mv u3 rfl) ?_
 refine oq (qv_lenSS Try.underlying53 rfl hH) ?_
 refine oq (qv_mv (Value.int .i64 0) rfl) ?_
 refine ops_nil ?_
 refine vc_block ?_
 refine vc_loop (α:=Int × Value × Value) (fun (xx:Int × Value × Value)=>[(0,(.agg #[(.int .i64 A.v),la,na,(.int .i64 A.r)])),(1,(.agg #[(.int .i64 B.v),lb,nb,(.int .i64 B.r)])),(2,(Value.pointer (some ⟨b1,0,none⟩))),(3,(Value.pointer (some ⟨b2,0,none⟩))),(5,u1),(6,(Value.int .i64 0)),(7,u2),(8,(Value.int .i64 0)),(9,u3),(10,(Value.pointer (some ⟨b3,0,none⟩))),(23,(Value.bool false)),(51,(.bool (decide (8 < B.v)))),(83,(.bool (decide (¬ ((A=B) ↔ (vT A=vT B)))))),(105,(.bool (decide (300 < (((hgL A).length:Int)))))),(106,u3),(107,(.int .i64 (((hgL A).length:Int)))),(11,(.int .i64 (tcN A xx.1.toNat))),(108,(Value.int .i64 xx.1))]) (fun (xx:Int × Value × Value) V' σ'=>[ζ1,ζ2,(Arr 25 b3 [(.int .i64 ((smD A xx.1.toNat).v)),xx.2.1,xx.2.2,(.int .i64 ((smD A xx.1.toNat).r))])]=σ'∧Mt V' la na A∧P2s V' u3 (hgL A)∧Mt V' xx.2.1 xx.2.2 (smD A xx.1.toNat)∧0≤xx.1∧xx.1≤(hgL A).length) (fun (xx:Int × Value × Value)=>((hgL A).length - xx.1).toNat) (0,lvz,nvz) ?_ ?_ ?_
 exact ⟨rfl,rfl,rfl,rfl,rfl,rfl,rfl,rfl,rfl,rfl,rfl,rfl,rfl,rfl,rfl,rfl,(congrArg (Value.int .i64) (show 0=(tcN A (0:Int).toNat) from by exact tc_0.symm)),rfl,trivial⟩
 exact (show [ζ1,ζ2,(Arr 25 b3 [(.int .i64 ((smD A (0:Int).toNat).v)),lvz,nvz,(.int .i64 ((smD A (0:Int).toNat).r))])]=[ζ1,ζ2,ζ19]∧Mt V4 la na A∧P2s V4 u3 (hgL A)∧Mt V4 lvz nvz (smD A (0:Int).toNat)∧0≤(0:Int)∧(0:Int)≤(hgL A).length from ⟨(show [ζ1,ζ2,(Arr 25 b3 [(.int .i64 ((smD A (0:Int).toNat).v)),lvz,nvz,(.int .i64 ((smD A (0:Int).toNat).r))])]=[ζ1,ζ2,ζ19] from by rfl),hA,hH,hMz,by omega,by omega⟩)
 rintro ⟨k,lvs,nvs⟩ e1 V0l σ0l hI0
 let ζ17:Asrt:=Arr 25 b3 [(.int .i64 ((smD A k.toNat).v)),lvs,nvs,(.int .i64 ((smD A k.toNat).r))]
 obtain ⟨rfl,hA,hH,hMs,i1,i2⟩:[ζ1,ζ2,ζ17]=σ0l∧Mt V0l la na A∧P2s V0l u3 (hgL A)∧Mt V0l lvs nvs (smD A k.toNat)∧0≤k∧k≤(hgL A).length:=hI0
 change VC _ _ _ _ _ _ (upds 166 [(0,(.agg #[(.int .i64 A.v),la,na,(.int .i64 A.r)])),(1,(.agg #[(.int .i64 B.v),lb,nb,(.int .i64 B.r)])),(2,(Value.pointer (some ⟨b1,0,none⟩))),(3,(Value.pointer (some ⟨b2,0,none⟩))),(5,u1),(6,(Value.int .i64 0)),(7,u2),(8,(Value.int .i64 0)),(9,u3),(10,(Value.pointer (some ⟨b3,0,none⟩))),(23,(Value.bool false)),(51,(.bool (decide (8 < B.v)))),(83,(.bool (decide (¬ ((A=B) ↔ (vT A=vT B)))))),(105,(.bool (decide (300 < (((hgL A).length:Int)))))),(106,u3),(107,(.int .i64 (((hgL A).length:Int)))),(11,(.int .i64 (tcN A k.toNat))),(108,(Value.int .i64 k))] e1) _ _
 refine vc_seq ?_
 refine vc_res (σ':=[ζ1,ζ2,ζ17]) rfl ?_
 refine vc_region ?_
 refine oq (qv_lss rfl rfl) ?_
 refine ops_nil ?_
 refine vc_seq ?_
 refine vc_if rfl (fun c4=>?_) (fun c4=>?_)
 refine vc_skip ?_
 refine vc_seq ?_
 refine vc_block ?_
 refine vc_seq ?_
 have hk1:k < A.L.length:=by omega
 refine vc_region ?_
 refine oq (qv_ias (v:=u3) (i:=k) Try.underlying53 Try.size57 rfl hH rfl (by omega) (by omega)) ?_
 let ζ13:Value:=.int .i64 ((p2 (hgL A) (k)).b)
 let ζ22:Value:=.int .i64 ((p2 (hgL A) (k)).a)
 refine oq (qv_lds (v:=u3) (i:=k) (vs:=[ζ22,ζ13]) Try.agg57 rfl hH (by omega) (by omega) (p2s_at (by omega) (by omega))) ?_
 refine ops_alloc Try.ti57 rfl (fun b4=>?_)
 refine ops_stw (k:=3) (vs:=[ζ22,ζ13]) Try.size57 rfl rfl rfl rfl rfl rfl ?_
 refine ops_nil ?_
 refine vc_seq ?_
 refine vc_res (σ':=[ζ1,ζ2,ζ17,(Arr 57 b4 [ζ22,ζ13])]) rfl ?_
 have hpe:=hg_at (A:=A) (k:=k) i1 hk1
 have hpa:(p2 (hgL A) (k)).a=gi A.L k:=by rw [hpe]
 have hpb:(p2 (hgL A) (k)).b=((vT A).count (gi A.L k):Nat):=by rw [hpe]
 have hlv:=cl_lv (z:=(p2 (hgL A) (k)).a) hokA h12
 obtain ⟨G,hG⟩:∃ X,X=lvF A ((p2 (hgL A) (k)).a):=⟨_,rfl⟩
 subst ζ20 ζ1 ζ2 ζ19 ζ17 ζ13 ζ22
 rw [← hG] at hlv
 have hG12:G.v≤12:=by rw [hG]; exact h12
 have hcz:Bd.vE [G]=0:=by rw [hG]; exact Bd.vE1 (cl_ok hokA h12)
 have hcn:Bd.cnN G=(p2 (hgL A) (k)).b:=by rw [hG,cl_cnt hokA h12,hpa,hpb]
 have had:ofE G.v G.N G.r 0 ((p2 (hgL A) (k)).a)=0∧ofD G.v G.N G.r 0 ((p2 (hgL A) (k)).a)=adD A k:=by rw [hG,hpa]; exact ad_of hokA h12 i1 hk1
 have hap:=ad_step hokA h12 i1 hk1
 obtain ⟨D,hD⟩:∃ X,X=adD A k:=⟨_,rfl⟩
 rw [← hD] at had hap
 have hb1:=tc_bd hokA h12 k.toNat
 have hb2:=ct_bd' hokA h12 (gi A.L k)
 refine vc_region ?_
 refine oq (qv_ldm (vs:=[(.int .i64 A.v),la,na,(.int .i64 A.r)]) Try.agg25 rfl (inOc (k:=0) rfl) rfl rfl) ?_
 refine oq (qv_fa (off:=0) Try.field57_0 rfl) ?_
 refine oq (qv_ldp (v:=(.int .i64 ((p2 (hgL A) (k)).a))) Try.plain3 rfl (inOc (k:=3) rfl) rfl) ?_
 refine ops_call (σa:=[]) (σr:=[(Arr 25 b1 [(.int .i64 A.v),la,na,(.int .i64 A.r)]),(Arr 25 b2 [(.int .i64 B.v),lb,nb,(.int .i64 B.r)]),(Arr 25 b3 [(.int .i64 ((smD A k.toNat).v)),lvs,nvs,(.int .i64 ((smD A k.toNat).r))]),(Arr 57 b4 [(.int .i64 ((p2 (hgL A) (k)).a)),(.int .i64 ((p2 (hgL A) (k)).b))])]) (by have h:=Level_c (x0:=(p2 (hgL A) (k)).a) hA; rw [hlv.1,hlv.2] at h; exact h) rfl rfl (.refl _) (fun r5 V5 sg5 hV5 hp5=>?_)
 obtain ⟨rfl,nvl,rfl,hNl⟩:=hp5
 have hA:=hA.mono hV5
 have hH:=hH.mono hV5
 have hMs:=hMs.mono hV5
 refine oq (qv_mv (.tuple #[(.agg #[(.int .i64 G.v),nvl,(.int .i64 G.r)]),(Value.int .i64 0)]) rfl) ?_
 refine oq (qv_ext (.agg #[(.int .i64 G.v),nvl,(.int .i64 G.r)]) rfl rfl) ?_
 refine oq (qv_ext (Value.int .i64 0) rfl rfl) ?_
 refine ops_alloc Try.ti59 rfl (fun b5=>?_)
 refine ops_stw (k:=4) (vs:=[(.int .i64 G.v),nvl,(.int .i64 G.r)]) Try.size59 rfl rfl rfl (allc rfl (allc (SlS.one hNl) (allc rfl rfl))) rfl rfl ?_
 refine oq (qv_as (Value.int .i64 0) rfl) ?_
 refine ops_nil ?_
 refine vc_seq ?_
 refine vc_res (σ':=[(Arr 25 b1 [(.int .i64 A.v),la,na,(.int .i64 A.r)]),(Arr 25 b2 [(.int .i64 B.v),lb,nb,(.int .i64 B.r)]),(Arr 25 b3 [(.int .i64 ((smD A k.toNat).v)),lvs,nvs,(.int .i64 ((smD A k.toNat).r))]),(Arr 57 b4 [(.int .i64 ((p2 (hgL A) (k)).a)),(.int .i64 ((p2 (hgL A) (k)).b))]),(Arr 59 b5 [(.int .i64 G.v),nvl,(.int .i64 G.r)])]) rfl ?_
 refine vc_region ?_
 refine oq (qv_ldm (vs:=[(.int .i64 G.v),nvl,(.int .i64 G.r)]) Try.agg59 rfl (inOc (k:=4) rfl) rfl rfl) ?_
 refine ops_call (σa:=[]) (σr:=[(Arr 25 b1 [(.int .i64 A.v),la,na,(.int .i64 A.r)]),(Arr 25 b2 [(.int .i64 B.v),lb,nb,(.int .i64 B.r)]),(Arr 25 b3 [(.int .i64 ((smD A k.toNat).v)),lvs,nvs,(.int .i64 ((smD A k.toNat).r))]),(Arr 57 b4 [(.int .i64 ((p2 (hgL A) (k)).a)),(.int .i64 ((p2 (hgL A) (k)).b))]),(Arr 59 b5 [(.int .i64 G.v),nvl,(.int .i64 G.r)])]) (by have h:=Bd.Count_c (A:=G) hNl; rw [hcn,hcz] at h; exact h) rfl rfl (.refl _) (fun r6 V6 sg6 hV6 hp6=>?_)
 obtain ⟨rfl,rfl⟩:=hp6
 have hA:=hA.mono hV6
 have hH:=hH.mono hV6
 have hMs:=hMs.mono hV6
 have hNl:=hNl.mono hV6
 let ζ13:Value:=.int .i64 ((p2 (hgL A) (k)).b)
 refine oq (qv_mv (.tuple #[ζ13,(Value.int .i64 0)]) rfl) ?_
 refine oq (qv_ext ζ13 rfl rfl) ?_
 refine oq (qv_ext (Value.int .i64 0) rfl rfl) ?_
 refine oq (qv_as ζ13 rfl) ?_
 refine oq (qv_as (Value.int .i64 0) rfl) ?_
 refine ops_nil ?_
 refine vc_seq ?_
 refine vc_region ?_
 refine oq (qv_ldm (vs:=[(.int .i64 G.v),nvl,(.int .i64 G.r)]) Try.agg59 rfl (inOc (k:=4) rfl) rfl rfl) ?_
 refine oq (qv_fa (off:=0) Try.field57_0 rfl) ?_
 refine oq (qv_ldp (v:=(.int .i64 ((p2 (hgL A) (k)).a))) Try.plain3 rfl (inOc (k:=3) rfl) rfl) ?_
 subst ζ13
 refine ops_call (σa:=[]) (σr:=[(Arr 25 b1 [(.int .i64 A.v),la,na,(.int .i64 A.r)]),(Arr 25 b2 [(.int .i64 B.v),lb,nb,(.int .i64 B.r)]),(Arr 25 b3 [(.int .i64 ((smD A k.toNat).v)),lvs,nvs,(.int .i64 ((smD A k.toNat).r))]),(Arr 57 b4 [(.int .i64 ((p2 (hgL A) (k)).a)),(.int .i64 ((p2 (hgL A) (k)).b))]),(Arr 59 b5 [(.int .i64 G.v),nvl,(.int .i64 G.r)])]) (by have h:=Of_c (cv:=G.v) (cN:=G.N) (cr:=G.r) (no:=0) (yes:=(p2 (hgL A) (k)).a) hNl (fun _=>hG12); rw [had.1,had.2] at h; exact h) rfl rfl (.refl _) (fun r7 V7 sg7 hV7 hp7=>?_)
 obtain ⟨rfl,lvd,nvd,rfl,hMd⟩:=hp7
 have hA:=hA.mono hV7
 have hH:=hH.mono hV7
 have hMs:=hMs.mono hV7
 have hNl:=hNl.mono hV7
 refine oq (qv_mv (.tuple #[(.agg #[(.int .i64 D.v),lvd,nvd,(.int .i64 D.r)]),(Value.int .i64 0)]) rfl) ?_
 refine oq (qv_ext (.agg #[(.int .i64 D.v),lvd,nvd,(.int .i64 D.r)]) rfl rfl) ?_
 refine oq (qv_ext (Value.int .i64 0) rfl rfl) ?_
 refine ops_alloc Try.ti25 rfl (fun b6=>?_)
 refine ops_stw (k:=5) (vs:=[(.int .i64 D.v),lvd,nvd,(.int .i64 D.r)]) Try.size25 rfl rfl rfl (allc rfl (allc (Sl.one hMd.l) (allc (SlS.one hMd.n) (allc rfl rfl)))) rfl rfl ?_
 refine oq (qv_as (Value.int .i64 0) rfl) ?_
 refine ops_nil ?_
 refine vc_seq ?_
 refine vc_res (σ':=[(Arr 25 b1 [(.int .i64 A.v),la,na,(.int .i64 A.r)]),(Arr 25 b2 [(.int .i64 B.v),lb,nb,(.int .i64 B.r)]),(Arr 25 b3 [(.int .i64 ((smD A k.toNat).v)),lvs,nvs,(.int .i64 ((smD A k.toNat).r))]),(Arr 57 b4 [(.int .i64 ((p2 (hgL A) (k)).a)),(.int .i64 ((p2 (hgL A) (k)).b))]),(Arr 59 b5 [(.int .i64 G.v),nvl,(.int .i64 G.r)]),(Arr 25 b6 [(.int .i64 D.v),lvd,nvd,(.int .i64 D.r)])]) rfl ?_
 refine vc_region ?_
 refine oq (qv_ldm (vs:=[(.int .i64 ((smD A k.toNat).v)),lvs,nvs,(.int .i64 ((smD A k.toNat).r))]) Try.agg25 rfl (inOc (k:=2) rfl) rfl rfl) ?_
 refine oq (qv_ldm (vs:=[(.int .i64 D.v),lvd,nvd,(.int .i64 D.r)]) Try.agg25 rfl (inOc (k:=5) rfl) rfl rfl) ?_
 refine ops_call (σa:=[]) (σr:=[(Arr 25 b1 [(.int .i64 A.v),la,na,(.int .i64 A.r)]),(Arr 25 b2 [(.int .i64 B.v),lb,nb,(.int .i64 B.r)]),(Arr 25 b3 [(.int .i64 ((smD A k.toNat).v)),lvs,nvs,(.int .i64 ((smD A k.toNat).r))]),(Arr 57 b4 [(.int .i64 ((p2 (hgL A) (k)).a)),(.int .i64 ((p2 (hgL A) (k)).b))]),(Arr 59 b5 [(.int .i64 G.v),nvl,(.int .i64 G.r)]),(Arr 25 b6 [(.int .i64 D.v),lvd,nvd,(.int .i64 D.r)])]) (by have h:=Apply_c (op:=0) hMs hMd; rw [hap.1,hap.2] at h; exact h) rfl rfl (.refl _) (fun r8 V8 sg8 hV8 hp8=>?_)
 obtain ⟨rfl,lvt,nvt,rfl,hMt⟩:=hp8
 have hA:=hA.mono hV8
 have hH:=hH.mono hV8
 have hMs:=hMs.mono hV8
 have hNl:=hNl.mono hV8
 have hMd:=hMd.mono hV8
 let ζ9:Value:=.int .i64 ((smD A (k.toNat+1)).v)
 let ζ10:Value:=.int .i64 ((smD A (k.toNat+1)).r)
 refine oq (qv_mv (.tuple #[(.agg #[ζ9,lvt,nvt,ζ10]),(Value.int .i64 0)]) rfl) ?_
 refine oq (qv_ext (.agg #[ζ9,lvt,nvt,ζ10]) rfl rfl) ?_
 refine oq (qv_ext (Value.int .i64 0) rfl rfl) ?_
 refine ops_alloc Try.ti25 rfl (fun b7=>?_)
 refine ops_stw (k:=6) (vs:=[ζ9,lvt,nvt,ζ10]) Try.size25 rfl rfl rfl (allc rfl (allc (Sl.one hMt.l) (allc (SlS.one hMt.n) (allc rfl rfl)))) rfl rfl ?_
 refine oq (qv_as (Value.int .i64 0) rfl) ?_
 refine ops_nil ?_
 refine vc_seq ?_
 refine vc_seq ?_
 let ζ1:Asrt:=Arr 25 b1 [(.int .i64 A.v),la,na,(.int .i64 A.r)]
 let ζ2:Asrt:=Arr 25 b2 [(.int .i64 B.v),lb,nb,(.int .i64 B.r)]
 let ζ13:Value:=.int .i64 ((p2 (hgL A) (k)).b)
 let ζ22:Value:=.int .i64 ((p2 (hgL A) (k)).a)
 refine vc_res (σ':=[ζ1,ζ2,(Arr 25 b3 [(.int .i64 ((smD A k.toNat).v)),lvs,nvs,(.int .i64 ((smD A k.toNat).r))]),(Arr 57 b4 [ζ22,ζ13]),(Arr 59 b5 [(.int .i64 G.v),nvl,(.int .i64 G.r)]),(Arr 25 b6 [(.int .i64 D.v),lvd,nvd,(.int .i64 D.r)]),(Arr 25 b7 [ζ9,lvt,nvt,ζ10])]) rfl ?_
 refine vc_region ?_
 refine oq (qv_mv (Value.int .i64 0) rfl) ?_
 refine oq (qv_mv (Value.int .i64 0) rfl) ?_
 refine oq (qv_add rfl rfl (by omega)) ?_
 refine oq (qv_mv (Value.int .i64 0) rfl) ?_
 refine oq (qv_add rfl rfl (by omega)) ?_
 refine oq (qv_mv (Value.int .i64 0) rfl) ?_
 refine oq (qv_add rfl rfl (by omega)) ?_
 refine oq (qv_neq rfl rfl) ?_
 refine oq (qv_mv (.bool (decide ((((0+0)+0)+0) ≠ 0))) rfl) ?_
 by_cases g8:(((0+0)+0)+0) ≠ 0
 omega
 refine og (qv_mv ζ13 rfl) (want_f g8 rfl rfl rfl) ?_
 refine og (qv_fa (off:=0) Try.field57_1 rfl) (want_f g8 rfl rfl rfl) ?_
 refine og (qv_ldp (v:=ζ13) Try.plain3 rfl (inOc (k:=3) rfl) rfl) (want_f g8 rfl rfl rfl) ?_
 refine og (qv_neq rfl rfl) (want_f g8 rfl rfl rfl) ?_
 refine oq (qv_pick_f g8 rfl (rfl:ev _ _=(.bool (decide (((p2 (hgL A) (k)).b) ≠ ((p2 (hgL A) (k)).b)))))) ?_
 refine ops_nil ?_
 refine vc_if rfl (fun c5=>?_) (fun c5=>?_)
 exact absurd rfl c5
 refine vc_skip ?_
 refine vc_seq ?_
 refine vc_region ?_
 refine oq (qv_ldm (vs:=[ζ9,lvt,nvt,ζ10]) Try.agg25 rfl (inOc (k:=6) rfl) rfl rfl) ?_
 refine ops_stw (k:=2) (vs:=[ζ9,lvt,nvt,ζ10]) Try.size25 rfl rfl rfl (allc rfl (allc (Sl.one hMt.l) (allc (SlS.one hMt.n) (allc rfl rfl)))) rfl rfl ?_
 refine ops_nil ?_
 refine vc_res (σ':=[ζ1,ζ2,(Arr 25 b3 [ζ9,lvt,nvt,ζ10]),(Arr 57 b4 [ζ22,ζ13]),(Arr 59 b5 [(.int .i64 G.v),nvl,(.int .i64 G.r)]),(Arr 25 b6 [(.int .i64 D.v),lvd,nvd,(.int .i64 D.r)]),(Arr 25 b7 [ζ9,lvt,nvt,ζ10])]) rfl ?_
 refine vc_region ?_
 refine oq (qv_mv (.int .i64 (tcN A k.toNat)) rfl) ?_
 refine oq (qv_mv ζ13 rfl) ?_
 refine oq (qv_add rfl rfl (by omega)) ?_
 refine oq (qv_as (.int .i64 ((tcN A k.toNat)+((p2 (hgL A) (k)).b))) rfl) ?_
 refine ops_nil ?_
 let ζ3:Asrt:=Arr 25 b1 [(Value.int .i64 (A.v)),la,na,(Value.int .i64 (A.r))]
 let ζ4:Asrt:=Arr 25 b2 [(Value.int .i64 (B.v)),lb,nb,(Value.int .i64 (B.r))]
 let ζ6:Asrt:=Arr 25 b3 [(Value.int .i64 ((smD A (k.toNat+1)).v)),lvt,nvt,(Value.int .i64 ((smD A (k.toNat+1)).r))]
 let ζ8:Asrt:=Arr 57 b4 [(Value.int .i64 ((p2 (hgL A) (k)).a)),(Value.int .i64 ((p2 (hgL A) (k)).b))]
 let ζ12:Asrt:=Arr 59 b5 [(Value.int .i64 (G.v)),nvl,(Value.int .i64 (G.r))]
 let ζ15:Asrt:=Arr 25 b6 [(Value.int .i64 (D.v)),lvd,nvd,(Value.int .i64 (D.r))]
 refine vc_drop [ζ3,ζ4,ζ6,ζ8,ζ12,ζ15] [(Arr 25 b7 [(Value.int .i64 ((smD A (k.toNat+1)).v)),lvt,nvt,(Value.int .i64 ((smD A (k.toNat+1)).r))])] ((List.perm_middle (l₁:=[ζ3,ζ4,ζ6,ζ8,ζ12,ζ15]) (l₂:=[])).trans (List.perm_append_comm (l₁:=[(Arr 25 b7 [(Value.int .i64 ((smD A (k.toNat+1)).v)),lvt,nvt,(Value.int .i64 ((smD A (k.toNat+1)).r))])]))) ?_
 refine vc_drop [ζ3,ζ4,ζ6,ζ8,ζ12] [ζ15] ((List.perm_middle (l₁:=[ζ3,ζ4,ζ6,ζ8,ζ12]) (l₂:=[])).trans (List.perm_append_comm (l₁:=[ζ15]))) ?_
 refine vc_drop [ζ3,ζ4,ζ6,ζ8] [ζ12] ((List.perm_middle (l₁:=[ζ3,ζ4,ζ6,ζ8]) (l₂:=[])).trans (List.perm_append_comm (l₁:=[ζ12]))) ?_
 refine vc_drop [ζ3,ζ4,ζ6] [ζ8] ((List.perm_middle (l₁:=[ζ3,ζ4,ζ6]) (l₂:=[])).trans (List.perm_append_comm (l₁:=[ζ8]))) ?_
 refine vc_region ?_
 refine oq (qv_add rfl rfl (by omega)) ?_
 refine oq (qv_mv (.int .i64 (k+1)) rfl) ?_
 refine ops_nil ?_
 subst ζ9 ζ10 ζ1 ζ2 ζ13 ζ22 ζ3 ζ4 ζ6 ζ8 ζ12 ζ15
 refine ⟨(k+1,lvt,nvt),⟨rfl,rfl,rfl,rfl,rfl,rfl,rfl,rfl,rfl,rfl,rfl,rfl,rfl,rfl,rfl,rfl,(congrArg (Value.int .i64) (show ((tcN A k.toNat)+((p2 (hgL A) (k)).b))=(tcN A (k+1:Int).toNat) from by rw [show (k+1).toNat=k.toNat+1 by omega,tc_step hokA i1 hk1,hpb])),(congrArg (Value.int .i64) (show (k+1)=((k+1)) from by rfl)),trivial⟩,(show [(Arr 25 b1 [(.int .i64 A.v),la,na,(.int .i64 A.r)]),(Arr 25 b2 [(.int .i64 B.v),lb,nb,(.int .i64 B.r)]),(Arr 25 b3 [(.int .i64 ((smD A (k+1:Int).toNat).v)),lvt,nvt,(.int .i64 ((smD A (k+1:Int).toNat).r))])]=[(Arr 25 b1 [(.int .i64 A.v),la,na,(.int .i64 A.r)]),(Arr 25 b2 [(.int .i64 B.v),lb,nb,(.int .i64 B.r)]),(Arr 25 b3 [(.int .i64 ((smD A (k.toNat+1)).v)),lvt,nvt,(.int .i64 ((smD A (k.toNat+1)).r))])]∧Mt V8 la na A∧P2s V8 u3 (hgL A)∧Mt V8 lvt nvt (smD A (k+1:Int).toNat)∧0≤(k+1:Int)∧(k+1:Int)≤(hgL A).length from ⟨(show [(Arr 25 b1 [(.int .i64 A.v),la,na,(.int .i64 A.r)]),(Arr 25 b2 [(.int .i64 B.v),lb,nb,(.int .i64 B.r)]),(Arr 25 b3 [(.int .i64 ((smD A (k+1:Int).toNat).v)),lvt,nvt,(.int .i64 ((smD A (k+1:Int).toNat).r))])]=[(Arr 25 b1 [(.int .i64 A.v),la,na,(.int .i64 A.r)]),(Arr 25 b2 [(.int .i64 B.v),lb,nb,(.int .i64 B.r)]),(Arr 25 b3 [(.int .i64 ((smD A (k.toNat+1)).v)),lvt,nvt,(.int .i64 ((smD A (k.toNat+1)).r))])] from by rw [show (k+1).toNat=k.toNat+1 by omega]),hA,hH,by rw [show (k+1).toNat=k.toNat+1 by omega]; exact hMt,by omega,by omega⟩),show ((hgL A).length - (k+1)).toNat < ((hgL A).length - k).toNat from by omega⟩
 refine vc_exit ?_
 refine blockQ_hit ?_
 refine vc_seq ?_
 have hk2:A.L.length≤k.toNat:=by omega
 have htc:tcN A k.toNat=2 ^ A.v.toNat:=tc_all hokA hk2
 have hsm:smD A k.toNat=A:=smD_all hokA hk2
 refine vc_region ?_
 refine oq (qv_mv (.int .i64 (tcN A k.toNat)) rfl) ?_
 refine oq (qv_fa (off:=0) Try.field25_0 rfl) ?_
 refine oq (qv_ldp (v:=(.int .i64 A.v)) Try.plain3 rfl (inOc (k:=0) rfl) rfl) ?_
 subst ζ20 ζ1 ζ2 ζ19 ζ17
 refine oq (qv_to (by rw [Int.one_mul]) (qv_shli rfl rfl (by omega) (by omega) (by omega))) ?_
 refine oq (qv_eql rfl rfl) ?_
 refine oq (qv_mv (.bool (decide ((tcN A k.toNat)=((2:Int) ^ (A.v:Int).toNat)))) rfl) ?_
 by_cases g9:(tcN A k.toNat)=((2:Int) ^ (A.v:Int).toNat)
 refine og (qv_ldm (vs:=[(.int .i64 ((smD A k.toNat).v)),lvs,nvs,(.int .i64 ((smD A k.toNat).r))]) Try.agg25 rfl (inOc (k:=2) rfl) rfl rfl) (want_t g9 rfl rfl rfl) ?_
 refine og (qv_ldm (vs:=[(.int .i64 A.v),la,na,(.int .i64 A.r)]) Try.agg25 rfl (inOc (k:=0) rfl) rfl rfl) (want_t g9 rfl rfl rfl) ?_
 let ζ21:Value:=.bool (decide (smD A k.toNat=A))
 refine og (qv_call (v:=ζ21) (same_c hMs hA) rfl rfl) (want_t g9 rfl rfl rfl) ?_
 refine oq (qv_pick_t g9 rfl (rfl:ev _ _=ζ21)) ?_
 refine oq (qv_as ζ21 rfl) ?_
 refine ops_nil ?_
 refine vc_drop [] [(Arr 25 b1 [(.int .i64 A.v),la,na,(.int .i64 A.r)]),(Arr 25 b2 [(.int .i64 B.v),lb,nb,(.int .i64 B.r)]),(Arr 25 b3 [(.int .i64 ((smD A k.toNat).v)),lvs,nvs,(.int .i64 ((smD A k.toNat).r))])] (.refl _) ?_
 refine vc_ret ?_
 exact rq1 (Value.bool true) (congrArg Value.bool (decide_eq_true (show (smD A k.toNat=A) from by first | exact hsm | rfl))) rfl
 exact absurd htc g9
 refine os (want_tn g7 rfl rfl rfl) ?_
 refine os (want_tn g7 rfl rfl rfl) ?_
 refine os (want_tn g7 rfl rfl rfl) ?_
 refine os (want_tn g7 rfl rfl rfl) ?_
 refine os (want_tn g7 rfl rfl rfl) ?_
 refine os (want_tn g7 rfl rfl rfl) ?_
 refine os (want_tn g7 rfl rfl rfl) ?_
 refine og (qv_pick_f g7 rfl (rfl:ev _ _=(Value.bool false))) (want_f g6 rfl rfl rfl) ?_
 refine oq (qv_pick_f g6 rfl (rfl:ev _ _=(Value.bool false))) ?_
 refine ops_nil ?_
 refine vc_ff rfl ?_
 refine vc_skip ?_
 refine vc_seq ?_
 refine vc_region ?_
 refine oq (qv_ldm (vs:=[(.int .i64 A.v),la,na,(.int .i64 A.r)]) Try.agg25 rfl (inOc (k:=0) rfl) rfl rfl) ?_
 refine ops_call (σa:=[]) (σr:=[(Arr 25 b1 [(.int .i64 A.v),la,na,(.int .i64 A.r)]),(Arr 25 b2 [(.int .i64 B.v),lb,nb,(.int .i64 B.r)])]) (by have h:=Histogram_c hA; rw [hvE,hgr] at h; exact h) rfl rfl (.refl _) (fun r9 V9 sg9 hV9 hp9=>?_)
 obtain ⟨rfl,u3,rfl,hH⟩:=hp9
 have hA:=hA.mono hV9
 have hB:=hB.mono hV9
 have hT1:=hT1.mono hV9
 have hT2:=hT2.mono hV9
 refine oq (qv_mv (.tuple #[u3,(Value.int .i64 0)]) rfl) ?_
 refine oq (qv_ext u3 rfl rfl) ?_
 refine oq (qv_ext (Value.int .i64 0) rfl rfl) ?_
 refine oq (qv_as u3 rfl) ?_
 refine oq (qv_as (Value.int .i64 0) rfl) ?_
 refine ops_nil ?_
 refine vc_seq ?_
 refine vc_region ?_
 refine oq (qv_fa (off:=0) Try.field25_0 rfl) ?_
 refine oq (qv_ldp (v:=(.int .i64 A.v)) Try.plain3 rfl (inOc (k:=0) rfl) rfl) ?_
 refine ops_call (σa:=[]) (σr:=[(Arr 25 b1 [(.int .i64 A.v),la,na,(.int .i64 A.r)]),(Arr 25 b2 [(.int .i64 B.v),lb,nb,(.int .i64 B.r)])]) (by have h:=Constant_c (V:=V9) (vars:=A.v) (z:=0); rw [hc0.1,hc0.2] at h; exact h) rfl rfl (.refl _) (fun r10 V10 sg10 hV10 hp10=>?_)
 obtain ⟨rfl,lvz,nvz,rfl,hMz⟩:=hp10
 have hA:=hA.mono hV10
 have hB:=hB.mono hV10
 have hT1:=hT1.mono hV10
 have hT2:=hT2.mono hV10
 have hH:=hH.mono hV10
 let ζ20:Value:=.agg #[(.int .i64 ((smD A 0).v)),lvz,nvz,(.int .i64 ((smD A 0).r))]
 refine oq (qv_mv (.tuple #[ζ20,(Value.int .i64 0)]) rfl) ?_
 refine oq (qv_ext ζ20 rfl rfl) ?_
 refine oq (qv_ext (Value.int .i64 0) rfl rfl) ?_
 refine ops_alloc Try.ti25 rfl (fun b8=>?_)
 refine ops_stw (k:=2) (vs:=[(.int .i64 ((smD A 0).v)),lvz,nvz,(.int .i64 ((smD A 0).r))]) Try.size25 rfl rfl rfl (allc rfl (allc (Sl.one hMz.l) (allc (SlS.one hMz.n) (allc rfl rfl)))) rfl rfl ?_
 refine oq (qv_as (Value.int .i64 0) rfl) ?_
 refine ops_nil ?_
 refine vc_seq ?_
 refine vc_seq ?_
 let ζ1:Asrt:=Arr 25 b1 [(.int .i64 A.v),la,na,(.int .i64 A.r)]
 let ζ2:Asrt:=Arr 25 b2 [(.int .i64 B.v),lb,nb,(.int .i64 B.r)]
 let ζ18:Asrt:=Arr 25 b8 [(.int .i64 ((smD A 0).v)),lvz,nvz,(.int .i64 ((smD A 0).r))]
 refine vc_res (σ':=[ζ1,ζ2,ζ18]) rfl ?_
 refine vc_region ?_
 refine oq (qv_mv (Value.int .i64 0) rfl) ?_
 refine oq (qv_neq rfl rfl) ?_
 refine oq (qv_mv (.bool (decide (0 ≠ 0))) rfl) ?_
 refine og (qv_mv (Value.int .i64 0) rfl) (want_f g6 rfl rfl rfl) ?_
 refine og (qv_neq rfl rfl) (want_f g6 rfl rfl rfl) ?_
 refine oq (qv_pick_f g6 rfl (rfl:ev _ _=(.bool (decide (0 ≠ 0))))) ?_
 refine oq (qv_mv (.bool (decide (0 ≠ 0))) rfl) ?_
 refine og (qv_mv u3 rfl) (want_f g6 rfl rfl rfl) ?_
 refine og (qv_lenSS Try.underlying53 rfl hH) (want_f g6 rfl rfl rfl) ?_
 refine og (qv_gtr rfl rfl) (want_f g6 rfl rfl rfl) ?_
 refine oq (qv_pick_f g6 rfl (rfl:ev _ _=(.bool (decide (300 < (((hgL A).length:Int))))))) ?_
 refine ops_nil ?_
 refine vc_if rfl (fun c6=>?_) (fun c6=>?_)
 omega
 refine vc_skip ?_
 refine vc_seq ?_
 refine vc_region ?_
 refine oq (qv_as (Value.int .i64 0) rfl) ?_
 refine ops_nil ?_
 refine vc_seq ?_
 refine vc_seq ?_
 refine vc_region ?_
 refine oq (qv_mv u3 rfl) ?_
 refine oq (qv_lenSS Try.underlying53 rfl hH) ?_
 refine oq (qv_mv (Value.int .i64 0) rfl) ?_
 refine ops_nil ?_
 refine vc_block ?_
 refine vc_loop (α:=Int × Value × Value) (fun (xx:Int × Value × Value)=>[(0,(.agg #[(.int .i64 A.v),la,na,(.int .i64 A.r)])),(1,(.agg #[(.int .i64 B.v),lb,nb,(.int .i64 B.r)])),(2,(Value.pointer (some ⟨b1,0,none⟩))),(3,(Value.pointer (some ⟨b2,0,none⟩))),(5,u1),(6,(Value.int .i64 0)),(7,u2),(8,(Value.int .i64 0)),(9,u3),(10,(Value.pointer (some ⟨b8,0,none⟩))),(23,(Value.bool false)),(51,(.bool (decide (8 < B.v)))),(83,(Value.bool false)),(105,(.bool (decide (300 < (((hgL A).length:Int)))))),(106,u3),(107,(.int .i64 (((hgL A).length:Int)))),(11,(.int .i64 (tcN A xx.1.toNat))),(108,(Value.int .i64 xx.1))]) (fun (xx:Int × Value × Value) V' σ'=>[ζ1,ζ2,(Arr 25 b8 [(.int .i64 ((smD A xx.1.toNat).v)),xx.2.1,xx.2.2,(.int .i64 ((smD A xx.1.toNat).r))])]=σ'∧Mt V' la na A∧P2s V' u3 (hgL A)∧Mt V' xx.2.1 xx.2.2 (smD A xx.1.toNat)∧0≤xx.1∧xx.1≤(hgL A).length) (fun (xx:Int × Value × Value)=>((hgL A).length - xx.1).toNat) (0,lvz,nvz) ?_ ?_ ?_
 exact ⟨rfl,rfl,rfl,rfl,rfl,rfl,rfl,rfl,rfl,rfl,rfl,rfl,rfl,rfl,rfl,rfl,(congrArg (Value.int .i64) (show 0=(tcN A (0:Int).toNat) from by exact tc_0.symm)),rfl,trivial⟩
 exact (show [ζ1,ζ2,(Arr 25 b8 [(.int .i64 ((smD A (0:Int).toNat).v)),lvz,nvz,(.int .i64 ((smD A (0:Int).toNat).r))])]=[ζ1,ζ2,ζ18]∧Mt V10 la na A∧P2s V10 u3 (hgL A)∧Mt V10 lvz nvz (smD A (0:Int).toNat)∧0≤(0:Int)∧(0:Int)≤(hgL A).length from ⟨(show [ζ1,ζ2,(Arr 25 b8 [(.int .i64 ((smD A (0:Int).toNat).v)),lvz,nvz,(.int .i64 ((smD A (0:Int).toNat).r))])]=[ζ1,ζ2,ζ18] from by rfl),hA,hH,hMz,by omega,by omega⟩)
 rintro ⟨k,lvs,nvs⟩ e2 V0l σ0l hI0
 let ζ16:Asrt:=Arr 25 b8 [(.int .i64 ((smD A k.toNat).v)),lvs,nvs,(.int .i64 ((smD A k.toNat).r))]
 obtain ⟨rfl,hA,hH,hMs,i1,i2⟩:[ζ1,ζ2,ζ16]=σ0l∧Mt V0l la na A∧P2s V0l u3 (hgL A)∧Mt V0l lvs nvs (smD A k.toNat)∧0≤k∧k≤(hgL A).length:=hI0
 change VC _ _ _ _ _ _ (upds 166 [(0,(.agg #[(.int .i64 A.v),la,na,(.int .i64 A.r)])),(1,(.agg #[(.int .i64 B.v),lb,nb,(.int .i64 B.r)])),(2,(Value.pointer (some ⟨b1,0,none⟩))),(3,(Value.pointer (some ⟨b2,0,none⟩))),(5,u1),(6,(Value.int .i64 0)),(7,u2),(8,(Value.int .i64 0)),(9,u3),(10,(Value.pointer (some ⟨b8,0,none⟩))),(23,(Value.bool false)),(51,(.bool (decide (8 < B.v)))),(83,(Value.bool false)),(105,(.bool (decide (300 < (((hgL A).length:Int)))))),(106,u3),(107,(.int .i64 (((hgL A).length:Int)))),(11,(.int .i64 (tcN A k.toNat))),(108,(Value.int .i64 k))] e2) _ _
 refine vc_seq ?_
 refine vc_res (σ':=[ζ1,ζ2,ζ16]) rfl ?_
 refine vc_region ?_
 refine oq (qv_lss rfl rfl) ?_
 refine ops_nil ?_
 refine vc_seq ?_
 refine vc_if rfl (fun c7=>?_) (fun c7=>?_)
 refine vc_skip ?_
 refine vc_seq ?_
 refine vc_block ?_
 refine vc_seq ?_
 have hk1:k < A.L.length:=by omega
 refine vc_region ?_
 refine oq (qv_ias (v:=u3) (i:=k) Try.underlying53 Try.size57 rfl hH rfl (by omega) (by omega)) ?_
 let ζ13:Value:=.int .i64 ((p2 (hgL A) (k)).b)
 let ζ22:Value:=.int .i64 ((p2 (hgL A) (k)).a)
 refine oq (qv_lds (v:=u3) (i:=k) (vs:=[ζ22,ζ13]) Try.agg57 rfl hH (by omega) (by omega) (p2s_at (by omega) (by omega))) ?_
 refine ops_alloc Try.ti57 rfl (fun b9=>?_)
 refine ops_stw (k:=3) (vs:=[ζ22,ζ13]) Try.size57 rfl rfl rfl rfl rfl rfl ?_
 refine ops_nil ?_
 refine vc_seq ?_
 refine vc_res (σ':=[ζ1,ζ2,ζ16,(Arr 57 b9 [ζ22,ζ13])]) rfl ?_
 have hpe:=hg_at (A:=A) (k:=k) i1 hk1
 have hpa:(p2 (hgL A) (k)).a=gi A.L k:=by rw [hpe]
 have hpb:(p2 (hgL A) (k)).b=((vT A).count (gi A.L k):Nat):=by rw [hpe]
 have hlv:=cl_lv (z:=(p2 (hgL A) (k)).a) hokA h12
 obtain ⟨G,hG⟩:∃ X,X=lvF A ((p2 (hgL A) (k)).a):=⟨_,rfl⟩
 subst ζ20 ζ1 ζ2 ζ18 ζ16 ζ13 ζ22
 rw [← hG] at hlv
 have hG12:G.v≤12:=by rw [hG]; exact h12
 have hcz:Bd.vE [G]=0:=by rw [hG]; exact Bd.vE1 (cl_ok hokA h12)
 have hcn:Bd.cnN G=(p2 (hgL A) (k)).b:=by rw [hG,cl_cnt hokA h12,hpa,hpb]
 have had:ofE G.v G.N G.r 0 ((p2 (hgL A) (k)).a)=0∧ofD G.v G.N G.r 0 ((p2 (hgL A) (k)).a)=adD A k:=by rw [hG,hpa]; exact ad_of hokA h12 i1 hk1
 have hap:=ad_step hokA h12 i1 hk1
 obtain ⟨D,hD⟩:∃ X,X=adD A k:=⟨_,rfl⟩
 rw [← hD] at had hap
 have hb1:=tc_bd hokA h12 k.toNat
 have hb2:=ct_bd' hokA h12 (gi A.L k)
 refine vc_region ?_
 refine oq (qv_ldm (vs:=[(.int .i64 A.v),la,na,(.int .i64 A.r)]) Try.agg25 rfl (inOc (k:=0) rfl) rfl rfl) ?_
 refine oq (qv_fa (off:=0) Try.field57_0 rfl) ?_
 refine oq (qv_ldp (v:=(.int .i64 ((p2 (hgL A) (k)).a))) Try.plain3 rfl (inOc (k:=3) rfl) rfl) ?_
 refine ops_call (σa:=[]) (σr:=[(Arr 25 b1 [(.int .i64 A.v),la,na,(.int .i64 A.r)]),(Arr 25 b2 [(.int .i64 B.v),lb,nb,(.int .i64 B.r)]),(Arr 25 b8 [(.int .i64 ((smD A k.toNat).v)),lvs,nvs,(.int .i64 ((smD A k.toNat).r))]),(Arr 57 b9 [(.int .i64 ((p2 (hgL A) (k)).a)),(.int .i64 ((p2 (hgL A) (k)).b))])]) (by have h:=Level_c (x0:=(p2 (hgL A) (k)).a) hA; rw [hlv.1,hlv.2] at h; exact h) rfl rfl (.refl _) (fun r11 V11 sg11 hV11 hp11=>?_)
 obtain ⟨rfl,nvl,rfl,hNl⟩:=hp11
 have hA:=hA.mono hV11
 have hH:=hH.mono hV11
 have hMs:=hMs.mono hV11
 refine oq (qv_mv (.tuple #[(.agg #[(.int .i64 G.v),nvl,(.int .i64 G.r)]),(Value.int .i64 0)]) rfl) ?_
 refine oq (qv_ext (.agg #[(.int .i64 G.v),nvl,(.int .i64 G.r)]) rfl rfl) ?_
 refine oq (qv_ext (Value.int .i64 0) rfl rfl) ?_
 refine ops_alloc Try.ti59 rfl (fun b10=>?_)
 refine ops_stw (k:=4) (vs:=[(.int .i64 G.v),nvl,(.int .i64 G.r)]) Try.size59 rfl rfl rfl (allc rfl (allc (SlS.one hNl) (allc rfl rfl))) rfl rfl ?_
 refine oq (qv_as (Value.int .i64 0) rfl) ?_
 refine ops_nil ?_
 refine vc_seq ?_
 refine vc_res (σ':=[(Arr 25 b1 [(.int .i64 A.v),la,na,(.int .i64 A.r)]),(Arr 25 b2 [(.int .i64 B.v),lb,nb,(.int .i64 B.r)]),(Arr 25 b8 [(.int .i64 ((smD A k.toNat).v)),lvs,nvs,(.int .i64 ((smD A k.toNat).r))]),(Arr 57 b9 [(.int .i64 ((p2 (hgL A) (k)).a)),(.int .i64 ((p2 (hgL A) (k)).b))]),(Arr 59 b10 [(.int .i64 G.v),nvl,(.int .i64 G.r)])]) rfl ?_
 refine vc_region ?_
 refine oq (qv_ldm (vs:=[(.int .i64 G.v),nvl,(.int .i64 G.r)]) Try.agg59 rfl (inOc (k:=4) rfl) rfl rfl) ?_
 refine ops_call (σa:=[]) (σr:=[(Arr 25 b1 [(.int .i64 A.v),la,na,(.int .i64 A.r)]),(Arr 25 b2 [(.int .i64 B.v),lb,nb,(.int .i64 B.r)]),(Arr 25 b8 [(.int .i64 ((smD A k.toNat).v)),lvs,nvs,(.int .i64 ((smD A k.toNat).r))]),(Arr 57 b9 [(.int .i64 ((p2 (hgL A) (k)).a)),(.int .i64 ((p2 (hgL A) (k)).b))]),(Arr 59 b10 [(.int .i64 G.v),nvl,(.int .i64 G.r)])]) (by have h:=Bd.Count_c (A:=G) hNl; rw [hcn,hcz] at h; exact h) rfl rfl (.refl _) (fun r12 V12 sg12 hV12 hp12=>?_)
 obtain ⟨rfl,rfl⟩:=hp12
 have hA:=hA.mono hV12
 have hH:=hH.mono hV12
 have hMs:=hMs.mono hV12
 have hNl:=hNl.mono hV12
 let ζ13:Value:=.int .i64 ((p2 (hgL A) (k)).b)
 refine oq (qv_mv (.tuple #[ζ13,(Value.int .i64 0)]) rfl) ?_
 refine oq (qv_ext ζ13 rfl rfl) ?_
 refine oq (qv_ext (Value.int .i64 0) rfl rfl) ?_
 refine oq (qv_as ζ13 rfl) ?_
 refine oq (qv_as (Value.int .i64 0) rfl) ?_
 refine ops_nil ?_
 refine vc_seq ?_
 refine vc_region ?_
 refine oq (qv_ldm (vs:=[(.int .i64 G.v),nvl,(.int .i64 G.r)]) Try.agg59 rfl (inOc (k:=4) rfl) rfl rfl) ?_
 refine oq (qv_fa (off:=0) Try.field57_0 rfl) ?_
 refine oq (qv_ldp (v:=(.int .i64 ((p2 (hgL A) (k)).a))) Try.plain3 rfl (inOc (k:=3) rfl) rfl) ?_
 subst ζ13
 refine ops_call (σa:=[]) (σr:=[(Arr 25 b1 [(.int .i64 A.v),la,na,(.int .i64 A.r)]),(Arr 25 b2 [(.int .i64 B.v),lb,nb,(.int .i64 B.r)]),(Arr 25 b8 [(.int .i64 ((smD A k.toNat).v)),lvs,nvs,(.int .i64 ((smD A k.toNat).r))]),(Arr 57 b9 [(.int .i64 ((p2 (hgL A) (k)).a)),(.int .i64 ((p2 (hgL A) (k)).b))]),(Arr 59 b10 [(.int .i64 G.v),nvl,(.int .i64 G.r)])]) (by have h:=Of_c (cv:=G.v) (cN:=G.N) (cr:=G.r) (no:=0) (yes:=(p2 (hgL A) (k)).a) hNl (fun _=>hG12); rw [had.1,had.2] at h; exact h) rfl rfl (.refl _) (fun r13 V13 sg13 hV13 hp13=>?_)
 obtain ⟨rfl,lvd,nvd,rfl,hMd⟩:=hp13
 have hA:=hA.mono hV13
 have hH:=hH.mono hV13
 have hMs:=hMs.mono hV13
 have hNl:=hNl.mono hV13
 refine oq (qv_mv (.tuple #[(.agg #[(.int .i64 D.v),lvd,nvd,(.int .i64 D.r)]),(Value.int .i64 0)]) rfl) ?_
 refine oq (qv_ext (.agg #[(.int .i64 D.v),lvd,nvd,(.int .i64 D.r)]) rfl rfl) ?_
 refine oq (qv_ext (Value.int .i64 0) rfl rfl) ?_
 refine ops_alloc Try.ti25 rfl (fun b11=>?_)
 refine ops_stw (k:=5) (vs:=[(.int .i64 D.v),lvd,nvd,(.int .i64 D.r)]) Try.size25 rfl rfl rfl (allc rfl (allc (Sl.one hMd.l) (allc (SlS.one hMd.n) (allc rfl rfl)))) rfl rfl ?_
 refine oq (qv_as (Value.int .i64 0) rfl) ?_
 refine ops_nil ?_
 refine vc_seq ?_
 refine vc_res (σ':=[(Arr 25 b1 [(.int .i64 A.v),la,na,(.int .i64 A.r)]),(Arr 25 b2 [(.int .i64 B.v),lb,nb,(.int .i64 B.r)]),(Arr 25 b8 [(.int .i64 ((smD A k.toNat).v)),lvs,nvs,(.int .i64 ((smD A k.toNat).r))]),(Arr 57 b9 [(.int .i64 ((p2 (hgL A) (k)).a)),(.int .i64 ((p2 (hgL A) (k)).b))]),(Arr 59 b10 [(.int .i64 G.v),nvl,(.int .i64 G.r)]),(Arr 25 b11 [(.int .i64 D.v),lvd,nvd,(.int .i64 D.r)])]) rfl ?_
 refine vc_region ?_
 refine oq (qv_ldm (vs:=[(.int .i64 ((smD A k.toNat).v)),lvs,nvs,(.int .i64 ((smD A k.toNat).r))]) Try.agg25 rfl (inOc (k:=2) rfl) rfl rfl) ?_
 refine oq (qv_ldm (vs:=[(.int .i64 D.v),lvd,nvd,(.int .i64 D.r)]) Try.agg25 rfl (inOc (k:=5) rfl) rfl rfl) ?_
 refine ops_call (σa:=[]) (σr:=[(Arr 25 b1 [(.int .i64 A.v),la,na,(.int .i64 A.r)]),(Arr 25 b2 [(.int .i64 B.v),lb,nb,(.int .i64 B.r)]),(Arr 25 b8 [(.int .i64 ((smD A k.toNat).v)),lvs,nvs,(.int .i64 ((smD A k.toNat).r))]),(Arr 57 b9 [(.int .i64 ((p2 (hgL A) (k)).a)),(.int .i64 ((p2 (hgL A) (k)).b))]),(Arr 59 b10 [(.int .i64 G.v),nvl,(.int .i64 G.r)]),(Arr 25 b11 [(.int .i64 D.v),lvd,nvd,(.int .i64 D.r)])]) (by have h:=Apply_c (op:=0) hMs hMd; rw [hap.1,hap.2] at h; exact h) rfl rfl (.refl _) (fun r14 V14 sg14 hV14 hp14=>?_)
 obtain ⟨rfl,lvt,nvt,rfl,hMt⟩:=hp14
 have hA:=hA.mono hV14
 have hH:=hH.mono hV14
 have hMs:=hMs.mono hV14
 have hNl:=hNl.mono hV14
 have hMd:=hMd.mono hV14
 let ζ9:Value:=.int .i64 ((smD A (k.toNat+1)).v)
 let ζ10:Value:=.int .i64 ((smD A (k.toNat+1)).r)
 refine oq (qv_mv (.tuple #[(.agg #[ζ9,lvt,nvt,ζ10]),(Value.int .i64 0)]) rfl) ?_
 refine oq (qv_ext (.agg #[ζ9,lvt,nvt,ζ10]) rfl rfl) ?_
 refine oq (qv_ext (Value.int .i64 0) rfl rfl) ?_
 refine ops_alloc Try.ti25 rfl (fun b12=>?_)
 refine ops_stw (k:=6) (vs:=[ζ9,lvt,nvt,ζ10]) Try.size25 rfl rfl rfl (allc rfl (allc (Sl.one hMt.l) (allc (SlS.one hMt.n) (allc rfl rfl)))) rfl rfl ?_
 refine oq (qv_as (Value.int .i64 0) rfl) ?_
 refine ops_nil ?_
 refine vc_seq ?_
 refine vc_seq ?_
 let ζ1:Asrt:=Arr 25 b1 [(.int .i64 A.v),la,na,(.int .i64 A.r)]
 let ζ2:Asrt:=Arr 25 b2 [(.int .i64 B.v),lb,nb,(.int .i64 B.r)]
 let ζ13:Value:=.int .i64 ((p2 (hgL A) (k)).b)
 let ζ22:Value:=.int .i64 ((p2 (hgL A) (k)).a)
 refine vc_res (σ':=[ζ1,ζ2,(Arr 25 b8 [(.int .i64 ((smD A k.toNat).v)),lvs,nvs,(.int .i64 ((smD A k.toNat).r))]),(Arr 57 b9 [ζ22,ζ13]),(Arr 59 b10 [(.int .i64 G.v),nvl,(.int .i64 G.r)]),(Arr 25 b11 [(.int .i64 D.v),lvd,nvd,(.int .i64 D.r)]),(Arr 25 b12 [ζ9,lvt,nvt,ζ10])]) rfl ?_
 refine vc_region ?_
 refine oq (qv_mv (Value.int .i64 0) rfl) ?_
 refine oq (qv_mv (Value.int .i64 0) rfl) ?_
 refine oq (qv_add rfl rfl (by omega)) ?_
 refine oq (qv_mv (Value.int .i64 0) rfl) ?_
 refine oq (qv_add rfl rfl (by omega)) ?_
 refine oq (qv_mv (Value.int .i64 0) rfl) ?_
 refine oq (qv_add rfl rfl (by omega)) ?_
 refine oq (qv_neq rfl rfl) ?_
 refine oq (qv_mv (.bool (decide ((((0+0)+0)+0) ≠ 0))) rfl) ?_
 by_cases g10:(((0+0)+0)+0) ≠ 0
 omega
 refine og (qv_mv ζ13 rfl) (want_f g10 rfl rfl rfl) ?_
 refine og (qv_fa (off:=0) Try.field57_1 rfl) (want_f g10 rfl rfl rfl) ?_
 refine og (qv_ldp (v:=ζ13) Try.plain3 rfl (inOc (k:=3) rfl) rfl) (want_f g10 rfl rfl rfl) ?_
 refine og (qv_neq rfl rfl) (want_f g10 rfl rfl rfl) ?_
 refine oq (qv_pick_f g10 rfl (rfl:ev _ _=(.bool (decide (((p2 (hgL A) (k)).b) ≠ ((p2 (hgL A) (k)).b)))))) ?_
 refine ops_nil ?_
 refine vc_if rfl (fun c8=>?_) (fun c8=>?_)
 exact absurd rfl c8
 refine vc_skip ?_
 refine vc_seq ?_
 refine vc_region ?_
 refine oq (qv_ldm (vs:=[ζ9,lvt,nvt,ζ10]) Try.agg25 rfl (inOc (k:=6) rfl) rfl rfl) ?_
 refine ops_stw (k:=2) (vs:=[ζ9,lvt,nvt,ζ10]) Try.size25 rfl rfl rfl (allc rfl (allc (Sl.one hMt.l) (allc (SlS.one hMt.n) (allc rfl rfl)))) rfl rfl ?_
 refine ops_nil ?_
 refine vc_res (σ':=[ζ1,ζ2,(Arr 25 b8 [ζ9,lvt,nvt,ζ10]),(Arr 57 b9 [ζ22,ζ13]),(Arr 59 b10 [(.int .i64 G.v),nvl,(.int .i64 G.r)]),(Arr 25 b11 [(.int .i64 D.v),lvd,nvd,(.int .i64 D.r)]),(Arr 25 b12 [ζ9,lvt,nvt,ζ10])]) rfl ?_
 refine vc_region ?_
 refine oq (qv_mv (.int .i64 (tcN A k.toNat)) rfl) ?_
 refine oq (qv_mv ζ13 rfl) ?_
 refine oq (qv_add rfl rfl (by omega)) ?_
 refine oq (qv_as (.int .i64 ((tcN A k.toNat)+((p2 (hgL A) (k)).b))) rfl) ?_
 refine ops_nil ?_
 let ζ3:Asrt:=Arr 25 b1 [(Value.int .i64 (A.v)),la,na,(Value.int .i64 (A.r))]
 let ζ4:Asrt:=Arr 25 b2 [(Value.int .i64 (B.v)),lb,nb,(Value.int .i64 (B.r))]
 let ζ5:Asrt:=Arr 25 b8 [(Value.int .i64 ((smD A (k.toNat+1)).v)),lvt,nvt,(Value.int .i64 ((smD A (k.toNat+1)).r))]
 let ζ7:Asrt:=Arr 57 b9 [(Value.int .i64 ((p2 (hgL A) (k)).a)),(Value.int .i64 ((p2 (hgL A) (k)).b))]
 let ζ11:Asrt:=Arr 59 b10 [(Value.int .i64 (G.v)),nvl,(Value.int .i64 (G.r))]
 let ζ14:Asrt:=Arr 25 b11 [(Value.int .i64 (D.v)),lvd,nvd,(Value.int .i64 (D.r))]
 refine vc_drop [ζ3,ζ4,ζ5,ζ7,ζ11,ζ14] [(Arr 25 b12 [(Value.int .i64 ((smD A (k.toNat+1)).v)),lvt,nvt,(Value.int .i64 ((smD A (k.toNat+1)).r))])] ((List.perm_middle (l₁:=[ζ3,ζ4,ζ5,ζ7,ζ11,ζ14]) (l₂:=[])).trans (List.perm_append_comm (l₁:=[(Arr 25 b12 [(Value.int .i64 ((smD A (k.toNat+1)).v)),lvt,nvt,(Value.int .i64 ((smD A (k.toNat+1)).r))])]))) ?_
 refine vc_drop [ζ3,ζ4,ζ5,ζ7,ζ11] [ζ14] ((List.perm_middle (l₁:=[ζ3,ζ4,ζ5,ζ7,ζ11]) (l₂:=[])).trans (List.perm_append_comm (l₁:=[ζ14]))) ?_
 refine vc_drop [ζ3,ζ4,ζ5,ζ7] [ζ11] ((List.perm_middle (l₁:=[ζ3,ζ4,ζ5,ζ7]) (l₂:=[])).trans (List.perm_append_comm (l₁:=[ζ11]))) ?_
 refine vc_drop [ζ3,ζ4,ζ5] [ζ7] ((List.perm_middle (l₁:=[ζ3,ζ4,ζ5]) (l₂:=[])).trans (List.perm_append_comm (l₁:=[ζ7]))) ?_
 refine vc_region ?_
 refine oq (qv_add rfl rfl (by omega)) ?_
 refine oq (qv_mv (.int .i64 (k+1)) rfl) ?_
 refine ops_nil ?_
 subst ζ9 ζ10 ζ1 ζ2 ζ13 ζ22 ζ3 ζ4 ζ5 ζ7 ζ11 ζ14
 refine ⟨(k+1,lvt,nvt),⟨rfl,rfl,rfl,rfl,rfl,rfl,rfl,rfl,rfl,rfl,rfl,rfl,rfl,rfl,rfl,rfl,(congrArg (Value.int .i64) (show ((tcN A k.toNat)+((p2 (hgL A) (k)).b))=(tcN A (k+1:Int).toNat) from by rw [show (k+1).toNat=k.toNat+1 by omega,tc_step hokA i1 hk1,hpb])),(congrArg (Value.int .i64) (show (k+1)=((k+1)) from by rfl)),trivial⟩,(show [(Arr 25 b1 [(.int .i64 A.v),la,na,(.int .i64 A.r)]),(Arr 25 b2 [(.int .i64 B.v),lb,nb,(.int .i64 B.r)]),(Arr 25 b8 [(.int .i64 ((smD A (k+1:Int).toNat).v)),lvt,nvt,(.int .i64 ((smD A (k+1:Int).toNat).r))])]=[(Arr 25 b1 [(.int .i64 A.v),la,na,(.int .i64 A.r)]),(Arr 25 b2 [(.int .i64 B.v),lb,nb,(.int .i64 B.r)]),(Arr 25 b8 [(.int .i64 ((smD A (k.toNat+1)).v)),lvt,nvt,(.int .i64 ((smD A (k.toNat+1)).r))])]∧Mt V14 la na A∧P2s V14 u3 (hgL A)∧Mt V14 lvt nvt (smD A (k+1:Int).toNat)∧0≤(k+1:Int)∧(k+1:Int)≤(hgL A).length from ⟨(show [(Arr 25 b1 [(.int .i64 A.v),la,na,(.int .i64 A.r)]),(Arr 25 b2 [(.int .i64 B.v),lb,nb,(.int .i64 B.r)]),(Arr 25 b8 [(.int .i64 ((smD A (k+1:Int).toNat).v)),lvt,nvt,(.int .i64 ((smD A (k+1:Int).toNat).r))])]=[(Arr 25 b1 [(.int .i64 A.v),la,na,(.int .i64 A.r)]),(Arr 25 b2 [(.int .i64 B.v),lb,nb,(.int .i64 B.r)]),(Arr 25 b8 [(.int .i64 ((smD A (k.toNat+1)).v)),lvt,nvt,(.int .i64 ((smD A (k.toNat+1)).r))])] from by rw [show (k+1).toNat=k.toNat+1 by omega]),hA,hH,by rw [show (k+1).toNat=k.toNat+1 by omega]; exact hMt,by omega,by omega⟩),show ((hgL A).length - (k+1)).toNat < ((hgL A).length - k).toNat from by omega⟩
 refine vc_exit ?_
 refine blockQ_hit ?_
 refine vc_seq ?_
 have hk2:A.L.length≤k.toNat:=by omega
 have htc:tcN A k.toNat=2 ^ A.v.toNat:=tc_all hokA hk2
 have hsm:smD A k.toNat=A:=smD_all hokA hk2
 refine vc_region ?_
 refine oq (qv_mv (.int .i64 (tcN A k.toNat)) rfl) ?_
 refine oq (qv_fa (off:=0) Try.field25_0 rfl) ?_
 refine oq (qv_ldp (v:=(.int .i64 A.v)) Try.plain3 rfl (inOc (k:=0) rfl) rfl) ?_
 subst ζ20 ζ1 ζ2 ζ18 ζ16
 refine oq (qv_to (by rw [Int.one_mul]) (qv_shli rfl rfl (by omega) (by omega) (by omega))) ?_
 refine oq (qv_eql rfl rfl) ?_
 refine oq (qv_mv (.bool (decide ((tcN A k.toNat)=((2:Int) ^ (A.v:Int).toNat)))) rfl) ?_
 by_cases g11:(tcN A k.toNat)=((2:Int) ^ (A.v:Int).toNat)
 refine og (qv_ldm (vs:=[(.int .i64 ((smD A k.toNat).v)),lvs,nvs,(.int .i64 ((smD A k.toNat).r))]) Try.agg25 rfl (inOc (k:=2) rfl) rfl rfl) (want_t g11 rfl rfl rfl) ?_
 refine og (qv_ldm (vs:=[(.int .i64 A.v),la,na,(.int .i64 A.r)]) Try.agg25 rfl (inOc (k:=0) rfl) rfl rfl) (want_t g11 rfl rfl rfl) ?_
 let ζ21:Value:=.bool (decide (smD A k.toNat=A))
 refine og (qv_call (v:=ζ21) (same_c hMs hA) rfl rfl) (want_t g11 rfl rfl rfl) ?_
 refine oq (qv_pick_t g11 rfl (rfl:ev _ _=ζ21)) ?_
 refine oq (qv_as ζ21 rfl) ?_
 refine ops_nil ?_
 refine vc_drop [] [(Arr 25 b1 [(.int .i64 A.v),la,na,(.int .i64 A.r)]),(Arr 25 b2 [(.int .i64 B.v),lb,nb,(.int .i64 B.r)]),(Arr 25 b8 [(.int .i64 ((smD A k.toNat).v)),lvs,nvs,(.int .i64 ((smD A k.toNat).r))])] (.refl _) ?_
 refine vc_ret ?_
 exact rq1 (Value.bool true) (congrArg Value.bool (decide_eq_true (show (smD A k.toNat=A) from by first | exact hsm | rfl))) rfl
 exact absurd htc g11
end Go.Proofs.Ytkmhjcjpohpiaaa
