import Derived.Test.YtkmhjcjpohpiaaaWm
import Derived.Test.YtkmhjcjpohpiaaaTy
/- Walks of mtbdd: what each function returns. Printed by a program out of notes. -/
namespace Go.Proofs.Ytkmhjcjpohpiaaa
open Go.Vc
open Classical
set_option maxRecDepth 100000
set_option maxHeartbeats 4000000
theorem inRange_c {V:HV} {z:Int} :
    FnC Try.prog 63 [(Value.int .i64 z)] V [] (fun v _ _=>v=(.bool (decide (inR z)))):=by
 refine fn_intro (N:=9) Try.func63 (by kernel_rfl) rfl rfl rfl (Nat.le_of_ble_eq_true rfl) ?_
 intro w0 D
 refine vc_seq ?_
 refine vc_region ?_
 refine oq (qv_as (Value.bool false) rfl) ?_
 refine ops_nil ?_
 refine vc_seq ?_
 refine vc_region ?_
 refine oq (qv_mv (Value.int .i64 z) rfl) ?_
 refine oq (qv_geq rfl rfl) ?_
 refine oq (qv_mv (.bool (decide (((-1099511627776))≤z))) rfl) ?_
 by_cases g1:((-1099511627776))≤z
 refine og (qv_mv (Value.int .i64 z) rfl) (want_t g1 rfl rfl rfl) ?_
 refine og (qv_leq rfl rfl) (want_t g1 rfl rfl rfl) ?_
 refine oq (qv_pick_t g1 rfl (rfl:ev _ _=(.bool (decide (z≤1099511627776))))) ?_
 refine oq (qv_as (.bool (decide (z≤1099511627776))) rfl) ?_
 refine ops_nil ?_
 refine vc_ret ?_
 exact rq1 (.bool (decide (inR z))) (congrArg Value.bool (decide_eq_decide.2 (show (z≤1099511627776) ↔ (inR z) from by exact ⟨fun q=>⟨by omega,by omega⟩,fun q=>by have:=q.1; have:=q.2; omega⟩))) rfl
 refine os (want_tn g1 rfl rfl rfl) ?_
 refine os (want_tn g1 rfl rfl rfl) ?_
 refine oq (qv_pick_f g1 rfl (rfl:ev _ _=(Value.bool false))) ?_
 refine oq (qv_as (Value.bool false) rfl) ?_
 refine ops_nil ?_
 refine vc_ret ?_
 exact rq1 (.bool (decide (inR z))) (congrArg Value.bool (decide_eq_false (show ¬ (inR z) from by exact fun q=>by have:=q.1; have:=q.2; omega)).symm) rfl
theorem top_c {V:HV} {la na:Value} {A:Mg} (hA:Mt V la na A) {r:Int} (h0:0≤r) (h1:r < A.L.length+A.N.length) :
    FnC Try.prog 94 [(.agg #[(.int .i64 A.v),la,na,(.int .i64 A.r)]),(Value.int .i64 r)] V [] (fun v _ _=>v=(.int .i64 (tp A r))):=by
 refine fn_intro (N:=22) Try.func94 (by kernel_rfl) rfl rfl rfl (Nat.le_of_ble_eq_true rfl) ?_
 intro w0 D
 have hbl:=Ints.bound hA.l
 have hbn:=SlS.bound hA.n
 refine vc_seq ?_
 refine vc_region ?_
 refine ops_box (v:=(.agg #[(.int .i64 A.v),la,na,(.int .i64 A.r)])) (cs:=[(.int .i64 A.v),la,na,(.int .i64 A.r)]) rfl rfl (fun b1=>?_)
 refine oq (qv_as (Value.int .i64 0) rfl) ?_
 refine ops_nil ?_
 refine vc_seq ?_
 refine vc_seq ?_
 refine vc_res (σ':=[(Arr 25 b1 [(.int .i64 A.v),la,na,(.int .i64 A.r)])]) rfl ?_
 refine vc_region ?_
 refine oq (qv_mv (Value.int .i64 r) rfl) ?_
 refine oq (qv_fa (off:=0) Try.field25_1 rfl) ?_
 refine oq (qv_ldp (v:=la) Try.plain22 rfl (inOc (k:=0) rfl) rfl) ?_
 refine oq (qv_lenI Try.underlying22 rfl (hA.l)) ?_
 refine oq (qv_lss rfl rfl) ?_
 refine ops_nil ?_
 refine vc_if rfl (fun c1=>?_) (fun c1=>?_)
 refine vc_seq ?_
 refine vc_region ?_
 refine oq (qv_fa (off:=0) Try.field25_0 rfl) ?_
 refine oq (qv_ldp (v:=(.int .i64 A.v)) Try.plain3 rfl (inOc (k:=0) rfl) rfl) ?_
 refine oq (qv_as (.int .i64 A.v) rfl) ?_
 refine ops_nil ?_
 refine vc_ret ?_
 exact rq1 (.int .i64 (tp A r)) (congrArg (Value.int .i64) (show A.v=(tp A r) from by first | (rw [tp_l (by omega)]; done) | (rw [tp_n (by omega)]; done))) rfl
 refine vc_skip ?_
 refine vc_seq ?_
 refine vc_region ?_
 refine oq (qv_fa (off:=0) Try.field25_2 rfl) ?_
 refine oq (qv_ldp (v:=na) Try.plain23 rfl (inOc (k:=0) rfl) rfl) ?_
 refine oq (qv_mv (Value.int .i64 r) rfl) ?_
 refine oq (qv_fa (off:=0) Try.field25_1 rfl) ?_
 refine oq (qv_ldp (v:=la) Try.plain22 rfl (inOc (k:=0) rfl) rfl) ?_
 refine oq (qv_lenI Try.underlying22 rfl (hA.l)) ?_
 refine oq (qv_sub rfl rfl (by omega)) ?_
 refine oq (qv_ias (v:=na) (i:=r - ((A.L.length:Int))) Try.underlying23 Try.size80 rfl (hA.n) rfl (by omega) (by omega)) ?_
 refine oq (qv_fas Try.field80_0 rfl (hA.n) (by omega) (by omega)) ?_
 refine oq (qv_ldf (u:=(.int .i64 ((fk A.N (r - ((A.L.length:Int)))).v))) (v:=na) (i:=r - ((A.L.length:Int))) Try.plain3 rfl (hA.n) (by omega) (by omega) (by omega) (fks_el (o:=0) (by omega) (by omega) (by omega) rfl)) ?_
 refine oq (qv_as (.int .i64 ((fk A.N (r - ((A.L.length:Int)))).v)) rfl) ?_
 refine ops_nil ?_
 refine vc_ret ?_
 exact rq1 (.int .i64 (tp A r)) (congrArg (Value.int .i64) (show ((fk A.N (r - ((A.L.length:Int)))).v)=(tp A r) from by first | (rw [tp_l (by omega)]; done) | (rw [tp_n (by omega)]; done))) rfl
theorem step_c {V:HV} {la na:Value} {A:Mg} (hA:Mt V la na A) {r x:Int} {hi:Prop} [Decidable hi] (h0:0≤r) (h1:r < A.L.length+A.N.length) (hv:x < A.v) :
    FnC Try.prog 100 [(.agg #[(.int .i64 A.v),la,na,(.int .i64 A.r)]),(Value.int .i64 r),(Value.int .i64 x),(.bool (decide (hi)))] V [] (fun v _ _=>v=(.int .i64 (stp A r x hi))):=by
 refine fn_intro (N:=30) Try.func100 (by kernel_rfl) rfl rfl rfl (Nat.le_of_ble_eq_true rfl) ?_
 intro w0 D
 have hbl:=Ints.bound hA.l
 have hbn:=SlS.bound hA.n
 refine vc_seq ?_
 refine vc_region ?_
 refine ops_box (v:=(.agg #[(.int .i64 A.v),la,na,(.int .i64 A.r)])) (cs:=[(.int .i64 A.v),la,na,(.int .i64 A.r)]) rfl rfl (fun b1=>?_)
 refine oq (qv_as (Value.int .i64 0) rfl) ?_
 refine ops_nil ?_
 refine vc_seq ?_
 refine vc_seq ?_
 refine vc_res (σ':=[(Arr 25 b1 [(.int .i64 A.v),la,na,(.int .i64 A.r)])]) rfl ?_
 refine vc_region ?_
 refine oq (qv_ldm (vs:=[(.int .i64 A.v),la,na,(.int .i64 A.r)]) Try.agg25 rfl (inOc (k:=0) rfl) rfl rfl) ?_
 refine oq (qv_mv (Value.int .i64 r) rfl) ?_
 refine oq (qv_call (v:=(.int .i64 (tp A r))) (top_c hA (by omega) (by omega)) rfl rfl) ?_
 refine oq (qv_mv (Value.int .i64 x) rfl) ?_
 refine oq (qv_neq rfl rfl) ?_
 refine ops_nil ?_
 refine vc_if rfl (fun c1=>?_) (fun c1=>?_)
 refine vc_seq ?_
 refine vc_region ?_
 refine oq (qv_mv (Value.int .i64 r) rfl) ?_
 refine oq (qv_as (Value.int .i64 r) rfl) ?_
 refine ops_nil ?_
 refine vc_ret ?_
 exact rq1 (.int .i64 (stp A r x hi)) (congrArg (Value.int .i64) (show r=(stp A r x hi) from by first | (rw [stp_0 (by assumption)]; done) | (rw [stp_h hlv (by assumption)]; done) | (rw [stp_l hlv (by assumption)]; done))) rfl
 refine vc_skip ?_
 refine vc_seq ?_
 have hlv:tp A r=x:=by omega
 have hr2:¬ r < A.L.length:=fun q=>by rw [tp_l q] at hlv; omega
 refine vc_region ?_
 refine oq (qv_fa (off:=0) Try.field25_2 rfl) ?_
 refine oq (qv_ldp (v:=na) Try.plain23 rfl (inOc (k:=0) rfl) rfl) ?_
 refine oq (qv_mv (Value.int .i64 r) rfl) ?_
 refine oq (qv_fa (off:=0) Try.field25_1 rfl) ?_
 refine oq (qv_ldp (v:=la) Try.plain22 rfl (inOc (k:=0) rfl) rfl) ?_
 refine oq (qv_lenI Try.underlying22 rfl (hA.l)) ?_
 refine oq (qv_sub rfl rfl (by omega)) ?_
 refine oq (qv_ias (v:=na) (i:=r - ((A.L.length:Int))) Try.underlying23 Try.size80 rfl (hA.n) rfl (by omega) (by omega)) ?_
 let ζ1:Value:=.int .i64 ((fk A.N (r - ((A.L.length:Int)))).l)
 let ζ2:Value:=.int .i64 ((fk A.N (r - ((A.L.length:Int)))).h)
 let ζ3:Value:=.int .i64 ((fk A.N (r - ((A.L.length:Int)))).v)
 refine oq (qv_lds (v:=na) (i:=r - ((A.L.length:Int))) (vs:=[ζ3,ζ1,ζ2]) Try.agg80 rfl (hA.n) (by omega) (by omega) (fks_at (by omega) (by omega))) ?_
 refine ops_alloc Try.ti80 rfl (fun b2=>?_)
 refine ops_stw (k:=1) (vs:=[ζ3,ζ1,ζ2]) Try.size80 rfl rfl rfl rfl rfl rfl ?_
 refine ops_nil ?_
 refine vc_seq ?_
 refine vc_seq ?_
 refine vc_res (σ':=[(Arr 25 b1 [(.int .i64 A.v),la,na,(.int .i64 A.r)]),(Arr 80 b2 [ζ3,ζ1,ζ2])]) rfl ?_
 refine vc_region ?_
 refine oq (qv_mv (.bool (decide (hi))) rfl) ?_
 refine ops_nil ?_
 refine vc_if rfl (fun c2=>?_) (fun c2=>?_)
 refine vc_seq ?_
 refine vc_region ?_
 refine oq (qv_fa (off:=0) Try.field80_2 rfl) ?_
 refine oq (qv_ldp (v:=ζ2) Try.plain3 rfl (inOc (k:=1) rfl) rfl) ?_
 refine oq (qv_as ζ2 rfl) ?_
 refine ops_nil ?_
 refine vc_ret ?_
 subst ζ1 ζ2 ζ3
 exact rq1 (.int .i64 (stp A r x hi)) (congrArg (Value.int .i64) (show ((fk A.N (r - ((A.L.length:Int)))).h)=(stp A r x hi) from by first | (rw [stp_0 (by assumption)]; done) | (rw [stp_h hlv (by assumption)]; done) | (rw [stp_l hlv (by assumption)]; done))) rfl
 refine vc_skip ?_
 refine vc_seq ?_
 refine vc_region ?_
 refine oq (qv_fa (off:=0) Try.field80_1 rfl) ?_
 refine oq (qv_ldp (v:=ζ1) Try.plain3 rfl (inOc (k:=1) rfl) rfl) ?_
 refine oq (qv_as ζ1 rfl) ?_
 refine ops_nil ?_
 refine vc_ret ?_
 subst ζ1 ζ2 ζ3
 exact rq1 (.int .i64 (stp A r x hi)) (congrArg (Value.int .i64) (show ((fk A.N (r - ((A.L.length:Int)))).l)=(stp A r x hi) from by first | (rw [stp_0 (by assumption)]; done) | (rw [stp_h hlv (by assumption)]; done) | (rw [stp_l hlv (by assumption)]; done))) rfl
theorem fk_key:KeyT Try.prog 80 fkv:=KeyT.flat Try.eq80 (fun n:Fk=>[n.v,n.l,n.h]) (fun _=>rfl) fun a b h=>by
  simp at h; exact Fk.eq h.1 h.2.1 h.2.2
theorem leaf_c {V:HV} {L:List Int} {M:List Fk} {z:Int} {bb ba bi:Nat} {u w:Value} (hL:L.length≤2199023255552) :
    FnC Try.prog 58 [(Value.pointer (some ⟨bb,0,none⟩)),(Value.int .i64 z)] V [(Arr 113 bb [u,w,(Value.map (some ba)),(Value.map (some bi)),(.bool (decide (wd L)))]),(Gr 3 1 u L.length ((L.map (Value.int .i64)))),(Gr 80 3 w M.length ((fks M))),(Mf ba (Value.int .i64) (Value.int .i64) (lfF L)),(Mf bi fkv (Value.int .i64) (idF M))] (fun v _ σ'=>v=.int .i64 (lfR L z).2∧∃ u',σ' = [Arr 113 bb [u',w,.map (some ba),.map (some bi),.bool (decide (wd (lfR L z).1))],Gr 3 1 u' (lfR L z).1.length ((lfR L z).1.map (Value.int .i64)),Gr 80 3 w M.length (fks M),Mf ba (Value.int .i64) (Value.int .i64) (lfF (lfR L z).1),Mf bi fkv (Value.int .i64) (idF M)]):=by
 refine fn_intro (N:=53) Try.func58 (by kernel_rfl) rfl rfl rfl (Nat.le_of_ble_eq_true rfl) ?_
 intro w0 D
 have hbd:=lfF_bd L z
 refine vc_seq ?_
 let ζ3:Asrt:=Mf bi fkv (Value.int .i64) (idF M)
 let ζ5:Asrt:=Gr 80 3 w M.length ((fks M))
 let ζ9:Asrt:=Arr 113 bb [u,w,(Value.map (some ba)),(Value.map (some bi)),(.bool (decide (wd L)))]
 refine vc_res (σ':=[ζ9,(Gr 3 1 u L.length ((L.map (Value.int .i64)))),ζ5,(Mf ba (Value.int .i64) (Value.int .i64) (lfF L)),ζ3]) rfl ?_
 refine vc_region ?_
 refine oq (qv_as (Value.int .i64 0) rfl) ?_
 refine ops_nil ?_
 refine vc_seq ?_
 refine vc_region ?_
 let ζ7:Value:=Value.pointer (some ⟨bb,0,none⟩)
 refine oq (qv_mv ζ7 rfl) ?_
 refine oq (qv_nilck rfl) ?_
 refine oq (qv_fa (off:=0) Try.field113_2 rfl) ?_
 refine oq (qv_ldp (v:=(Value.map (some ba))) Try.plain110 rfl (inOc (k:=0) rfl) rfl) ?_
 refine oq (qv_mv (Value.int .i64 z) rfl) ?_
 refine oq (qv_look (a0:=0) (key:=z) (k:=3) Try.underlying110 (KeyT.int Try.underlying3) Try.ti3 rfl rfl rfl) ?_
 let ζ8:Value:=.bool (decide (((lfF L) z).isSome=true))
 let ζ10:Value:=.int .i64 (((lfF L) z).getD 0)
 refine oq (qv_mv (.tuple #[ζ10,ζ8]) rfl) ?_
 refine oq (qv_ext ζ10 rfl rfl) ?_
 refine oq (qv_ext ζ8 rfl rfl) ?_
 refine oq (qv_as ζ10 rfl) ?_
 refine oq (qv_as ζ8 rfl) ?_
 refine ops_nil ?_
 refine vc_seq ?_
 refine vc_seq ?_
 refine vc_region ?_
 refine oq (qv_mv ζ8 rfl) ?_
 refine oq (qv_not rfl) ?_
 refine ops_nil ?_
 refine vc_if rfl (fun c1=>?_) (fun c1=>?_)
 refine vc_seq ?_
 refine vc_region ?_
 refine oq (qv_mv ζ7 rfl) ?_
 refine oq (qv_nilck rfl) ?_
 refine oq (qv_fa (off:=0) Try.field113_0 rfl) ?_
 refine oq (qv_ldp (v:=u) Try.plain22 rfl (inOc (k:=0) rfl) rfl) ?_
 refine oq (qv_lenGi Try.underlying22 rfl (inGi (k:=1) rfl)) ?_
 refine oq (qv_as (.int .i64 ((L.length:Int))) rfl) ?_
 refine ops_nil ?_
 refine vc_seq ?_
 refine vc_region ?_
 refine oq (qv_mv ζ7 rfl) ?_
 refine oq (qv_nilck rfl) ?_
 refine oq (qv_fa (off:=0) Try.field113_2 rfl) ?_
 refine oq (qv_ldp (v:=(Value.map (some ba))) Try.plain110 rfl (inOc (k:=0) rfl) rfl) ?_
 refine oq (qv_mv (Value.int .i64 z) rfl) ?_
 refine oq (qv_mv (.int .i64 ((L.length:Int))) rfl) ?_
 refine ops_mapset (k:=3) (key:=z) (v:=(L.length:Int)) Try.underlying110 (KeyT.int Try.underlying3) rfl rfl rfl rfl ?_
 refine ops_nil ?_
 refine vc_seq ?_
 refine vc_res (σ':=[ζ9,(Gr 3 1 u L.length ((L.map (Value.int .i64)))),ζ5,(Mf ba (Value.int .i64) (Value.int .i64) (setF (lfF L) z ((L.length:Int)))),ζ3]) rfl ?_
 refine vc_region ?_
 refine oq (qv_mv ζ7 rfl) ?_
 refine oq (qv_mv ζ7 rfl) ?_
 refine oq (qv_nilck rfl) ?_
 refine oq (qv_fa (off:=0) Try.field113_0 rfl) ?_
 refine oq (qv_ldp (v:=u) Try.plain22 rfl (inOc (k:=0) rfl) rfl) ?_
 refine oq (qv_mv (Value.int .i64 z) rfl) ?_
 refine ops_lit (n:=1) (s:=1) (cs:=[(Value.int .i64 z)]) Try.underlying22 Try.ti3 (Nat.le_of_ble_eq_true rfl) rfl rfl rfl (Nat.le_of_ble_eq_true rfl) rfl (fun b1=>?_)
 subst ζ3 ζ5 ζ9 ζ7 ζ8 ζ10
 refine ops_append (k:=1) (n:=L.length) (s:=1) (m:=1) (v:=u) (xs:=(L.map (Value.int .i64))) (news:=[(Value.int .i64 z)]) Try.underlying22 Try.ti3 rfl (Nat.le_of_ble_eq_true rfl) rfl rfl rfl rfl (news_own (j:=5) rfl) (by simp [Value.oneCell']) (by omega) (by simp only [maxLen]; omega) (fun v1 hn1=>?_)
 refine oq (qv_nilck rfl) ?_
 refine oq (qv_fa (off:=0) Try.field113_0 rfl) ?_
 refine ops_gr1 (k:=1) rfl (fun ho1=>?_)
 refine ops_stp (k:=0) (off:=0) (cs:=[u,w,(Value.map (some ba)),(Value.map (some bi)),(.bool (decide (wd L)))]) Try.size22 rfl (rfl:ev _ _=v1) ho1 rfl (Nat.le_of_ble_eq_true rfl) ?_
 refine ops_nil ?_
 let ζ1:Asrt:=Gr 3 1 v1 ((L.length+1)) (((L.map (Value.int .i64))++[(Value.int .i64 z)]))
 let ζ2:Asrt:=Mf ba (Value.int .i64) (Value.int .i64) (setF (lfF L) z ((L.length:Int)))
 let ζ3:Asrt:=Mf bi fkv (Value.int .i64) (idF M)
 let ζ4:Asrt:=Arr 3 b1 [(Value.int .i64 z)]
 let ζ5:Asrt:=Gr 80 3 w M.length ((fks M))
 refine vc_res (σ':=[(Arr 113 bb [v1,w,(Value.map (some ba)),(Value.map (some bi)),(.bool (decide (wd L)))]),ζ1,ζ5,ζ2,ζ3,ζ4]) rfl ?_
 refine vc_region ?_
 let ζ7:Value:=Value.pointer (some ⟨bb,0,none⟩)
 refine oq (qv_mv ζ7 rfl) ?_
 refine oq (qv_mv ζ7 rfl) ?_
 refine oq (qv_nilck rfl) ?_
 refine oq (qv_fa (off:=0) Try.field113_4 rfl) ?_
 refine oq (qv_ldp (v:=(.bool (decide (wd L)))) Try.plain4 rfl (inOc (k:=0) rfl) rfl) ?_
 refine oq (qv_mv (.bool (decide (wd L))) rfl) ?_
 by_cases g1:wd L
 refine os (want_fn g1 rfl rfl rfl) ?_
 refine os (want_fn g1 rfl rfl rfl) ?_
 refine os (want_fn g1 rfl rfl rfl) ?_
 refine oq (qv_pick_t g1 rfl (rfl:ev _ _=(Value.bool true))) ?_
 refine oq (qv_nilck rfl) ?_
 refine oq (qv_fa (off:=0) Try.field113_4 rfl) ?_
 refine ops_stp (k:=0) (off:=4) (cs:=[v1,w,(Value.map (some ba)),(Value.map (some bi)),(.bool (decide (wd L)))]) Try.size4 rfl (rfl:ev _ _=(Value.bool true)) rfl rfl (Nat.le_of_ble_eq_true rfl) ?_
 refine ops_nil ?_
 refine vc_seq ?_
 let ζ6:Asrt:=Arr 113 bb [v1,w,(Value.map (some ba)),(Value.map (some bi)),(Value.bool true)]
 refine vc_res (σ':=[ζ6,ζ1,ζ5,ζ2,ζ3,ζ4]) rfl ?_
 refine vc_region ?_
 refine oq (qv_mv (.int .i64 ((L.length:Int))) rfl) ?_
 refine oq (qv_mul rfl rfl (by omega)) ?_
 refine oq (qv_as (.int .i64 (2 * ((L.length:Int)))) rfl) ?_
 refine ops_nil ?_
 refine vc_drop [ζ6,ζ1,ζ5,ζ2,ζ3] [ζ4] ((List.perm_middle (l₁:=[ζ6,ζ1,ζ5,ζ2,ζ3]) (l₂:=[])).trans (List.perm_append_comm (l₁:=[ζ4]))) ?_
 refine vc_ret ?_
 refine rq1 (.int .i64 (2 * ((L.length:Int)))) rfl ?_
 obtain ⟨hn,e⟩:=lf_new (L:=L) (z:=z) c1
 subst ζ1 ζ2 ζ3 ζ4 ζ5 ζ7 ζ6
 rw [e]
 have hw:Value.bool true=Value.bool (decide (wd (L++[z]))):=congrArg Value.bool (decide_eq_true (wd_snoc.2 (.inl (by assumption)))).symm
 refine ⟨rfl,v1,?_⟩
 rw [lfF_step hn,List.length_append,List.map_append,hw]
 rfl
 refine og (qv_mv (Value.int .i64 z) rfl) (want_f g1 rfl rfl rfl) ?_
 refine og (qv_call (v:=(.bool (decide (inR z)))) (inRange_c) rfl rfl) (want_f g1 rfl rfl rfl) ?_
 refine og (qv_not rfl) (want_f g1 rfl rfl rfl) ?_
 refine oq (qv_pick_f g1 rfl (rfl:ev _ _=(.bool (decide (¬ (inR z)))))) ?_
 refine oq (qv_nilck rfl) ?_
 refine oq (qv_fa (off:=0) Try.field113_4 rfl) ?_
 refine ops_stp (k:=0) (off:=4) (cs:=[v1,w,(Value.map (some ba)),(Value.map (some bi)),(.bool (decide (wd L)))]) Try.size4 rfl (rfl:ev _ _=(.bool (decide (¬ (inR z))))) rfl rfl (Nat.le_of_ble_eq_true rfl) ?_
 refine ops_nil ?_
 refine vc_seq ?_
 refine vc_res (σ':=[(Arr 113 bb [v1,w,(Value.map (some ba)),(Value.map (some bi)),(.bool (decide (¬ (inR z))))]),ζ1,ζ5,ζ2,ζ3,ζ4]) rfl ?_
 refine vc_region ?_
 refine oq (qv_mv (.int .i64 ((L.length:Int))) rfl) ?_
 refine oq (qv_mul rfl rfl (by omega)) ?_
 refine oq (qv_as (.int .i64 (2 * ((L.length:Int)))) rfl) ?_
 refine ops_nil ?_
 refine vc_drop [(Arr 113 bb [v1,w,(Value.map (some ba)),(Value.map (some bi)),(Value.bool (decide (¬ (inR z))))]),ζ1,ζ5,ζ2,ζ3] [ζ4] ((List.perm_middle (l₁:=[(Arr 113 bb [v1,w,(Value.map (some ba)),(Value.map (some bi)),(Value.bool (decide (¬ (inR z))))]),ζ1,ζ5,ζ2,ζ3]) (l₂:=[])).trans (List.perm_append_comm (l₁:=[ζ4]))) ?_
 refine vc_ret ?_
 refine rq1 (.int .i64 (2 * ((L.length:Int)))) rfl ?_
 obtain ⟨hn,e⟩:=lf_new (L:=L) (z:=z) c1
 subst ζ1 ζ2 ζ3 ζ4 ζ5 ζ7
 rw [e]
 have hw:Value.bool (decide (¬ (inR z)))=Value.bool (decide (wd (L++[z]))):=congrArg Value.bool (decide_eq_decide.2 (wd_snoc.trans ⟨fun q=>q.resolve_left (by assumption),fun q=>.inr q⟩).symm)
 refine ⟨rfl,v1,?_⟩
 rw [lfF_step hn,List.length_append,List.map_append,hw]
 rfl
 refine vc_skip ?_
 refine vc_seq ?_
 refine vc_region ?_
 refine oq (qv_mv ζ10 rfl) ?_
 refine oq (qv_mul rfl rfl (by omega)) ?_
 refine oq (qv_as (.int .i64 (2 * (((lfF L) z).getD 0))) rfl) ?_
 refine ops_nil ?_
 refine vc_ret ?_
 refine rq1 (.int .i64 (2 * (((lfF L) z).getD 0))) rfl ?_
 subst ζ3 ζ5 ζ9 ζ7 ζ8 ζ10
 rw [lf_hit (Decidable.not_not.1 c1)]
 exact ⟨rfl,u,rfl⟩
theorem node_c {V:HV} {L:List Int} {M:List Fk} {v l h:Int} {bb ba bi:Nat} {u w:Value} (hM:M.length≤2199023255552) :
    FnC Try.prog 59 [(Value.pointer (some ⟨bb,0,none⟩)),(Value.int .i64 v),(Value.int .i64 l),(Value.int .i64 h)] V [(Arr 113 bb [u,w,(Value.map (some ba)),(Value.map (some bi)),(.bool (decide (wd L)))]),(Gr 3 1 u L.length ((L.map (Value.int .i64)))),(Gr 80 3 w M.length ((fks M))),(Mf ba (Value.int .i64) (Value.int .i64) (lfF L)),(Mf bi fkv (Value.int .i64) (idF M))] (fun r _ σ'=>r=.int .i64 (ndR M v l h).2∧∃ w',σ' = [Arr 113 bb [u,w',.map (some ba),.map (some bi),.bool (decide (wd L))],Gr 3 1 u L.length (L.map (Value.int .i64)),Gr 80 3 w' (ndR M v l h).1.length (fks (ndR M v l h).1),Mf ba (Value.int .i64) (Value.int .i64) (lfF L),Mf bi fkv (Value.int .i64) (idF (ndR M v l h).1)]):=by
 refine fn_intro (N:=55) Try.func59 (by kernel_rfl) rfl rfl rfl (Nat.le_of_ble_eq_true rfl) ?_
 intro w0 D
 have hbd:=idF_bd M ⟨v,l,h⟩
 refine vc_seq ?_
 let ζ3:Asrt:=Mf ba (Value.int .i64) (Value.int .i64) (lfF L)
 let ζ4:Asrt:=Gr 3 1 u L.length ((L.map (Value.int .i64)))
 let ζ5:Asrt:=Arr 113 bb [u,w,(Value.map (some ba)),(Value.map (some bi)),(.bool (decide (wd L)))]
 let ζ7:Asrt:=Gr 80 3 w M.length ((fks M))
 let ζ18:Asrt:=Mf bi fkv (Value.int .i64) (idF M)
 refine vc_res (σ':=[ζ5,ζ4,ζ7,ζ3,ζ18]) rfl ?_
 refine vc_region ?_
 refine oq (qv_as (Value.int .i64 0) rfl) ?_
 refine ops_nil ?_
 refine vc_seq ?_
 refine vc_seq ?_
 refine vc_region ?_
 refine oq (qv_mv (Value.int .i64 l) rfl) ?_
 refine oq (qv_mv (Value.int .i64 h) rfl) ?_
 refine oq (qv_eql rfl rfl) ?_
 refine ops_nil ?_
 refine vc_if rfl (fun c1=>?_) (fun c1=>?_)
 refine vc_seq ?_
 refine vc_region ?_
 refine oq (qv_mv (Value.int .i64 l) rfl) ?_
 refine oq (qv_as (Value.int .i64 l) rfl) ?_
 refine ops_nil ?_
 refine vc_ret ?_
 refine rq1 (Value.int .i64 l) rfl ?_
 subst ζ3 ζ4 ζ5 ζ7 ζ18
 rw [nd_eq (by assumption)]; exact ⟨rfl,w,rfl⟩
 refine vc_skip ?_
 refine vc_seq ?_
 refine vc_region ?_
 refine oq (qv_mv (Value.int .i64 v) rfl) ?_
 refine oq (qv_mv (Value.int .i64 l) rfl) ?_
 refine oq (qv_mv (Value.int .i64 h) rfl) ?_
 refine oq (qv_build (out:=[(Value.int .i64 v),(Value.int .i64 l),(Value.int .i64 h)]) Try.build80 [(0,[(Value.int .i64 v)]),(1,[(Value.int .i64 l)]),(2,[(Value.int .i64 h)])] rfl rfl) ?_
 refine ops_alloc Try.ti80 rfl (fun b1=>?_)
 refine ops_stw (k:=5) (vs:=[(Value.int .i64 v),(Value.int .i64 l),(Value.int .i64 h)]) Try.size80 rfl rfl rfl rfl rfl rfl ?_
 refine ops_nil ?_
 refine vc_seq ?_
 let ζ1:Asrt:=Arr 80 b1 [(Value.int .i64 v),(Value.int .i64 l),(Value.int .i64 h)]
 refine vc_res (σ':=[ζ5,ζ4,ζ7,ζ3,ζ18,ζ1]) rfl ?_
 refine vc_region_any Try.mixed (by kernel_rfl) ?_
 let ζ13:Value:=Value.pointer (some ⟨bb,0,none⟩)
 refine qq (qv_mv ζ13 rfl) ?_
 refine qq (qv_nilck rfl) ?_
 refine qq (qv_fa (off:=0) Try.field113_3 rfl) ?_
 refine qq (qv_ldp (v:=(Value.map (some bi))) Try.plain111 rfl (inOc (k:=0) rfl) rfl) ?_
 refine qq (qv_ldm (vs:=[(Value.int .i64 v),(Value.int .i64 l),(Value.int .i64 h)]) Try.agg80 rfl (inOc (k:=5) rfl) rfl rfl) ?_
 refine qq (qv_look (a0:=0) (key:=(⟨v,l,h⟩:Fk)) (k:=4) Try.underlying111 fk_key Try.ti3 rfl rfl rfl) ?_
 let ζ8:Value:=.bool (decide (((idF M) ((⟨v,l,h⟩:Fk))).isSome=true))
 let ζ15:Value:=.int .i64 (((idF M) ((⟨v,l,h⟩:Fk))).getD 0)
 refine qq (qv_mv (.tuple #[ζ15,ζ8]) rfl) ?_
 refine qq (qv_ext ζ15 rfl rfl) ?_
 refine qq (qv_ext ζ8 rfl rfl) ?_
 refine qq (qv_as ζ15 rfl) ?_
 refine qq (qv_as ζ8 rfl) ?_
 refine qops_nil ?_
 refine vc_seq ?_
 refine vc_seq ?_
 refine vc_region ?_
 refine oq (qv_mv ζ8 rfl) ?_
 refine oq (qv_not rfl) ?_
 refine ops_nil ?_
 refine vc_if rfl (fun c2=>?_) (fun c2=>?_)
 refine vc_seq ?_
 refine vc_region ?_
 refine oq (qv_mv ζ13 rfl) ?_
 refine oq (qv_nilck rfl) ?_
 refine oq (qv_fa (off:=0) Try.field113_1 rfl) ?_
 refine oq (qv_ldp (v:=w) Try.plain23 rfl (inOc (k:=0) rfl) rfl) ?_
 refine oq (qv_lenGr (k:=2) Try.underlying23 rfl rfl) ?_
 let ζ16:Value:=.int .i64 (((M.length:Nat):Int))
 refine oq (qv_as ζ16 rfl) ?_
 refine ops_nil ?_
 refine vc_seq ?_
 refine vc_region_order (τ:=[ζ18]) [(0,false),(1,false),(2,false),(3,false),(4,false),(5,false),(6,true)] [ζ5,ζ4,ζ7,ζ3,ζ1] Try.mixed (perm_idx _ _ [0,1,2,3,5,4] rfl rfl) (by kernel_rfl) ?_
 refine rq rfl (qv_mv ζ13 rfl) ?_
 refine rq rfl (qv_nilck rfl) ?_
 refine rq rfl (qv_fa (off:=0) Try.field113_3 rfl) ?_
 refine rq rfl (qv_ldp (v:=(Value.map (some bi))) Try.plain111 rfl (inOc (k:=0) rfl) rfl) ?_
 refine rq rfl (qv_ldm (vs:=[(Value.int .i64 v),(Value.int .i64 l),(Value.int .i64 h)]) Try.agg80 rfl (inOc (k:=4) rfl) rfl rfl) ?_
 refine rq rfl (qv_mv ζ16 rfl) ?_
 refine rl1 (by kernel_rfl) rfl ?_
 refine ops_mapset (k:=4) (key:=(⟨v,l,h⟩:Fk)) (v:=((M.length:Nat):Int)) Try.underlying111 fk_key rfl rfl rfl rfl ?_
 let ζ2:Asrt:=Mf bi fkv (Value.int .i64) (setF (idF M) ((⟨v,l,h⟩:Fk)) (((M.length:Nat):Int)))
 refine ops_nil ⟨[ζ5,ζ4,ζ7,ζ3,ζ1],[ζ2],(perm_idx _ _ [0,1,2,3,5,4] rfl rfl),?_⟩
 refine rnil ?_
 refine vc_res (σ':=[ζ5,ζ4,ζ7,ζ3,ζ2,ζ1]) rfl ?_
 refine vc_join (α:=Nat × Value) (fun xx=>[(0,ζ13),(1,(Value.int .i64 v)),(2,(Value.int .i64 l)),(3,(Value.int .i64 h)),(8,(Value.int .i64 0)),(9,(Value.pointer (some ⟨b1,0,none⟩))),(10,ζ16),(11,ζ8),(14,(.bool (decide (l=h)))),(30,(.bool (decide (¬ (((idF M) ((⟨v,l,h⟩:Fk))).isSome=true)))))]) (fun xx V' σ'=>V=V'∧[(Arr 113 bb [u,xx.2,(Value.map (some ba)),(Value.map (some bi)),(.bool (decide (wd L)))]),ζ4,(Gr 80 3 xx.2 ((M.length+1)) (((fks M)++[(Value.int .i64 v),(Value.int .i64 l),(Value.int .i64 h)]))),ζ3,ζ2,ζ1,(Arr 80 xx.1 [(Value.int .i64 v),(Value.int .i64 l),(Value.int .i64 h)])]=σ') ?_ ?_
 refine vc_region_E (τ:=[ζ5,ζ7]) (n:=11) [ζ4,ζ3,ζ2,ζ1] Try.mixed (perm_idx _ _ [1,3,4,5,0,2] rfl rfl) rfl ?_
 refine eq_ (i:=0) (by kernel_rfl) rfl (qv_mv ζ13 rfl) ?_
 refine eq_ (i:=1) (by kernel_rfl) rfl (qv_mv ζ13 rfl) ?_
 refine eq_ (i:=2) (by kernel_rfl) rfl (qv_nilck rfl) ?_
 refine eq_ (i:=3) (by kernel_rfl) rfl (qv_fa (off:=0) Try.field113_1 rfl) ?_
 refine eq_ (i:=5) (by kernel_rfl) rfl (qv_ldm (vs:=[(Value.int .i64 v),(Value.int .i64 l),(Value.int .i64 h)]) Try.agg80 rfl (inOc (k:=3) rfl) rfl rfl) ?_
 refine el2 (i:=4) (j:=6) (by kernel_rfl) ?_ ?_
 refine ⟨_,rfl,?_⟩
 refine oq (qv_ldp (v:=w) Try.plain23 rfl (inOc (k:=0) rfl) rfl) ?_
 refine ops_nil ⟨[ζ4,ζ3,ζ2,ζ1],[ζ5,ζ7],(perm_idx _ _ [1,3,4,5,0,2] rfl rfl),.inl ⟨(Sub.refl _),[],.refl _⟩,?_⟩
 refine el1 (i:=6) (by kernel_rfl) ?_
 refine ⟨_,rfl,?_⟩
 refine ops_lit (n:=1) (s:=3) (cs:=[(Value.int .i64 v),(Value.int .i64 l),(Value.int .i64 h)]) Try.underlying23 Try.ti80 (Nat.le_of_ble_eq_true rfl) rfl rfl rfl (Nat.le_of_ble_eq_true rfl) rfl (fun b2=>?_)
 refine ops_nil ⟨[ζ4,ζ3,ζ2,ζ1,(Arr 80 b2 [(Value.int .i64 v),(Value.int .i64 l),(Value.int .i64 h)])],[ζ5,ζ7],(perm_idx _ _ [1,3,4,5,6,0,2] rfl rfl),.inl ⟨(Sub.refl _),[(Arr 80 b2 [(Value.int .i64 v),(Value.int .i64 l),(Value.int .i64 h)])],.refl _⟩,?_⟩
 refine el1 (i:=7) (by kernel_rfl) ?_
 refine ⟨_,rfl,?_⟩
 subst ζ3 ζ4 ζ5 ζ7 ζ18 ζ1 ζ13 ζ8 ζ15 ζ16 ζ2
 refine ops_append (k:=2) (n:=M.length) (s:=3) (m:=1) (v:=w) (xs:=(fks M)) (news:=[(Value.int .i64 v),(Value.int .i64 l),(Value.int .i64 h)]) Try.underlying23 Try.ti80 rfl (Nat.le_of_ble_eq_true rfl) rfl rfl rfl rfl (news_own (j:=6) rfl) (by simp [Value.oneCell']) (by omega) (by simp only [maxLen]; omega) (fun v1 hn1=>?_)
 let ζ1:Asrt:=Arr 80 b1 [(Value.int .i64 v),(Value.int .i64 l),(Value.int .i64 h)]
 let ζ2:Asrt:=Mf bi fkv (Value.int .i64) (setF (idF M) ((⟨v,l,h⟩:Fk)) (((M.length:Nat):Int)))
 let ζ3:Asrt:=Mf ba (Value.int .i64) (Value.int .i64) (lfF L)
 let ζ4:Asrt:=Gr 3 1 u L.length ((L.map (Value.int .i64)))
 let ζ11:Asrt:=Gr 80 3 v1 ((M.length+1)) (((fks M)++[(Value.int .i64 v),(Value.int .i64 l),(Value.int .i64 h)]))
 let ζ17:Asrt:=Arr 80 b2 [(Value.int .i64 v),(Value.int .i64 l),(Value.int .i64 h)]
 refine ops_nil ⟨[ζ4,ζ3,ζ2,ζ1,ζ17],[(Arr 113 bb [u,w,(Value.map (some ba)),(Value.map (some bi)),(.bool (decide (wd L)))]),ζ11],(perm_idx _ _ [1,3,4,5,6,0,2] rfl rfl),.inl ⟨(Sub.refl _),[],.refl _⟩,?_⟩
 refine eq_ (i:=8) (by kernel_rfl) rfl (qv_nilck rfl) ?_
 refine eq_ (i:=9) (by kernel_rfl) rfl (qv_fa (off:=0) Try.field113_1 rfl) ?_
 refine el1 (i:=10) (by kernel_rfl) ?_
 refine ⟨_,rfl,?_⟩
 refine ops_gr1 (k:=2) rfl (fun ho1=>?_)
 refine ops_stp (k:=0) (off:=1) (cs:=[u,w,(Value.map (some ba)),(Value.map (some bi)),(.bool (decide (wd L)))]) Try.size23 rfl (rfl:ev _ _=v1) ho1 rfl (Nat.le_of_ble_eq_true rfl) ?_
 let ζ19:Asrt:=Arr 113 bb [u,v1,(Value.map (some ba)),(Value.map (some bi)),(.bool (decide (wd L)))]
 refine ops_nil ⟨[ζ4,ζ3,ζ2,ζ1,ζ17],[ζ19,ζ11],(perm_idx _ _ [1,3,4,5,6,0,2] rfl rfl),.inl ⟨(Sub.refl _),[],.refl _⟩,?_⟩
 refine enil (σ':=[ζ19,ζ4,ζ11,ζ3,ζ2,ζ1,ζ17]) (by kernel_rfl) (perm_idx _ _ [0,1,2,3,4,5,6] rfl rfl) ⟨(b2,v1),⟨rfl,rfl,rfl,rfl,rfl,rfl,rfl,rfl,rfl,rfl,trivial⟩,rfl,rfl⟩
 refine ⟨_,rfl,?_⟩
 refine ops_lit (n:=1) (s:=3) (cs:=[(Value.int .i64 v),(Value.int .i64 l),(Value.int .i64 h)]) Try.underlying23 Try.ti80 (Nat.le_of_ble_eq_true rfl) rfl rfl rfl (Nat.le_of_ble_eq_true rfl) rfl (fun b3=>?_)
 let ζ10:Asrt:=Arr 80 b3 [(Value.int .i64 v),(Value.int .i64 l),(Value.int .i64 h)]
 refine ops_nil ⟨[ζ4,ζ3,ζ2,ζ1,ζ10],[ζ5,ζ7],(perm_idx _ _ [1,3,4,5,6,0,2] rfl rfl),.inl ⟨(Sub.refl _),[ζ10],.refl _⟩,?_⟩
 refine el1 (i:=4) (by kernel_rfl) ?_
 refine ⟨_,rfl,?_⟩
 refine oq (qv_ldp (v:=w) Try.plain23 rfl (inOc (k:=0) rfl) rfl) ?_
 refine ops_nil ⟨[ζ4,ζ3,ζ2,ζ1,ζ10],[ζ5,ζ7],(perm_idx _ _ [1,3,4,5,6,0,2] rfl rfl),.inl ⟨(Sub.refl _),[],.refl _⟩,?_⟩
 refine el1 (i:=7) (by kernel_rfl) ?_
 refine ⟨_,rfl,?_⟩
 subst ζ3 ζ4 ζ5 ζ7 ζ18 ζ1 ζ13 ζ8 ζ15 ζ16 ζ2 ζ10
 refine ops_append (k:=2) (n:=M.length) (s:=3) (m:=1) (v:=w) (xs:=(fks M)) (news:=[(Value.int .i64 v),(Value.int .i64 l),(Value.int .i64 h)]) Try.underlying23 Try.ti80 rfl (Nat.le_of_ble_eq_true rfl) rfl rfl rfl rfl (news_own (j:=6) rfl) (by simp [Value.oneCell']) (by omega) (by simp only [maxLen]; omega) (fun v2 hn2=>?_)
 let ζ1:Asrt:=Arr 80 b1 [(Value.int .i64 v),(Value.int .i64 l),(Value.int .i64 h)]
 let ζ2:Asrt:=Mf bi fkv (Value.int .i64) (setF (idF M) ((⟨v,l,h⟩:Fk)) (((M.length:Nat):Int)))
 let ζ3:Asrt:=Mf ba (Value.int .i64) (Value.int .i64) (lfF L)
 let ζ4:Asrt:=Gr 3 1 u L.length ((L.map (Value.int .i64)))
 let ζ10:Asrt:=Arr 80 b3 [(Value.int .i64 v),(Value.int .i64 l),(Value.int .i64 h)]
 let ζ12:Asrt:=Gr 80 3 v2 ((M.length+1)) (((fks M)++[(Value.int .i64 v),(Value.int .i64 l),(Value.int .i64 h)]))
 refine ops_nil ⟨[ζ4,ζ3,ζ2,ζ1,ζ10],[(Arr 113 bb [u,w,(Value.map (some ba)),(Value.map (some bi)),(.bool (decide (wd L)))]),ζ12],(perm_idx _ _ [1,3,4,5,6,0,2] rfl rfl),.inl ⟨(Sub.refl _),[],.refl _⟩,?_⟩
 refine eq_ (i:=8) (by kernel_rfl) rfl (qv_nilck rfl) ?_
 refine eq_ (i:=9) (by kernel_rfl) rfl (qv_fa (off:=0) Try.field113_1 rfl) ?_
 refine el1 (i:=10) (by kernel_rfl) ?_
 refine ⟨_,rfl,?_⟩
 refine ops_gr1 (k:=2) rfl (fun ho2=>?_)
 refine ops_stp (k:=0) (off:=1) (cs:=[u,w,(Value.map (some ba)),(Value.map (some bi)),(.bool (decide (wd L)))]) Try.size23 rfl (rfl:ev _ _=v2) ho2 rfl (Nat.le_of_ble_eq_true rfl) ?_
 let ζ20:Asrt:=Arr 113 bb [u,v2,(Value.map (some ba)),(Value.map (some bi)),(.bool (decide (wd L)))]
 refine ops_nil ⟨[ζ4,ζ3,ζ2,ζ1,ζ10],[ζ20,ζ12],(perm_idx _ _ [1,3,4,5,6,0,2] rfl rfl),.inl ⟨(Sub.refl _),[],.refl _⟩,?_⟩
 refine enil (σ':=[ζ20,ζ4,ζ12,ζ3,ζ2,ζ1,ζ10]) (by kernel_rfl) (perm_idx _ _ [0,1,2,3,4,5,6] rfl rfl) ⟨(b3,v2),⟨rfl,rfl,rfl,rfl,rfl,rfl,rfl,rfl,rfl,rfl,trivial⟩,rfl,rfl⟩
 rintro ⟨z48,zg49⟩ e1 Vj1 σj1 hJ1
 let ζ6:Asrt:=Gr 80 3 zg49 ((M.length+1)) (((fks M)++[(Value.int .i64 v),(Value.int .i64 l),(Value.int .i64 h)]))
 let ζ14:Asrt:=Arr 80 z48 [(Value.int .i64 v),(Value.int .i64 l),(Value.int .i64 h)]
 obtain ⟨rfl,rfl⟩:V=Vj1∧[(Arr 113 bb [u,zg49,(Value.map (some ba)),(Value.map (some bi)),(.bool (decide (wd L)))]),ζ4,ζ6,ζ3,ζ2,ζ1,ζ14]=σj1:=hJ1
 change VC _ _ _ _ _ _ (upds 55 [(0,ζ13),(1,(Value.int .i64 v)),(2,(Value.int .i64 l)),(3,(Value.int .i64 h)),(8,(Value.int .i64 0)),(9,(Value.pointer (some ⟨b1,0,none⟩))),(10,ζ16),(11,ζ8),(14,(.bool (decide (l=h)))),(30,(.bool (decide (¬ (((idF M) ((⟨v,l,h⟩:Fk))).isSome=true)))))] e1) _ _
 refine vc_seq ?_
 refine vc_region ?_
 refine oq (qv_mv ζ16 rfl) ?_
 refine oq (qv_mul rfl rfl (by omega)) ?_
 refine oq (qv_add rfl rfl (by omega)) ?_
 refine oq (qv_as (.int .i64 ((2 * (((M.length:Nat):Int)))+1)) rfl) ?_
 refine ops_nil ?_
 let ζ9:Asrt:=Arr 113 bb [u,zg49,(Value.map (some ba)),(Value.map (some bi)),(Value.bool (decide (wd L)))]
 refine vc_drop [ζ9,ζ4,ζ6,ζ3,ζ2,ζ1] [ζ14] ((List.perm_middle (l₁:=[ζ9,ζ4,ζ6,ζ3,ζ2,ζ1]) (l₂:=[])).trans (List.perm_append_comm (l₁:=[ζ14]))) ?_
 refine vc_drop [ζ9,ζ4,ζ6,ζ3,ζ2] [ζ1] ((List.perm_middle (l₁:=[ζ9,ζ4,ζ6,ζ3,ζ2]) (l₂:=[])).trans (List.perm_append_comm (l₁:=[ζ1]))) ?_
 refine vc_ret ?_
 refine rq1 (.int .i64 ((2 * (((M.length:Nat):Int)))+1)) rfl ?_
 obtain ⟨hn,e⟩:=nd_new (N:=M) (v:=v) (l:=l) (h:=h) (by assumption) c2
 subst ζ3 ζ4 ζ5 ζ7 ζ18 ζ1 ζ13 ζ8 ζ15 ζ16 ζ2 ζ6 ζ14 ζ9
 rw [e]
 refine ⟨rfl,zg49,?_⟩
 rw [idF_step hn,fks_snoc,List.length_append]
 rfl
 refine vc_skip ?_
 refine vc_seq ?_
 refine vc_region ?_
 refine oq (qv_mv ζ15 rfl) ?_
 refine oq (qv_mul rfl rfl (by omega)) ?_
 refine oq (qv_add rfl rfl (by omega)) ?_
 refine oq (qv_as (.int .i64 ((2 * (((idF M) ((⟨v,l,h⟩:Fk))).getD 0))+1)) rfl) ?_
 refine ops_nil ?_
 refine vc_drop [(Arr 113 bb [u,w,(Value.map (some ba)),(Value.map (some bi)),(Value.bool (decide (wd L)))]),ζ4,ζ7,ζ3,ζ18] [ζ1] ((List.perm_middle (l₁:=[(Arr 113 bb [u,w,(Value.map (some ba)),(Value.map (some bi)),(Value.bool (decide (wd L)))]),ζ4,ζ7,ζ3,ζ18]) (l₂:=[])).trans (List.perm_append_comm (l₁:=[ζ1]))) ?_
 refine vc_ret ?_
 refine rq1 (.int .i64 ((2 * (((idF M) ((⟨v,l,h⟩:Fk))).getD 0))+1)) rfl ?_
 subst ζ3 ζ4 ζ5 ζ7 ζ18 ζ1 ζ13 ζ8 ζ15
 rw [nd_hit (by assumption) (Decidable.not_not.1 c2)]; exact ⟨rfl,w,rfl⟩
end Go.Proofs.Ytkmhjcjpohpiaaa
