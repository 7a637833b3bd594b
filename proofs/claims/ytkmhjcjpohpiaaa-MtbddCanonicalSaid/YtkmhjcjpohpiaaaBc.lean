import Derived.Test.YtkmhjcjpohpiaaaBb
import Derived.Test.YtkmhjcjpohpiaaaMh
/- Walks of bdd: what each function returns. Printed by a program out of notes. -/
namespace Go.Proofs.Ytkmhjcjpohpiaaa.Bd
open Go.Vc
open Classical
theorem fk_key:KeyT Try.prog 80 fkv:=KeyT.flat Try.eq80 (fun n:Fk=>[n.v,n.l,n.h]) (fun _=>rfl) fun a b h=>by
  simp at h; exact Fk.eq h.1 h.2.1 h.2.2
set_option maxRecDepth 100000
set_option maxHeartbeats 4000000
theorem formed_c {V:HV} {nv:Value} {N:List Fk} {vars root:Int} (hN:Fks V nv N) (hlN:N.length≤4096) :
    FnC Try.prog 106 [(.agg #[(Value.int .i64 vars),nv,(Value.int .i64 root)])] V [] (fun v _ _=>v=(.bool (decide (Form vars N root)))):=by
 refine fn_intro (N:=82) Try.func106 (by kernel_rfl) rfl rfl rfl (Nat.le_of_ble_eq_true rfl) ?_
 intro w0 D
 have hb:=SlS.bound hN
 refine vc_seq ?_
 refine vc_region ?_
 let ζ6:Value:=.agg #[(Value.int .i64 vars),nv,(Value.int .i64 root)]
 refine ops_box (v:=ζ6) (cs:=[(Value.int .i64 vars),nv,(Value.int .i64 root)]) rfl rfl (fun b1=>?_)
 refine oq (qv_as (Value.bool false) rfl) ?_
 refine ops_nil ?_
 refine vc_seq ?_
 let ζ1:Asrt:=Arr 59 b1 [(Value.int .i64 vars),nv,(Value.int .i64 root)]
 refine vc_res (σ':=[ζ1]) rfl ?_
 refine vc_region ?_
 refine oq (qv_fa (off:=0) Try.field59_1 rfl) ?_
 refine oq (qv_ldp (v:=nv) Try.plain23 rfl (inOc (k:=0) rfl) rfl) ?_
 refine oq (qv_lenSS Try.underlying23 rfl hN) ?_
 refine ops_mkmap fkv Value.bool Try.underlying129 rfl (fun b2=>?_)
 refine oq (qv_as (Value.map (some b2)) rfl) ?_
 refine ops_nil ?_
 refine vc_seq ?_
 refine vc_seq ?_
 refine vc_res (σ':=[ζ1,(Mf b2 fkv Value.bool (fun _=>none))]) rfl ?_
 refine vc_region ?_
 refine oq (qv_fa (off:=0) Try.field59_1 rfl) ?_
 refine oq (qv_ldp (v:=nv) Try.plain23 rfl (inOc (k:=0) rfl) rfl) ?_
 refine oq (qv_lenSS Try.underlying23 rfl hN) ?_
 refine oq (qv_mv (Value.int .i64 0) rfl) ?_
 refine ops_nil ?_
 refine vc_block ?_
 refine vc_loop (α:=Int) (fun (xx:Int)=>[(0,ζ6),(1,(Value.pointer (some ⟨b1,0,none⟩))),(3,(Value.map (some b2))),(13,nv),(14,(.int .i64 ((N.length:Int)))),(15,(Value.int .i64 xx))]) (fun (xx:Int) V' σ'=>V=V'∧[ζ1,(Mf b2 fkv Value.bool (seenB N xx.toNat))]=σ'∧0≤xx∧xx≤N.length∧∀ j:Int,0≤j→j < xx→Nok vars N j) (fun (xx:Int)=>(N.length - xx).toNat) (0) ?_ ?_ ?_
 exact ⟨rfl,rfl,rfl,rfl,rfl,rfl,trivial⟩
 subst ζ6 ζ1; exact ⟨rfl,(show [(Arr 59 b1 [(Value.int .i64 vars),nv,(Value.int .i64 root)]),(Mf b2 fkv Value.bool (seenB N (0:Int).toNat))]=[(Arr 59 b1 [(Value.int .i64 vars),nv,(Value.int .i64 root)]),(Mf b2 fkv Value.bool (fun _=>none))] from by rw [show (0:Int).toNat=0 by omega,seenB_0]),by omega,by omega,fun j a b=>by omega⟩
 rintro i e1 V0l σ0l hI0
 let ζ3:Asrt:=Mf b2 fkv Value.bool (seenB N i.toNat)
 obtain ⟨rfl,rfl,i1,i2,hok⟩:V=V0l∧[ζ1,ζ3]=σ0l∧0≤i∧i≤N.length∧∀ j:Int,0≤j→j < i→Nok vars N j:=hI0
 refine vc_seq ?_
 refine vc_res (σ':=[ζ1,ζ3]) rfl ?_
 refine vc_region ?_
 refine oq (qv_lss rfl rfl) ?_
 refine ops_nil ?_
 refine vc_seq ?_
 refine vc_if rfl (fun c1=>?_) (fun c1=>?_)
 refine vc_skip ?_
 refine vc_seq ?_
 refine vc_block ?_
 refine vc_seq ?_
 refine vc_region ?_
 refine oq (qv_mv (Value.int .i64 i) rfl) ?_
 refine oq (qv_ias (v:=nv) (i:=i) Try.underlying23 Try.size80 rfl hN rfl (by omega) (by omega)) ?_
 refine oq (qv_lds (v:=nv) (i:=i) (vs:=[(.int .i64 ((fk N (i)).v)),(.int .i64 ((fk N (i)).l)),(.int .i64 ((fk N (i)).h))]) Try.agg80 rfl hN (by omega) (by omega) (fks_at (N:=N) (by omega) (by omega))) ?_
 refine ops_alloc Try.ti80 rfl (fun b3=>?_)
 refine oq (qv_as (Value.int .i64 i) rfl) ?_
 refine ops_stw (k:=2) (vs:=[(.int .i64 ((fk N (i)).v)),(.int .i64 ((fk N (i)).l)),(.int .i64 ((fk N (i)).h))]) Try.size80 rfl rfl rfl rfl rfl rfl ?_
 refine ops_nil ?_
 refine vc_seq ?_
 refine vc_seq ?_
 let ζ2:Asrt:=Arr 80 b3 [(.int .i64 ((fk N (i)).v)),(.int .i64 ((fk N (i)).l)),(.int .i64 ((fk N (i)).h))]
 refine vc_res (σ':=[ζ1,ζ3,ζ2]) rfl ?_
 refine vc_region ?_
 refine oq (qv_fa (off:=0) Try.field80_0 rfl) ?_
 refine oq (qv_ldp (v:=(.int .i64 ((fk N (i)).v))) Try.plain3 rfl (inOc (k:=2) rfl) rfl) ?_
 refine oq (qv_lss rfl rfl) ?_
 refine oq (qv_mv (.bool (decide (((fk N (i)).v) < 0))) rfl) ?_
 by_cases g1:((fk N (i)).v) < 0
 refine os (want_fn g1 rfl rfl rfl) ?_
 refine os (want_fn g1 rfl rfl rfl) ?_
 refine os (want_fn g1 rfl rfl rfl) ?_
 refine os (want_fn g1 rfl rfl rfl) ?_
 refine os (want_fn g1 rfl rfl rfl) ?_
 refine oq (qv_pick_t g1 rfl (rfl:ev _ _=(Value.bool true))) ?_
 refine oq (qv_mv (Value.bool true) rfl) ?_
 refine os (want_fnc rfl rfl rfl) ?_
 refine os (want_fnc rfl rfl rfl) ?_
 refine os (want_fnc rfl rfl rfl) ?_
 refine os (want_fnc rfl rfl rfl) ?_
 refine os (want_fnc rfl rfl rfl) ?_
 refine oq (qv_pick_tc rfl (rfl:ev _ _=(Value.bool true))) ?_
 refine oq (qv_mv (Value.bool true) rfl) ?_
 refine os (want_fnc rfl rfl rfl) ?_
 refine os (want_fnc rfl rfl rfl) ?_
 refine os (want_fnc rfl rfl rfl) ?_
 refine oq (qv_pick_tc rfl (rfl:ev _ _=(Value.bool true))) ?_
 refine ops_nil ?_
 refine vc_tt rfl ?_
 refine vc_seq ?_
 refine vc_region ?_
 refine oq (qv_as (Value.bool false) rfl) ?_
 refine ops_nil ?_
 refine vc_ret ?_
 refine blockQ_ret ?_
 refine blockQ_ret ?_
 exact rq1 (.bool (decide (Form vars N root))) (congrArg Value.bool (decide_eq_false (show ¬ (Form vars N root) from by exact fun q=>by first | (have:=q.2.1; omega) | (have hn:=fm_nok q.1 (j:=i) (by omega) (by omega); have h1:=hn.1; have h2:=hn.2.1; have h3:=hn.2.2.1; omega) | (have hn:=fm_nok q.1 (j:=i) (by omega) (by omega); obtain ⟨k,a,b,c,e⟩:=seenB_iff.1 (by assumption); exact hn.2.2.2.1 k a (by omega) e) | (obtain ⟨h1,h2,h3⟩:=fm_chk q.1 (i:=i) (x:=x) (by omega) (by omega) (by omega) (by omega); omega))).symm) rfl
 refine og (qv_fa (off:=0) Try.field80_0 rfl) (want_f g1 rfl rfl rfl) ?_
 refine og (qv_ldp (v:=(.int .i64 ((fk N (i)).v))) Try.plain3 rfl (inOc (k:=2) rfl) rfl) (want_f g1 rfl rfl rfl) ?_
 refine og (qv_fa (off:=0) Try.field59_0 rfl) (want_f g1 rfl rfl rfl) ?_
 refine og (qv_ldp (v:=(Value.int .i64 vars)) Try.plain3 rfl (inOc (k:=0) rfl) rfl) (want_f g1 rfl rfl rfl) ?_
 refine og (qv_geq rfl rfl) (want_f g1 rfl rfl rfl) ?_
 refine oq (qv_pick_f g1 rfl (rfl:ev _ _=(.bool (decide (vars≤((fk N (i)).v)))))) ?_
 refine oq (qv_mv (.bool (decide (vars≤((fk N (i)).v)))) rfl) ?_
 by_cases g2:vars≤((fk N (i)).v)
 refine os (want_fn g2 rfl rfl rfl) ?_
 refine os (want_fn g2 rfl rfl rfl) ?_
 refine os (want_fn g2 rfl rfl rfl) ?_
 refine os (want_fn g2 rfl rfl rfl) ?_
 refine os (want_fn g2 rfl rfl rfl) ?_
 refine oq (qv_pick_t g2 rfl (rfl:ev _ _=(Value.bool true))) ?_
 refine oq (qv_mv (Value.bool true) rfl) ?_
 refine os (want_fnc rfl rfl rfl) ?_
 refine os (want_fnc rfl rfl rfl) ?_
 refine os (want_fnc rfl rfl rfl) ?_
 refine oq (qv_pick_tc rfl (rfl:ev _ _=(Value.bool true))) ?_
 refine ops_nil ?_
 refine vc_tt rfl ?_
 refine vc_seq ?_
 refine vc_region ?_
 refine oq (qv_as (Value.bool false) rfl) ?_
 refine ops_nil ?_
 refine vc_ret ?_
 refine blockQ_ret ?_
 refine blockQ_ret ?_
 exact rq1 (.bool (decide (Form vars N root))) (congrArg Value.bool (decide_eq_false (show ¬ (Form vars N root) from by exact fun q=>by first | (have:=q.2.1; omega) | (have hn:=fm_nok q.1 (j:=i) (by omega) (by omega); have h1:=hn.1; have h2:=hn.2.1; have h3:=hn.2.2.1; omega) | (have hn:=fm_nok q.1 (j:=i) (by omega) (by omega); obtain ⟨k,a,b,c,e⟩:=seenB_iff.1 (by assumption); exact hn.2.2.2.1 k a (by omega) e) | (obtain ⟨h1,h2,h3⟩:=fm_chk q.1 (i:=i) (x:=x) (by omega) (by omega) (by omega) (by omega); omega))).symm) rfl
 refine og (qv_fa (off:=0) Try.field80_1 rfl) (want_f g2 rfl rfl rfl) ?_
 refine og (qv_ldp (v:=(.int .i64 ((fk N (i)).l))) Try.plain3 rfl (inOc (k:=2) rfl) rfl) (want_f g2 rfl rfl rfl) ?_
 refine og (qv_fa (off:=0) Try.field80_2 rfl) (want_f g2 rfl rfl rfl) ?_
 refine og (qv_ldp (v:=(.int .i64 ((fk N (i)).h))) Try.plain3 rfl (inOc (k:=2) rfl) rfl) (want_f g2 rfl rfl rfl) ?_
 refine og (qv_eql rfl rfl) (want_f g2 rfl rfl rfl) ?_
 refine oq (qv_pick_f g2 rfl (rfl:ev _ _=(.bool (decide (((fk N (i)).l)=((fk N (i)).h)))))) ?_
 refine oq (qv_mv (.bool (decide (((fk N (i)).l)=((fk N (i)).h)))) rfl) ?_
 by_cases g3:((fk N (i)).l)=((fk N (i)).h)
 refine os (want_fn g3 rfl rfl rfl) ?_
 refine os (want_fn g3 rfl rfl rfl) ?_
 refine os (want_fn g3 rfl rfl rfl) ?_
 refine oq (qv_pick_t g3 rfl (rfl:ev _ _=(Value.bool true))) ?_
 refine ops_nil ?_
 refine vc_tt rfl ?_
 refine vc_seq ?_
 refine vc_region ?_
 refine oq (qv_as (Value.bool false) rfl) ?_
 refine ops_nil ?_
 refine vc_ret ?_
 refine blockQ_ret ?_
 refine blockQ_ret ?_
 exact rq1 (.bool (decide (Form vars N root))) (congrArg Value.bool (decide_eq_false (show ¬ (Form vars N root) from by exact fun q=>by first | (have:=q.2.1; omega) | (have hn:=fm_nok q.1 (j:=i) (by omega) (by omega); have h1:=hn.1; have h2:=hn.2.1; have h3:=hn.2.2.1; omega) | (have hn:=fm_nok q.1 (j:=i) (by omega) (by omega); obtain ⟨k,a,b,c,e⟩:=seenB_iff.1 (by assumption); exact hn.2.2.2.1 k a (by omega) e) | (obtain ⟨h1,h2,h3⟩:=fm_chk q.1 (i:=i) (x:=x) (by omega) (by omega) (by omega) (by omega); omega))).symm) rfl
 refine og (qv_mv (Value.map (some b2)) rfl) (want_f g3 rfl rfl rfl) ?_
 refine og (qv_ldm (vs:=[(.int .i64 ((fk N (i)).v)),(.int .i64 ((fk N (i)).l)),(.int .i64 ((fk N (i)).h))]) Try.agg80 rfl (inOc (k:=2) rfl) rfl rfl) (want_f g3 rfl rfl rfl) ?_
 refine og (qv_to (bool_dec _) (qv_look1 (a0:=false) (key:=(fk N (i))) (k:=1) Try.underlying129 fk_key Try.ti4 rfl rfl rfl)) (want_f g3 rfl rfl rfl) ?_
 let ζ7:Value:=.bool (decide ((((seenB N i.toNat) ((fk N (i)))).getD false)=true))
 refine oq (qv_pick_f g3 rfl (rfl:ev _ _=ζ7)) ?_
 refine ops_nil ?_
 refine vc_if rfl (fun c2=>?_) (fun c2=>?_)
 refine vc_seq ?_
 refine vc_region ?_
 refine oq (qv_as (Value.bool false) rfl) ?_
 refine ops_nil ?_
 refine vc_ret ?_
 refine blockQ_ret ?_
 refine blockQ_ret ?_
 exact rq1 (.bool (decide (Form vars N root))) (congrArg Value.bool (decide_eq_false (show ¬ (Form vars N root) from by exact fun q=>by first | (have:=q.2.1; omega) | (have hn:=fm_nok q.1 (j:=i) (by omega) (by omega); have h1:=hn.1; have h2:=hn.2.1; have h3:=hn.2.2.1; omega) | (have hn:=fm_nok q.1 (j:=i) (by omega) (by omega); obtain ⟨k,a,b,c,e⟩:=seenB_iff.1 (by assumption); exact hn.2.2.2.1 k a (by omega) e) | (obtain ⟨h1,h2,h3⟩:=fm_chk q.1 (i:=i) (x:=x) (by omega) (by omega) (by omega) (by omega); omega))).symm) rfl
 refine vc_skip ?_
 refine vc_seq ?_
 refine vc_seq ?_
 have hsn:¬ ∃ k:Int,0≤k∧k < i.toNat∧k < N.length∧fk N k=fk N i:=fun q=>c2 (seenB_iff.2 q)
 refine vc_region ?_
 refine oq (qv_fa (off:=0) Try.field80_1 rfl) ?_
 refine oq (qv_ldp (v:=(.int .i64 ((fk N (i)).l))) Try.plain3 rfl (inOc (k:=2) rfl) rfl) ?_
 refine oq (qv_fa (off:=0) Try.field80_2 rfl) ?_
 refine oq (qv_ldp (v:=(.int .i64 ((fk N (i)).h))) Try.plain3 rfl (inOc (k:=2) rfl) rfl) ?_
 refine oq (qv_build (out:=[(.int .i64 ((fk N (i)).l)),(.int .i64 ((fk N (i)).h))]) Try.build103 [(0,[(.int .i64 ((fk N (i)).l))]),(1,[(.int .i64 ((fk N (i)).h))])] rfl rfl) ?_
 refine oq (qv_mv (Value.int .i64 0) rfl) ?_
 refine ops_nil ?_
 refine vc_block ?_
 refine vc_loop (α:=Int) (fun (xx:Int)=>[(0,ζ6),(1,(Value.pointer (some ⟨b1,0,none⟩))),(3,(Value.map (some b2))),(4,(Value.int .i64 i)),(5,(Value.pointer (some ⟨b3,0,none⟩))),(13,nv),(14,(.int .i64 ((N.length:Int)))),(15,(Value.int .i64 i)),(16,(.bool (decide (i < ((N.length:Int)))))),(41,ζ7),(46,(.agg #[(.int .i64 ((fk N (i)).l)),(.int .i64 ((fk N (i)).h))])),(47,(Value.int .i64 xx))]) (fun (xx:Int) V' σ'=>V=V'∧[ζ1,ζ3,ζ2]=σ'∧0≤xx∧xx≤2∧∀ y:Int,0≤y→y < xx→Chk vars N i (gi [(fk N (i)).l,(fk N (i)).h] y)) (fun (xx:Int)=>(2 - xx).toNat) (0) ?_ ?_ ?_
 exact ⟨rfl,rfl,rfl,rfl,rfl,rfl,rfl,rfl,rfl,rfl,rfl,rfl,trivial⟩
 exact ⟨rfl,rfl,by omega,by omega,fun j a b=>by omega⟩
 rintro x e2 V1l σ1l hI1
 obtain ⟨rfl,rfl,i3,i4,hx⟩:V=V1l∧[ζ1,ζ3,ζ2]=σ1l∧0≤x∧x≤2∧∀ y:Int,0≤y→y < x→Chk vars N i (gi [(fk N (i)).l,(fk N (i)).h] y):=hI1
 refine vc_seq ?_
 refine vc_region ?_
 refine oq (qv_lss rfl rfl) ?_
 refine ops_nil ?_
 refine vc_seq ?_
 refine vc_if rfl (fun c3=>?_) (fun c3=>?_)
 refine vc_skip ?_
 refine vc_seq ?_
 refine vc_block ?_
 refine vc_seq ?_
 refine vc_region ?_
 subst ζ6 ζ1 ζ3 ζ2 ζ7
 refine oq (qv_idx (v:=(.int .i64 (gi [(fk N (i)).l,(fk N (i)).h] (x)))) (i:=x) Try.underlying103 Try.plain3 Try.size3 rfl rfl (by omega) (by simp; omega) (idx_ints (xs:=[(fk N (i)).l,(fk N (i)).h]) (by omega) (by simp; omega))) ?_
 let ζ4:Value:=.int .i64 (gi [(fk N (i)).l,(fk N (i)).h] (x))
 refine oq (qv_as ζ4 rfl) ?_
 refine ops_nil ?_
 refine vc_seq ?_
 refine vc_region_any Try.mixed (by kernel_rfl) ?_
 refine qq (qv_mv ζ4 rfl) ?_
 refine qq (qv_lss rfl rfl) ?_
 refine qq (qv_mv (.bool (decide ((gi [(fk N (i)).l,(fk N (i)).h] (x)) < 0))) rfl) ?_
 by_cases g4:(gi [(fk N (i)).l,(fk N (i)).h] (x)) < 0
 refine qs (want_fn g4 rfl rfl rfl) ?_
 refine qs (want_fn g4 rfl rfl rfl) ?_
 refine qs (want_fn g4 rfl rfl rfl) ?_
 refine qs (want_fn g4 rfl rfl rfl) ?_
 refine qq (qv_pick_t g4 rfl (rfl:ev _ _=(Value.bool true))) ?_
 refine qq (qv_mv (Value.bool true) rfl) ?_
 refine qs (want_fnc rfl rfl rfl) ?_
 refine qs (want_fnc rfl rfl rfl) ?_
 refine qs (want_fnc rfl rfl rfl) ?_
 refine qs (want_fnc rfl rfl rfl) ?_
 refine qs (want_fnc rfl rfl rfl) ?_
 refine qs (want_fnc rfl rfl rfl) ?_
 refine qq (qv_pick_tc rfl (rfl:ev _ _=(Value.bool true))) ?_
 refine qops_nil ?_
 refine vc_tt rfl ?_
 refine vc_seq ?_
 refine vc_region ?_
 refine oq (qv_as (Value.bool false) rfl) ?_
 refine ops_nil ?_
 refine vc_ret ?_
 refine blockQ_ret ?_
 refine blockQ_ret ?_
 refine blockQ_ret ?_
 refine blockQ_ret ?_
 exact rq1 (.bool (decide (Form vars N root))) (congrArg Value.bool (decide_eq_false (show ¬ (Form vars N root) from by exact fun q=>by first | (have:=q.2.1; omega) | (have hn:=fm_nok q.1 (j:=i) (by omega) (by omega); have h1:=hn.1; have h2:=hn.2.1; have h3:=hn.2.2.1; omega) | (have hn:=fm_nok q.1 (j:=i) (by omega) (by omega); obtain ⟨k,a,b,c,e⟩:=seenB_iff.1 (by assumption); exact hn.2.2.2.1 k a (by omega) e) | (obtain ⟨h1,h2,h3⟩:=fm_chk q.1 (i:=i) (x:=x) (by omega) (by omega) (by omega) (by omega); omega))).symm) rfl
 refine qg (qv_mv ζ4 rfl) (want_f g4 rfl rfl rfl) ?_
 refine qg (qv_mv (Value.int .i64 i) rfl) (want_f g4 rfl rfl rfl) ?_
 refine qg (qv_add rfl rfl (by omega)) (want_f g4 rfl rfl rfl) ?_
 refine qg (qv_gtr rfl rfl) (want_f g4 rfl rfl rfl) ?_
 refine qq (qv_pick_f g4 rfl (rfl:ev _ _=(.bool (decide ((1+i) < (gi [(fk N (i)).l,(fk N (i)).h] (x))))))) ?_
 refine qq (qv_mv (.bool (decide ((1+i) < (gi [(fk N (i)).l,(fk N (i)).h] (x))))) rfl) ?_
 by_cases g5:(1+i) < (gi [(fk N (i)).l,(fk N (i)).h] (x))
 refine qs (want_fn g5 rfl rfl rfl) ?_
 refine qs (want_fn g5 rfl rfl rfl) ?_
 refine qs (want_fn g5 rfl rfl rfl) ?_
 refine qs (want_fn g5 rfl rfl rfl) ?_
 refine qs (want_fn g5 rfl rfl rfl) ?_
 refine qs (want_fn g5 rfl rfl rfl) ?_
 refine qq (qv_pick_t g5 rfl (rfl:ev _ _=(Value.bool true))) ?_
 refine qops_nil ?_
 refine vc_tt rfl ?_
 refine vc_seq ?_
 refine vc_region ?_
 refine oq (qv_as (Value.bool false) rfl) ?_
 refine ops_nil ?_
 refine vc_ret ?_
 refine blockQ_ret ?_
 refine blockQ_ret ?_
 refine blockQ_ret ?_
 refine blockQ_ret ?_
 exact rq1 (.bool (decide (Form vars N root))) (congrArg Value.bool (decide_eq_false (show ¬ (Form vars N root) from by exact fun q=>by first | (have:=q.2.1; omega) | (have hn:=fm_nok q.1 (j:=i) (by omega) (by omega); have h1:=hn.1; have h2:=hn.2.1; have h3:=hn.2.2.1; omega) | (have hn:=fm_nok q.1 (j:=i) (by omega) (by omega); obtain ⟨k,a,b,c,e⟩:=seenB_iff.1 (by assumption); exact hn.2.2.2.1 k a (by omega) e) | (obtain ⟨h1,h2,h3⟩:=fm_chk q.1 (i:=i) (x:=x) (by omega) (by omega) (by omega) (by omega); omega))).symm) rfl
 refine qg (qv_ldm (vs:=[(Value.int .i64 vars),nv,(Value.int .i64 root)]) Try.agg59 rfl (inOc (k:=0) rfl) rfl rfl) (want_f g5 rfl rfl rfl) ?_
 refine qg (qv_mv ζ4 rfl) (want_f g5 rfl rfl rfl) ?_
 refine qg (qv_call (v:=(.int .i64 (lev vars N (gi [(fk N (i)).l,(fk N (i)).h] (x))))) (level_c hN (by omega) (by omega)) rfl rfl) (want_f g5 rfl rfl rfl) ?_
 refine qg (qv_fa (off:=0) Try.field80_0 rfl) (want_f g5 rfl rfl rfl) ?_
 refine qg (qv_ldp (v:=(.int .i64 ((fk N (i)).v))) Try.plain3 rfl (inOc (k:=2) rfl) rfl) (want_f g5 rfl rfl rfl) ?_
 refine qg (qv_leq rfl rfl) (want_f g5 rfl rfl rfl) ?_
 refine qq (qv_pick_f g5 rfl (rfl:ev _ _=(.bool (decide ((lev vars N (gi [(fk N (i)).l,(fk N (i)).h] (x)))≤((fk N (i)).v)))))) ?_
 refine qops_nil ?_
 refine vc_if rfl (fun c4=>?_) (fun c4=>?_)
 refine vc_seq ?_
 refine vc_region ?_
 refine oq (qv_as (Value.bool false) rfl) ?_
 refine ops_nil ?_
 refine vc_ret ?_
 refine blockQ_ret ?_
 refine blockQ_ret ?_
 refine blockQ_ret ?_
 refine blockQ_ret ?_
 exact rq1 (.bool (decide (Form vars N root))) (congrArg Value.bool (decide_eq_false (show ¬ (Form vars N root) from by exact fun q=>by first | (have:=q.2.1; omega) | (have hn:=fm_nok q.1 (j:=i) (by omega) (by omega); have h1:=hn.1; have h2:=hn.2.1; have h3:=hn.2.2.1; omega) | (have hn:=fm_nok q.1 (j:=i) (by omega) (by omega); obtain ⟨k,a,b,c,e⟩:=seenB_iff.1 (by assumption); exact hn.2.2.2.1 k a (by omega) e) | (obtain ⟨h1,h2,h3⟩:=fm_chk q.1 (i:=i) (x:=x) (by omega) (by omega) (by omega) (by omega); omega))).symm) rfl
 refine vc_skip ?_
 refine vc_region ?_
 refine oq (qv_add rfl rfl (by omega)) ?_
 refine oq (qv_mv (.int .i64 (x+1)) rfl) ?_
 refine ops_nil ?_
 refine ⟨(x+1),⟨rfl,rfl,rfl,rfl,rfl,rfl,rfl,rfl,rfl,rfl,rfl,(congrArg (Value.int .i64) (show (x+1)=((x+1)) from by omega)),trivial⟩,⟨rfl,rfl,by omega,by omega,all_snoc hx ⟨by omega,by omega,by omega⟩⟩,by omega⟩
 refine vc_exit ?_
 refine blockQ_hit ?_
 have hl:=hx 0 (by omega) (by omega)
 have hh:=hx 1 (by omega) (by omega)
 have hnok:Nok vars N i:=⟨by omega,by omega,by omega,fun k k0 k1 q=>hsn ⟨k,k0,by omega,by omega,q⟩,hl,hh⟩
 refine vc_region ?_
 refine oq (qv_mv (Value.map (some b2)) rfl) ?_
 refine oq (qv_ldm (vs:=[(.int .i64 ((fk N (i)).v)),(.int .i64 ((fk N (i)).l)),(.int .i64 ((fk N (i)).h))]) Try.agg80 rfl (inOc (k:=2) rfl) rfl rfl) ?_
 refine ops_mapset (k:=1) (key:=(fk N (i))) (v:=true) Try.underlying129 fk_key rfl rfl rfl rfl ?_
 refine ops_nil ?_
 let ζ5:Asrt:=Mf b2 fkv Value.bool (setF (seenB N i.toNat) ((fk N (i))) true)
 refine vc_res (σ':=[ζ1,ζ5,ζ2]) rfl ?_
 refine vc_drop [ζ1,ζ5] [(Arr 80 b3 [(Value.int .i64 ((fk N (i)).v)),(Value.int .i64 ((fk N (i)).l)),(Value.int .i64 ((fk N (i)).h))])] ((List.perm_middle (l₁:=[ζ1,ζ5]) (l₂:=[])).trans (List.perm_append_comm (l₁:=[(Arr 80 b3 [(Value.int .i64 ((fk N (i)).v)),(Value.int .i64 ((fk N (i)).l)),(Value.int .i64 ((fk N (i)).h))])]))) ?_
 refine vc_region ?_
 refine oq (qv_add rfl rfl (by omega)) ?_
 refine oq (qv_mv (.int .i64 (i+1)) rfl) ?_
 refine ops_nil ?_
 subst ζ6 ζ1 ζ3 ζ2 ζ7 ζ5
 refine ⟨(i+1),⟨rfl,rfl,rfl,rfl,rfl,(congrArg (Value.int .i64) (show (i+1)=((i+1)) from by omega)),trivial⟩,⟨rfl,(show [(Arr 59 b1 [(Value.int .i64 vars),nv,(Value.int .i64 root)]),(Mf b2 fkv Value.bool (seenB N (i+1:Int).toNat))]=[(Arr 59 b1 [(Value.int .i64 vars),nv,(Value.int .i64 root)]),(Mf b2 fkv Value.bool (setF (seenB N i.toNat) ((fk N (i))) true))] from by rw [seenB_step (by omega) (by omega)]),by omega,by omega,all_snoc hok hnok⟩,by omega⟩
 refine vc_exit ?_
 refine blockQ_hit ?_
 refine vc_seq ?_
 refine vc_region ?_
 refine oq (qv_fa (off:=0) Try.field59_2 rfl) ?_
 refine oq (qv_ldp (v:=(Value.int .i64 root)) Try.plain3 rfl (inOc (k:=0) rfl) rfl) ?_
 refine oq (qv_geq rfl rfl) ?_
 refine oq (qv_mv (.bool (decide (0≤root))) rfl) ?_
 by_cases g6:0≤root
 refine og (qv_fa (off:=0) Try.field59_2 rfl) (want_t g6 rfl rfl rfl) ?_
 refine og (qv_ldp (v:=(Value.int .i64 root)) Try.plain3 rfl (inOc (k:=0) rfl) rfl) (want_t g6 rfl rfl rfl) ?_
 refine og (qv_fa (off:=0) Try.field59_1 rfl) (want_t g6 rfl rfl rfl) ?_
 refine og (qv_ldp (v:=nv) Try.plain23 rfl (inOc (k:=0) rfl) rfl) (want_t g6 rfl rfl rfl) ?_
 refine og (qv_lenSS Try.underlying23 rfl hN) (want_t g6 rfl rfl rfl) ?_
 refine og (qv_add rfl rfl (by omega)) (want_t g6 rfl rfl rfl) ?_
 refine og (qv_leq rfl rfl) (want_t g6 rfl rfl rfl) ?_
 refine oq (qv_pick_t g6 rfl (rfl:ev _ _=(.bool (decide (root≤(1+((N.length:Int)))))))) ?_
 refine oq (qv_as (.bool (decide (root≤(1+((N.length:Int)))))) rfl) ?_
 refine ops_nil ?_
 refine vc_ret ?_
 exact rq1 (.bool (decide (Form vars N root))) (congrArg Value.bool (decide_eq_decide.2 (show (root≤(1+((N.length:Int)))) ↔ (Form vars N root) from by exact ⟨fun q=>⟨nok_fm fun j a b=>hok j a (by omega),by omega,q⟩,fun q=>q.2.2⟩))) rfl
 refine os (want_tn g6 rfl rfl rfl) ?_
 refine os (want_tn g6 rfl rfl rfl) ?_
 refine os (want_tn g6 rfl rfl rfl) ?_
 refine os (want_tn g6 rfl rfl rfl) ?_
 refine os (want_tn g6 rfl rfl rfl) ?_
 refine os (want_tn g6 rfl rfl rfl) ?_
 refine os (want_tn g6 rfl rfl rfl) ?_
 refine oq (qv_pick_f g6 rfl (rfl:ev _ _=(Value.bool false))) ?_
 refine oq (qv_as (Value.bool false) rfl) ?_
 refine ops_nil ?_
 refine vc_ret ?_
 exact rq1 (.bool (decide (Form vars N root))) (congrArg Value.bool (decide_eq_false (show ¬ (Form vars N root) from by exact fun q=>by first | (have:=q.2.1; omega) | (have hn:=fm_nok q.1 (j:=i) (by omega) (by omega); have h1:=hn.1; have h2:=hn.2.1; have h3:=hn.2.2.1; omega) | (have hn:=fm_nok q.1 (j:=i) (by omega) (by omega); obtain ⟨k,a,b,c,e⟩:=seenB_iff.1 (by assumption); exact hn.2.2.2.1 k a (by omega) e) | (obtain ⟨h1,h2,h3⟩:=fm_chk q.1 (i:=i) (x:=x) (by omega) (by omega) (by omega) (by omega); omega))).symm) rfl
theorem Check_c {V:HV} {nv:Value} {N:List Fk} {vars root:Int} (hN:Fks V nv N) :
    FnC Try.prog 78 [(.agg #[(Value.int .i64 vars),nv,(Value.int .i64 root)])] V [] (fun v _ _=>v=(.int .i64 (chkC vars N root))):=by
 refine fn_intro (N:=39) Try.func78 (by kernel_rfl) rfl rfl rfl (Nat.le_of_ble_eq_true rfl) ?_
 intro w0 D
 have hb:=SlS.bound hN
 refine vc_seq ?_
 refine vc_region ?_
 refine ops_box (v:=(.agg #[(Value.int .i64 vars),nv,(Value.int .i64 root)])) (cs:=[(Value.int .i64 vars),nv,(Value.int .i64 root)]) rfl rfl (fun b1=>?_)
 refine oq (qv_as (Value.int .i64 0) rfl) ?_
 refine ops_nil ?_
 refine vc_seq ?_
 refine vc_seq ?_
 let ζ1:Asrt:=Arr 59 b1 [(Value.int .i64 vars),nv,(Value.int .i64 root)]
 refine vc_res (σ':=[ζ1]) rfl ?_
 refine vc_region ?_
 refine oq (qv_fa (off:=0) Try.field59_0 rfl) ?_
 refine oq (qv_ldp (v:=(Value.int .i64 vars)) Try.plain3 rfl (inOc (k:=0) rfl) rfl) ?_
 refine oq (qv_lss rfl rfl) ?_
 refine oq (qv_mv (.bool (decide (vars < 0))) rfl) ?_
 by_cases g1:vars < 0
 refine os (want_fn g1 rfl rfl rfl) ?_
 refine os (want_fn g1 rfl rfl rfl) ?_
 refine os (want_fn g1 rfl rfl rfl) ?_
 refine oq (qv_pick_t g1 rfl (rfl:ev _ _=(Value.bool true))) ?_
 refine ops_nil ?_
 refine vc_tt rfl ?_
 refine vc_seq ?_
 refine vc_region ?_
 refine oq (qv_as (Value.int .i64 3) rfl) ?_
 refine ops_nil ?_
 refine vc_ret ?_
 subst ζ1
 exact rq1 (.int .i64 (chkC vars N root)) (congrArg (Value.int .i64) (show 3=(chkC vars N root) from by rw [chk_3 (by omega)])) rfl
 refine og (qv_fa (off:=0) Try.field59_0 rfl) (want_f g1 rfl rfl rfl) ?_
 refine og (qv_ldp (v:=(Value.int .i64 vars)) Try.plain3 rfl (inOc (k:=0) rfl) rfl) (want_f g1 rfl rfl rfl) ?_
 refine og (qv_gtr rfl rfl) (want_f g1 rfl rfl rfl) ?_
 refine oq (qv_pick_f g1 rfl (rfl:ev _ _=(.bool (decide (40 < vars))))) ?_
 refine ops_nil ?_
 refine vc_if rfl (fun c1=>?_) (fun c1=>?_)
 refine vc_seq ?_
 refine vc_region ?_
 refine oq (qv_as (Value.int .i64 3) rfl) ?_
 refine ops_nil ?_
 refine vc_ret ?_
 subst ζ1
 exact rq1 (.int .i64 (chkC vars N root)) (congrArg (Value.int .i64) (show 3=(chkC vars N root) from by rw [chk_3 (by omega)])) rfl
 refine vc_skip ?_
 refine vc_seq ?_
 refine vc_seq ?_
 refine vc_region ?_
 refine oq (qv_fa (off:=0) Try.field59_1 rfl) ?_
 refine oq (qv_ldp (v:=nv) Try.plain23 rfl (inOc (k:=0) rfl) rfl) ?_
 refine oq (qv_lenSS Try.underlying23 rfl hN) ?_
 refine oq (qv_gtr rfl rfl) ?_
 refine ops_nil ?_
 refine vc_if rfl (fun c2=>?_) (fun c2=>?_)
 refine vc_seq ?_
 refine vc_region ?_
 refine oq (qv_as (Value.int .i64 4) rfl) ?_
 refine ops_nil ?_
 refine vc_ret ?_
 subst ζ1
 exact rq1 (.int .i64 (chkC vars N root)) (congrArg (Value.int .i64) (show 4=(chkC vars N root) from by rw [chk_4 (by omega) (by omega)])) rfl
 refine vc_skip ?_
 refine vc_seq ?_
 refine vc_seq ?_
 refine vc_region ?_
 refine oq (qv_ldm (vs:=[(Value.int .i64 vars),nv,(Value.int .i64 root)]) Try.agg59 rfl (inOc (k:=0) rfl) rfl rfl) ?_
 refine oq (qv_call (v:=(.bool (decide (Form vars N root)))) (formed_c hN (by omega)) rfl rfl) ?_
 refine oq (qv_not rfl) ?_
 refine ops_nil ?_
 refine vc_if rfl (fun c3=>?_) (fun c3=>?_)
 refine vc_seq ?_
 refine vc_region ?_
 refine oq (qv_as (Value.int .i64 1) rfl) ?_
 refine ops_nil ?_
 refine vc_ret ?_
 subst ζ1
 exact rq1 (.int .i64 (chkC vars N root)) (congrArg (Value.int .i64) (show 1=(chkC vars N root) from by rw [chk_1 (by omega) (by omega) (fun q=>by first | exact absurd q.2.2.1 (by assumption) | (have:=q.2.2.2.2; omega) | exact absurd q.2.2.2.1 (by assumption))])) rfl
 refine vc_skip ?_
 refine vc_seq ?_
 have hF:Form vars N root:=Decidable.not_not.1 (by assumption)
 refine vc_region ?_
 refine oq (qv_fa (off:=0) Try.field59_0 rfl) ?_
 refine oq (qv_ldp (v:=(Value.int .i64 vars)) Try.plain3 rfl (inOc (k:=0) rfl) rfl) ?_
 refine oq (qv_fa (off:=0) Try.field59_1 rfl) ?_
 refine oq (qv_ldp (v:=nv) Try.plain23 rfl (inOc (k:=0) rfl) rfl) ?_
 refine oq (qv_fa (off:=0) Try.field59_2 rfl) ?_
 refine oq (qv_ldp (v:=(Value.int .i64 root)) Try.plain3 rfl (inOc (k:=0) rfl) rfl) ?_
 refine ops_call (σa:=[]) (σr:=[ζ1]) (lay_c hN hF.1 hF.rf (by omega)) rfl rfl (.refl _) (fun r1 V1 sg1 hV1 hp1=>?_)
 obtain ⟨rfl,u1,rfl,hN1⟩:=hp1
 have hN:=hN.mono hV1
 refine ops_alloc Try.ti59 rfl (fun b2=>?_)
 refine ops_stw (k:=1) (vs:=[(Value.int .i64 vars),u1,(.int .i64 ((layF N root).2))]) Try.size59 rfl rfl rfl (allc rfl (allc (SlS.one hN1) (allc rfl rfl))) rfl rfl ?_
 refine ops_nil ?_
 refine vc_seq ?_
 refine vc_seq ?_
 refine vc_res (σ':=[ζ1,(Arr 59 b2 [(Value.int .i64 vars),u1,(.int .i64 ((layF N root).2))])]) rfl ?_
 refine vc_region ?_
 refine oq (qv_fa (off:=0) Try.field59_2 rfl) ?_
 refine oq (qv_ldp (v:=(.int .i64 ((layF N root).2))) Try.plain3 rfl (inOc (k:=1) rfl) rfl) ?_
 refine oq (qv_fa (off:=0) Try.field59_2 rfl) ?_
 refine oq (qv_ldp (v:=(Value.int .i64 root)) Try.plain3 rfl (inOc (k:=0) rfl) rfl) ?_
 refine oq (qv_neq rfl rfl) ?_
 refine oq (qv_mv (.bool (decide (((layF N root).2) ≠ root))) rfl) ?_
 by_cases g2:((layF N root).2) ≠ root
 refine os (want_fn g2 rfl rfl rfl) ?_
 refine os (want_fn g2 rfl rfl rfl) ?_
 refine os (want_fn g2 rfl rfl rfl) ?_
 refine os (want_fn g2 rfl rfl rfl) ?_
 refine os (want_fn g2 rfl rfl rfl) ?_
 refine os (want_fn g2 rfl rfl rfl) ?_
 refine oq (qv_pick_t g2 rfl (rfl:ev _ _=(Value.bool true))) ?_
 refine ops_nil ?_
 refine vc_tt rfl ?_
 refine vc_seq ?_
 refine vc_region ?_
 refine oq (qv_as (Value.int .i64 1) rfl) ?_
 refine ops_nil ?_
 refine vc_ret ?_
 subst ζ1
 exact rq1 (.int .i64 (chkC vars N root)) (congrArg (Value.int .i64) (show 1=(chkC vars N root) from by rw [chk_1 (by omega) (by omega) (fun q=>by first | exact absurd q.2.2.1 (by assumption) | (have:=q.2.2.2.2; omega) | exact absurd q.2.2.2.1 (by assumption))])) rfl
 refine og (qv_fa (off:=0) Try.field59_1 rfl) (want_f g2 rfl rfl rfl) ?_
 refine og (qv_ldp (v:=u1) Try.plain23 rfl (inOc (k:=1) rfl) rfl) (want_f g2 rfl rfl rfl) ?_
 refine og (qv_fa (off:=0) Try.field59_1 rfl) (want_f g2 rfl rfl rfl) ?_
 refine og (qv_ldp (v:=nv) Try.plain23 rfl (inOc (k:=0) rfl) rfl) (want_f g2 rfl rfl rfl) ?_
 refine og (qv_call (v:=(.bool (decide ((layF N root).1=N)))) (EqF_c hN1 hN) rfl rfl) (want_f g2 rfl rfl rfl) ?_
 refine og (qv_not rfl) (want_f g2 rfl rfl rfl) ?_
 refine oq (qv_pick_f g2 rfl (rfl:ev _ _=(.bool (decide (¬ ((layF N root).1=N)))))) ?_
 refine ops_nil ?_
 refine vc_if rfl (fun c4=>?_) (fun c4=>?_)
 refine vc_seq ?_
 refine vc_region ?_
 refine oq (qv_as (Value.int .i64 1) rfl) ?_
 refine ops_nil ?_
 refine vc_ret ?_
 subst ζ1
 exact rq1 (.int .i64 (chkC vars N root)) (congrArg (Value.int .i64) (show 1=(chkC vars N root) from by rw [chk_1 (by omega) (by omega) (fun q=>by first | exact absurd q.2.2.1 (by assumption) | (have:=q.2.2.2.2; omega) | exact absurd q.2.2.2.1 (by assumption))])) rfl
 refine vc_skip ?_
 refine vc_seq ?_
 refine vc_region ?_
 refine oq (qv_as (Value.int .i64 0) rfl) ?_
 refine ops_nil ?_
 refine vc_ret ?_
 subst ζ1
 exact rq1 (.int .i64 (chkC vars N root)) (congrArg (Value.int .i64) (show 0=(chkC vars N root) from by rw [chk_0 ⟨by omega,by omega,hF,Decidable.not_not.1 (by assumption),by omega⟩])) rfl
end Go.Proofs.Ytkmhjcjpohpiaaa.Bd
