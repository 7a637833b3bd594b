import Derived.Test.YtkmhjcjpohpiaaaBs
/- Walks of bdd: what each function returns. Printed by a program out of notes. -/
namespace Go.Proofs.Ytkmhjcjpohpiaaa.Bd
open Go.Vc
open Classical
set_option maxRecDepth 100000
set_option maxHeartbeats 4000000
theorem value_c {V:HV} {na:Value} {A:Dg} (hA:Fks V na A.N) {L:List Bool} {lv:Value} (hL:Bls V lv L) (hf:Fm A.v A.N) (hr:Rf A.N A.r) (hl:L.length=A.v) :
    FnC Try.prog 124 [(.agg #[(.int .i64 A.v),na,(.int .i64 A.r)]),lv] V [] (fun v _ _=>v=(.bool (decide (vl A.N (fun i=>gb L i) A.r=true)))):=by
 refine fn_intro (N:=28) Try.func124 (by kernel_rfl) rfl rfl rfl (Nat.le_of_ble_eq_true rfl) ?_
 intro w0 D
 have hb:=SlS.bound hA
 have hb2:=hL.bound
 refine vc_seq ?_
 refine vc_region ?_
 refine ops_box (v:=(.agg #[(.int .i64 A.v),na,(.int .i64 A.r)])) (cs:=[(.int .i64 A.v),na,(.int .i64 A.r)]) rfl rfl (fun b1=>?_)
 refine oq (qv_as (Value.bool false) rfl) ?_
 refine ops_nil ?_
 refine vc_seq ?_
 let ζ3:Asrt:=Arr 59 b1 [(.int .i64 A.v),na,(.int .i64 A.r)]
 refine vc_res (σ':=[ζ3]) rfl ?_
 refine vc_region ?_
 refine oq (qv_fa (off:=0) Try.field59_2 rfl) ?_
 refine oq (qv_ldp (v:=(.int .i64 A.r)) Try.plain3 rfl (inOc (k:=0) rfl) rfl) ?_
 refine oq (qv_as (.int .i64 A.r) rfl) ?_
 refine ops_nil ?_
 refine vc_seq ?_
 refine vc_block ?_
 refine vc_loopD (α:=Int) (fun (xx:Int)=>[(0,(.agg #[(.int .i64 A.v),na,(.int .i64 A.r)])),(1,lv),(2,(Value.pointer (some ⟨b1,0,none⟩))),(4,(Value.bool false)),(5,(Value.int .i64 xx))]) (fun (xx:Int) V' σ'=>V=V'∧[ζ3]=σ'∧Rf A.N xx∧vl A.N (fun i=>gb L i) xx=vl A.N (fun i=>gb L i) A.r) (fun (xx:Int)=>xx.toNat) (A.r) ?_ ?_ ?_
 exact ⟨rfl,rfl,rfl,rfl,rfl,trivial⟩
 exact ⟨rfl,rfl,hr,rfl⟩
 rintro r e1 V0l σ0l hI0
 obtain ⟨rfl,rfl,hr1,hv1⟩:V=V0l∧[ζ3]=σ0l∧Rf A.N r∧vl A.N (fun i=>gb L i) r=vl A.N (fun i=>gb L i) A.r:=hI0
 refine vc_seq ?_
 refine vc_seq ?_
 refine vc_region ?_
 refine oq (qv_mv (Value.int .i64 r) rfl) ?_
 refine oq (qv_geq rfl rfl) ?_
 refine ops_nil ?_
 refine vc_if rfl (fun c1=>?_) (fun c1=>?_)
 refine vc_skip ?_
 refine vc_block ?_
 refine vc_seq ?_
 have hq2:=hr1.2
 have hlo:=hf.lo r (by omega) hq2
 have hhi:=hf.hi r (by omega) hq2
 have hvr:=hf.vr r (by omega) hq2
 have hst:=vl_step hf (e:=fun i=>gb L i) (r:=r) (by omega) hq2
 subst ζ3
 rw [nd_fk] at hlo hhi hvr hst
 refine vc_region ?_
 refine oq (qv_fa (off:=0) Try.field59_1 rfl) ?_
 refine oq (qv_ldp (v:=na) Try.plain23 rfl (inOc (k:=0) rfl) rfl) ?_
 refine oq (qv_mv (Value.int .i64 r) rfl) ?_
 refine oq (qv_sub rfl rfl (by omega)) ?_
 refine oq (qv_ias (v:=na) (i:=r - 2) Try.underlying23 Try.size80 rfl hA rfl (by omega) (by omega)) ?_
 let ζ1:Value:=.int .i64 ((fk A.N (r - 2)).l)
 let ζ2:Value:=.int .i64 ((fk A.N (r - 2)).h)
 let ζ4:Value:=.int .i64 ((fk A.N (r - 2)).v)
 refine oq (qv_lds (v:=na) (i:=r - 2) (vs:=[ζ4,ζ1,ζ2]) Try.agg80 rfl hA (by omega) (by omega) (fks_at (N:=A.N) (by omega) (by omega))) ?_
 refine ops_alloc Try.ti80 rfl (fun b2=>?_)
 refine ops_stw (k:=1) (vs:=[ζ4,ζ1,ζ2]) Try.size80 rfl rfl rfl rfl rfl rfl ?_
 refine ops_nil ?_
 refine vc_seq ?_
 refine vc_res (σ':=[(Arr 59 b1 [(.int .i64 A.v),na,(.int .i64 A.r)]),(Arr 80 b2 [ζ4,ζ1,ζ2])]) rfl ?_
 refine vc_region ?_
 refine oq (qv_mv lv rfl) ?_
 refine oq (qv_fa (off:=0) Try.field80_0 rfl) ?_
 refine oq (qv_ldp (v:=ζ4) Try.plain3 rfl (inOc (k:=1) rfl) rfl) ?_
 refine oq (qv_iab (v:=lv) (i:=(fk A.N (r - 2)).v) Try.underlying30 Try.size4 rfl (inVb hL) rfl (by omega) (by omega)) ?_
 refine oq (qv_ldb (v:=lv) (i:=(fk A.N (r - 2)).v) Try.plain4 rfl (inVb hL) (by omega) (by omega)) ?_
 refine ops_nil ?_
 refine vc_if rfl (fun c2=>?_) (fun c2=>?_)
 refine vc_region ?_
 refine oq (qv_fa (off:=0) Try.field80_2 rfl) ?_
 refine oq (qv_ldp (v:=ζ2) Try.plain3 rfl (inOc (k:=1) rfl) rfl) ?_
 refine oq (qv_as ζ2 rfl) ?_
 refine ops_nil ?_
 subst ζ1 ζ2 ζ4
 refine ⟨((fk A.N (r - 2)).h),⟨rfl,rfl,rfl,rfl,(congrArg (Value.int .i64) (show ((fk A.N (r - 2)).h)=(((fk A.N (r - 2)).h)) from by rfl)),trivial⟩,⟨[(Arr 59 b1 [(.int .i64 A.v),na,(.int .i64 A.r)])],[(Arr 80 b2 [(.int .i64 ((fk A.N (r - 2)).v)),(.int .i64 ((fk A.N (r - 2)).l)),(.int .i64 ((fk A.N (r - 2)).h))])],(perm_idx _ _ [0,1] rfl rfl),⟨rfl,rfl,⟨hhi.1,by omega⟩,by rw [← hv1,hst,if_pos c2]⟩⟩,by omega⟩
 refine vc_region ?_
 refine oq (qv_fa (off:=0) Try.field80_1 rfl) ?_
 refine oq (qv_ldp (v:=ζ1) Try.plain3 rfl (inOc (k:=1) rfl) rfl) ?_
 refine oq (qv_as ζ1 rfl) ?_
 refine ops_nil ?_
 subst ζ1 ζ2 ζ4
 refine ⟨((fk A.N (r - 2)).l),⟨rfl,rfl,rfl,rfl,(congrArg (Value.int .i64) (show ((fk A.N (r - 2)).l)=(((fk A.N (r - 2)).l)) from by rfl)),trivial⟩,⟨[(Arr 59 b1 [(.int .i64 A.v),na,(.int .i64 A.r)])],[(Arr 80 b2 [(.int .i64 ((fk A.N (r - 2)).v)),(.int .i64 ((fk A.N (r - 2)).l)),(.int .i64 ((fk A.N (r - 2)).h))])],(perm_idx _ _ [0,1] rfl rfl),⟨rfl,rfl,⟨hlo.1,by omega⟩,by rw [← hv1,hst,if_neg c2]⟩⟩,by omega⟩
 refine vc_exit ?_
 refine blockQ_hit ?_
 refine vc_seq ?_
 refine vc_region ?_
 refine oq (qv_mv (Value.int .i64 r) rfl) ?_
 refine oq (qv_eql rfl rfl) ?_
 refine oq (qv_as (.bool (decide (r=1))) rfl) ?_
 refine ops_nil ?_
 refine vc_ret ?_
 subst ζ3
 exact rq1 (.bool (decide (vl A.N (fun i=>gb L i) A.r=true))) (congrArg Value.bool (decide_eq_decide.2 (show (r=1) ↔ (vl A.N (fun i=>gb L i) A.r=true) from by rw [← hv1,vl_const (by omega)]; simp))) rfl
end Go.Proofs.Ytkmhjcjpohpiaaa.Bd
