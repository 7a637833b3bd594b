import Derived.Test.YtkmhjcjpohpiaaaBs
/- Walks of bdd: what each function returns. Printed by a program out of notes. -/
namespace Go.Proofs.Ytkmhjcjpohpiaaa.Bd
open Go.Vc
open Classical
set_option maxRecDepth 100000
set_option maxHeartbeats 4000000
theorem power_c {V:HV} {n:Int} (h:n≤40) :
    FnC Try.prog 123 [(Value.int .i64 n)] V [] (fun v _ _=>v=(.int .i64 ((2:Int) ^ n.toNat))):=by
 refine fn_intro (N:=11) Try.func123 (by kernel_rfl) rfl rfl rfl (Nat.le_of_ble_eq_true rfl) ?_
 intro w0 D
 refine vc_seq ?_
 refine vc_region ?_
 refine oq (qv_as (Value.int .i64 0) rfl) ?_
 refine ops_nil ?_
 refine vc_seq ?_
 refine vc_region ?_
 refine oq (qv_as (Value.int .i64 1) rfl) ?_
 refine ops_nil ?_
 refine vc_seq ?_
 refine vc_seq ?_
 refine vc_region ?_
 refine oq (qv_mv (Value.int .i64 n) rfl) ?_
 refine oq (qv_mv (Value.int .i64 0) rfl) ?_
 refine ops_nil ?_
 refine vc_block ?_
 refine vc_loop (α:=Int) (fun (xx:Int)=>[(0,(Value.int .i64 n)),(2,(Value.int .i64 0)),(4,(Value.int .i64 n)),(3,(.int .i64 ((2:Int) ^ xx.toNat))),(5,(Value.int .i64 xx))]) (fun (xx:Int) V' σ'=>V=V'∧[]=σ'∧0≤xx∧(xx≤n ∨ xx=0)) (fun (xx:Int)=>(n - xx).toNat) (0) ?_ ?_ ?_
 exact ⟨rfl,rfl,rfl,(congrArg (Value.int .i64) (show 1=((2:Int) ^ (0:Int).toNat) from by rfl)),rfl,trivial⟩
 exact ⟨rfl,rfl,by omega,by omega⟩
 rintro i e1 V0l σ0l hI0
 obtain ⟨rfl,rfl,i1,i2⟩:V=V0l∧[]=σ0l∧0≤i∧(i≤n ∨ i=0):=hI0
 have hp:=pow2_40 (n:=i.toNat) (by omega)
 refine vc_seq ?_
 refine vc_region ?_
 refine oq (qv_lss rfl rfl) ?_
 refine ops_nil ?_
 refine vc_seq ?_
 refine vc_if rfl (fun c1=>?_) (fun c1=>?_)
 refine vc_skip ?_
 refine vc_seq ?_
 refine vc_block ?_
 refine vc_region ?_
 refine oq (qv_mv (.int .i64 ((2:Int) ^ i.toNat)) rfl) ?_
 refine oq (qv_mul rfl rfl (by omega)) ?_
 refine oq (qv_as (.int .i64 (((2:Int) ^ i.toNat) * 2)) rfl) ?_
 refine ops_nil ?_
 refine vc_region ?_
 refine oq (qv_add rfl rfl (by omega)) ?_
 refine oq (qv_mv (.int .i64 (i+1)) rfl) ?_
 refine ops_nil ?_
 refine ⟨(i+1),⟨rfl,rfl,rfl,(congrArg (Value.int .i64) (show (((2:Int) ^ i.toNat) * 2)=((2:Int) ^ (i+1:Int).toNat) from by exact pow2_s (by omega))),(congrArg (Value.int .i64) (show (i+1)=((i+1)) from by rfl)),trivial⟩,⟨rfl,rfl,by omega,by omega⟩,by omega⟩
 refine vc_exit ?_
 refine blockQ_hit ?_
 refine vc_seq ?_
 refine vc_region ?_
 refine oq (qv_mv (.int .i64 ((2:Int) ^ i.toNat)) rfl) ?_
 refine oq (qv_as (.int .i64 ((2:Int) ^ i.toNat)) rfl) ?_
 refine ops_nil ?_
 refine vc_ret ?_
 exact rq1 (.int .i64 ((2:Int) ^ n.toNat)) (congrArg (Value.int .i64) (show ((2:Int) ^ i.toNat)=((2:Int) ^ n.toNat) from by rw [show i.toNat=n.toNat by omega])) rfl
theorem assignment_c {V:HV} {vars k:Int} (h0:0≤vars) (h1:vars≤40) (hk:0≤k) (hk2:k≤9223372036854775807) :
    FnC Try.prog 125 [(Value.int .i64 vars),(Value.int .i64 k)] V [] (fun v _ σ'=>∃ b,v=.slice (some ⟨b,0,none⟩) vars.toNat vars.toNat∧σ' = [Arr 4 b (bvs (asL vars k))]):=by
 refine fn_intro (N:=24) Try.func125 (by kernel_rfl) rfl rfl rfl (Nat.le_of_ble_eq_true rfl) ?_
 intro w0 D
 refine vc_seq ?_
 refine vc_region ?_
 refine oq (qv_as (Value.slice none 0 0) rfl) ?_
 refine ops_nil ?_
 refine vc_seq ?_
 refine vc_region ?_
 refine oq (qv_mv (Value.int .i64 vars) rfl) ?_
 refine ops_make (n:=vars) Try.underlying30 Try.ti4 rfl rfl rfl rfl (by omega) (by omega) (by omega) (fun b1=>?_)
 let ζ1:Value:=.slice (some ⟨b1,0,none⟩) (vars).toNat (vars).toNat
 refine oq (qv_as ζ1 rfl) ?_
 refine ops_nil ?_
 refine vc_seq ?_
 refine vc_seq ?_
 refine vc_res (σ':=[(Arr 4 b1 (List.replicate (vars).toNat (Value.bool false)))]) rfl ?_
 refine vc_region ?_
 refine oq (qv_mv (Value.int .i64 vars) rfl) ?_
 refine oq (qv_sub rfl rfl (by omega)) ?_
 refine oq (qv_as (.int .i64 (vars - 1)) rfl) ?_
 refine ops_nil ?_
 refine vc_block ?_
 refine vc_loop (α:=Int × Int) (fun (xx:Int × Int)=>[(0,(Value.int .i64 vars)),(4,(Value.slice none 0 0)),(5,ζ1),(1,(Value.int .i64 xx.2)),(6,(Value.int .i64 xx.1))]) (fun (xx:Int × Int) V' σ'=>V=V'∧[(Arr 4 b1 (asF vars k xx.1))]=σ'∧-1≤xx.1∧xx.1 < vars∧xx.2=k / 2 ^ (vars - 1 - xx.1).toNat∧0≤xx.2∧xx.2≤9223372036854775807) (fun (xx:Int × Int)=>(xx.1+1).toNat) ((vars - 1),k) ?_ ?_ ?_
 subst ζ1; exact ⟨rfl,rfl,rfl,rfl,(congrArg (Value.int .i64) (show (vars - 1)=(((vars - 1))) from by first | omega | simp)),trivial⟩
 subst ζ1; exact ⟨rfl,(show [(Arr 4 b1 (asF vars k ((vars - 1))))]=[(Arr 4 b1 (List.replicate (vars).toNat (Value.bool false)))] from by rw [← asF_0]),by omega,by omega,by rw [show (vars - 1 - (vars - 1)).toNat=0 by omega]; simp,by omega,by omega⟩
 rintro ⟨i,q⟩ e1 V0l σ0l hI0
 obtain ⟨rfl,rfl,i1,i2,hq,i3,i4⟩:V=V0l∧[(Arr 4 b1 (asF vars k i))]=σ0l∧-1≤i∧i < vars∧q=k / 2 ^ (vars - 1 - i).toNat∧0≤q∧q≤9223372036854775807:=hI0
 change VC _ _ _ _ _ _ (upds 24 [(0,(Value.int .i64 vars)),(4,(Value.slice none 0 0)),(5,ζ1),(1,(Value.int .i64 q)),(6,(Value.int .i64 i))] e1) _ _
 refine vc_seq ?_
 refine vc_seq ?_
 refine vc_res (σ':=[(Arr 4 b1 (asF vars k i))]) rfl ?_
 refine vc_region ?_
 refine oq (qv_mv (Value.int .i64 i) rfl) ?_
 refine oq (qv_geq rfl rfl) ?_
 refine ops_nil ?_
 refine vc_if rfl (fun c1=>?_) (fun c1=>?_)
 refine vc_skip ?_
 refine vc_seq ?_
 refine vc_block ?_
 refine vc_seq ?_
 refine vc_region ?_
 refine oq (qv_mv ζ1 rfl) ?_
 refine oq (qv_mv (Value.int .i64 i) rfl) ?_
 refine oq (qv_mv (Value.int .i64 q) rfl) ?_
 refine oq (qv_rem rfl rfl (by omega) (by omega)) ?_
 refine oq (qv_eql rfl rfl) ?_
 subst ζ1
 refine oq (qv_ia (v:=(.slice (some ⟨b1,0,none⟩) (vars).toNat (vars).toNat)) (i:=i) Try.underlying30 Try.size4 rfl (inO (k:=0) rfl (asF_len _ _ _).symm (Nat.le_refl _) (by omega)) rfl (by omega) (by rw [asF_len]; omega)) ?_
 refine ops_ste (k:=0) (b:=b1) (n:=(vars).toNat) (c:=(vars).toNat) (i:=i) (cs:=(asF vars k i)) Try.size4 rfl (rfl:ev _ _=(.bool (decide ((q % 2)=1)))) rfl rfl (by omega) (by rw [asF_len]; omega) ?_
 refine ops_nil ?_
 refine vc_res (σ':=[(Arr 4 b1 (((asF vars k i)).set (i).toNat (.bool (decide ((q % 2)=1)))))]) rfl ?_
 refine vc_region ?_
 refine oq (qv_mv (Value.int .i64 q) rfl) ?_
 refine oq (qv_quo rfl rfl (by omega) (by omega)) ?_
 refine oq (qv_as (.int .i64 (q / 2)) rfl) ?_
 refine ops_nil ?_
 refine vc_region ?_
 refine oq (qv_mv (Value.int .i64 i) rfl) ?_
 refine oq (qv_sub rfl rfl (by omega)) ?_
 refine oq (qv_as (.int .i64 (i - 1)) rfl) ?_
 refine ops_nil ?_
 refine ⟨(i - 1,q / 2),⟨rfl,rfl,rfl,(congrArg (Value.int .i64) (show (q / 2)=((q / 2)) from by omega)),(congrArg (Value.int .i64) (show (i - 1)=((i - 1)) from by omega)),trivial⟩,⟨rfl,(show [(Arr 4 b1 (asF vars k (i - 1)))]=[(Arr 4 b1 (((asF vars k i)).set (i).toNat (.bool (decide ((q % 2)=1)))))] from by rw [asF_step (by omega) (by omega) hq]),by omega,by omega,asg_next (by omega) hq,by omega,by omega⟩,by omega⟩
 refine vc_exit ?_
 refine blockQ_hit ?_
 refine vc_seq ?_
 refine vc_region ?_
 refine oq (qv_mv ζ1 rfl) ?_
 refine oq (qv_as ζ1 rfl) ?_
 refine ops_nil ?_
 refine vc_ret ?_
 refine rq1 ζ1 rfl ?_
 subst ζ1
 exact ⟨b1,rfl,by rw [show i = -1 by omega,asF_all]⟩
theorem value_c {V:HV} {na:Value} {A:Dg} (hA:Fks V na A.N) {L:List Bool} {lv:Value} (hL:Bls V lv L) (hf:Fm A.v A.N) (hr:Rf A.N A.r) (hl:L.length=A.v) :
    FnC Try.prog 124 [(.agg #[(.int .i64 A.v),na,(.int .i64 A.r)]),lv] V [] (fun v _ _=>v=(.bool (decide (vl A.N (fun i=>gb L i) A.r=true)))):=by
 refine fn_intro (N:=28) Try.func124 (by kernel_rfl) rfl rfl rfl (Nat.le_of_ble_eq_true rfl) ?_
 intro w0 D
 have hb:=SlS.bound hA
 have hb2:=hL.bound
 refine vc_seq ?_
 refine vc_region ?_
 refine ops_box (v:=(.agg #[(.int .i64 A.v),na,(.int .i64 A.r)])) (cs:=[(.int .i64 A.v),na,(.int .i64 A.r)]) rfl rfl (fun b1=>?_)
 refine oq (qv_as (Value.bool false) rfl) ?_
 refine ops_nil ?_
 refine vc_seq ?_
 let ζ3:Asrt:=Arr 59 b1 [(.int .i64 A.v),na,(.int .i64 A.r)]
 refine vc_res (σ':=[ζ3]) rfl ?_
 refine vc_region ?_
 refine oq (qv_fa (off:=0) Try.field59_2 rfl) ?_
 refine oq (qv_ldp (v:=(.int .i64 A.r)) Try.plain3 rfl (inOc (k:=0) rfl) rfl) ?_
 refine oq (qv_as (.int .i64 A.r) rfl) ?_
 refine ops_nil ?_
 refine vc_seq ?_
 refine vc_block ?_
 refine vc_loopD (α:=Int) (fun (xx:Int)=>[(0,(.agg #[(.int .i64 A.v),na,(.int .i64 A.r)])),(1,lv),(2,(Value.pointer (some ⟨b1,0,none⟩))),(4,(Value.bool false)),(5,(Value.int .i64 xx))]) (fun (xx:Int) V' σ'=>V=V'∧[ζ3]=σ'∧Rf A.N xx∧vl A.N (fun i=>gb L i) xx=vl A.N (fun i=>gb L i) A.r) (fun (xx:Int)=>xx.toNat) (A.r) ?_ ?_ ?_
 exact ⟨rfl,rfl,rfl,rfl,rfl,trivial⟩
 exact ⟨rfl,rfl,hr,rfl⟩
 rintro r e1 V0l σ0l hI0
 obtain ⟨rfl,rfl,hr1,hv1⟩:V=V0l∧[ζ3]=σ0l∧Rf A.N r∧vl A.N (fun i=>gb L i) r=vl A.N (fun i=>gb L i) A.r:=hI0
 refine vc_seq ?_
 refine vc_seq ?_
 refine vc_region ?_
 refine oq (qv_mv (Value.int .i64 r) rfl) ?_
 refine oq (qv_geq rfl rfl) ?_
 refine ops_nil ?_
 refine vc_if rfl (fun c1=>?_) (fun c1=>?_)
 refine vc_skip ?_
 refine vc_block ?_
 refine vc_seq ?_
 have hq2:=hr1.2
 have hlo:=hf.lo r (by omega) hq2
 have hhi:=hf.hi r (by omega) hq2
 have hvr:=hf.vr r (by omega) hq2
 have hst:=vl_step hf (e:=fun i=>gb L i) (r:=r) (by omega) hq2
 subst ζ3
 rw [nd_fk] at hlo hhi hvr hst
 refine vc_region ?_
 refine oq (qv_fa (off:=0) Try.field59_1 rfl) ?_
 refine oq (qv_ldp (v:=na) Try.plain23 rfl (inOc (k:=0) rfl) rfl) ?_
 refine oq (qv_mv (Value.int .i64 r) rfl) ?_
 refine oq (qv_sub rfl rfl (by omega)) ?_
 refine oq (qv_ias (v:=na) (i:=r - 2) Try.underlying23 Try.size80 rfl hA rfl (by omega) (by omega)) ?_
 let ζ1:Value:=.int .i64 ((fk A.N (r - 2)).l)
 let ζ2:Value:=.int .i64 ((fk A.N (r - 2)).h)
 let ζ4:Value:=.int .i64 ((fk A.N (r - 2)).v)
 refine oq (qv_lds (v:=na) (i:=r - 2) (vs:=[ζ4,ζ1,ζ2]) Try.agg80 rfl hA (by omega) (by omega) (fks_at (N:=A.N) (by omega) (by omega))) ?_
 refine ops_alloc Try.ti80 rfl (fun b2=>?_)
 refine ops_stw (k:=1) (vs:=[ζ4,ζ1,ζ2]) Try.size80 rfl rfl rfl rfl rfl rfl ?_
 refine ops_nil ?_
 refine vc_seq ?_
 refine vc_res (σ':=[(Arr 59 b1 [(.int .i64 A.v),na,(.int .i64 A.r)]),(Arr 80 b2 [ζ4,ζ1,ζ2])]) rfl ?_
 refine vc_region ?_
 refine oq (qv_mv lv rfl) ?_
 refine oq (qv_fa (off:=0) Try.field80_0 rfl) ?_
 refine oq (qv_ldp (v:=ζ4) Try.plain3 rfl (inOc (k:=1) rfl) rfl) ?_
 refine oq (qv_iab (v:=lv) (i:=(fk A.N (r - 2)).v) Try.underlying30 Try.size4 rfl (inVb hL) rfl (by omega) (by omega)) ?_
 refine oq (qv_ldb (v:=lv) (i:=(fk A.N (r - 2)).v) Try.plain4 rfl (inVb hL) (by omega) (by omega)) ?_
 refine ops_nil ?_
 refine vc_if rfl (fun c2=>?_) (fun c2=>?_)
 refine vc_region ?_
 refine oq (qv_fa (off:=0) Try.field80_2 rfl) ?_
 refine oq (qv_ldp (v:=ζ2) Try.plain3 rfl (inOc (k:=1) rfl) rfl) ?_
 refine oq (qv_as ζ2 rfl) ?_
 refine ops_nil ?_
 subst ζ1 ζ2 ζ4
 refine ⟨((fk A.N (r - 2)).h),⟨rfl,rfl,rfl,rfl,(congrArg (Value.int .i64) (show ((fk A.N (r - 2)).h)=(((fk A.N (r - 2)).h)) from by rfl)),trivial⟩,⟨[(Arr 59 b1 [(.int .i64 A.v),na,(.int .i64 A.r)])],[(Arr 80 b2 [(.int .i64 ((fk A.N (r - 2)).v)),(.int .i64 ((fk A.N (r - 2)).l)),(.int .i64 ((fk A.N (r - 2)).h))])],(perm_idx _ _ [0,1] rfl rfl),⟨rfl,rfl,⟨hhi.1,by omega⟩,by rw [← hv1,hst,if_pos c2]⟩⟩,by omega⟩
 refine vc_region ?_
 refine oq (qv_fa (off:=0) Try.field80_1 rfl) ?_
 refine oq (qv_ldp (v:=ζ1) Try.plain3 rfl (inOc (k:=1) rfl) rfl) ?_
 refine oq (qv_as ζ1 rfl) ?_
 refine ops_nil ?_
 subst ζ1 ζ2 ζ4
 refine ⟨((fk A.N (r - 2)).l),⟨rfl,rfl,rfl,rfl,(congrArg (Value.int .i64) (show ((fk A.N (r - 2)).l)=(((fk A.N (r - 2)).l)) from by rfl)),trivial⟩,⟨[(Arr 59 b1 [(.int .i64 A.v),na,(.int .i64 A.r)])],[(Arr 80 b2 [(.int .i64 ((fk A.N (r - 2)).v)),(.int .i64 ((fk A.N (r - 2)).l)),(.int .i64 ((fk A.N (r - 2)).h))])],(perm_idx _ _ [0,1] rfl rfl),⟨rfl,rfl,⟨hlo.1,by omega⟩,by rw [← hv1,hst,if_neg c2]⟩⟩,by omega⟩
 refine vc_exit ?_
 refine blockQ_hit ?_
 refine vc_seq ?_
 refine vc_region ?_
 refine oq (qv_mv (Value.int .i64 r) rfl) ?_
 refine oq (qv_eql rfl rfl) ?_
 refine oq (qv_as (.bool (decide (r=1))) rfl) ?_
 refine ops_nil ?_
 refine vc_ret ?_
 subst ζ3
 exact rq1 (.bool (decide (vl A.N (fun i=>gb L i) A.r=true))) (congrArg Value.bool (decide_eq_decide.2 (show (r=1) ↔ (vl A.N (fun i=>gb L i) A.r=true) from by rw [← hv1,vl_const (by omega)]; simp))) rfl
theorem table_c {V:HV} {na:Value} {A:Dg} (hA:Fks V na A.N) (hok:dOk A) (h12:A.v≤12) :
    FnC Try.prog 92 [(.agg #[(.int .i64 A.v),na,(.int .i64 A.r)])] V [] (fun v V' σ'=>σ' = []∧Bls V' v (tbD A)):=by
 refine fn_intro (N:=25) Try.func92 (by kernel_rfl) rfl rfl rfl (Nat.le_of_ble_eq_true rfl) ?_
 intro w0 D
 have hb:=SlS.bound hA
 have hv0:=hok.1.1
 have hpw:=pow2_12 (n:=A.v.toNat) (by omega)
 refine vc_seq ?_
 refine vc_region ?_
 refine ops_box (v:=(.agg #[(.int .i64 A.v),na,(.int .i64 A.r)])) (cs:=[(.int .i64 A.v),na,(.int .i64 A.r)]) rfl rfl (fun b1=>?_)
 refine oq (qv_as (Value.slice none 0 0) rfl) ?_
 refine ops_nil ?_
 refine vc_seq ?_
 let ζ2:Asrt:=Arr 59 b1 [(.int .i64 A.v),na,(.int .i64 A.r)]
 refine vc_res (σ':=[ζ2]) rfl ?_
 refine vc_region ?_
 refine oq (qv_fa (off:=0) Try.field59_0 rfl) ?_
 refine oq (qv_ldp (v:=(.int .i64 A.v)) Try.plain3 rfl (inOc (k:=0) rfl) rfl) ?_
 refine oq (qv_call (v:=(.int .i64 ((2:Int) ^ A.v.toNat))) (power_c (by omega)) rfl rfl) ?_
 refine ops_make (n:=(2:Int) ^ A.v.toNat) Try.underlying30 Try.ti4 rfl rfl rfl rfl (by omega) (by omega) (by omega) (fun b2=>?_)
 let ζ1:Value:=.slice (some ⟨b2,0,none⟩) ((2:Int) ^ A.v.toNat).toNat ((2:Int) ^ A.v.toNat).toNat
 refine oq (qv_as ζ1 rfl) ?_
 refine ops_nil ?_
 refine vc_seq ?_
 refine vc_seq ?_
 refine vc_res (σ':=[ζ2,(Arr 4 b2 (List.replicate ((2:Int) ^ A.v.toNat).toNat (Value.bool false)))]) rfl ?_
 refine vc_region ?_
 refine oq (qv_mv ζ1 rfl) ?_
 refine oq (qv_len Try.underlying30 rfl rfl) ?_
 refine oq (qv_mv (Value.int .i64 0) rfl) ?_
 refine ops_nil ?_
 refine vc_block ?_
 refine vc_loop (α:=Int) (fun (xx:Int)=>[(0,(.agg #[(.int .i64 A.v),na,(.int .i64 A.r)])),(1,(Value.pointer (some ⟨b1,0,none⟩))),(2,(Value.slice none 0 0)),(3,(.slice (some ⟨b2,0,none⟩) ((2:Int) ^ A.v.toNat).toNat ((2:Int) ^ A.v.toNat).toNat)),(10,(.int .i64 ((((2:Int) ^ A.v.toNat).toNat:Int)))),(11,(Value.int .i64 xx))]) (fun (xx:Int) V' σ'=>[ζ2,(Arr 4 b2 (upF (fun j=>vl A.N (asg A.v j) A.r) xx ((2:Int) ^ A.v.toNat).toNat))]=σ'∧Fks V' na A.N∧0≤xx∧xx≤(2:Int) ^ A.v.toNat) (fun (xx:Int)=>((2:Int) ^ A.v.toNat - xx).toNat) (0) ?_ ?_ ?_
 exact ⟨rfl,rfl,rfl,rfl,rfl,rfl,trivial⟩
 subst ζ2 ζ1; exact ⟨(show [(Arr 59 b1 [(.int .i64 A.v),na,(.int .i64 A.r)]),(Arr 4 b2 (upF (fun j=>vl A.N (asg A.v j) A.r) 0 ((2:Int) ^ A.v.toNat).toNat))]=[(Arr 59 b1 [(.int .i64 A.v),na,(.int .i64 A.r)]),(Arr 4 b2 (List.replicate ((2:Int) ^ A.v.toNat).toNat (Value.bool false)))] from by rw [← upF_0]),hA,by omega,by omega⟩
 rintro k e1 V0l σ0l hI0
 obtain ⟨rfl,hA,i1,i2⟩:[ζ2,(Arr 4 b2 (upF (fun j=>vl A.N (asg A.v j) A.r) k ((2:Int) ^ A.v.toNat).toNat))]=σ0l∧Fks V0l na A.N∧0≤k∧k≤(2:Int) ^ A.v.toNat:=hI0
 refine vc_seq ?_
 refine vc_res (σ':=[ζ2,(Arr 4 b2 (upF (fun j=>vl A.N (asg A.v j) A.r) k ((2:Int) ^ A.v.toNat).toNat))]) rfl ?_
 refine vc_region ?_
 refine oq (qv_lss rfl rfl) ?_
 refine ops_nil ?_
 refine vc_seq ?_
 refine vc_if rfl (fun c1=>?_) (fun c1=>?_)
 refine vc_skip ?_
 refine vc_seq ?_
 refine vc_block ?_
 refine vc_seq ?_
 refine vc_region ?_
 refine oq (qv_mv (Value.int .i64 k) rfl) ?_
 refine oq (qv_as (Value.int .i64 k) rfl) ?_
 refine ops_nil ?_
 refine vc_region_order (τ:=[]) [(0,false),(1,false),(2,false),(3,false),(4,false),(5,false),(6,true),(7,false),(8,false),(9,true)] [ζ2,(Arr 4 b2 (upF (fun j=>vl A.N (asg A.v j) A.r) k ((2:Int) ^ A.v.toNat).toNat))] Try.mixed (perm_nil _) (by kernel_rfl) ?_
 refine rq rfl (qv_mv ζ1 rfl) ?_
 refine rq rfl (qv_mv (Value.int .i64 k) rfl) ?_
 refine rq rfl (qv_ldm (vs:=[(.int .i64 A.v),na,(.int .i64 A.r)]) Try.agg59 rfl (inOc (k:=0) rfl) rfl rfl) ?_
 refine rq rfl (qv_fa (off:=0) Try.field59_0 rfl) ?_
 refine rq rfl (qv_ldp (v:=(.int .i64 A.v)) Try.plain3 rfl (inOc (k:=0) rfl) rfl) ?_
 refine rq rfl (qv_mv (Value.int .i64 k) rfl) ?_
 refine rl rfl ?_
 refine ops_call (σa:=[]) (σr:=[ζ2,(Arr 4 b2 (upF (fun j=>vl A.N (asg A.v j) A.r) k ((2:Int) ^ A.v.toNat).toNat))]) (assignment_c (by omega) (by omega) (by omega) (by omega)) rfl rfl (.refl _) (fun r1 V1 sg1 hV1 hp1=>?_)
 obtain ⟨ba,rfl,rfl⟩:=hp1
 have hA:=hA.mono hV1
 let ζ3:Asrt:=Arr 4 ba (bvs (asL A.v k))
 refine ops_nil ⟨[ζ3,(Arr 59 b1 [(Value.int .i64 (A.v)),na,(Value.int .i64 (A.r))]),(Arr 4 b2 (upF (fun j=>vl A.N (asg A.v j) A.r) k ((2:Int) ^ A.v.toNat).toNat))],[],hV1,perm_nil _,⟨[ζ3],(List.perm_append_comm (l₁:=[ζ3]))⟩,?_⟩
 subst ζ2 ζ1 ζ3
 refine rq rfl (qv_call_own (v:=(.bool (decide (vl A.N (fun i=>gb (asL A.v k) i) A.r=true)))) (k:=0) (b:=ba) rfl (fun Vo hVo hbo=>value_c (hA.mono hVo) (bls_cells ⟨_,_,hbo⟩ (asL_len _ _).symm (Nat.le_refl _) (by omega)) hok.2.2.1.1 hok.2.2.1.rf (by rw [asL_len]; omega)) rfl rfl) ?_
 refine rq rfl (qv_ia (v:=(.slice (some ⟨b2,0,none⟩) ((2:Int) ^ A.v.toNat).toNat ((2:Int) ^ A.v.toNat).toNat)) (i:=k) Try.underlying30 Try.size4 rfl (inO (k:=2) rfl (upF_len _ _ _).symm (Nat.le_refl _) (by omega)) rfl (by omega) (by rw [upF_len]; omega)) ?_
 refine rl1 (by kernel_rfl) rfl ?_
 refine ops_ste (k:=2) (b:=b2) (n:=((2:Int) ^ A.v.toNat).toNat) (c:=((2:Int) ^ A.v.toNat).toNat) (i:=k) (cs:=(upF (fun j=>vl A.N (asg A.v j) A.r) k ((2:Int) ^ A.v.toNat).toNat)) Try.size4 rfl (rfl:ev _ _=(.bool (decide (vl A.N (fun i=>gb (asL A.v k) i) A.r=true)))) rfl rfl (by omega) (by rw [upF_len]; omega) ?_
 let ζ2:Asrt:=Arr 59 b1 [(.int .i64 A.v),na,(.int .i64 A.r)]
 let ζ3:Asrt:=Arr 4 ba (bvs (asL A.v k))
 refine ops_nil ⟨[ζ3,ζ2,(Arr 4 b2 (((upF (fun j=>vl A.N (asg A.v j) A.r) k ((2:Int) ^ A.v.toNat).toNat)).set (k).toNat (.bool (decide (vl A.N (fun i=>gb (asL A.v k) i) A.r=true)))))],[],perm_nil _,?_⟩
 refine rnil ?_
 refine vc_res (σ':=[ζ3,ζ2,(Arr 4 b2 (((upF (fun j=>vl A.N (asg A.v j) A.r) k ((2:Int) ^ A.v.toNat).toNat)).set (k).toNat (.bool (decide (vl A.N (fun i=>gb (asL A.v k) i) A.r=true)))))]) rfl ?_
 refine vc_drop [(Arr 59 b1 [(Value.int .i64 (A.v)),na,(Value.int .i64 (A.r))]),(Arr 4 b2 (((upF (fun j=>vl A.N (asg A.v j) A.r) k ((2:Int) ^ A.v.toNat).toNat)).set (k).toNat (Value.bool (decide (vl A.N (fun i=>gb (asL A.v k) i) A.r=true)))))] [ζ3] ((List.perm_middle (l₁:=[]) (l₂:=[(Arr 59 b1 [(Value.int .i64 (A.v)),na,(Value.int .i64 (A.r))]),(Arr 4 b2 (((upF (fun j=>vl A.N (asg A.v j) A.r) k ((2:Int) ^ A.v.toNat).toNat)).set (k).toNat (Value.bool (decide (vl A.N (fun i=>gb (asL A.v k) i) A.r=true)))))])).trans (List.perm_append_comm (l₁:=[ζ3]))) ?_
 refine vc_region ?_
 refine oq (qv_add rfl rfl (by omega)) ?_
 refine oq (qv_mv (.int .i64 (k+1)) rfl) ?_
 refine ops_nil ?_
 subst ζ2 ζ3
 refine ⟨(k+1),⟨rfl,rfl,rfl,rfl,rfl,(congrArg (Value.int .i64) (show (k+1)=((k+1)) from by omega)),trivial⟩,⟨(show [(Arr 59 b1 [(.int .i64 A.v),na,(.int .i64 A.r)]),(Arr 4 b2 (upF (fun j=>vl A.N (asg A.v j) A.r) (k+1) ((2:Int) ^ A.v.toNat).toNat))]=[(Arr 59 b1 [(.int .i64 A.v),na,(.int .i64 A.r)]),(Arr 4 b2 (((upF (fun j=>vl A.N (asg A.v j) A.r) k ((2:Int) ^ A.v.toNat).toNat)).set (k).toNat (.bool (decide (vl A.N (fun i=>gb (asL A.v k) i) A.r=true)))))] from by rw [upF_step (by omega) (by rw [vl_asL hok.2.2.1.1 hv0 hok.2.2.1.rf])]),hA,by omega,by omega⟩,by omega⟩
 refine vc_exit ?_
 refine blockQ_hit ?_
 refine vc_seq ?_
 refine vc_region ?_
 refine oq (qv_mv ζ1 rfl) ?_
 refine oq (qv_as ζ1 rfl) ?_
 refine ops_nil ?_
 refine vc_freeze (b:=b2) (o:=.cells ((upF (fun j=>vl A.N (asg A.v j) A.r) k ((2:Int) ^ A.v.toNat).toNat):List Value).toArray 4 (0,0)) (σr:=[(Arr 59 b1 [(Value.int .i64 (A.v)),na,(Value.int .i64 (A.r))])]) (List.perm_middle (l₁:=[(Arr 59 b1 [(Value.int .i64 (A.v)),na,(Value.int .i64 (A.r))])]) (l₂:=[])) (fun Vf1 hVf1 hb1=>?_)
 have hc1:Cells Vf1 b2 (upF (fun j=>vl A.N (asg A.v j) A.r) k ((2:Int) ^ A.v.toNat).toNat):=⟨_,_,hb1⟩
 have hA:=hA.mono hVf1
 refine vc_drop [] [ζ2] (.refl _) ?_
 refine vc_ret ?_
 refine rq1 ζ1 rfl ?_
 have hcq:=hc1
 subst ζ2 ζ1
 rw [tbl_fill (vars:=A.v) (g:=fun e=>vl A.N e A.r) (pow_toNat _) (by omega)] at hcq
 exact ⟨rfl,bls_cells hcq (by rw [pow_toNat,tbD_len]) (Nat.le_refl _) (by omega)⟩
end Go.Proofs.Ytkmhjcjpohpiaaa.Bd
