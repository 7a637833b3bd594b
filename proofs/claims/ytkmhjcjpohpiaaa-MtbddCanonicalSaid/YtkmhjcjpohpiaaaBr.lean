import Derived.Test.YtkmhjcjpohpiaaaBc
/- Walks of bdd: what each function returns. Printed by a program out of notes. -/
namespace Go.Proofs.Ytkmhjcjpohpiaaa.Bd
open Go.Vc
open Classical
/-- What the model's walk does, for references below k. -/
def FinC (vars:Int) (N:List Fk) (nv:Value) (k:Nat):Prop:=∀ (V:HV) (root r:Int) (s:Ly) (done:List Int) (u:Value),Fks V nv N→Rf N r→r < k→LyI N s→Fin_ N done s →
  FnC Try.prog 122 [.agg #[.int .i64 vars,nv,.int .i64 root],.int .i64 r,u] V [Gr 3 1 u done.length (done.map (Value.int .i64))] (fun v _ σ'=>∃ d',σ' = [Gr 3 1 v d'.length (d'.map (Value.int .i64))]∧Fin_ N d' (vis N k r s).1)
set_option maxRecDepth 100000
set_option maxHeartbeats 4000000
theorem fin_step {V:HV} {vars root:Int} {N:List Fk} {nv:Value} {k:Nat} (hF:Fm vars N) (hlN:N.length≤4398046511104) (IH:FinC vars N nv k) {r:Int} {s:Ly} {done:List Int} {u:Value} (hN:Fks V nv N) (hr:Rf N r) (hk:r < (k+1:Nat)) (hI:LyI N s) (hD:Fin_ N done s) :
    FnC Try.prog 122 [(.agg #[(Value.int .i64 vars),nv,(Value.int .i64 root)]),(Value.int .i64 r),u] V [(Gr 3 1 u done.length ((done.map (Value.int .i64))))] (fun v _ σ'=>∃ d',σ' = [Gr 3 1 v d'.length (d'.map (Value.int .i64))]∧Fin_ N d' (vis N (k+1) r s).1):=by
 refine fn_intro (N:=49) Try.func122 (by kernel_rfl) rfl rfl rfl (Nat.le_of_ble_eq_true rfl) ?_
 intro w0 D
 have hb:=SlS.bound hN
 have hdl:=hD.len
 have hvl:=vis_len hF hI
 have hr2:=hr.2
 refine vc_seq ?_
 let ζ2:Asrt:=Gr 3 1 u done.length ((done.map (Value.int .i64)))
 refine vc_res (σ':=[ζ2]) rfl ?_
 refine vc_region ?_
 refine ops_box (v:=(.agg #[(Value.int .i64 vars),nv,(Value.int .i64 root)])) (cs:=[(Value.int .i64 vars),nv,(Value.int .i64 root)]) rfl rfl (fun b1=>?_)
 refine oq (qv_as (Value.slice none 0 0) rfl) ?_
 refine ops_nil ?_
 refine vc_seq ?_
 refine vc_seq ?_
 let ζ1:Asrt:=Arr 59 b1 [(Value.int .i64 vars),nv,(Value.int .i64 root)]
 refine vc_res (σ':=[ζ2,ζ1]) rfl ?_
 refine vc_region ?_
 refine oq (qv_mv (Value.int .i64 r) rfl) ?_
 refine oq (qv_lss rfl rfl) ?_
 refine ops_nil ?_
 refine vc_if rfl (fun c1=>?_) (fun c1=>?_)
 refine vc_seq ?_
 refine vc_region ?_
 refine oq (qv_mv u rfl) ?_
 refine oq (qv_as u rfl) ?_
 refine ops_nil ?_
 refine vc_drop [ζ2] [ζ1] ((List.perm_middle (l₁:=[ζ2]) (l₂:=[])).trans (List.perm_append_comm (l₁:=[ζ1]))) ?_
 refine vc_ret ?_
 refine rq1 u rfl ?_
 have hp:s.2 r=some r:=by
   have:=hr.1
   rcases (show r=0 ∨ r=1 by omega) with e | e
   subst ζ2 ζ1; rw [e]; exact hI.z
   subst ζ2 ζ1; rw [e]; exact hI.o
 subst ζ2 ζ1
 rw [vis_hit hp]
 exact ⟨done,rfl,hD⟩
 refine vc_skip ?_
 refine vc_seq ?_
 refine vc_seq ?_
 refine vc_region ?_
 refine oq (qv_mv u rfl) ?_
 refine oq (qv_lenGi Try.underlying22 rfl (inGi (k:=0) rfl)) ?_
 refine oq (qv_mv (Value.int .i64 0) rfl) ?_
 refine ops_nil ?_
 refine vc_block ?_
 refine vc_loop (α:=Int) (fun (xx:Int)=>[(0,(.agg #[(Value.int .i64 vars),nv,(Value.int .i64 root)])),(1,(Value.int .i64 r)),(2,u),(3,(Value.pointer (some ⟨b1,0,none⟩))),(10,(.bool (decide (r < 2)))),(12,u),(13,(.int .i64 ((done.length:Int)))),(14,(Value.int .i64 xx))]) (fun (xx:Int) V' σ'=>V=V'∧[ζ2,ζ1]=σ'∧0≤xx∧xx≤done.length∧∀ x:Int,0≤x→x < xx→gi done x ≠ r - 2) (fun (xx:Int)=>(done.length - xx).toNat) (0) ?_ ?_ ?_
 exact ⟨rfl,rfl,rfl,rfl,rfl,rfl,rfl,rfl,trivial⟩
 exact ⟨rfl,rfl,by omega,by omega,fun x a b=>by omega⟩
 rintro i e1 V0l σ0l hI0
 obtain ⟨rfl,rfl,i1,i2,hi⟩:V=V0l∧[ζ2,ζ1]=σ0l∧0≤i∧i≤done.length∧∀ x:Int,0≤x→x < i→gi done x ≠ r - 2:=hI0
 refine vc_seq ?_
 refine vc_region ?_
 refine oq (qv_lss rfl rfl) ?_
 refine ops_nil ?_
 refine vc_seq ?_
 refine vc_if rfl (fun c2=>?_) (fun c2=>?_)
 refine vc_skip ?_
 refine vc_seq ?_
 refine vc_block ?_
 refine vc_seq ?_
 refine vc_region ?_
 refine oq (qv_iai (v:=u) (i:=i) Try.underlying22 Try.size3 rfl (inGi (k:=0) rfl) rfl (by omega) (by omega)) ?_
 refine oq (qv_ldi (v:=u) (i:=i) Try.plain3 rfl (inGi (k:=0) rfl) (by omega) (by omega)) ?_
 refine oq (qv_as (.int .i64 (gi done (i))) rfl) ?_
 refine ops_nil ?_
 refine vc_seq ?_
 refine vc_region ?_
 refine oq (qv_mv (.int .i64 (gi done (i))) rfl) ?_
 refine oq (qv_mv (Value.int .i64 r) rfl) ?_
 refine oq (qv_sub rfl rfl (by omega)) ?_
 refine oq (qv_eql rfl rfl) ?_
 refine ops_nil ?_
 refine vc_if rfl (fun c3=>?_) (fun c3=>?_)
 refine vc_seq ?_
 refine vc_region ?_
 refine oq (qv_mv u rfl) ?_
 refine oq (qv_as u rfl) ?_
 refine ops_nil ?_
 refine vc_drop [ζ2] [ζ1] ((List.perm_middle (l₁:=[ζ2]) (l₂:=[])).trans (List.perm_append_comm (l₁:=[ζ1]))) ?_
 refine vc_ret ?_
 refine blockQ_ret ?_
 refine blockQ_ret ?_
 refine rq1 u rfl ?_
 obtain ⟨p,hp⟩:=Option.isSome_iff_exists.1 (hD.only (r:=r) (k:=i) (by omega) (by omega) c3)
 subst ζ2 ζ1
 rw [vis_hit hp]
 exact ⟨done,rfl,hD⟩
 refine vc_skip ?_
 refine vc_region ?_
 refine oq (qv_add rfl rfl (by omega)) ?_
 refine oq (qv_mv (.int .i64 (i+1)) rfl) ?_
 refine ops_nil ?_
 refine ⟨(i+1),⟨rfl,rfl,rfl,rfl,rfl,rfl,rfl,(congrArg (Value.int .i64) (show (i+1)=((i+1)) from by omega)),trivial⟩,⟨rfl,rfl,by omega,by omega,all_snoc hi c3⟩,by omega⟩
 refine vc_exit ?_
 refine blockQ_hit ?_
 refine vc_seq ?_
 have h2:2≤r:=by omega
 have hnone:s.2 r=none:=by
   cases hq:s.2 r with
   | none=>rfl
   | some p =>
     obtain ⟨z,z0,z1,z2⟩:=hD.mem hI h2 hq
     exact absurd z2 (hi z z0 (by omega))
 have h3:=hr.2
 have hlo:=hF.lo r h2 hr.2
 have hhi:=hF.hi r h2 hr.2
 subst ζ2 ζ1
 rw [nd_fk] at hlo hhi
 obtain ⟨x,hx⟩:∃ x,x=vis N k (fk N (r - 2)).l s:=⟨_,rfl⟩
 have A:VisOk N (fk N (r - 2)).l s x:=hx ▸ vis_ok hF k _ s ⟨hlo.1,by omega⟩ (by omega) hI
 refine vc_region_order (τ:=[(Gr 3 1 u done.length ((done.map (Value.int .i64))))]) [(0,false),(1,false),(2,false),(3,false),(4,false),(5,false),(6,false),(7,false),(8,false),(9,true),(10,false)] [(Arr 59 b1 [(Value.int .i64 vars),nv,(Value.int .i64 root)])] Try.mixed (perm_idx _ _ [1,0] rfl rfl) (by kernel_rfl) ?_
 refine rq rfl (qv_ldm (vs:=[(Value.int .i64 vars),nv,(Value.int .i64 root)]) Try.agg59 rfl (inOc (k:=0) rfl) rfl rfl) ?_
 refine rq rfl (qv_fa (off:=0) Try.field59_1 rfl) ?_
 refine rq rfl (qv_ldp (v:=nv) Try.plain23 rfl (inOc (k:=0) rfl) rfl) ?_
 refine rq rfl (qv_mv (Value.int .i64 r) rfl) ?_
 refine rq rfl (qv_sub rfl rfl (by omega)) ?_
 refine rq rfl (qv_ias (v:=nv) (i:=r - 2) Try.underlying23 Try.size80 rfl hN rfl (by omega) (by omega)) ?_
 refine rq rfl (qv_fas Try.field80_1 rfl hN (by omega) (by omega)) ?_
 refine rq rfl (qv_ldf (u:=(.int .i64 ((fk N (r - 2)).l))) (v:=nv) (i:=r - 2) Try.plain3 rfl hN (by omega) (by omega) (by omega) (fks_el (N:=N) (o:=1) (by omega) (by omega) (by omega) rfl)) ?_
 refine rq rfl (qv_mv u rfl) ?_
 refine rl rfl ?_
 refine ops_call (σa:=[(Gr 3 1 u done.length ((done.map (Value.int .i64))))]) (σr:=[(Arr 59 b1 [(Value.int .i64 vars),nv,(Value.int .i64 root)])]) (by have h:=IH _ root (fk N (r - 2)).l s done u hN ⟨by omega,by omega⟩ (by omega) hI hD; rw [← hx] at h; exact h) rfl rfl (.refl _) (fun r1 V1 sg1 hV1 hp1=>?_)
 obtain ⟨d1,rfl,F1⟩:=hp1
 have hN:=hN.mono hV1
 let ζ1:Asrt:=Arr 59 b1 [(Value.int .i64 vars),nv,(Value.int .i64 root)]
 let ζ4:Asrt:=Gr 3 1 r1 d1.length ((d1.map (Value.int .i64)))
 refine ops_nil ⟨[ζ1],[ζ4],hV1,(perm_idx _ _ [1,0] rfl rfl),⟨[],.refl _⟩,?_⟩
 refine rq rfl (qv_as r1 rfl) ?_
 refine rnil ?_
 refine vc_seq ?_
 refine vc_res (σ':=[ζ4,ζ1]) rfl ?_
 obtain ⟨y,hy⟩:∃ y,y=vis N k (fk N (r - 2)).h x.1:=⟨_,rfl⟩
 have B:VisOk N (fk N (r - 2)).h x.1 y:=hy ▸ vis_ok hF k _ x.1 ⟨hhi.1,by omega⟩ (by omega) A.inv
 refine vc_region_order (τ:=[ζ4]) [(0,false),(1,false),(2,false),(3,false),(4,false),(5,false),(6,false),(7,false),(8,false),(9,true),(10,false)] [ζ1] Try.mixed (perm_idx _ _ [1,0] rfl rfl) (by kernel_rfl) ?_
 refine rq rfl (qv_ldm (vs:=[(Value.int .i64 vars),nv,(Value.int .i64 root)]) Try.agg59 rfl (inOc (k:=0) rfl) rfl rfl) ?_
 refine rq rfl (qv_fa (off:=0) Try.field59_1 rfl) ?_
 refine rq rfl (qv_ldp (v:=nv) Try.plain23 rfl (inOc (k:=0) rfl) rfl) ?_
 refine rq rfl (qv_mv (Value.int .i64 r) rfl) ?_
 refine rq rfl (qv_sub rfl rfl (by omega)) ?_
 refine rq rfl (qv_ias (v:=nv) (i:=r - 2) Try.underlying23 Try.size80 rfl hN rfl (by omega) (by omega)) ?_
 refine rq rfl (qv_fas Try.field80_2 rfl hN (by omega) (by omega)) ?_
 refine rq rfl (qv_ldf (u:=(.int .i64 ((fk N (r - 2)).h))) (v:=nv) (i:=r - 2) Try.plain3 rfl hN (by omega) (by omega) (by omega) (fks_el (N:=N) (o:=2) (by omega) (by omega) (by omega) rfl)) ?_
 refine rq rfl (qv_mv r1 rfl) ?_
 refine rl rfl ?_
 subst ζ1 ζ4
 refine ops_call (σa:=[(Gr 3 1 r1 d1.length ((d1.map (Value.int .i64))))]) (σr:=[(Arr 59 b1 [(Value.int .i64 vars),nv,(Value.int .i64 root)])]) (by have h:=IH _ root (fk N (r - 2)).h x.1 d1 r1 hN ⟨by omega,by omega⟩ (by omega) A.inv F1; rw [← hy] at h; exact h) rfl rfl (.refl _) (fun r2 V2 sg2 hV2 hp2=>?_)
 obtain ⟨d2,rfl,F2⟩:=hp2
 have hN:=hN.mono hV2
 let ζ1:Asrt:=Arr 59 b1 [(Value.int .i64 vars),nv,(Value.int .i64 root)]
 refine ops_nil ⟨[ζ1],[(Gr 3 1 r2 d2.length ((d2.map (Value.int .i64))))],hV2,(perm_idx _ _ [1,0] rfl rfl),⟨[],.refl _⟩,?_⟩
 refine rq rfl (qv_as r2 rfl) ?_
 refine rnil ?_
 refine vc_seq ?_
 refine vc_res (σ':=[(Gr 3 1 r2 d2.length ((d2.map (Value.int .i64)))),ζ1]) rfl ?_
 have hdl2:=F2.len
 have hvl2:=vis_len hF B.inv
 refine vc_region ?_
 refine oq (qv_mv r2 rfl) ?_
 refine oq (qv_mv (Value.int .i64 r) rfl) ?_
 refine oq (qv_sub rfl rfl (by omega)) ?_
 refine ops_lit (n:=1) (s:=1) (cs:=[(.int .i64 (r - 2))]) Try.underlying22 Try.ti3 (Nat.le_of_ble_eq_true rfl) rfl rfl rfl (Nat.le_of_ble_eq_true rfl) rfl (fun b2=>?_)
 subst ζ1
 refine ops_append (k:=0) (n:=d2.length) (s:=1) (m:=1) (v:=r2) (xs:=(d2.map (Value.int .i64))) (news:=[(.int .i64 (r - 2))]) Try.underlying22 Try.ti3 rfl (Nat.le_of_ble_eq_true rfl) rfl rfl rfl rfl (news_own (j:=2) rfl) (by simp [Value.oneCell']) (by omega) (by simp only [maxLen]; omega) (fun v1 hn1=>?_)
 refine oq (qv_as v1 rfl) ?_
 refine ops_nil ?_
 let ζ1:Asrt:=Arr 59 b1 [(Value.int .i64 vars),nv,(Value.int .i64 root)]
 let ζ3:Asrt:=Gr 3 1 v1 ((d2.length+1)) (((d2.map (Value.int .i64))++[(Value.int .i64 (r - 2))]))
 refine vc_drop [ζ3,ζ1] [(Arr 3 b2 [(Value.int .i64 (r - 2))])] ((List.perm_middle (l₁:=[ζ3,ζ1]) (l₂:=[])).trans (List.perm_append_comm (l₁:=[(Arr 3 b2 [(Value.int .i64 (r - 2))])]))) ?_
 refine vc_drop [ζ3] [ζ1] ((List.perm_middle (l₁:=[ζ3]) (l₂:=[])).trans (List.perm_append_comm (l₁:=[ζ1]))) ?_
 refine vc_ret ?_
 refine rq1 v1 rfl ?_
 subst ζ1 ζ3
 rw [vis_miss hnone hx hy]
 have hyn:y.1.2 r=none:=by rw [B.only r hhi.2.1,A.only r hlo.2.1]; exact hnone
 exact ⟨d2++[r - 2],by simp,fin_push F2 hyn⟩
theorem fin_c {vars:Int} {N:List Fk} {nv:Value} (hF:Fm vars N) (hlN:N.length≤4398046511104):∀ k,FinC vars N nv k
  | 0=>fun V root r s done u _ hr hk _ _=>by have:=hr.1; omega
  | k+1=>fun V root r s done u hN hr hk hI hD=>fin_step hF hlN (fin_c hF hlN k) hN hr hk hI hD
end Go.Proofs.Ytkmhjcjpohpiaaa.Bd
