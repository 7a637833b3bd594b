import Derived.Test.YtkmhjcjpohpiaaaMo
/- Walks of mtbdd: what each function returns. Printed by a program out of notes. -/
namespace Go.Proofs.Ytkmhjcjpohpiaaa
open Go.Vc
open Classical
/-- What the model's walk does, for references below k. -/
def FinC (A:Mg) (la na:Value) (k:Nat):Prop:=∀ (V:HV) (r:Int) (s:Ly) (done:List Int) (M:List Bool) (u:Value) (bl:Nat),Mt V la na A→(mI A).ok r→(mI A).mu r < k→LyI A.L.length (mI A) s→FiS A done M s→Rch A r →
  FnC Try.prog 50 [.agg #[.int .i64 A.v,la,na,.int .i64 A.r],.int .i64 r,u,(Value.slice (some ⟨bl,0,none⟩) A.L.length A.L.length)] V [Gr 3 1 u done.length (done.map (Value.int .i64)),Arr 4 bl (bvs M)] (fun v _ σ'=>∃ u' d' M',v=.tuple #[u',(Value.slice (some ⟨bl,0,none⟩) A.L.length A.L.length)]∧σ' = [Gr 3 1 u' d'.length (d'.map (Value.int .i64)),Arr 4 bl (bvs M')]∧FiS A d' M' (vis A.L.length (mI A) k r s).1∧(r < A.L.length→gb M' r=true)∧(∀ c,gb M c=true→gb M' c=true))
set_option maxRecDepth 100000
set_option maxHeartbeats 4000000
theorem fin_step {V:HV} {la na:Value} {A:Mg} {k:Nat} {bl:Nat} (hloc:Loc A) (hl4:A.L.length≤4096∧A.N.length≤4096) (IH:FinC A la na k) {r:Int} {s:Ly} {done:List Int} {M:List Bool} {u:Value} (hA:Mt V la na A) (hr:(mI A).ok r) (hk:(mI A).mu r < k+1) (hI:LyI A.L.length (mI A) s) (hD:FiS A done M s) (hR:Rch A r) :
    FnC Try.prog 50 [(.agg #[(.int .i64 A.v),la,na,(.int .i64 A.r)]),(Value.int .i64 r),u,(.slice (some ⟨bl,0,none⟩) A.L.length A.L.length)] V [(Gr 3 1 u done.length ((done.map (Value.int .i64)))),(Arr 4 bl (bvs M))] (fun v _ σ'=>∃ u' d' M',v=.tuple #[u',(.slice (some ⟨bl,0,none⟩) A.L.length A.L.length)]∧σ' = [Gr 3 1 u' d'.length (d'.map (Value.int .i64)),Arr 4 bl (bvs M')]∧FiS A d' M' (vis A.L.length (mI A) (k+1) r s).1∧(r < A.L.length→gb M' r=true)∧(∀ c,gb M c=true→gb M' c=true)):=by
 refine fn_intro (N:=60) Try.func50 (by kernel_rfl) rfl rfl rfl (Nat.le_of_ble_eq_true rfl) ?_
 intro w0 D
 have hbl:=Ints.bound hA.l
 have hbn:=SlS.bound hA.n
 have hr0:0≤r:=hr.1
 have hr1:r < A.L.length+A.N.length:=hr.2
 have hml:=hD.ml
 refine vc_seq ?_
 let ζ3:Asrt:=Gr 3 1 u done.length ((done.map (Value.int .i64)))
 refine vc_res (σ':=[ζ3,(Arr 4 bl (bvs M))]) rfl ?_
 refine vc_region ?_
 refine ops_box (v:=(.agg #[(.int .i64 A.v),la,na,(.int .i64 A.r)])) (cs:=[(.int .i64 A.v),la,na,(.int .i64 A.r)]) rfl rfl (fun b1=>?_)
 refine oq (qv_as (Value.slice none 0 0) rfl) ?_
 refine oq (qv_as (Value.slice none 0 0) rfl) ?_
 refine ops_nil ?_
 refine vc_seq ?_
 refine vc_seq ?_
 refine vc_res (σ':=[ζ3,(Arr 4 bl (bvs M)),(Arr 25 b1 [(.int .i64 A.v),la,na,(.int .i64 A.r)])]) rfl ?_
 refine vc_region ?_
 refine oq (qv_mv (Value.int .i64 r) rfl) ?_
 let ζ1:Value:=.slice (some ⟨bl,0,none⟩) A.L.length A.L.length
 refine oq (qv_mv ζ1 rfl) ?_
 refine oq (qv_len Try.underlying30 rfl rfl) ?_
 refine oq (qv_lss rfl rfl) ?_
 refine ops_nil ?_
 refine vc_if rfl (fun c1=>?_) (fun c1=>?_)
 refine vc_seq ?_
 refine vc_region ?_
 refine oq (qv_mv ζ1 rfl) ?_
 refine oq (qv_mv (Value.int .i64 r) rfl) ?_
 subst ζ3 ζ1
 refine oq (qv_ia (v:=(.slice (some ⟨bl,0,none⟩) A.L.length A.L.length)) (i:=r) Try.underlying30 Try.size4 rfl (inO (k:=1) rfl (by first | exact (by simp only [bvs,List.length_map]; omega) | (simp only [bvs,List.length_map,List.length_set]; omega)) (Nat.le_refl _) (by omega)) rfl (by omega) (by simp only [bvs,List.length_map]; omega)) ?_
 refine ops_ste (k:=1) (b:=bl) (n:=A.L.length) (c:=A.L.length) (i:=r) (cs:=(bvs M)) Try.size4 rfl (rfl:ev _ _=(Value.bool true)) rfl rfl (by omega) (by simp only [bvs,List.length_map]; omega) ?_
 refine ops_nil ?_
 refine vc_seq ?_
 let ζ3:Asrt:=Gr 3 1 u done.length ((done.map (Value.int .i64)))
 let ζ6:Asrt:=Arr 4 bl (((bvs M)).set (r).toNat (Value.bool true))
 refine vc_res (σ':=[ζ3,ζ6,(Arr 25 b1 [(.int .i64 A.v),la,na,(.int .i64 A.r)])]) rfl ?_
 refine vc_region ?_
 refine oq (qv_mv u rfl) ?_
 let ζ1:Value:=.slice (some ⟨bl,0,none⟩) A.L.length A.L.length
 refine oq (qv_mv ζ1 rfl) ?_
 refine oq (qv_as u rfl) ?_
 refine oq (qv_as ζ1 rfl) ?_
 refine ops_nil ?_
 refine vc_drop [ζ3,ζ6] [(Arr 25 b1 [(Value.int .i64 (A.v)),la,na,(Value.int .i64 (A.r))])] ((List.perm_middle (l₁:=[ζ3,ζ6]) (l₂:=[])).trans (List.perm_append_comm (l₁:=[(Arr 25 b1 [(Value.int .i64 (A.v)),la,na,(Value.int .i64 (A.r))])]))) ?_
 refine vc_ret ?_
 refine rq2 u ζ1 rfl rfl ?_
 have hlf:(mI A).lf r:=by show r < (A.L.length:Int); omega
 subst ζ3 ζ6 ζ1
 rw [vis_hit (hI.lf r hr hlf)]
 refine ⟨u,done,M.set r.toNat true,rfl,by rw [bvs_set],fi_leaf hD hr.1 (by omega) hR,fun _=>by rw [gb_set hr.1 (by omega) hr.1,if_pos rfl],fun c hc=>gb_keep hr.1 (by omega) hc⟩
 refine vc_skip ?_
 refine vc_seq ?_
 refine vc_region ?_
 refine oq (qv_mv (Value.int .i64 r) rfl) ?_
 refine oq (qv_mv ζ1 rfl) ?_
 refine oq (qv_len Try.underlying30 rfl rfl) ?_
 refine oq (qv_sub rfl rfl (by omega)) ?_
 refine oq (qv_as (.int .i64 (r - ((A.L.length:Int)))) rfl) ?_
 refine ops_nil ?_
 refine vc_seq ?_
 refine vc_seq ?_
 refine vc_region ?_
 refine oq (qv_mv u rfl) ?_
 refine oq (qv_mv (.int .i64 (r - ((A.L.length:Int)))) rfl) ?_
 refine oq (qv_call_gi (v:=(.bool (decide (∃ i:Int,0≤i∧i < done.length∧gi done i=r - ((A.L.length:Int)))))) (k:=0) rfl (fun Vo hVo hbo=>ContainsI_c hbo) rfl rfl) ?_
 refine ops_nil ?_
 refine vc_if rfl (fun c2=>?_) (fun c2=>?_)
 refine vc_seq ?_
 refine vc_region ?_
 refine oq (qv_mv u rfl) ?_
 refine oq (qv_mv ζ1 rfl) ?_
 refine oq (qv_as u rfl) ?_
 refine oq (qv_as ζ1 rfl) ?_
 refine ops_nil ?_
 refine vc_drop [ζ3,(Arr 4 bl (bvs M))] [(Arr 25 b1 [(Value.int .i64 (A.v)),la,na,(Value.int .i64 (A.r))])] ((List.perm_middle (l₁:=[ζ3,(Arr 4 bl (bvs M))]) (l₂:=[])).trans (List.perm_append_comm (l₁:=[(Arr 25 b1 [(Value.int .i64 (A.v)),la,na,(Value.int .i64 (A.r))])]))) ?_
 refine vc_ret ?_
 refine rq2 u ζ1 rfl rfl ?_
 obtain ⟨k0,q0,q1,q2⟩:=c2
 obtain ⟨p,hp⟩:=hD.only q0 q1 q2
 subst ζ3 ζ1
 rw [vis_hit hp]
 exact ⟨u,done,M,rfl,rfl,hD,fun q=>absurd q (by omega),fun _ h=>h⟩
 refine vc_skip ?_
 refine vc_seq ?_
 have hlf:¬ (mI A).lf r:=by show ¬ r < (A.L.length:Int); omega
 have hnone:s.2 r=none:=by
   cases hq:s.2 r with
   | none=>rfl
   | some p =>
     obtain ⟨z,z0,z1,z2⟩:=hD.mem hI (by omega) hq
     exact (c2 ⟨z,z0,z1,z2⟩).elim
 have f:=mI_red hloc
 have hlo:=f.lo r hr hlf
 have hhi:=f.hi r hr hlf
 obtain ⟨hRl,hRh⟩:=rch_child hloc hr hlf hR
 have en:(mI A).nd r=fk A.N (r - A.L.length):=rfl
 subst ζ3 ζ1
 rw [en] at hlo hhi hRl hRh
 have hlm:=hlo.2.1
 have hhm:=hhi.2.1
 have hnl:r ≠ (fk A.N (r - A.L.length)).l:=fun e=>by
   have q:=hlm
   rw [← e] at q; omega
 have hnh:r ≠ (fk A.N (r - A.L.length)).h:=fun e=>by
   have q:=hhm
   rw [← e] at q; omega
 obtain ⟨x,hx⟩:∃ x,x=vis A.L.length (mI A) k (fk A.N (r - A.L.length)).l s:=⟨_,rfl⟩
 have AV:VisOk A.L.length (mI A) (fk A.N (r - A.L.length)).l s x:=hx ▸ vis_ok (mI_ok hloc) (by omega) k _ s hlo.1 (by omega) hI
 refine vc_region_order (τ:=[(Gr 3 1 u done.length ((done.map (Value.int .i64)))),(Arr 4 bl (bvs M))]) [(0,false),(1,false),(2,false),(3,false),(4,false),(5,false),(6,false),(7,false),(8,false),(9,true),(10,false),(11,false),(12,false),(13,false),(14,false)] [(Arr 25 b1 [(.int .i64 A.v),la,na,(.int .i64 A.r)])] Try.mixed (perm_idx _ _ [2,0,1] rfl rfl) (by kernel_rfl) ?_
 refine rq rfl (qv_ldm (vs:=[(.int .i64 A.v),la,na,(.int .i64 A.r)]) Try.agg25 rfl (inOc (k:=0) rfl) rfl rfl) ?_
 refine rq rfl (qv_fa (off:=0) Try.field25_2 rfl) ?_
 refine rq rfl (qv_ldp (v:=na) Try.plain23 rfl (inOc (k:=0) rfl) rfl) ?_
 refine rq rfl (qv_mv (.int .i64 (r - ((A.L.length:Int)))) rfl) ?_
 refine rq rfl (qv_ias (v:=na) (i:=r - ((A.L.length:Int))) Try.underlying23 Try.size80 rfl (hA.n) rfl (by omega) (by omega)) ?_
 refine rq rfl (qv_fas Try.field80_1 rfl (hA.n) (by omega) (by omega)) ?_
 refine rq rfl (qv_ldf (u:=(.int .i64 ((fk A.N (r - ((A.L.length:Int)))).l))) (v:=na) (i:=r - ((A.L.length:Int))) Try.plain3 rfl (hA.n) (by omega) (by omega) (by omega) (fks_el (o:=1) (by omega) (by omega) (by omega) rfl)) ?_
 refine rq rfl (qv_mv u rfl) ?_
 refine rq rfl (qv_mv (.slice (some ⟨bl,0,none⟩) A.L.length A.L.length) rfl) ?_
 refine rl rfl ?_
 refine ops_call (σa:=[(Gr 3 1 u done.length ((done.map (Value.int .i64)))),(Arr 4 bl (bvs M))]) (σr:=[(Arr 25 b1 [(.int .i64 A.v),la,na,(.int .i64 A.r)])]) (by have h:=IH _ (fk A.N (r - A.L.length)).l s done M u bl hA hlo.1 (by omega) hI hD hRl; rw [← hx] at h; exact h) rfl rfl (.refl _) (fun r1 V1 sg1 hV1 hp1=>?_)
 obtain ⟨u1,d1,M1,rfl,rfl,F1,F1r,F1m⟩:=hp1
 have hA:=hA.mono hV1
 let ζ5:Asrt:=Arr 25 b1 [(.int .i64 A.v),la,na,(.int .i64 A.r)]
 let ζ7:Asrt:=Gr 3 1 u1 d1.length ((d1.map (Value.int .i64)))
 refine ops_nil ⟨[ζ5],[ζ7,(Arr 4 bl (bvs M1))],hV1,(perm_idx _ _ [2,0,1] rfl rfl),⟨[],.refl _⟩,?_⟩
 let ζ1:Value:=.slice (some ⟨bl,0,none⟩) A.L.length A.L.length
 refine rq rfl (qv_mv (.tuple #[u1,ζ1]) rfl) ?_
 refine rq rfl (qv_ext u1 rfl rfl) ?_
 refine rq rfl (qv_ext ζ1 rfl rfl) ?_
 refine rq rfl (qv_as u1 rfl) ?_
 refine rq rfl (qv_as ζ1 rfl) ?_
 refine rnil ?_
 refine vc_seq ?_
 refine vc_res (σ':=[ζ7,(Arr 4 bl (bvs M1)),ζ5]) rfl ?_
 obtain ⟨y,hy⟩:∃ y,y=vis A.L.length (mI A) k (fk A.N (r - A.L.length)).h x.1:=⟨_,rfl⟩
 have B:VisOk A.L.length (mI A) (fk A.N (r - A.L.length)).h x.1 y:=hy ▸ vis_ok (mI_ok hloc) (by omega) k _ x.1 hhi.1 (by omega) AV.inv
 refine vc_region_order (τ:=[ζ7,(Arr 4 bl (bvs M1))]) [(0,false),(1,false),(2,false),(3,false),(4,false),(5,false),(6,false),(7,false),(8,false),(9,true),(10,false),(11,false),(12,false),(13,false),(14,false)] [ζ5] Try.mixed (perm_idx _ _ [2,0,1] rfl rfl) (by kernel_rfl) ?_
 refine rq rfl (qv_ldm (vs:=[(.int .i64 A.v),la,na,(.int .i64 A.r)]) Try.agg25 rfl (inOc (k:=0) rfl) rfl rfl) ?_
 refine rq rfl (qv_fa (off:=0) Try.field25_2 rfl) ?_
 refine rq rfl (qv_ldp (v:=na) Try.plain23 rfl (inOc (k:=0) rfl) rfl) ?_
 refine rq rfl (qv_mv (.int .i64 (r - ((A.L.length:Int)))) rfl) ?_
 refine rq rfl (qv_ias (v:=na) (i:=r - ((A.L.length:Int))) Try.underlying23 Try.size80 rfl (hA.n) rfl (by omega) (by omega)) ?_
 refine rq rfl (qv_fas Try.field80_2 rfl (hA.n) (by omega) (by omega)) ?_
 refine rq rfl (qv_ldf (u:=(.int .i64 ((fk A.N (r - ((A.L.length:Int)))).h))) (v:=na) (i:=r - ((A.L.length:Int))) Try.plain3 rfl (hA.n) (by omega) (by omega) (by omega) (fks_el (o:=2) (by omega) (by omega) (by omega) rfl)) ?_
 refine rq rfl (qv_mv u1 rfl) ?_
 refine rq rfl (qv_mv ζ1 rfl) ?_
 refine rl rfl ?_
 subst ζ5 ζ7 ζ1
 refine ops_call (σa:=[(Gr 3 1 u1 d1.length ((d1.map (Value.int .i64)))),(Arr 4 bl (bvs M1))]) (σr:=[(Arr 25 b1 [(.int .i64 A.v),la,na,(.int .i64 A.r)])]) (by have h:=IH _ (fk A.N (r - A.L.length)).h x.1 d1 M1 u1 bl hA hhi.1 (by omega) AV.inv F1 hRh; rw [← hy] at h; exact h) rfl rfl (.refl _) (fun r2 V2 sg2 hV2 hp2=>?_)
 obtain ⟨u2,d2,M2,rfl,rfl,F2,F2r,F2m⟩:=hp2
 have hA:=hA.mono hV2
 let ζ5:Asrt:=Arr 25 b1 [(.int .i64 A.v),la,na,(.int .i64 A.r)]
 refine ops_nil ⟨[ζ5],[(Gr 3 1 u2 d2.length ((d2.map (Value.int .i64)))),(Arr 4 bl (bvs M2))],hV2,(perm_idx _ _ [2,0,1] rfl rfl),⟨[],.refl _⟩,?_⟩
 let ζ1:Value:=.slice (some ⟨bl,0,none⟩) A.L.length A.L.length
 refine rq rfl (qv_mv (.tuple #[u2,ζ1]) rfl) ?_
 refine rq rfl (qv_ext u2 rfl rfl) ?_
 refine rq rfl (qv_ext ζ1 rfl rfl) ?_
 refine rq rfl (qv_as u2 rfl) ?_
 refine rq rfl (qv_as ζ1 rfl) ?_
 refine rnil ?_
 refine vc_seq ?_
 refine vc_res (σ':=[(Gr 3 1 u2 d2.length ((d2.map (Value.int .i64)))),(Arr 4 bl (bvs M2)),ζ5]) rfl ?_
 have hdl:=fi_len B.inv F2
 refine vc_region ?_
 refine oq (qv_mv u2 rfl) ?_
 refine oq (qv_mv (.int .i64 (r - ((A.L.length:Int)))) rfl) ?_
 refine ops_lit (n:=1) (s:=1) (cs:=[(.int .i64 (r - ((A.L.length:Int))))]) Try.underlying22 Try.ti3 (Nat.le_of_ble_eq_true rfl) rfl rfl rfl (Nat.le_of_ble_eq_true rfl) rfl (fun b2=>?_)
 subst ζ5 ζ1
 refine ops_append (k:=0) (n:=d2.length) (s:=1) (m:=1) (v:=u2) (xs:=(d2.map (Value.int .i64))) (news:=[(.int .i64 (r - ((A.L.length:Int))))]) Try.underlying22 Try.ti3 rfl (Nat.le_of_ble_eq_true rfl) rfl rfl rfl rfl (news_own (j:=3) rfl) (by simp [Value.oneCell']) (by omega) (by simp only [maxLen]; omega) (fun v1 hn1=>?_)
 let ζ1:Value:=.slice (some ⟨bl,0,none⟩) A.L.length A.L.length
 refine oq (qv_mv ζ1 rfl) ?_
 refine oq (qv_as v1 rfl) ?_
 refine oq (qv_as ζ1 rfl) ?_
 refine ops_nil ?_
 let ζ2:Asrt:=Gr 3 1 v1 ((d2.length+1)) (((d2.map (Value.int .i64))++[(Value.int .i64 (r - ((A.L.length:Int))))]))
 let ζ4:Asrt:=Arr 25 b1 [(Value.int .i64 (A.v)),la,na,(Value.int .i64 (A.r))]
 refine vc_drop [ζ2,(Arr 4 bl (bvs M2)),ζ4] [(Arr 3 b2 [(Value.int .i64 (r - ((A.L.length:Int))))])] ((List.perm_middle (l₁:=[ζ2,(Arr 4 bl (bvs M2)),ζ4]) (l₂:=[])).trans (List.perm_append_comm (l₁:=[(Arr 3 b2 [(Value.int .i64 (r - ((A.L.length:Int))))])]))) ?_
 refine vc_drop [ζ2,(Arr 4 bl (bvs M2))] [ζ4] ((List.perm_middle (l₁:=[ζ2,(Arr 4 bl (bvs M2))]) (l₂:=[])).trans (List.perm_append_comm (l₁:=[ζ4]))) ?_
 refine vc_ret ?_
 refine rq2 v1 ζ1 rfl rfl ?_
 subst ζ1 ζ2 ζ4
 rw [vis_miss hnone hx hy]
 have hyn:y.1.2 r=none:=by rw [B.only r hnh (by omega),AV.only r hnl (by omega)]; exact hnone
 have FF:=fi_push (n:=⟨((mI A).nd r).v,x.2,y.2⟩) F2 hyn hlf (fun c hc hcl=>by
     rcases hc with e | e
     rw [e] at hcl ⊢; exact F2m _ (F1r hcl)
     rw [e] at hcl ⊢; exact F2r hcl)
 exact ⟨_,d2++[r - A.L.length],M2,rfl,by rw [List.length_append,List.map_append]; rfl,FF,fun q=>absurd q (by omega),fun c h=>F2m c (F1m c h)⟩
theorem fin_c {A:Mg} {la na:Value} (hloc:Loc A) (hl4:A.L.length≤4096∧A.N.length≤4096):∀ k,FinC A la na k
  | 0=>fun V r s done M u bl _ _ hk _ _ _=>by omega
  | k+1=>fun V r s done M u bl hA hr hk hI hD hR=>fin_step hloc hl4 (fin_c hloc hl4 k) hA hr hk hI hD hR
end Go.Proofs.Ytkmhjcjpohpiaaa
