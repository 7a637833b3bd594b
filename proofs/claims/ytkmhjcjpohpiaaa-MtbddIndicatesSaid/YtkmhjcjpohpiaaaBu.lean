import Derived.Test.YtkmhjcjpohpiaaaBt
/- Walks of bdd: what each function returns. Printed by a program out of notes. -/
namespace Go.Proofs.Ytkmhjcjpohpiaaa.Bd
open Go.Vc
open Classical
/-- What the building of a part does. -/
def PartC (k:Nat):Prop:=∀ (V:HV) (v:Int) (M:List Fk) (t:List Bool) (tv u:Value),Bls V tv t→t.length=2 ^ k→0≤v→v+k≤1000→k≤20→M.length+2 ^ k≤4398046511104 →
  FnC Try.prog 126 [u,.int .i64 v,tv] V [Gr 80 3 u M.length (fks M)] (fun w _ σ'=>∃ u',w=.tuple #[u',.int .i64 (prt k M v t).2]∧σ' = [Gr 80 3 u' (prt k M v t).1.length (fks (prt k M v t).1)])
set_option maxRecDepth 100000
set_option maxHeartbeats 4000000
theorem part_step {V:HV} {k0 k:Nat} {v:Int} {M:List Fk} {t:List Bool} {tv u:Value} (IH:k0=k+1→PartC k) (htv:Bls V tv t) (ht0:t.length=2 ^ k0) (hk1:k0=0 ∨ k0=k+1) (v0:0≤v) (v1:v+k0≤1000) (hk20:k0≤20) (hM:M.length+2 ^ k0≤4398046511104) :
    FnC Try.prog 126 [u,(Value.int .i64 v),tv] V [(Gr 80 3 u M.length ((fks M)))] (fun w _ σ'=>∃ u',w=.tuple #[u',.int .i64 (prt k0 M v t).2]∧σ' = [Gr 80 3 u' (prt k0 M v t).1.length (fks (prt k0 M v t).1)]):=by
 refine fn_intro (N:=75) Try.func126 (by kernel_rfl) rfl rfl rfl (Nat.le_of_ble_eq_true rfl) ?_
 intro w0 D
 have hb:=htv.bound
 refine vc_seq ?_
 refine vc_res (σ':=[(Gr 80 3 u M.length ((fks M)))]) rfl ?_
 refine vc_region ?_
 refine oq (qv_as (Value.slice none 0 0) rfl) ?_
 refine oq (qv_as (Value.int .i64 0) rfl) ?_
 refine ops_nil ?_
 refine vc_seq ?_
 refine vc_seq ?_
 refine vc_region ?_
 refine oq (qv_mv tv rfl) ?_
 refine oq (qv_lenB Try.underlying30 rfl htv) ?_
 refine oq (qv_eql rfl rfl) ?_
 refine ops_nil ?_
 refine vc_if rfl (fun c1=>?_) (fun c1=>?_)
 refine vc_seq ?_
 refine vc_seq ?_
 have hk0:k0=0:=by
   rcases hk1 with e | e
   exact e
   have q:2 ^ (k+1)=2 ^ k+2 ^ k:=by rw [Nat.pow_succ]; omega
   have:=one_le_two_pow' k
   rw [e,q] at ht0; omega
 subst hk0
 refine vc_region ?_
 refine oq (qv_mv tv rfl) ?_
 refine oq (qv_iab (v:=tv) (i:=0) Try.underlying30 Try.size4 rfl (inVb htv) rfl (by omega) (by omega)) ?_
 refine oq (qv_ldb (v:=tv) (i:=0) Try.plain4 rfl (inVb htv) (by omega) (by omega)) ?_
 refine ops_nil ?_
 refine vc_if rfl (fun c2=>?_) (fun c2=>?_)
 refine vc_seq ?_
 refine vc_region ?_
 refine oq (qv_mv u rfl) ?_
 refine oq (qv_as u rfl) ?_
 refine oq (qv_as (Value.int .i64 1) rfl) ?_
 refine ops_nil ?_
 refine vc_ret ?_
 refine rq2 u (Value.int .i64 1) rfl rfl ?_
 have e0:(if t.getD 0 false=true then (1:Int) else 0)=1:=if_pos c2
 rw [prt_0,e0]
 exact ⟨u,rfl,rfl⟩
 refine vc_skip ?_
 refine vc_seq ?_
 refine vc_region ?_
 refine oq (qv_mv u rfl) ?_
 refine oq (qv_as u rfl) ?_
 refine oq (qv_as (Value.int .i64 0) rfl) ?_
 refine ops_nil ?_
 refine vc_ret ?_
 refine rq2 u (Value.int .i64 0) rfl rfl ?_
 have e0:(if t.getD 0 false=true then (1:Int) else 0)=0:=if_neg c2
 rw [prt_0,e0]
 exact ⟨u,rfl,rfl⟩
 refine vc_skip ?_
 refine vc_seq ?_
 have hk0:k0=k+1:=by
   rcases hk1 with e | e
   rw [e] at ht0; have q:(2:Nat) ^ 0=1:=rfl; omega
   exact e
 subst hk0
 have IH:=IH rfl
 have ht:t.length=2 ^ (k+1):=ht0
 have hpk:2 ^ (k+1)=2 ^ k+2 ^ k:=by rw [Nat.pow_succ]; omega
 have hpk1:=one_le_two_pow' k
 have hhalf:((t.length:Int) / 2).toNat=2 ^ k:=by omega
 have hl1:(t.take (2 ^ k)).length=2 ^ k:=by rw [List.length_take]; omega
 have hl2:(t.drop (2 ^ k)).length=2 ^ k:=by rw [List.length_drop]; omega
 obtain ⟨x,hx⟩:∃ x,x=prt k M (v+1) (t.take (2 ^ k)):=⟨_,rfl⟩
 obtain ⟨y,hy⟩:∃ y,y=prt k x.1 (v+1) (t.drop (2 ^ k)):=⟨_,rfl⟩
 have px:=prt_len k M (v+1) (t.take (2 ^ k))
 have py:=prt_len k x.1 (v+1) (t.drop (2 ^ k))
 rw [← hx] at px
 rw [← hy] at py
 refine vc_region ?_
 refine oq (qv_mv tv rfl) ?_
 refine oq (qv_lenB Try.underlying30 rfl htv) ?_
 refine oq (qv_quo rfl rfl (by omega) (by omega)) ?_
 refine oq (qv_as (.int .i64 (((t.length:Int)) / 2)) rfl) ?_
 refine ops_nil ?_
 refine vc_seq ?_
 refine vc_region ?_
 refine oq (qv_mv u rfl) ?_
 refine oq (qv_mv (Value.int .i64 v) rfl) ?_
 refine oq (qv_add rfl rfl (by omega)) ?_
 refine oq (qv_mv tv rfl) ?_
 refine oq (qv_mv (.int .i64 (((t.length:Int)) / 2)) rfl) ?_
 refine oq (qv_sliceHi Try.underlying30 Try.size4 rfl htv rfl (by omega) (by rw [List.length_map]; omega)) ?_
 refine ops_call (σa:=[(Gr 80 3 u M.length ((fks M)))]) (σr:=[]) (by have h:=IH _ (v+1) M (t.take (2 ^ k)) (takeS tv (((t.length:Int)) / 2).toNat) u (by have q:=htv.take (n:=2 ^ k) (by omega); rw [hhalf]; exact q) (by omega) (by omega) (by omega) (by omega) (by omega); rw [← hx] at h; exact h) rfl rfl (.refl _) (fun r1 V1 sg1 hV1 hp1=>?_)
 obtain ⟨ux,rfl,rfl⟩:=hp1
 have htv:=htv.mono hV1
 refine oq (qv_mv (.tuple #[ux,(.int .i64 x.2)]) rfl) ?_
 refine oq (qv_ext ux rfl rfl) ?_
 refine oq (qv_ext (.int .i64 x.2) rfl rfl) ?_
 refine oq (qv_as ux rfl) ?_
 refine oq (qv_as (.int .i64 x.2) rfl) ?_
 refine ops_nil ?_
 refine vc_seq ?_
 refine vc_res (σ':=[(Gr 80 3 ux x.1.length ((fks x.1)))]) rfl ?_
 refine vc_region ?_
 refine oq (qv_mv ux rfl) ?_
 refine oq (qv_mv (Value.int .i64 v) rfl) ?_
 refine oq (qv_add rfl rfl (by omega)) ?_
 refine oq (qv_mv tv rfl) ?_
 refine oq (qv_mv (.int .i64 (((t.length:Int)) / 2)) rfl) ?_
 refine oq (qv_sliceLoS Try.underlying30 Try.size4 rfl htv rfl (by omega) (by rw [List.length_map]; omega)) ?_
 refine ops_call (σa:=[(Gr 80 3 ux x.1.length ((fks x.1)))]) (σr:=[]) (by have h:=IH _ (v+1) x.1 (t.drop (2 ^ k)) (dropS tv (((t.length:Int)) / 2).toNat) ux (by have q:=htv.drop (n:=2 ^ k) (by omega); rw [hhalf]; exact q) (by omega) (by omega) (by omega) (by omega) (by omega); rw [← hy] at h; exact h) rfl rfl (.refl _) (fun r2 V2 sg2 hV2 hp2=>?_)
 obtain ⟨uy,rfl,rfl⟩:=hp2
 have htv:=htv.mono hV2
 refine oq (qv_mv (.tuple #[uy,(.int .i64 y.2)]) rfl) ?_
 refine oq (qv_ext uy rfl rfl) ?_
 refine oq (qv_ext (.int .i64 y.2) rfl rfl) ?_
 refine oq (qv_as uy rfl) ?_
 refine oq (qv_as (.int .i64 y.2) rfl) ?_
 refine ops_nil ?_
 refine vc_seq ?_
 refine vc_seq ?_
 let ζ3:Asrt:=Gr 80 3 uy y.1.length ((fks y.1))
 refine vc_res (σ':=[ζ3]) rfl ?_
 refine vc_region ?_
 refine oq (qv_mv (.int .i64 x.2) rfl) ?_
 refine oq (qv_mv (.int .i64 y.2) rfl) ?_
 refine oq (qv_eql rfl rfl) ?_
 refine ops_nil ?_
 refine vc_if rfl (fun c3=>?_) (fun c3=>?_)
 refine vc_seq ?_
 refine vc_region ?_
 refine oq (qv_mv uy rfl) ?_
 refine oq (qv_mv (.int .i64 x.2) rfl) ?_
 refine oq (qv_as uy rfl) ?_
 refine oq (qv_as (.int .i64 x.2) rfl) ?_
 refine ops_nil ?_
 refine vc_ret ?_
 refine rq2 uy (.int .i64 x.2) rfl rfl ?_
 subst ζ3
 rw [prt_half ht]
 rw [← hx,← hy]
 rw [node_eq c3]
 exact ⟨_,rfl,rfl⟩
 refine vc_skip ?_
 refine vc_seq ?_
 have hne:x.2 ≠ y.2:=c3
 refine vc_region ?_
 refine oq (qv_mv (Value.int .i64 v) rfl) ?_
 refine oq (qv_mv (.int .i64 x.2) rfl) ?_
 refine oq (qv_mv (.int .i64 y.2) rfl) ?_
 refine oq (qv_build (out:=[(Value.int .i64 v),(.int .i64 x.2),(.int .i64 y.2)]) Try.build80 [(0,[(Value.int .i64 v)]),(1,[(.int .i64 x.2)]),(2,[(.int .i64 y.2)])] rfl rfl) ?_
 refine ops_alloc Try.ti80 rfl (fun b1=>?_)
 refine ops_stw (k:=1) (vs:=[(Value.int .i64 v),(.int .i64 x.2),(.int .i64 y.2)]) Try.size80 rfl rfl rfl rfl rfl rfl ?_
 refine ops_nil ?_
 refine vc_seq ?_
 refine vc_seq ?_
 let ζ4:Asrt:=Arr 80 b1 [(Value.int .i64 v),(.int .i64 x.2),(.int .i64 y.2)]
 refine vc_res (σ':=[ζ3,ζ4]) rfl ?_
 refine vc_region ?_
 refine oq (qv_mv uy rfl) ?_
 refine oq (qv_lenGr (k:=0) Try.underlying23 rfl rfl) ?_
 refine oq (qv_mv (Value.int .i64 0) rfl) ?_
 refine ops_nil ?_
 refine vc_block ?_
 refine vc_loop (α:=Int) (fun (xx:Int)=>[(0,uy),(1,(Value.int .i64 v)),(2,tv),(8,(.int .i64 (((t.length:Int)) / 2))),(9,(.int .i64 x.2)),(10,(.int .i64 y.2)),(11,(Value.pointer (some ⟨b1,0,none⟩))),(16,(.bool (decide (((t.length:Int))=1)))),(47,(.bool (decide (x.2=y.2)))),(54,uy),(55,(.int .i64 (((y.1.length:Nat):Int)))),(56,(Value.int .i64 xx))]) (fun (xx:Int) V' σ'=>V2=V'∧[ζ3,ζ4]=σ'∧0≤xx∧xx≤y.1.length∧∀ z:Int,0≤z→z < xx→fk y.1 z ≠ ⟨v,x.2,y.2⟩) (fun (xx:Int)=>(y.1.length - xx).toNat) (0) ?_ ?_ ?_
 exact ⟨rfl,rfl,rfl,rfl,rfl,rfl,rfl,rfl,rfl,rfl,rfl,rfl,trivial⟩
 exact ⟨rfl,rfl,by omega,by omega,fun z a b=>by omega⟩
 rintro j e1 V0l σ0l hI0
 obtain ⟨rfl,rfl,i1,i2,hj⟩:V2=V0l∧[ζ3,ζ4]=σ0l∧0≤j∧j≤y.1.length∧∀ z:Int,0≤z→z < j→fk y.1 z ≠ ⟨v,x.2,y.2⟩:=hI0
 refine vc_seq ?_
 refine vc_region ?_
 refine oq (qv_lss rfl rfl) ?_
 refine ops_nil ?_
 refine vc_seq ?_
 refine vc_if rfl (fun c4=>?_) (fun c4=>?_)
 refine vc_skip ?_
 refine vc_seq ?_
 refine vc_block ?_
 refine vc_seq ?_
 refine vc_region ?_
 refine oq (qv_mv (Value.int .i64 j) rfl) ?_
 refine oq (qv_iasG (k:=0) (v:=uy) (i:=j) Try.underlying23 Try.size80 rfl rfl rfl (by omega) (by omega)) ?_
 let ζ5:Value:=.int .i64 ((fk y.1 (j)).v)
 let ζ6:Value:=.int .i64 ((fk y.1 (j)).l)
 let ζ7:Value:=.int .i64 ((fk y.1 (j)).h)
 refine oq (qv_ldsG (k:=0) (v:=uy) (i:=j) (vs:=[ζ5,ζ6,ζ7]) Try.agg80 rfl rfl (by omega) (by omega) (fks_at (N:=y.1) (by omega) (by omega))) ?_
 refine ops_alloc Try.ti80 rfl (fun b2=>?_)
 refine oq (qv_as (Value.int .i64 j) rfl) ?_
 refine ops_stw (k:=2) (vs:=[ζ5,ζ6,ζ7]) Try.size80 rfl rfl rfl rfl rfl rfl ?_
 refine ops_nil ?_
 refine vc_seq ?_
 refine vc_res (σ':=[ζ3,ζ4,(Arr 80 b2 [ζ5,ζ6,ζ7])]) rfl ?_
 refine vc_region ?_
 refine oq (qv_ldm (vs:=[ζ5,ζ6,ζ7]) Try.agg80 rfl (inOc (k:=2) rfl) rfl rfl) ?_
 refine oq (qv_ldm (vs:=[(Value.int .i64 v),(.int .i64 x.2),(.int .i64 y.2)]) Try.agg80 rfl (inOc (k:=1) rfl) rfl rfl) ?_
 refine oq (qv_eqls Try.eq80 [(fk y.1 (j)).v,(fk y.1 (j)).l,(fk y.1 (j)).h] [v,x.2,y.2] rfl rfl rfl rfl rfl rfl eq3) ?_
 refine ops_nil ?_
 refine vc_if rfl (fun c5=>?_) (fun c5=>?_)
 refine vc_seq ?_
 refine vc_region ?_
 refine oq (qv_mv uy rfl) ?_
 refine oq (qv_mv (Value.int .i64 j) rfl) ?_
 refine oq (qv_add rfl rfl (by omega)) ?_
 refine oq (qv_as uy rfl) ?_
 refine oq (qv_as (.int .i64 (2+j)) rfl) ?_
 refine ops_nil ?_
 let ζ1:Asrt:=Arr 80 b1 [(Value.int .i64 v),(Value.int .i64 (x.2)),(Value.int .i64 (y.2))]
 refine vc_drop [ζ3,ζ1] [(Arr 80 b2 [(Value.int .i64 ((fk y.1 (j)).v)),(Value.int .i64 ((fk y.1 (j)).l)),(Value.int .i64 ((fk y.1 (j)).h))])] ((List.perm_middle (l₁:=[ζ3,ζ1]) (l₂:=[])).trans (List.perm_append_comm (l₁:=[(Arr 80 b2 [(Value.int .i64 ((fk y.1 (j)).v)),(Value.int .i64 ((fk y.1 (j)).l)),(Value.int .i64 ((fk y.1 (j)).h))])]))) ?_
 refine vc_drop [ζ3] [ζ1] ((List.perm_middle (l₁:=[ζ3]) (l₂:=[])).trans (List.perm_append_comm (l₁:=[ζ1]))) ?_
 refine vc_ret ?_
 refine blockQ_ret ?_
 refine blockQ_ret ?_
 refine rq2 uy (.int .i64 (2+j)) rfl rfl ?_
 subst ζ3 ζ4 ζ5 ζ6 ζ7 ζ1
 rw [prt_half ht]
 rw [← hx,← hy]
 rw [nodeR_at hne (by omega) (by omega) (fk_eq3 (b:=⟨v,x.2,y.2⟩) c5) hj]
 exact ⟨_,rfl,rfl⟩
 refine vc_skip ?_
 refine vc_drop [ζ3,(Arr 80 b1 [(Value.int .i64 v),(Value.int .i64 (x.2)),(Value.int .i64 (y.2))])] [(Arr 80 b2 [(Value.int .i64 ((fk y.1 (j)).v)),(Value.int .i64 ((fk y.1 (j)).l)),(Value.int .i64 ((fk y.1 (j)).h))])] ((List.perm_middle (l₁:=[ζ3,(Arr 80 b1 [(Value.int .i64 v),(Value.int .i64 (x.2)),(Value.int .i64 (y.2))])]) (l₂:=[])).trans (List.perm_append_comm (l₁:=[(Arr 80 b2 [(Value.int .i64 ((fk y.1 (j)).v)),(Value.int .i64 ((fk y.1 (j)).l)),(Value.int .i64 ((fk y.1 (j)).h))])]))) ?_
 refine vc_region ?_
 refine oq (qv_add rfl rfl (by omega)) ?_
 refine oq (qv_mv (.int .i64 (j+1)) rfl) ?_
 refine ops_nil ?_
 subst ζ3 ζ4 ζ5 ζ6 ζ7
 refine ⟨(j+1),⟨rfl,rfl,rfl,rfl,rfl,rfl,rfl,rfl,rfl,rfl,rfl,(congrArg (Value.int .i64) (show (j+1)=((j+1)) from by omega)),trivial⟩,⟨rfl,rfl,by omega,by omega,all_snoc hj (fun w=>c5 (by rw [w]; exact ⟨rfl,rfl,rfl⟩))⟩,by omega⟩
 refine vc_exit ?_
 refine blockQ_hit ?_
 refine vc_seq ?_
 refine vc_region ?_
 refine oq (qv_mv uy rfl) ?_
 refine oq (qv_ldm (vs:=[(Value.int .i64 v),(.int .i64 x.2),(.int .i64 y.2)]) Try.agg80 rfl (inOc (k:=1) rfl) rfl rfl) ?_
 refine ops_lit (n:=1) (s:=3) (cs:=[(Value.int .i64 v),(.int .i64 x.2),(.int .i64 y.2)]) Try.underlying23 Try.ti80 (Nat.le_of_ble_eq_true rfl) rfl rfl rfl (Nat.le_of_ble_eq_true rfl) rfl (fun b3=>?_)
 refine ops_grshape (k:=0) rfl (fun hsh=>?_)
 obtain ⟨sa,sc,hsh⟩:=hsh
 subst ζ3 ζ4
 refine ops_append (k:=0) (n:=y.1.length) (s:=3) (m:=1) (v:=uy) (xs:=(fks y.1)) (news:=[(Value.int .i64 v),(.int .i64 x.2),(.int .i64 y.2)]) Try.underlying23 Try.ti80 rfl (Nat.le_of_ble_eq_true rfl) rfl rfl rfl rfl (news_own (j:=2) rfl) (by simp [Value.oneCell']) (by omega) (by simp only [maxLen]; omega) (fun v1 hn1=>?_)
 refine oq (qv_mv uy rfl) ?_
 refine oq (qv_len Try.underlying23 rfl hsh) ?_
 refine oq (qv_add rfl rfl (by omega)) ?_
 refine oq (qv_as v1 rfl) ?_
 refine oq (qv_as (.int .i64 (2+(((y.1.length:Nat):Int)))) rfl) ?_
 refine ops_nil ?_
 let ζ1:Asrt:=Arr 80 b1 [(Value.int .i64 v),(Value.int .i64 (x.2)),(Value.int .i64 (y.2))]
 let ζ2:Asrt:=Gr 80 3 v1 ((y.1.length+1)) (((fks y.1)++[(Value.int .i64 v),(Value.int .i64 (x.2)),(Value.int .i64 (y.2))]))
 refine vc_drop [ζ2,ζ1] [(Arr 80 b3 [(Value.int .i64 v),(Value.int .i64 (x.2)),(Value.int .i64 (y.2))])] ((List.perm_middle (l₁:=[ζ2,ζ1]) (l₂:=[])).trans (List.perm_append_comm (l₁:=[(Arr 80 b3 [(Value.int .i64 v),(Value.int .i64 (x.2)),(Value.int .i64 (y.2))])]))) ?_
 refine vc_drop [ζ2] [ζ1] ((List.perm_middle (l₁:=[ζ2]) (l₂:=[])).trans (List.perm_append_comm (l₁:=[ζ1]))) ?_
 refine vc_ret ?_
 refine rq2 v1 (.int .i64 (2+(((y.1.length:Nat):Int)))) rfl rfl ?_
 subst ζ1 ζ2
 rw [prt_half ht]
 rw [← hx,← hy]
 rw [nodeR_no hne (fun z z0 z1=>hj z z0 (by omega))]
 refine ⟨_,rfl,?_⟩
 rw [fks_snoc,List.length_append]
 rfl
theorem part_c:∀ k,PartC k
  | 0=>fun V v M t tv u h1 h2 h3 h4 h5 h6=>part_step (k:=0) (fun q=>by omega) h1 h2 (.inl rfl) h3 h4 h5 h6
  | k+1=>fun V v M t tv u h1 h2 h3 h4 h5 h6=>part_step (k:=k) (fun _=>part_c k) h1 h2 (.inr rfl) h3 h4 h5 h6
theorem build_c {V:HV} {vars:Int} {t:List Bool} {tv:Value} (ht:Bls V tv t) (h0:0≤vars) (h20:vars≤20) (hl:t.length=2 ^ vars.toNat) :
    FnC Try.prog 93 [(Value.int .i64 vars),tv] V [] (RB (bldD vars t)):=by
 refine fn_intro (N:=16) Try.func93 (by kernel_rfl) rfl rfl rfl (Nat.le_of_ble_eq_true rfl) ?_
 intro w0 D
 have hpw:2 ^ vars.toNat≤2 ^ 20:=Nat.pow_le_pow_right (by omega) (by omega)
 refine vc_seq ?_
 refine vc_region ?_
 refine ops_alloc Try.ti59 rfl (fun b1=>?_)
 refine ops_nil ?_
 refine vc_seq ?_
 let ζ1:Asrt:=Arr 59 b1 [(Value.int .i64 0),(Value.slice none 0 0),(Value.int .i64 0)]
 refine vc_res (σ':=[ζ1]) rfl ?_
 refine vc_region ?_
 refine oq (qv_mv (Value.int .i64 vars) rfl) ?_
 refine oq (qv_build (out:=[(Value.int .i64 vars),(Value.slice none 0 0),(Value.int .i64 0)]) Try.build59 [(0,[(Value.int .i64 vars)])] rfl rfl) ?_
 refine ops_alloc Try.ti59 rfl (fun b2=>?_)
 refine ops_stw (k:=1) (vs:=[(Value.int .i64 vars),(Value.slice none 0 0),(Value.int .i64 0)]) Try.size59 rfl rfl rfl rfl rfl rfl ?_
 refine ops_nil ?_
 refine vc_seq ?_
 let ζ4:Asrt:=Arr 59 b2 [(Value.int .i64 vars),(Value.slice none 0 0),(Value.int .i64 0)]
 refine vc_res (σ':=[ζ1,ζ4]) rfl ?_
 refine vc_nil 80 3 ?_
 refine vc_region ?_
 refine oq (qv_mv tv rfl) ?_
 refine ops_call (σa:=[(Gr 80 3 ((Value.slice none 0 0)) 0 ([]))]) (σr:=[ζ1,ζ4]) (by have h:=part_c vars.toNat _ 0 [] t _ (Value.slice none 0 0) ht hl (by omega) (by omega) (by omega) (by show 0+_≤_; omega); exact h) rfl rfl (perm_idx _ _ [2,0,1] rfl rfl) (fun r1 V1 sg1 hV1 hp1=>?_)
 obtain ⟨u1,rfl,rfl⟩:=hp1
 have ht:=ht.mono hV1
 refine ops_perm (σ':=[ζ1,ζ4,(Gr 80 3 u1 ((bldD vars t).N.length) ((fks (bldD vars t).N)))]) (perm_idx _ _ [1,2,0] rfl rfl) ?_
 let ζ3:Value:=.int .i64 ((bldD vars t).r)
 refine oq (qv_mv (.tuple #[u1,ζ3]) rfl) ?_
 refine oq (qv_ext u1 rfl rfl) ?_
 refine oq (qv_ext ζ3 rfl rfl) ?_
 refine oq (qv_fa (off:=0) Try.field59_1 rfl) ?_
 refine ops_gr1 (k:=2) rfl (fun ho1=>?_)
 refine ops_stp (k:=1) (off:=1) (cs:=[(Value.int .i64 vars),(Value.slice none 0 0),(Value.int .i64 0)]) Try.size23 rfl (rfl:ev _ _=u1) ho1 rfl (Nat.le_of_ble_eq_true rfl) ?_
 refine oq (qv_fa (off:=0) Try.field59_2 rfl) ?_
 refine ops_stp (k:=1) (off:=2) (cs:=[(Value.int .i64 vars),u1,(Value.int .i64 0)]) Try.size3 rfl (rfl:ev _ _=ζ3) rfl rfl (Nat.le_of_ble_eq_true rfl) ?_
 refine ops_nil ?_
 refine vc_seq ?_
 refine vc_res (σ':=[ζ1,(Arr 59 b2 [(Value.int .i64 vars),u1,ζ3]),(Gr 80 3 u1 ((bldD vars t).N.length) ((fks (bldD vars t).N)))]) rfl ?_
 refine vc_region ?_
 refine oq (qv_ldm (vs:=[(Value.int .i64 vars),u1,ζ3]) Try.agg59 rfl (inOc (k:=1) rfl) rfl rfl) ?_
 refine ops_gr1 (k:=2) rfl (fun ho2=>?_)
 refine ops_stw (k:=0) (vs:=[(Value.int .i64 vars),u1,ζ3]) Try.size59 rfl rfl rfl (allc rfl (allc ho2 (allc rfl rfl))) rfl rfl ?_
 refine ops_nil ?_
 let ζ2:Asrt:=Arr 59 b2 [(Value.int .i64 vars),u1,(Value.int .i64 ((bldD vars t).r))]
 refine vc_freezeS (v:=u1) (E:=80) (n:=(bldD vars t).N.length) (xs:=(fks (bldD vars t).N)) (σr:=[(Arr 59 b1 [(Value.int .i64 vars),u1,(Value.int .i64 ((bldD vars t).r))]),ζ2]) (List.perm_middle (l₁:=[(Arr 59 b1 [(Value.int .i64 vars),u1,(Value.int .i64 ((bldD vars t).r))]),ζ2]) (l₂:=[])) (fun Vf1 hVf1 hc1=>?_)
 have ht:=ht.mono hVf1
 refine vc_freeze (b:=b1) (o:=.cells ([(Value.int .i64 vars),u1,(Value.int .i64 ((bldD vars t).r))]:List Value).toArray 59 (0,0)) (σr:=[ζ2]) (List.perm_middle (l₁:=[]) (l₂:=[ζ2])) (fun Vf2 hVf2 hb2=>?_)
 have hc2:Cells Vf2 b1 [(Value.int .i64 vars),u1,ζ3]:=⟨_,_,hb2⟩
 have ht:=ht.mono hVf2
 have hc1:=hc1.mono hVf2
 refine vc_drop [] [(Arr 59 b2 [(Value.int .i64 vars),u1,ζ3])] (.refl _) ?_
 refine vc_ret ?_
 refine rs1 _ (rv_c (vs:=[(Value.int .i64 vars),u1,ζ3]) Try.agg59 rfl (inVc hc2) rfl rfl) ?_
 exact ⟨rfl,u1,rfl,hc1⟩
end Go.Proofs.Ytkmhjcjpohpiaaa.Bd
