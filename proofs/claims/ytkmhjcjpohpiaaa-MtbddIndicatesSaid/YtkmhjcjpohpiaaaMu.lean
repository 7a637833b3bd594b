import Derived.Test.YtkmhjcjpohpiaaaMt
import Derived.Test.YtkmhjcjpohpiaaaWn
/- Walks of mtbdd: what each function returns. Printed by a program out of notes. -/
namespace Go.Proofs.Ytkmhjcjpohpiaaa
open Go.Vc
open Classical
set_option maxRecDepth 100000
set_option maxHeartbeats 4000000
theorem CloneNil_c {V:HV} {cap:Nat} :
    FnC Try.prog 86 [(Value.slice none 0 cap)] V [] (fun v V' σ'=>σ' = [Gr 3 1 v 0 []]):=by
 refine fn_intro (N:=8) Try.func86 (by kernel_rfl) rfl rfl rfl (Nat.le_of_ble_eq_true rfl) ?_
 intro w0 D
 refine vc_seq ?_
 refine vc_region ?_
 refine oq (qv_as (Value.slice none 0 0) rfl) ?_
 refine ops_nil ?_
 refine vc_seq ?_
 refine vc_seq ?_
 refine vc_region ?_
 refine oq (qv_mv (Value.slice none 0 cap) rfl) ?_
 refine oq (qv_eqnil Try.underlying22 rfl rfl) ?_
 refine ops_nil ?_
 refine vc_tt rfl ?_
 refine vc_seq ?_
 refine vc_nil 3 1 ?_
 refine vc_region ?_
 refine oq (qv_as (Value.slice none 0 0) rfl) ?_
 refine ops_nil ?_
 refine vc_ret ?_
 refine rq1 (Value.slice none 0 0) rfl ?_
 exact rfl
theorem CloneSome_c {V:HV} {ad:Addr} {m c:Nat} {xs:List Int} (hl:xs.length=m) (hb:m≤1000000) (hn:∀ w,Vc.Sub V (hv w)→∀ (j:Nat) (u:Value),(xs.map (Value.int .i64))[j]? = some u→w.cell? (ad.add j)=some u) :
    FnC Try.prog 86 [(.slice (some ad) m c)] V [] (fun v V' σ'=>σ' = [Gr 3 1 v m (xs.map (Value.int .i64))]):=by
 refine fn_intro (N:=8) Try.func86 (by kernel_rfl) rfl rfl rfl (Nat.le_of_ble_eq_true rfl) ?_
 intro w0 D
 refine vc_seq ?_
 refine vc_region ?_
 refine oq (qv_as (Value.slice none 0 0) rfl) ?_
 refine ops_nil ?_
 refine vc_seq ?_
 refine vc_seq ?_
 refine vc_region ?_
 refine oq (qv_mv (.slice (some ad) m c) rfl) ?_
 refine oq (qv_eqnil Try.underlying22 rfl rfl) ?_
 refine ops_nil ?_
 refine vc_ff rfl ?_
 refine vc_skip ?_
 refine vc_seq ?_
 refine vc_region ?_
 refine ops_lit (n:=0) (s:=1) (cs:=[]) Try.underlying22 Try.ti3 (Nat.le_of_ble_eq_true rfl) rfl rfl rfl (Nat.le_of_ble_eq_true rfl) rfl (fun b1=>?_)
 refine oq (qv_mv (.slice (some ad) m c) rfl) ?_
 refine ops_to_gr (k:=0) (b:=b1) (n:=0) (cap:=0) (cs:=#[]) 1 [] rfl rfl (Nat.le_refl _) (Nat.zero_le _) rfl rfl ?_
 refine ops_append (k:=0) (n:=0) (s:=1) (m:=m) (v:=(.slice (some ⟨b1,0,none⟩) 0 0)) (xs:=[]) (news:=(xs.map (Value.int .i64))) Try.underlying22 Try.ti3 rfl (Nat.le_of_ble_eq_true rfl) rfl rfl rfl (by rw [List.length_map]; omega) (fun w hm=>hn w hm.view) (by simp [Value.oneCell']) (by omega) (by simp only [maxLen]; omega) (fun v1 hn1=>?_)
 refine oq (qv_as v1 rfl) ?_
 refine ops_nil ?_
 refine vc_ret ?_
 refine rq1 v1 rfl ?_
 show [_]=[_]; simp
theorem Clone_c {V:HV} {x:Value} {xs:List Int} (hs:Ints .i64 V x xs) (hb:xs.length≤1000000):FnC Try.prog 86 [x] V [] (fun v V' σ'=>σ' = [Gr 3 1 v xs.length (xs.map (Value.int .i64))]):=by
  have hs0:Sl V x (xs.map (Value.int .i64)):=hs
  rcases hs0.cases with ⟨cap,rfl,e⟩ | ⟨ad,cap,rfl,hn⟩
  have e:xs=[]:=by simpa using e
  subst e
  exact CloneNil_c
  have:=CloneSome_c (V:=V) (ad:=ad) (c:=cap) (xs:=xs) rfl hb hn
  rw [List.length_map]; exact this
/-- What the building of a part does. -/
def PartC (W:List Int) (k:Nat):Prop:=∀ (V:HV) (v:Int) (O:List Fk) (t:List Int) (lw tv u:Value),Ints .i64 V lw W→Ints .i64 V tv t→t.length=2 ^ k→0≤v→v+k≤1000→k≤12→O.length+2 ^ k≤4398046511104→W.length≤1000000 →
  FnC Try.prog 89 [u,lw,.int .i64 v,tv] V [Gr 80 3 u O.length (fks O)] (fun w _ σ'=>∃ u',w=.tuple #[u',.int .i64 (prt W.length k O v ((t).map (ix W))).2]∧σ' = [Gr 80 3 u' (prt W.length k O v ((t).map (ix W))).1.length (fks (prt W.length k O v ((t).map (ix W))).1)])
theorem part_step {V:HV} {W:List Int} {k0 k:Nat} {v:Int} {O:List Fk} {t:List Int} {lw tv u:Value} (IH:k0=k+1→PartC W k) (hW:Ints .i64 V lw W) (htv:Ints .i64 V tv t) (ht0:t.length=2 ^ k0) (hk1:k0=0 ∨ k0=k+1) (v0:0≤v) (v1:v+k0≤1000) (hk20:k0≤12) (hM:O.length+2 ^ k0≤4398046511104) (hWl:W.length≤1000000) :
    FnC Try.prog 89 [u,lw,(Value.int .i64 v),tv] V [(Gr 80 3 u O.length ((fks O)))] (fun w _ σ'=>∃ u',w=.tuple #[u',.int .i64 (prt W.length k0 O v ((t).map (ix W))).2]∧σ' = [Gr 80 3 u' (prt W.length k0 O v ((t).map (ix W))).1.length (fks (prt W.length k0 O v ((t).map (ix W))).1)]):=by
 refine fn_intro (N:=77) Try.func89 (by kernel_rfl) rfl rfl rfl (Nat.le_of_ble_eq_true rfl) ?_
 intro w0 D
 have hb:=htv.bound
 refine vc_seq ?_
 refine vc_res (σ':=[(Gr 80 3 u O.length ((fks O)))]) rfl ?_
 refine vc_region ?_
 refine oq (qv_as (Value.slice none 0 0) rfl) ?_
 refine oq (qv_as (Value.int .i64 0) rfl) ?_
 refine ops_nil ?_
 refine vc_seq ?_
 refine vc_seq ?_
 refine vc_region ?_
 refine oq (qv_mv tv rfl) ?_
 refine oq (qv_lenI Try.underlying22 rfl htv) ?_
 refine oq (qv_eql rfl rfl) ?_
 refine ops_nil ?_
 refine vc_if rfl (fun c1=>?_) (fun c1=>?_)
 refine vc_seq ?_
 have hk0:k0=0:=by
   rcases hk1 with e | e
   exact e
   have q:2 ^ (k+1)=2 ^ k+2 ^ k:=by rw [Nat.pow_succ]; omega
   have:=one_le_two_pow' k
   rw [e,q] at ht0; omega
 subst hk0
 have hq0:(2:Nat) ^ 0=1:=rfl
 have htz:t=[gi t 0]:=gi_dd (by omega)
 refine vc_region ?_
 refine oq (qv_mv u rfl) ?_
 refine oq (qv_mv lw rfl) ?_
 refine oq (qv_mv tv rfl) ?_
 refine oq (qv_iai (v:=tv) (i:=0) Try.underlying22 Try.size3 rfl (inVi htv) rfl (by omega) (by omega)) ?_
 refine oq (qv_ldi (v:=tv) (i:=0) Try.plain3 rfl (inVi htv) (by omega) (by omega)) ?_
 refine oq (qv_call (v:=(.int .i64 (ix W (gi t 0)))) (by have h:=IndexI_c (z:=gi t 0) hW; rw [ix_firstI] at h; exact h) rfl rfl) ?_
 refine oq (qv_as u rfl) ?_
 refine oq (qv_as (.int .i64 (ix W (gi t 0))) rfl) ?_
 refine ops_nil ?_
 refine vc_ret ?_
 refine rq2 u (.int .i64 (ix W (gi t 0))) rfl rfl ?_
 have e:t.map (ix W)=[ix W (gi t 0)]:=(congrArg (List.map (ix W)) htz).trans rfl
 rw [e,prt_0]
 exact ⟨u,rfl,rfl⟩
 refine vc_skip ?_
 refine vc_seq ?_
 have hk0:k0=k+1:=by
   rcases hk1 with e | e
   rw [e] at ht0; have q:(2:Nat) ^ 0=1:=rfl; omega
   exact e
 subst hk0
 have IH:=IH rfl
 have ht:t.length=2 ^ (k+1):=ht0
 have hpk:2 ^ (k+1)=2 ^ k+2 ^ k:=by rw [Nat.pow_succ]; omega
 have hpk1:=one_le_two_pow' k
 have hhalf:((t.length:Int) / 2).toNat=2 ^ k:=by omega
 have hl1:(t.take (2 ^ k)).length=2 ^ k:=by rw [List.length_take]; omega
 have hl2:(t.drop (2 ^ k)).length=2 ^ k:=by rw [List.length_drop]; omega
 refine vc_region ?_
 refine oq (qv_mv tv rfl) ?_
 refine oq (qv_lenI Try.underlying22 rfl htv) ?_
 refine oq (qv_quo rfl rfl (by omega) (by omega)) ?_
 refine oq (qv_as (.int .i64 (((t.length:Int)) / 2)) rfl) ?_
 refine ops_nil ?_
 refine vc_seq ?_
 obtain ⟨x,hx⟩:∃ x,x=(prt W.length k O (v+1) ((t.take (2 ^ k)).map (ix W))):=⟨_,rfl⟩
 obtain ⟨y,hy⟩:∃ y,y=(prt W.length k x.1 (v+1) ((t.drop (2 ^ k)).map (ix W))):=⟨_,rfl⟩
 have px:=prt_len (K:=W.length) k O (v+1) ((t.take (2 ^ k)).map (ix W))
 have py:=prt_len (K:=W.length) k x.1 (v+1) ((t.drop (2 ^ k)).map (ix W))
 rw [← hx] at px
 rw [← hy] at py
 refine vc_region ?_
 refine oq (qv_mv u rfl) ?_
 refine oq (qv_mv lw rfl) ?_
 refine oq (qv_mv (Value.int .i64 v) rfl) ?_
 refine oq (qv_add rfl rfl (by omega)) ?_
 refine oq (qv_mv tv rfl) ?_
 refine oq (qv_mv (.int .i64 (((t.length:Int)) / 2)) rfl) ?_
 refine oq (qv_sliceHi Try.underlying22 Try.size3 rfl htv rfl (by omega) (by rw [List.length_map]; omega)) ?_
 refine ops_call (σa:=[(Gr 80 3 u O.length ((fks O)))]) (σr:=[]) (by have h:=IH _ (v+1) O (t.take (2 ^ k)) lw (takeS tv (((t.length:Int)) / 2).toNat) u hW (by have q:=htv.take (n:=2 ^ k) (by omega); rw [hhalf]; exact q) (by omega) (by omega) (by omega) (by omega) (by omega) hWl; rw [← hx] at h; exact h) rfl rfl (.refl _) (fun r1 V1 sg1 hV1 hp1=>?_)
 obtain ⟨ux,rfl,rfl⟩:=hp1
 have htv:=htv.mono hV1
 have hW:=hW.mono hV1
 refine oq (qv_mv (.tuple #[ux,(.int .i64 x.2)]) rfl) ?_
 refine oq (qv_ext ux rfl rfl) ?_
 refine oq (qv_ext (.int .i64 x.2) rfl rfl) ?_
 refine oq (qv_as ux rfl) ?_
 refine oq (qv_as (.int .i64 x.2) rfl) ?_
 refine ops_nil ?_
 refine vc_seq ?_
 refine vc_res (σ':=[(Gr 80 3 ux x.1.length ((fks x.1)))]) rfl ?_
 refine vc_region ?_
 refine oq (qv_mv ux rfl) ?_
 refine oq (qv_mv lw rfl) ?_
 refine oq (qv_mv (Value.int .i64 v) rfl) ?_
 refine oq (qv_add rfl rfl (by omega)) ?_
 refine oq (qv_mv tv rfl) ?_
 refine oq (qv_mv (.int .i64 (((t.length:Int)) / 2)) rfl) ?_
 refine oq (qv_sliceLoS Try.underlying22 Try.size3 rfl htv rfl (by omega) (by rw [List.length_map]; omega)) ?_
 refine ops_call (σa:=[(Gr 80 3 ux x.1.length ((fks x.1)))]) (σr:=[]) (by have h:=IH _ (v+1) x.1 (t.drop (2 ^ k)) lw (dropS tv (((t.length:Int)) / 2).toNat) ux hW (by have q:=Ints.dropI htv (n:=2 ^ k) (by omega); rw [hhalf]; exact q) (by omega) (by omega) (by omega) (by omega) (by omega) hWl; rw [← hy] at h; exact h) rfl rfl (.refl _) (fun r2 V2 sg2 hV2 hp2=>?_)
 obtain ⟨uy,rfl,rfl⟩:=hp2
 have htv:=htv.mono hV2
 have hW:=hW.mono hV2
 refine oq (qv_mv (.tuple #[uy,(.int .i64 y.2)]) rfl) ?_
 refine oq (qv_ext uy rfl rfl) ?_
 refine oq (qv_ext (.int .i64 y.2) rfl rfl) ?_
 refine oq (qv_as uy rfl) ?_
 refine oq (qv_as (.int .i64 y.2) rfl) ?_
 refine ops_nil ?_
 refine vc_seq ?_
 refine vc_seq ?_
 refine vc_res (σ':=[(Gr 80 3 uy y.1.length ((fks y.1)))]) rfl ?_
 refine vc_region ?_
 refine oq (qv_mv (.int .i64 x.2) rfl) ?_
 refine oq (qv_mv (.int .i64 y.2) rfl) ?_
 refine oq (qv_eql rfl rfl) ?_
 refine ops_nil ?_
 refine vc_if rfl (fun c2=>?_) (fun c2=>?_)
 refine vc_seq ?_
 refine vc_region ?_
 refine oq (qv_mv uy rfl) ?_
 refine oq (qv_mv (.int .i64 x.2) rfl) ?_
 refine oq (qv_as uy rfl) ?_
 refine oq (qv_as (.int .i64 x.2) rfl) ?_
 refine ops_nil ?_
 refine vc_ret ?_
 refine rq2 uy (.int .i64 x.2) rfl rfl ?_
 rw [prt_half (by rw [List.length_map]; exact ht),map_take,map_drop,← hx,← hy]
 rw [ndK_e c2]
 exact ⟨_,rfl,rfl⟩
 refine vc_skip ?_
 refine vc_seq ?_
 refine vc_region ?_
 refine oq (qv_mv (Value.int .i64 v) rfl) ?_
 refine oq (qv_mv (.int .i64 x.2) rfl) ?_
 refine oq (qv_mv (.int .i64 y.2) rfl) ?_
 refine oq (qv_build (out:=[(Value.int .i64 v),(.int .i64 x.2),(.int .i64 y.2)]) Try.build80 [(0,[(Value.int .i64 v)]),(1,[(.int .i64 x.2)]),(2,[(.int .i64 y.2)])] rfl rfl) ?_
 refine ops_alloc Try.ti80 rfl (fun b1=>?_)
 refine ops_stw (k:=1) (vs:=[(Value.int .i64 v),(.int .i64 x.2),(.int .i64 y.2)]) Try.size80 rfl rfl rfl rfl rfl rfl ?_
 refine ops_nil ?_
 refine vc_seq ?_
 refine vc_seq ?_
 refine vc_res (σ':=[(Gr 80 3 uy y.1.length ((fks y.1))),(Arr 80 b1 [(Value.int .i64 v),(.int .i64 x.2),(.int .i64 y.2)])]) rfl ?_
 have hfb:=fxI_bd y.1 ⟨v,x.2,y.2⟩
 have hfb1:=hfb.1
 have hfb2:=hfb.2
 refine vc_region ?_
 refine oq (qv_mv uy rfl) ?_
 refine oq (qv_ldm (vs:=[(Value.int .i64 v),(.int .i64 x.2),(.int .i64 y.2)]) Try.agg80 rfl (inOc (k:=1) rfl) rfl rfl) ?_
 refine oq (qv_call_gs (v:=(.int .i64 (fxI y.1 ⟨v,x.2,y.2⟩))) (k:=0) rfl (fun Vo hVo hbo=>by have h:=IndexF_c (n:=⟨v,x.2,y.2⟩) (X:=y.1) hbo; rw [fx_firstI] at h; exact h) rfl rfl) ?_
 refine oq (qv_as (.int .i64 (fxI y.1 ⟨v,x.2,y.2⟩)) rfl) ?_
 refine ops_nil ?_
 refine vc_seq ?_
 refine vc_region ?_
 refine oq (qv_mv (.int .i64 (fxI y.1 ⟨v,x.2,y.2⟩)) rfl) ?_
 refine oq (qv_geq rfl rfl) ?_
 refine ops_nil ?_
 refine vc_if rfl (fun c3=>?_) (fun c3=>?_)
 refine vc_seq ?_
 refine vc_region ?_
 refine oq (qv_mv uy rfl) ?_
 refine oq (qv_mv lw rfl) ?_
 refine oq (qv_lenI Try.underlying22 rfl hW) ?_
 refine oq (qv_mv (.int .i64 (fxI y.1 ⟨v,x.2,y.2⟩)) rfl) ?_
 refine oq (qv_add rfl rfl (by omega)) ?_
 refine oq (qv_as uy rfl) ?_
 refine oq (qv_as (.int .i64 (((W.length:Int))+(fxI y.1 ⟨v,x.2,y.2⟩))) rfl) ?_
 refine ops_nil ?_
 refine vc_drop [(Gr 80 3 uy y.1.length ((fks y.1)))] [(Arr 80 b1 [(Value.int .i64 v),(Value.int .i64 (x.2)),(Value.int .i64 (y.2))])] ((List.perm_middle (l₁:=[(Gr 80 3 uy y.1.length ((fks y.1)))]) (l₂:=[])).trans (List.perm_append_comm (l₁:=[(Arr 80 b1 [(Value.int .i64 v),(Value.int .i64 (x.2)),(Value.int .i64 (y.2))])]))) ?_
 refine vc_ret ?_
 refine rq2 uy (.int .i64 (((W.length:Int))+(fxI y.1 ⟨v,x.2,y.2⟩))) rfl rfl ?_
 rw [prt_half (by rw [List.length_map]; exact ht),map_take,map_drop,← hx,← hy]
 rw [ndK_s c2 (by assumption)]
 exact ⟨_,rfl,rfl⟩
 refine vc_skip ?_
 refine vc_seq ?_
 refine vc_region ?_
 refine oq (qv_mv uy rfl) ?_
 refine oq (qv_ldm (vs:=[(Value.int .i64 v),(.int .i64 x.2),(.int .i64 y.2)]) Try.agg80 rfl (inOc (k:=1) rfl) rfl rfl) ?_
 refine ops_lit (n:=1) (s:=3) (cs:=[(Value.int .i64 v),(.int .i64 x.2),(.int .i64 y.2)]) Try.underlying23 Try.ti80 (Nat.le_of_ble_eq_true rfl) rfl rfl rfl (Nat.le_of_ble_eq_true rfl) rfl (fun b2=>?_)
 refine ops_grshape (k:=0) rfl (fun hsh=>?_)
 obtain ⟨sa,sc,hsh⟩:=hsh
 refine ops_append (k:=0) (n:=y.1.length) (s:=3) (m:=1) (v:=uy) (xs:=(fks y.1)) (news:=[(Value.int .i64 v),(.int .i64 x.2),(.int .i64 y.2)]) Try.underlying23 Try.ti80 rfl (Nat.le_of_ble_eq_true rfl) rfl rfl rfl rfl (news_own (j:=2) rfl) (by simp [Value.oneCell']) (by omega) (by simp only [maxLen]; omega) (fun v1 hn1=>?_)
 refine oq (qv_mv lw rfl) ?_
 refine oq (qv_lenI Try.underlying22 rfl hW) ?_
 refine oq (qv_mv uy rfl) ?_
 refine oq (qv_len Try.underlying23 rfl hsh) ?_
 refine oq (qv_add rfl rfl (by omega)) ?_
 refine oq (qv_as v1 rfl) ?_
 refine oq (qv_as (.int .i64 (((W.length:Int))+(((y.1.length:Nat):Int)))) rfl) ?_
 refine ops_nil ?_
 let ζ1:Asrt:=Gr 80 3 v1 ((y.1.length+1)) (((fks y.1)++[(Value.int .i64 v),(Value.int .i64 (x.2)),(Value.int .i64 (y.2))]))
 let ζ2:Asrt:=Arr 80 b1 [(Value.int .i64 v),(Value.int .i64 (x.2)),(Value.int .i64 (y.2))]
 refine vc_drop [ζ1,ζ2] [(Arr 80 b2 [(Value.int .i64 v),(Value.int .i64 (x.2)),(Value.int .i64 (y.2))])] ((List.perm_middle (l₁:=[ζ1,ζ2]) (l₂:=[])).trans (List.perm_append_comm (l₁:=[(Arr 80 b2 [(Value.int .i64 v),(Value.int .i64 (x.2)),(Value.int .i64 (y.2))])]))) ?_
 refine vc_drop [ζ1] [ζ2] ((List.perm_middle (l₁:=[ζ1]) (l₂:=[])).trans (List.perm_append_comm (l₁:=[ζ2]))) ?_
 refine vc_ret ?_
 refine rq2 v1 (.int .i64 (((W.length:Int))+(((y.1.length:Nat):Int)))) rfl rfl ?_
 subst ζ1 ζ2
 rw [prt_half (by rw [List.length_map]; exact ht),map_take,map_drop,← hx,← hy]
 rw [ndK_n c2 (by assumption)]
 refine ⟨_,rfl,?_⟩
 rw [fks_snoc,List.length_append]
 rfl
theorem part_c {W:List Int}:∀ k,PartC W k
  | 0=>fun V v O t lw tv u h0 h1 h2 h3 h4 h5 h6 h7=>part_step (k:=0) (fun q=>by omega) h0 h1 h2 (.inl rfl) h3 h4 h5 h6 h7
  | k+1=>fun V v O t lw tv u h0 h1 h2 h3 h4 h5 h6 h7=>part_step (k:=k) (fun _=>part_c k) h0 h1 h2 (.inr rfl) h3 h4 h5 h6 h7
theorem diagram_c {V:HV} {vars:Int} {t:List Int} {tv:Value} (ht:Ints .i64 V tv t) (h0:0≤vars) (h12:vars≤12) (hl:t.length=2 ^ vars.toNat) :
    FnC Try.prog 38 [(Value.int .i64 vars),tv] V [] (fun v V' σ'=>σ' = []∧∃ lv nv,v=.agg #[.int .i64 (dg vars t).v,lv,nv,.int .i64 (dg vars t).r]∧Mt V' lv nv (dg vars t)):=by
 refine fn_intro (N:=25) Try.func38 (by kernel_rfl) rfl rfl rfl (Nat.le_of_ble_eq_true rfl) ?_
 intro w0 D
 have hpw:=Clone_len (n:=vars.toNat) (by omega)
 have hvl:=vls_len t
 refine vc_seq ?_
 refine vc_region ?_
 refine ops_alloc Try.ti25 rfl (fun b1=>?_)
 refine ops_nil ?_
 refine vc_seq ?_
 let ζ1:Asrt:=Arr 25 b1 [(Value.int .i64 0),(Value.slice none 0 0),(Value.slice none 0 0),(Value.int .i64 0)]
 refine vc_res (σ':=[ζ1]) rfl ?_
 refine vc_region ?_
 refine oq (qv_mv tv rfl) ?_
 refine ops_call (σa:=[]) (σr:=[ζ1]) (Clone_c ht (by omega)) rfl rfl (.refl _) (fun r1 V1 sg1 hV1 hp1=>?_)
 obtain rfl:=hp1
 have ht:=ht.mono hV1
 refine oq (qv_as r1 rfl) ?_
 refine ops_nil ?_
 refine vc_seq ?_
 refine vc_res (σ':=[(Gr 3 1 r1 t.length ((t.map (Value.int .i64)))),ζ1]) rfl ?_
 refine vc_region ?_
 refine oq (qv_mv r1 rfl) ?_
 refine ops_call (σa:=[(Gr 3 1 r1 t.length ((t.map (Value.int .i64))))]) (σr:=[ζ1]) (Sort_c (zs:=t) (by omega)) rfl rfl (.refl _) (fun r2 V2 sg2 hV2 hp2=>?_)
 obtain ⟨rfl,hVV,rfl⟩:=hp2
 have ht:=ht.mono hV2
 refine ops_nil ?_
 refine vc_seq ?_
 refine vc_res (σ':=[(Gr 3 1 r1 t.length (((srt t).map (Value.int .i64)))),ζ1]) rfl ?_
 refine vc_region ?_
 refine oq (qv_mv (Value.int .i64 vars) rfl) ?_
 refine oq (qv_mv r1 rfl) ?_
 subst ζ1
 refine ops_call (σa:=[(Gr 3 1 r1 t.length (((srt t).map (Value.int .i64))))]) (σr:=[(Arr 25 b1 [(Value.int .i64 0),(Value.slice none 0 0),(Value.slice none 0 0),(Value.int .i64 0)])]) (by have h:=Compact_c (V:=V2) (v:=r1) (zs:=srt t) (by rw [List.length_mergeSort]; omega); rw [List.length_mergeSort,cs_vls] at h; exact h) rfl rfl (.refl _) (fun r3 V3 sg3 hV3 hp3=>?_)
 have hVV2:=(hp3).1
 obtain rfl:=(hp3).2
 obtain ⟨lvw,hlvw⟩:∃ x,x=r3:=⟨_,rfl⟩
 subst hlvw
 have ht:=ht.mono hV3
 refine ops_grshape (k:=0) rfl (fun hsh=>?_)
 have hlc:lvw.cells=[lvw].toArray:=by obtain ⟨a,c,hq⟩:=hsh; rw [hq]; rfl
 refine oq (qv_build (out:=[(Value.int .i64 vars),lvw,(Value.slice none 0 0),(Value.int .i64 0)]) Try.build25 [(0,[(Value.int .i64 vars)]),(1,[lvw])] (by show [(0,Value.cells (Value.int .i64 vars)),(1,Value.cells lvw)]=_; rw [hlc]; try rfl) rfl) ?_
 refine ops_alloc Try.ti25 rfl (fun b2=>?_)
 refine ops_gr1 (k:=0) rfl (fun ho1=>?_)
 refine ops_stw (k:=2) (vs:=[(Value.int .i64 vars),lvw,(Value.slice none 0 0),(Value.int .i64 0)]) Try.size25 rfl rfl rfl (allc rfl (allc ho1 (allc rfl (allc rfl rfl)))) rfl rfl ?_
 refine ops_nil ?_
 refine vc_seq ?_
 let ζ1:Asrt:=Arr 25 b1 [(Value.int .i64 0),(Value.slice none 0 0),(Value.slice none 0 0),(Value.int .i64 0)]
 let ζ2:Asrt:=Arr 25 b2 [(Value.int .i64 vars),lvw,(Value.slice none 0 0),(Value.int .i64 0)]
 refine vc_res (σ':=[(Gr 3 1 lvw ((vls t).length) (((vls t).map (Value.int .i64)))),ζ1,ζ2]) rfl ?_
 refine vc_freezeG (v:=lvw) (E:=3) (n:=(vls t).length) (xs:=((vls t).map (Value.int .i64))) (σr:=[ζ1,ζ2]) (List.perm_middle (l₁:=[]) (l₂:=[ζ1,ζ2])) (fun Vf1 hVf1 hc1=>?_)
 have ht:=ht.mono hVf1
 refine vc_nil 80 3 ?_
 refine vc_region ?_
 have hWW:Ints .i64 Vf1 lvw (vls t):=hc1
 refine oq (qv_fa (off:=0) Try.field25_1 rfl) ?_
 refine oq (qv_ldp (v:=lvw) Try.plain22 rfl (inOc (k:=1) rfl) rfl) ?_
 refine oq (qv_mv tv rfl) ?_
 refine ops_call (σa:=[(Gr 80 3 ((Value.slice none 0 0)) 0 ([]))]) (σr:=[ζ1,ζ2]) (by have h:=part_c (W:=vls t) vars.toNat _ 0 [] t lvw tv (Value.slice none 0 0) hWW ht hl (by omega) (by omega) (by omega) (by show 0+_≤_; omega) (by omega); exact h) rfl rfl (perm_idx _ _ [2,0,1] rfl rfl) (fun r4 V4 sg4 hV4 hp4=>?_)
 obtain ⟨u1,rfl,rfl⟩:=hp4
 have ht:=ht.mono hV4
 have hc1:=hc1.mono hV4
 have hWW:=hWW.mono hV4
 refine ops_perm (σ':=[ζ1,ζ2,(Gr 80 3 u1 ((dg vars t).N.length) ((fks (dg vars t).N)))]) (perm_idx _ _ [1,2,0] rfl rfl) ?_
 refine oq (qv_mv (.tuple #[u1,(.int .i64 ((dg vars t).r))]) rfl) ?_
 refine oq (qv_ext u1 rfl rfl) ?_
 refine oq (qv_ext (.int .i64 ((dg vars t).r)) rfl rfl) ?_
 refine oq (qv_fa (off:=0) Try.field25_2 rfl) ?_
 refine ops_gr1 (k:=2) rfl (fun ho2=>?_)
 refine ops_stp (k:=1) (off:=2) (cs:=[(Value.int .i64 vars),lvw,(Value.slice none 0 0),(Value.int .i64 0)]) Try.size23 rfl (rfl:ev _ _=u1) ho2 rfl (Nat.le_of_ble_eq_true rfl) ?_
 refine oq (qv_fa (off:=0) Try.field25_3 rfl) ?_
 refine ops_stp (k:=1) (off:=3) (cs:=[(Value.int .i64 vars),lvw,u1,(Value.int .i64 0)]) Try.size3 rfl (rfl:ev _ _=(.int .i64 ((dg vars t).r))) rfl rfl (Nat.le_of_ble_eq_true rfl) ?_
 refine ops_nil ?_
 refine vc_seq ?_
 let ζ4:Asrt:=Arr 25 b2 [(Value.int .i64 vars),lvw,u1,(.int .i64 ((dg vars t).r))]
 refine vc_res (σ':=[ζ1,ζ4,(Gr 80 3 u1 ((dg vars t).N.length) ((fks (dg vars t).N)))]) rfl ?_
 refine vc_region ?_
 refine oq (qv_ldm (vs:=[(Value.int .i64 vars),lvw,u1,(.int .i64 ((dg vars t).r))]) Try.agg25 rfl (inOc (k:=1) rfl) rfl rfl) ?_
 refine ops_gr1 (k:=2) rfl (fun ho3=>?_)
 refine ops_stw (k:=0) (vs:=[(Value.int .i64 vars),lvw,u1,(.int .i64 ((dg vars t).r))]) Try.size25 rfl rfl rfl (allc rfl (allc (Sl.one hWW) (allc ho3 (allc rfl rfl)))) rfl rfl ?_
 refine ops_nil ?_
 let ζ3:Asrt:=Arr 25 b2 [(Value.int .i64 vars),lvw,u1,(Value.int .i64 ((dg vars t).r))]
 refine vc_freezeS (v:=u1) (E:=80) (n:=(dg vars t).N.length) (xs:=(fks (dg vars t).N)) (σr:=[(Arr 25 b1 [(Value.int .i64 vars),lvw,u1,(Value.int .i64 ((dg vars t).r))]),ζ3]) (List.perm_middle (l₁:=[(Arr 25 b1 [(Value.int .i64 vars),lvw,u1,(Value.int .i64 ((dg vars t).r))]),ζ3]) (l₂:=[])) (fun Vf2 hVf2 hc2=>?_)
 have ht:=ht.mono hVf2
 have hc1:=hc1.mono hVf2
 have hWW:=hWW.mono hVf2
 refine vc_freeze (b:=b1) (o:=.cells ([(Value.int .i64 vars),lvw,u1,(Value.int .i64 ((dg vars t).r))]:List Value).toArray 25 (0,0)) (σr:=[ζ3]) (List.perm_middle (l₁:=[]) (l₂:=[ζ3])) (fun Vf3 hVf3 hb3=>?_)
 have hc3:Cells Vf3 b1 [(Value.int .i64 vars),lvw,u1,(.int .i64 ((dg vars t).r))]:=⟨_,_,hb3⟩
 have ht:=ht.mono hVf3
 have hc1:=hc1.mono hVf3
 have hWW:=hWW.mono hVf3
 have hc2:=hc2.mono hVf3
 refine vc_drop [] [ζ4] (.refl _) ?_
 refine vc_ret ?_
 refine rs1 _ (rv_c (vs:=[(Value.int .i64 vars),lvw,u1,(.int .i64 ((dg vars t).r))]) Try.agg25 rfl (inVc hc3) rfl rfl) ?_
 exact ⟨rfl,lvw,u1,rfl,hWW,hc2⟩
theorem is_c {V:HV} {la na:Value} {A:Mg} (hA:Mt V la na A) {lb nb:Value} {B:Mg} (hB:Mt V lb nb B) {ee cc:Int} :
    FnC Try.prog 35 [(.agg #[(.int .i64 A.v),la,na,(.int .i64 A.r)]),(Value.int .i64 ee),(.agg #[(.int .i64 B.v),lb,nb,(.int .i64 B.r)]),(Value.int .i64 cc)] V [] (fun v _ _=>v=(.bool (decide (ee=cc∧A=B)))):=by
 refine fn_intro (N:=17) Try.func35 (by kernel_rfl) rfl rfl rfl (Nat.le_of_ble_eq_true rfl) ?_
 intro w0 D
 refine vc_seq ?_
 refine vc_region ?_
 refine ops_box (v:=(.agg #[(.int .i64 A.v),la,na,(.int .i64 A.r)])) (cs:=[(.int .i64 A.v),la,na,(.int .i64 A.r)]) rfl rfl (fun b1=>?_)
 refine ops_box (v:=(.agg #[(.int .i64 B.v),lb,nb,(.int .i64 B.r)])) (cs:=[(.int .i64 B.v),lb,nb,(.int .i64 B.r)]) rfl rfl (fun b2=>?_)
 refine oq (qv_as (Value.bool false) rfl) ?_
 refine ops_nil ?_
 refine vc_seq ?_
 refine vc_res (σ':=[(Arr 25 b1 [(.int .i64 A.v),la,na,(.int .i64 A.r)]),(Arr 25 b2 [(.int .i64 B.v),lb,nb,(.int .i64 B.r)])]) rfl ?_
 refine vc_region ?_
 refine oq (qv_mv (Value.int .i64 ee) rfl) ?_
 refine oq (qv_mv (Value.int .i64 cc) rfl) ?_
 refine oq (qv_eql rfl rfl) ?_
 refine oq (qv_mv (.bool (decide (ee=cc))) rfl) ?_
 by_cases g1:ee=cc
 refine og (qv_ldm (vs:=[(.int .i64 A.v),la,na,(.int .i64 A.r)]) Try.agg25 rfl (inOc (k:=0) rfl) rfl rfl) (want_t g1 rfl rfl rfl) ?_
 refine og (qv_ldm (vs:=[(.int .i64 B.v),lb,nb,(.int .i64 B.r)]) Try.agg25 rfl (inOc (k:=1) rfl) rfl rfl) (want_t g1 rfl rfl rfl) ?_
 refine og (qv_call (v:=(.bool (decide (A=B)))) (same_c hA hB) rfl rfl) (want_t g1 rfl rfl rfl) ?_
 refine oq (qv_pick_t g1 rfl (rfl:ev _ _=(.bool (decide (A=B))))) ?_
 refine oq (qv_as (.bool (decide (A=B))) rfl) ?_
 refine ops_nil ?_
 refine vc_ret ?_
 exact rq1 (.bool (decide (ee=cc∧A=B))) (congrArg Value.bool (decide_eq_decide.2 (show (A=B) ↔ (ee=cc∧A=B) from by exact ⟨fun q=>⟨by assumption,q⟩,fun q=>q.2⟩))) rfl
 refine os (want_tn g1 rfl rfl rfl) ?_
 refine os (want_tn g1 rfl rfl rfl) ?_
 refine os (want_tn g1 rfl rfl rfl) ?_
 refine oq (qv_pick_f g1 rfl (rfl:ev _ _=(Value.bool false))) ?_
 refine oq (qv_as (Value.bool false) rfl) ?_
 refine ops_nil ?_
 refine vc_ret ?_
 exact rq1 (.bool (decide (ee=cc∧A=B))) (congrArg Value.bool (decide_eq_false (show ¬ (ee=cc∧A=B) from by exact fun q=>absurd q.1 (by assumption))).symm) rfl
end Go.Proofs.Ytkmhjcjpohpiaaa
