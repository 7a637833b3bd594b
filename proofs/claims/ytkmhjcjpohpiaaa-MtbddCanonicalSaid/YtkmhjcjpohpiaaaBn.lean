import Derived.Test.YtkmhjcjpohpiaaaBd
/- Walks of bdd: what each function returns. Printed by a program out of notes. -/
namespace Go.Proofs.Ytkmhjcjpohpiaaa.Bd
open Go.Vc
open Classical
/-- What the count does, for references below k. -/
def CntC (vars:Int) (N:List Fk) (nv:Value) (root:Int) (pd pn pr bm:Nat) (k:Nat):Prop:=∀ (V:HV) (r:Int) (Dn:Int→Option Int),Fks V nv N→Cells V pd [.map (some bm)]→Cells V pn [.int .i64 vars,nv,.int .i64 root]→Cells V pr [.func (.func 76) #[] #[pt pd,pt pn,pt pr]]→Rf N r→r < k→CnI vars N Dn →
  FnC Try.prog 76 [.int .i64 r,pt pd,pt pn,pt pr] V [Mf bm (Value.int .i64) (Value.int .i64) Dn] (fun v _ σ'=>v=.int .i64 (ct vars N r)∧∃ Dn',σ' = [Mf bm (Value.int .i64) (Value.int .i64) Dn']∧CnI vars N Dn')
set_option maxRecDepth 100000
set_option maxHeartbeats 4000000
theorem cnt_step {vars:Int} {N:List Fk} {nv:Value} {root:Int} {pd pn pr bm k:Nat} {V:HV} (hF:Fm vars N) (h40:vars≤40) (IH:CntC vars N nv root pd pn pr bm k) {r:Int} {Dn:Int→Option Int} (hN:Fks V nv N) (hpd:Cells V pd [.map (some bm)]) (hpn:Cells V pn [.int .i64 vars,nv,.int .i64 root]) (hpr:Cells V pr [.func (.func 76) #[] #[pt pd,pt pn,pt pr]]) (hr:Rf N r) (hk:r < (k+1:Nat)) (hI:CnI vars N Dn) :
    FnC Try.prog 76 [(Value.int .i64 r),(Value.pointer (some ⟨pd,0,none⟩)),(Value.pointer (some ⟨pn,0,none⟩)),(Value.pointer (some ⟨pr,0,none⟩))] V [(Mf bm (Value.int .i64) (Value.int .i64) Dn)] (fun v _ σ'=>v=.int .i64 (ct vars N r)∧∃ Dn',σ' = [Mf bm (Value.int .i64) (Value.int .i64) Dn']∧CnI vars N Dn'):=by
 refine fn_intro (N:=55) Try.func76 (by kernel_rfl) rfl rfl rfl (Nat.le_of_ble_eq_true rfl) ?_
 intro w0 D
 have hb:=SlS.bound hN
 refine vc_seq ?_
 refine vc_res (σ':=[(Mf bm (Value.int .i64) (Value.int .i64) Dn)]) rfl ?_
 refine vc_region ?_
 refine oq (qv_as (Value.int .i64 0) rfl) ?_
 refine ops_nil ?_
 refine vc_seq ?_
 refine vc_seq ?_
 refine vc_region ?_
 refine oq (qv_ldp (v:=(Value.map (some bm))) Try.plain110 rfl (inVc hpd) rfl) ?_
 refine oq (qv_mv (Value.int .i64 r) rfl) ?_
 refine oq (qv_look (a0:=0) (key:=r) (k:=0) Try.underlying110 (KeyT.int Try.underlying3) Try.ti3 rfl rfl rfl) ?_
 refine oq (qv_mv (.tuple #[(.int .i64 ((Dn r).getD 0)),(.bool (decide ((Dn r).isSome=true)))]) rfl) ?_
 refine oq (qv_ext (.int .i64 ((Dn r).getD 0)) rfl rfl) ?_
 refine oq (qv_ext (.bool (decide ((Dn r).isSome=true))) rfl rfl) ?_
 refine oq (qv_as (.int .i64 ((Dn r).getD 0)) rfl) ?_
 refine oq (qv_as (.bool (decide ((Dn r).isSome=true))) rfl) ?_
 refine ops_nil ?_
 refine vc_seq ?_
 refine vc_region ?_
 refine oq (qv_mv (.bool (decide ((Dn r).isSome=true))) rfl) ?_
 refine ops_nil ?_
 refine vc_if rfl (fun c1=>?_) (fun c1=>?_)
 refine vc_seq ?_
 refine vc_region ?_
 refine oq (qv_mv (.int .i64 ((Dn r).getD 0)) rfl) ?_
 refine oq (qv_as (.int .i64 ((Dn r).getD 0)) rfl) ?_
 refine ops_nil ?_
 refine vc_ret ?_
 refine rq1 (.int .i64 ((Dn r).getD 0)) rfl ?_
 obtain ⟨p,hp⟩:=Option.isSome_iff_exists.1 c1
 exact ⟨by rw [hp,hI.dn r p hp]; rfl,Dn,rfl,hI⟩
 refine vc_skip ?_
 refine vc_seq ?_
 have hnone:Dn r=none:=by cases hq:Dn r with | none=>rfl | some p=>exact absurd (by rw [hq]; rfl) c1
 have h2:=hI.ge2 hr hnone
 have h3:=hr.2
 have hlo:=hF.lo r h2 hr.2
 have hhi:=hF.hi r h2 hr.2
 have hvr:=hF.vr r h2 hr.2
 have hcl:=ct_part hF (c:=(nd N r).l) ⟨hlo.1,by omega⟩ hlo.2.2 hvr.1 h40
 have hch:=ct_part hF (c:=(nd N r).h) ⟨hhi.1,by omega⟩ hhi.2.2 hvr.1 h40
 have hll:=hF.lev_le (r:=(nd N r).l) ⟨hlo.1,by omega⟩
 have hlh:=hF.lev_le (r:=(nd N r).h) ⟨hhi.1,by omega⟩
 have hst:=ct_step hF h2 hr.2
 rw [nd_fk] at hlo hhi hvr hcl hch hll hlh hst
 refine vc_region ?_
 refine oq (qv_fa (off:=0) Try.field59_1 rfl) ?_
 refine oq (qv_ldp (v:=nv) Try.plain23 rfl (inVc hpn) rfl) ?_
 refine oq (qv_mv (Value.int .i64 r) rfl) ?_
 refine oq (qv_sub rfl rfl (by omega)) ?_
 refine oq (qv_ias (v:=nv) (i:=r - 2) Try.underlying23 Try.size80 rfl hN rfl (by omega) (by omega)) ?_
 refine oq (qv_lds (v:=nv) (i:=r - 2) (vs:=[(.int .i64 ((fk N (r - 2)).v)),(.int .i64 ((fk N (r - 2)).l)),(.int .i64 ((fk N (r - 2)).h))]) Try.agg80 rfl hN (by omega) (by omega) (fks_at (N:=N) (by omega) (by omega))) ?_
 refine ops_alloc Try.ti80 rfl (fun b1=>?_)
 refine ops_stw (k:=1) (vs:=[(.int .i64 ((fk N (r - 2)).v)),(.int .i64 ((fk N (r - 2)).l)),(.int .i64 ((fk N (r - 2)).h))]) Try.size80 rfl rfl rfl rfl rfl rfl ?_
 refine ops_nil ?_
 refine vc_seq ?_
 refine vc_res (σ':=[(Mf bm (Value.int .i64) (Value.int .i64) Dn),(Arr 80 b1 [(.int .i64 ((fk N (r - 2)).v)),(.int .i64 ((fk N (r - 2)).l)),(.int .i64 ((fk N (r - 2)).h))])]) rfl ?_
 refine vc_region_order (τ:=[(Mf bm (Value.int .i64) (Value.int .i64) Dn)]) [(0,false),(1,false),(2,false),(4,false),(5,false),(6,false),(8,false),(9,false),(13,false),(14,false),(15,false),(17,false),(18,false),(19,false),(21,false),(22,false),(3,true),(7,false),(10,false),(11,false),(12,false),(16,true),(20,false),(23,false),(24,false),(25,false),(26,false),(27,false)] [(Arr 80 b1 [(.int .i64 ((fk N (r - 2)).v)),(.int .i64 ((fk N (r - 2)).l)),(.int .i64 ((fk N (r - 2)).h))])] Try.mixed (perm_idx _ _ [1,0] rfl rfl) (by kernel_rfl) ?_
 refine rq rfl (qv_ldp (v:=(Value.func (.func 76) #[] #[(Value.pointer (some ⟨pd,0,none⟩)),(Value.pointer (some ⟨pn,0,none⟩)),(Value.pointer (some ⟨pr,0,none⟩))])) Try.plain94 rfl (inVc hpr) rfl) ?_
 refine rq rfl (qv_fa (off:=0) Try.field80_1 rfl) ?_
 refine rq rfl (qv_ldp (v:=(.int .i64 ((fk N (r - 2)).l))) Try.plain3 rfl (inOc (k:=0) rfl) rfl) ?_
 refine rq rfl (qv_ldm (vs:=[(Value.int .i64 vars),nv,(Value.int .i64 root)]) Try.agg59 rfl (inVc hpn) rfl rfl) ?_
 refine rq rfl (qv_fa (off:=0) Try.field80_1 rfl) ?_
 refine rq rfl (qv_ldp (v:=(.int .i64 ((fk N (r - 2)).l))) Try.plain3 rfl (inOc (k:=0) rfl) rfl) ?_
 refine rq rfl (qv_fa (off:=0) Try.field80_0 rfl) ?_
 refine rq rfl (qv_ldp (v:=(.int .i64 ((fk N (r - 2)).v))) Try.plain3 rfl (inOc (k:=0) rfl) rfl) ?_
 refine rq rfl (qv_ldp (v:=(Value.func (.func 76) #[] #[(Value.pointer (some ⟨pd,0,none⟩)),(Value.pointer (some ⟨pn,0,none⟩)),(Value.pointer (some ⟨pr,0,none⟩))])) Try.plain94 rfl (inVc hpr) rfl) ?_
 refine rq rfl (qv_fa (off:=0) Try.field80_2 rfl) ?_
 refine rq rfl (qv_ldp (v:=(.int .i64 ((fk N (r - 2)).h))) Try.plain3 rfl (inOc (k:=0) rfl) rfl) ?_
 refine rq rfl (qv_ldm (vs:=[(Value.int .i64 vars),nv,(Value.int .i64 root)]) Try.agg59 rfl (inVc hpn) rfl rfl) ?_
 refine rq rfl (qv_fa (off:=0) Try.field80_2 rfl) ?_
 refine rq rfl (qv_ldp (v:=(.int .i64 ((fk N (r - 2)).h))) Try.plain3 rfl (inOc (k:=0) rfl) rfl) ?_
 refine rq rfl (qv_fa (off:=0) Try.field80_0 rfl) ?_
 refine rq rfl (qv_ldp (v:=(.int .i64 ((fk N (r - 2)).v))) Try.plain3 rfl (inOc (k:=0) rfl) rfl) ?_
 refine rl rfl ?_
 refine ops_call (σa:=[(Mf bm (Value.int .i64) (Value.int .i64) Dn)]) (σr:=[(Arr 80 b1 [(.int .i64 ((fk N (r - 2)).v)),(.int .i64 ((fk N (r - 2)).l)),(.int .i64 ((fk N (r - 2)).h))])]) (IH _ (fk N (r - 2)).l Dn hN hpd hpn hpr ⟨by omega,by omega⟩ (by omega) hI) rfl rfl (.refl _) (fun r1 V1 sg1 hV1 hp1=>?_)
 obtain ⟨rfl,D1,rfl,ID1⟩:=hp1
 have hN:=hN.mono hV1
 have hpd:=hpd.mono hV1
 have hpn:=hpn.mono hV1
 have hpr:=hpr.mono hV1
 refine ops_nil ⟨[(Arr 80 b1 [(.int .i64 ((fk N (r - 2)).v)),(.int .i64 ((fk N (r - 2)).l)),(.int .i64 ((fk N (r - 2)).h))])],[(Mf bm (Value.int .i64) (Value.int .i64) D1)],hV1,(perm_idx _ _ [1,0] rfl rfl),⟨[],.refl _⟩,?_⟩
 refine rq rfl (qv_call (v:=(.int .i64 (lev vars N ((fk N (r - 2)).l)))) (level_c hN (r:=(fk N (r - 2)).l) (by omega) (by omega)) rfl rfl) ?_
 refine rq rfl (qv_sub rfl rfl (by omega)) ?_
 refine rq rfl (qv_sub rfl rfl (by omega)) ?_
 refine rq rfl (qv_shli rfl rfl (by omega) (by omega) (by omega)) ?_
 refine rl rfl ?_
 refine ops_call (σa:=[(Mf bm (Value.int .i64) (Value.int .i64) D1)]) (σr:=[(Arr 80 b1 [(.int .i64 ((fk N (r - 2)).v)),(.int .i64 ((fk N (r - 2)).l)),(.int .i64 ((fk N (r - 2)).h))])]) (IH _ (fk N (r - 2)).h D1 hN hpd hpn hpr ⟨by omega,by omega⟩ (by omega) ID1) rfl rfl (.refl _) (fun r2 V2 sg2 hV2 hp2=>?_)
 obtain ⟨rfl,D2,rfl,ID2⟩:=hp2
 have hN:=hN.mono hV2
 have hpd:=hpd.mono hV2
 have hpn:=hpn.mono hV2
 have hpr:=hpr.mono hV2
 refine ops_nil ⟨[(Arr 80 b1 [(.int .i64 ((fk N (r - 2)).v)),(.int .i64 ((fk N (r - 2)).l)),(.int .i64 ((fk N (r - 2)).h))])],[(Mf bm (Value.int .i64) (Value.int .i64) D2)],hV2,(perm_idx _ _ [1,0] rfl rfl),⟨[],.refl _⟩,?_⟩
 refine rq rfl (qv_call (v:=(.int .i64 (lev vars N ((fk N (r - 2)).h)))) (level_c hN (r:=(fk N (r - 2)).h) (by omega) (by omega)) rfl rfl) ?_
 refine rq rfl (qv_sub rfl rfl (by omega)) ?_
 refine rq rfl (qv_sub rfl rfl (by omega)) ?_
 refine rq rfl (qv_shli rfl rfl (by omega) (by omega) (by omega)) ?_
 refine rq rfl (qv_add rfl rfl (by omega)) ?_
 refine rq rfl (qv_as (.int .i64 (((ct vars N (fk N (r - 2)).l) * 2 ^ (((lev vars N ((fk N (r - 2)).l)) - ((fk N (r - 2)).v)) - 1:Int).toNat)+((ct vars N (fk N (r - 2)).h) * 2 ^ (((lev vars N ((fk N (r - 2)).h)) - ((fk N (r - 2)).v)) - 1:Int).toNat))) rfl) ?_
 refine rnil ?_
 refine vc_seq ?_
 refine vc_res (σ':=[(Mf bm (Value.int .i64) (Value.int .i64) D2),(Arr 80 b1 [(.int .i64 ((fk N (r - 2)).v)),(.int .i64 ((fk N (r - 2)).l)),(.int .i64 ((fk N (r - 2)).h))])]) rfl ?_
 refine vc_region ?_
 refine oq (qv_ldp (v:=(Value.map (some bm))) Try.plain110 rfl (inVc hpd) rfl) ?_
 refine oq (qv_mv (Value.int .i64 r) rfl) ?_
 refine oq (qv_mv (.int .i64 (((ct vars N (fk N (r - 2)).l) * 2 ^ (((lev vars N ((fk N (r - 2)).l)) - ((fk N (r - 2)).v)) - 1:Int).toNat)+((ct vars N (fk N (r - 2)).h) * 2 ^ (((lev vars N ((fk N (r - 2)).h)) - ((fk N (r - 2)).v)) - 1:Int).toNat))) rfl) ?_
 refine ops_mapset (k:=0) (key:=r) (v:=((ct vars N (fk N (r - 2)).l) * 2 ^ (((lev vars N ((fk N (r - 2)).l)) - ((fk N (r - 2)).v)) - 1:Int).toNat)+((ct vars N (fk N (r - 2)).h) * 2 ^ (((lev vars N ((fk N (r - 2)).h)) - ((fk N (r - 2)).v)) - 1:Int).toNat)) Try.underlying110 (KeyT.int Try.underlying3) rfl rfl rfl rfl ?_
 refine ops_nil ?_
 refine vc_seq ?_
 refine vc_res (σ':=[(Mf bm (Value.int .i64) (Value.int .i64) (setF D2 r (((ct vars N (fk N (r - 2)).l) * 2 ^ (((lev vars N ((fk N (r - 2)).l)) - ((fk N (r - 2)).v)) - 1:Int).toNat)+((ct vars N (fk N (r - 2)).h) * 2 ^ (((lev vars N ((fk N (r - 2)).h)) - ((fk N (r - 2)).v)) - 1:Int).toNat)))),(Arr 80 b1 [(.int .i64 ((fk N (r - 2)).v)),(.int .i64 ((fk N (r - 2)).l)),(.int .i64 ((fk N (r - 2)).h))])]) rfl ?_
 refine vc_region ?_
 refine oq (qv_mv (.int .i64 (((ct vars N (fk N (r - 2)).l) * 2 ^ (((lev vars N ((fk N (r - 2)).l)) - ((fk N (r - 2)).v)) - 1:Int).toNat)+((ct vars N (fk N (r - 2)).h) * 2 ^ (((lev vars N ((fk N (r - 2)).h)) - ((fk N (r - 2)).v)) - 1:Int).toNat))) rfl) ?_
 refine oq (qv_as (.int .i64 (((ct vars N (fk N (r - 2)).l) * 2 ^ (((lev vars N ((fk N (r - 2)).l)) - ((fk N (r - 2)).v)) - 1:Int).toNat)+((ct vars N (fk N (r - 2)).h) * 2 ^ (((lev vars N ((fk N (r - 2)).h)) - ((fk N (r - 2)).v)) - 1:Int).toNat))) rfl) ?_
 refine ops_nil ?_
 refine vc_drop [(Mf bm (Value.int .i64) (Value.int .i64) (setF D2 r (((ct vars N (fk N (r - 2)).l) * 2 ^ (((lev vars N ((fk N (r - 2)).l)) - ((fk N (r - 2)).v)) - 1:Int).toNat)+((ct vars N (fk N (r - 2)).h) * 2 ^ (((lev vars N ((fk N (r - 2)).h)) - ((fk N (r - 2)).v)) - 1:Int).toNat))))] [(Arr 80 b1 [(Value.int .i64 ((fk N (r - 2)).v)),(Value.int .i64 ((fk N (r - 2)).l)),(Value.int .i64 ((fk N (r - 2)).h))])] ((List.perm_middle (l₁:=[(Mf bm (Value.int .i64) (Value.int .i64) (setF D2 r (((ct vars N (fk N (r - 2)).l) * 2 ^ (((lev vars N ((fk N (r - 2)).l)) - ((fk N (r - 2)).v)) - 1:Int).toNat)+((ct vars N (fk N (r - 2)).h) * 2 ^ (((lev vars N ((fk N (r - 2)).h)) - ((fk N (r - 2)).v)) - 1:Int).toNat))))]) (l₂:=[])).trans (List.perm_append_comm (l₁:=[(Arr 80 b1 [(Value.int .i64 ((fk N (r - 2)).v)),(Value.int .i64 ((fk N (r - 2)).l)),(Value.int .i64 ((fk N (r - 2)).h))])]))) ?_
 refine vc_ret ?_
 refine rq1 (.int .i64 (((ct vars N (fk N (r - 2)).l) * 2 ^ (((lev vars N ((fk N (r - 2)).l)) - ((fk N (r - 2)).v)) - 1:Int).toNat)+((ct vars N (fk N (r - 2)).h) * 2 ^ (((lev vars N ((fk N (r - 2)).h)) - ((fk N (r - 2)).v)) - 1:Int).toNat))) rfl ?_
 rw [← hst]
 exact ⟨rfl,_,rfl,ID2.set h2⟩
theorem cnt_c {vars:Int} {N:List Fk} {nv:Value} {root:Int} {pd pn pr bm:Nat} (hF:Fm vars N) (h40:vars≤40):∀ k,CntC vars N nv root pd pn pr bm k
  | 0=>fun V r Dn _ _ _ _ hr hk _=>by have:=hr.1; omega
  | k+1=>fun V r Dn hN hpd hpn hpr hr hk hI=>cnt_step hF h40 (cnt_c hF h40 k) hN hpd hpn hpr hr hk hI
end Go.Proofs.Ytkmhjcjpohpiaaa.Bd
