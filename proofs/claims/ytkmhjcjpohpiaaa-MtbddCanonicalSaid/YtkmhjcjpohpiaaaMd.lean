import Derived.Test.YtkmhjcjpohpiaaaMc
import Derived.Test.YtkmhjcjpohpiaaaWo
/- Walks of mtbdd: what each function returns. Printed by a program out of notes. -/
namespace Go.Proofs.Ytkmhjcjpohpiaaa
open Go.Vc
open Classical
/-- What the walk of the order reads and never changes. -/
structure OEnv (V:HV) (vars:Int) (L:List Int) (M:List Fk) (cx:List Value) (u w:Value) (ps pl pb pw pn bs bb:Nat):Prop where
  red:GRed vars (bV L M)
  cs:Cells V ps [.map (some bs)]
  cb:Cells V pb [pt bb]
  bl:Cells V bb (u :: w :: cx)
  cw:Cells V pw [.func (.func 128) #[] #[pt ps,pt pl,pt pb,pt pw,pt pn]]
  n:Fks V w M
  ll:L.length≤2199023255552
  ml:M.length≤2199023255552
theorem OEnv.mono {V V':HV} {vars:Int} {L:List Int} {M:List Fk} {cx:List Value} {u w:Value} {ps pl pb pw pn bs bb:Nat} (h:OEnv V vars L M cx u w ps pl pb pw pn bs bb) (s:Vc.Sub V V'):OEnv V' vars L M cx u w ps pl pb pw pn bs bb:=⟨h.red,h.cs.mono s,h.cb.mono s,h.bl.mono s,h.cw.mono s,h.n.mono s,h.ll,h.ml⟩
def OrdC (vars:Int) (L:List Int) (M:List Fk) (cx:List Value) (u w:Value) (ps pl pb pw pn bs bb:Nat) (n:Nat):Prop:=∀ (V:HV) (r:Int) (s:Os) (ul un:Value),OEnv V vars L M cx u w ps pl pb pw pn bs bb→(bV L M).ok r→(bV L M).mu r < n→OsI L M s →
  FnC Try.prog 128 [.int .i64 r,pt ps,pt pl,pt pb,pt pw,pt pn] V [Mf bs (Value.int .i64) Value.bool s.sn,Arr 22 pl [ul],Gr 3 1 ul s.lv.length (s.lv.map (Value.int .i64)),Arr 22 pn [un],Gr 3 1 un s.nd.length (s.nd.map (Value.int .i64))] (fun v _ σ'=>v=.tuple #[]∧∃ ul' un',σ' = [Mf bs (Value.int .i64) Value.bool (ordF M n r s).sn,Arr 22 pl [ul'],Gr 3 1 ul' (ordF M n r s).lv.length ((ordF M n r s).lv.map (Value.int .i64)),Arr 22 pn [un'],Gr 3 1 un' (ordF M n r s).nd.length ((ordF M n r s).nd.map (Value.int .i64))])
set_option maxRecDepth 100000
set_option maxHeartbeats 4000000
theorem ord_step {V:HV} {vars:Int} {L:List Int} {M:List Fk} {cx:List Value} {u w:Value} {ps pl pb pw pn bs bb:Nat} {n:Nat} (IH:OrdC vars L M cx u w ps pl pb pw pn bs bb n) {r:Int} {s:Os} {ul un:Value} (hE:OEnv V vars L M cx u w ps pl pb pw pn bs bb) (hr:(bV L M).ok r) (hk:(bV L M).mu r < n+1) (hI:OsI L M s) :
    FnC Try.prog 128 [(Value.int .i64 r),(Value.pointer (some ⟨ps,0,none⟩)),(Value.pointer (some ⟨pl,0,none⟩)),(Value.pointer (some ⟨pb,0,none⟩)),(Value.pointer (some ⟨pw,0,none⟩)),(Value.pointer (some ⟨pn,0,none⟩))] V [(Mf bs (Value.int .i64) Value.bool s.sn),(Arr 22 pl [ul]),(Gr 3 1 ul s.lv.length ((s.lv.map (Value.int .i64)))),(Arr 22 pn [un]),(Gr 3 1 un s.nd.length ((s.nd.map (Value.int .i64))))] (fun v _ σ'=>v=.tuple #[]∧∃ ul' un',σ' = [Mf bs (Value.int .i64) Value.bool (ordF M (n+1) r s).sn,Arr 22 pl [ul'],Gr 3 1 ul' (ordF M (n+1) r s).lv.length ((ordF M (n+1) r s).lv.map (Value.int .i64)),Arr 22 pn [un'],Gr 3 1 un' (ordF M (n+1) r s).nd.length ((ordF M (n+1) r s).nd.map (Value.int .i64))]):=by
 refine FnC.drop ?_
 refine fn_intro (N:=42) Try.func128 (by kernel_rfl) rfl rfl rfl (Nat.le_of_ble_eq_true rfl) ?_
 intro w0 D
 have hb:=SlS.bound hE.n
 have hr0:=hr.1
 have hrb:r / 2 < 2199023255552:=by
   have h1:=hE.ll
   have h2:=hE.ml
   rcases (by omega:r % 2=0 ∨ r % 2=1) with q | q
   have:=hr.2.1 q; omega
   have:=hr.2.2 q; omega
 have hln:=hI.len
 have hll:=hE.ll
 have hml:=hE.ml
 refine vc_seq ?_
 refine vc_seq ?_
 let ζ1:Asrt:=Gr 3 1 ul s.lv.length ((s.lv.map (Value.int .i64)))
 let ζ2:Asrt:=Gr 3 1 un s.nd.length ((s.nd.map (Value.int .i64)))
 refine vc_res (σ':=[(Mf bs (Value.int .i64) Value.bool s.sn),(Arr 22 pl [ul]),ζ1,(Arr 22 pn [un]),ζ2]) rfl ?_
 refine vc_region ?_
 refine oq (qv_ldp (v:=(Value.map (some bs))) Try.plain150 rfl (inVc hE.cs) rfl) ?_
 refine oq (qv_mv (Value.int .i64 r) rfl) ?_
 refine oq (qv_to (bool_dec _) (qv_look1 (a0:=false) (key:=r) (k:=0) Try.underlying150 (KeyT.int Try.underlying3) Try.ti4 rfl rfl rfl)) ?_
 refine ops_nil ?_
 refine vc_if rfl (fun c1=>?_) (fun c1=>?_)
 refine vc_ret ?_
 refine rq0 ?_
 refine ⟨_,[],perm_nil _,?_⟩
 subst ζ1 ζ2
 rw [ord_hit (by assumption)]
 exact ⟨rfl,ul,un,rfl⟩
 refine vc_skip ?_
 refine vc_seq ?_
 have hs:¬ seen s r:=by assumption
 refine vc_region ?_
 refine oq (qv_ldp (v:=(Value.map (some bs))) Try.plain150 rfl (inVc hE.cs) rfl) ?_
 refine oq (qv_mv (Value.int .i64 r) rfl) ?_
 refine ops_mapset (k:=0) (key:=r) (v:=true) Try.underlying150 (KeyT.int Try.underlying3) rfl rfl rfl rfl ?_
 refine ops_nil ?_
 refine vc_seq ?_
 refine vc_seq ?_
 refine vc_res (σ':=[(Mf bs (Value.int .i64) Value.bool (setF s.sn r true)),(Arr 22 pl [ul]),ζ1,(Arr 22 pn [un]),ζ2]) rfl ?_
 refine vc_region ?_
 refine oq (qv_mv (Value.int .i64 r) rfl) ?_
 refine oq (qv_rem rfl rfl (by omega) (by omega)) ?_
 refine oq (qv_eql rfl rfl) ?_
 refine ops_nil ?_
 refine vc_if rfl (fun c2=>?_) (fun c2=>?_)
 refine vc_seq ?_
 refine vc_region ?_
 refine oq (qv_ldp (v:=ul) Try.plain22 rfl (inOc (k:=1) rfl) rfl) ?_
 refine oq (qv_mv (Value.int .i64 r) rfl) ?_
 refine oq (qv_quo rfl rfl (by omega) (by omega)) ?_
 refine ops_lit (n:=1) (s:=1) (cs:=[(.int .i64 (r / 2))]) Try.underlying22 Try.ti3 (Nat.le_of_ble_eq_true rfl) rfl rfl rfl (Nat.le_of_ble_eq_true rfl) rfl (fun b1=>?_)
 subst ζ1 ζ2
 refine ops_append (k:=2) (n:=s.lv.length) (s:=1) (m:=1) (v:=ul) (xs:=(s.lv.map (Value.int .i64))) (news:=[(.int .i64 (r / 2))]) Try.underlying22 Try.ti3 rfl (Nat.le_of_ble_eq_true rfl) rfl rfl rfl rfl (news_own (j:=5) rfl) (by simp [Value.oneCell']) (by omega) (by simp only [maxLen]; omega) (fun v1 hn1=>?_)
 refine ops_gr1 (k:=2) rfl (fun ho1=>?_)
 refine ops_stp (k:=1) (off:=0) (cs:=[ul]) Try.size22 rfl (rfl:ev _ _=v1) ho1 rfl (Nat.le_of_ble_eq_true rfl) ?_
 refine ops_nil ?_
 refine vc_drop [(Mf bs (Value.int .i64) Value.bool (setF s.sn r true)),(Arr 22 pl [v1]),(Gr 3 1 v1 ((s.lv.length+1)) (((s.lv.map (Value.int .i64))++[(Value.int .i64 (r / 2))]))),(Arr 22 pn [un]),(Gr 3 1 un s.nd.length ((s.nd.map (Value.int .i64))))] [(Arr 3 b1 [(Value.int .i64 (r / 2))])] ((List.perm_middle (l₁:=[(Mf bs (Value.int .i64) Value.bool (setF s.sn r true)),(Arr 22 pl [v1]),(Gr 3 1 v1 ((s.lv.length+1)) (((s.lv.map (Value.int .i64))++[(Value.int .i64 (r / 2))]))),(Arr 22 pn [un]),(Gr 3 1 un s.nd.length ((s.nd.map (Value.int .i64))))]) (l₂:=[])).trans (List.perm_append_comm (l₁:=[(Arr 3 b1 [(Value.int .i64 (r / 2))])]))) ?_
 refine vc_ret ?_
 refine rq0 ?_
 refine ⟨_,[],perm_nil _,?_⟩
 rw [ord_leaf hs (by omega)]
 refine ⟨rfl,v1,un,?_⟩
 simp only [List.length_append,List.map_append]
 rfl
 refine vc_skip ?_
 refine vc_seq ?_
 have h2:¬ r % 2=0:=by assumption
 have hrn:=hr.2.2 (by omega)
 have hlo:=hE.red.lo r hr h2
 have hhi:=hE.red.hi r hr h2
 have hlo:(bV L M).ok (fk M (r / 2)).l∧(bV L M).mu (fk M (r / 2)).l < (bV L M).mu r∧_:=hlo
 have hhi:(bV L M).ok (fk M (r / 2)).h∧(bV L M).mu (fk M (r / 2)).h < (bV L M).mu r∧_:=hhi
 have hlo2:=hlo.2.1
 have hhi2:=hhi.2.1
 refine vc_region ?_
 refine oq (qv_ldp (v:=(Value.pointer (some ⟨bb,0,none⟩))) Try.plain91 rfl (inVc hE.cb) rfl) ?_
 refine oq (qv_nilck rfl) ?_
 refine oq (qv_fa (off:=0) Try.field113_1 rfl) ?_
 refine oq (qv_ldp (v:=w) Try.plain23 rfl (inVc hE.bl) rfl) ?_
 refine oq (qv_mv (Value.int .i64 r) rfl) ?_
 refine oq (qv_quo rfl rfl (by omega) (by omega)) ?_
 refine oq (qv_ias (v:=w) (i:=r / 2) Try.underlying23 Try.size80 rfl hE.n rfl (by omega) (by omega)) ?_
 let ζ3:Value:=.int .i64 ((fk M (r / 2)).l)
 refine oq (qv_lds (v:=w) (i:=r / 2) (vs:=[(.int .i64 ((fk M (r / 2)).v)),ζ3,(.int .i64 ((fk M (r / 2)).h))]) Try.agg80 rfl hE.n (by omega) (by omega) (fks_at (by omega) (by omega))) ?_
 refine ops_alloc Try.ti80 rfl (fun b2=>?_)
 refine ops_stw (k:=5) (vs:=[(.int .i64 ((fk M (r / 2)).v)),ζ3,(.int .i64 ((fk M (r / 2)).h))]) Try.size80 rfl rfl rfl rfl rfl rfl ?_
 refine ops_nil ?_
 refine vc_seq ?_
 refine vc_res (σ':=[(Mf bs (Value.int .i64) Value.bool (setF s.sn r true)),(Arr 22 pl [ul]),ζ1,(Arr 22 pn [un]),ζ2,(Arr 80 b2 [(.int .i64 ((fk M (r / 2)).v)),ζ3,(.int .i64 ((fk M (r / 2)).h))])]) rfl ?_
 obtain ⟨a,ha⟩:∃ a,a=ordF M n (fk M (r / 2)).l (osm s r):=⟨_,rfl⟩
 have A:OrdI L M (fk M (r / 2)).l (osm s r) a:=ha ▸ ord_inv hE.red n _ (osm s r) hlo.1 (by omega) (osi_mark hI)
 refine vc_region ?_
 refine oq (qv_ldp (v:=(Value.func (.func 128) #[] #[(Value.pointer (some ⟨ps,0,none⟩)),(Value.pointer (some ⟨pl,0,none⟩)),(Value.pointer (some ⟨pb,0,none⟩)),(Value.pointer (some ⟨pw,0,none⟩)),(Value.pointer (some ⟨pn,0,none⟩))])) Try.plain151 rfl (inVc hE.cw) rfl) ?_
 refine oq (qv_fa (off:=0) Try.field80_1 rfl) ?_
 refine oq (qv_ldp (v:=ζ3) Try.plain3 rfl (inOc (k:=5) rfl) rfl) ?_
 subst ζ1 ζ2 ζ3
 refine ops_call (σa:=[(Mf bs (Value.int .i64) Value.bool (setF s.sn r true)),(Arr 22 pl [ul]),(Gr 3 1 ul s.lv.length ((s.lv.map (Value.int .i64)))),(Arr 22 pn [un]),(Gr 3 1 un s.nd.length ((s.nd.map (Value.int .i64))))]) (σr:=[(Arr 80 b2 [(.int .i64 ((fk M (r / 2)).v)),(.int .i64 ((fk M (r / 2)).l)),(.int .i64 ((fk M (r / 2)).h))])]) (by have h:=IH _ (fk M (r / 2)).l (osm s r) ul un hE hlo.1 (by omega) (osi_mark hI); rw [← ha] at h; exact h) rfl rfl (.refl _) (fun r1 V1 sg1 hV1 hp1=>?_)
 obtain ⟨rfl,u1,n1,rfl⟩:=hp1
 have hE:=hE.mono hV1
 refine ops_nil ?_
 refine vc_seq ?_
 refine vc_res (σ':=[(Mf bs (Value.int .i64) Value.bool a.sn),(Arr 22 pl [u1]),(Gr 3 1 u1 a.lv.length ((a.lv.map (Value.int .i64)))),(Arr 22 pn [n1]),(Gr 3 1 n1 a.nd.length ((a.nd.map (Value.int .i64)))),(Arr 80 b2 [(.int .i64 ((fk M (r / 2)).v)),(.int .i64 ((fk M (r / 2)).l)),(.int .i64 ((fk M (r / 2)).h))])]) rfl ?_
 obtain ⟨b,hb2⟩:∃ b,b=ordF M n (fk M (r / 2)).h a:=⟨_,rfl⟩
 have B:OrdI L M (fk M (r / 2)).h a b:=hb2 ▸ ord_inv hE.red n _ a hhi.1 (by omega) A.inv
 have hbl:=B.inv.len
 refine vc_region ?_
 refine oq (qv_ldp (v:=(Value.func (.func 128) #[] #[(Value.pointer (some ⟨ps,0,none⟩)),(Value.pointer (some ⟨pl,0,none⟩)),(Value.pointer (some ⟨pb,0,none⟩)),(Value.pointer (some ⟨pw,0,none⟩)),(Value.pointer (some ⟨pn,0,none⟩))])) Try.plain151 rfl (inVc hE.cw) rfl) ?_
 refine oq (qv_fa (off:=0) Try.field80_2 rfl) ?_
 refine oq (qv_ldp (v:=(.int .i64 ((fk M (r / 2)).h))) Try.plain3 rfl (inOc (k:=5) rfl) rfl) ?_
 refine ops_call (σa:=[(Mf bs (Value.int .i64) Value.bool a.sn),(Arr 22 pl [u1]),(Gr 3 1 u1 a.lv.length ((a.lv.map (Value.int .i64)))),(Arr 22 pn [n1]),(Gr 3 1 n1 a.nd.length ((a.nd.map (Value.int .i64))))]) (σr:=[(Arr 80 b2 [(.int .i64 ((fk M (r / 2)).v)),(.int .i64 ((fk M (r / 2)).l)),(.int .i64 ((fk M (r / 2)).h))])]) (by have h:=IH _ (fk M (r / 2)).h a u1 n1 hE hhi.1 (by omega) A.inv; rw [← hb2] at h; exact h) rfl rfl (.refl _) (fun r2 V2 sg2 hV2 hp2=>?_)
 obtain ⟨rfl,u2,n2,rfl⟩:=hp2
 have hE:=hE.mono hV2
 refine ops_nil ?_
 refine vc_res (σ':=[(Mf bs (Value.int .i64) Value.bool b.sn),(Arr 22 pl [u2]),(Gr 3 1 u2 b.lv.length ((b.lv.map (Value.int .i64)))),(Arr 22 pn [n2]),(Gr 3 1 n2 b.nd.length ((b.nd.map (Value.int .i64)))),(Arr 80 b2 [(.int .i64 ((fk M (r / 2)).v)),(.int .i64 ((fk M (r / 2)).l)),(.int .i64 ((fk M (r / 2)).h))])]) rfl ?_
 refine vc_region ?_
 refine oq (qv_ldp (v:=n2) Try.plain22 rfl (inOc (k:=3) rfl) rfl) ?_
 refine oq (qv_mv (Value.int .i64 r) rfl) ?_
 refine oq (qv_quo rfl rfl (by omega) (by omega)) ?_
 refine ops_lit (n:=1) (s:=1) (cs:=[(.int .i64 (r / 2))]) Try.underlying22 Try.ti3 (Nat.le_of_ble_eq_true rfl) rfl rfl rfl (Nat.le_of_ble_eq_true rfl) rfl (fun b3=>?_)
 refine ops_append (k:=4) (n:=b.nd.length) (s:=1) (m:=1) (v:=n2) (xs:=(b.nd.map (Value.int .i64))) (news:=[(.int .i64 (r / 2))]) Try.underlying22 Try.ti3 rfl (Nat.le_of_ble_eq_true rfl) rfl rfl rfl rfl (news_own (j:=6) rfl) (by simp [Value.oneCell']) (by omega) (by simp only [maxLen]; omega) (fun v2 hn2=>?_)
 refine ops_gr1 (k:=4) rfl (fun ho2=>?_)
 refine ops_stp (k:=3) (off:=0) (cs:=[n2]) Try.size22 rfl (rfl:ev _ _=v2) ho2 rfl (Nat.le_of_ble_eq_true rfl) ?_
 refine ops_nil ?_
 refine ret0 ?_
 refine ⟨[(Mf bs (Value.int .i64) Value.bool b.sn),(Arr 22 pl [u2]),(Gr 3 1 u2 b.lv.length ((b.lv.map (Value.int .i64)))),(Arr 22 pn [v2]),(Gr 3 1 v2 ((b.nd.length+1)) (((b.nd.map (Value.int .i64))++[(.int .i64 (r / 2))])))],[(Arr 80 b2 [(.int .i64 ((fk M (r / 2)).v)),(.int .i64 ((fk M (r / 2)).l)),(.int .i64 ((fk M (r / 2)).h))]),(Arr 3 b3 [(.int .i64 (r / 2))])],.refl _,?_⟩
 rw [ord_node hs h2 ha hb2]
 refine ⟨rfl,u2,v2,?_⟩
 simp only [List.length_append,List.map_append]
 rfl
theorem ord_c {vars:Int} {L:List Int} {M:List Fk} {cx:List Value} {u w:Value} {ps pl pb pw pn bs bb:Nat}:∀ n,OrdC vars L M cx u w ps pl pb pw pn bs bb n
  | 0=>fun V r s ul un _ _ hk _=>by omega
  | n+1=>fun V r s ul un hE hr hk hI=>ord_step (ord_c n) hE hr hk hI
end Go.Proofs.Ytkmhjcjpohpiaaa
