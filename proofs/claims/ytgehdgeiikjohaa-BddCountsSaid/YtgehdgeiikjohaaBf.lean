/- Walks of bdd: what each function returns. Printed by a program out of notes. -/
import Derived.Test.YtgehdgeiikjohaaBe
import Derived.Test.YtgehdgeiikjohaaWd
namespace Go.Proofs.Ytgehdgeiikjohaa
open Go.Vc
open Classical

theorem k3_key : KeyT Try.prog 109 kv := KeyT.arr Try.underlying109 Try.underlying3 Try.ti3 kl (fun _ => rfl) fun a b h => by
  simp [kl] at h
  exact Prod.ext h.1 (Prod.ext h.2.1 h.2.2)
/-- What a combination reads and never changes. -/
structure CEnv (V : HV) (vars : Int) (Ds : List Dg) (F : Bool → Bool → Bool → Bool) (lv : Value) (nvs : List Value) (fid : Nat) (fcaps : List Value) (pd pv pl pf pr pm bb bd : Nat) : Prop where
  bl : Bdl V lv nvs Ds
  ok : DsOk vars Ds
  v : ∀ i : Int, 0 ≤ i → i < Ds.length → (dg Ds i).v = vars
  cd : Cells V pd [.map (some bd)]
  cv : Cells V pv [.int .i64 vars]
  cl : Cells V pl [lv]
  cf : Cells V pf [.func (.func fid) #[] fcaps.toArray]
  cr : Cells V pr [.func (.func 76) #[] #[pt pd, pt pv, pt pl, pt pf, pt pr, pt pm]]
  cm : Cells V pm [.pointer (some ⟨bb, 0, none⟩)]
  f : ∀ W, Vc.Sub V W → ∀ b0 b1 b2 : Bool, FnC Try.prog fid (.agg #[.bool b0, .bool b1, .bool b2] :: fcaps) W [] (fun v _ _ => v = .bool (F b0 b1 b2))
theorem CEnv.mono {V V' : HV} {vars : Int} {Ds : List Dg} {F : Bool → Bool → Bool → Bool} {lv : Value} {nvs : List Value} {fid : Nat} {fcaps : List Value} {pd pv pl pf pr pm bb bd : Nat} (h : CEnv V vars Ds F lv nvs fid fcaps pd pv pl pf pr pm bb bd) (s : Vc.Sub V V') : CEnv V' vars Ds F lv nvs fid fcaps pd pv pl pf pr pm bb bd :=
  ⟨h.bl.mono s, h.ok, h.v, h.cd.mono s, h.cv.mono s, h.cl.mono s, h.cf.mono s, h.cr.mono s, h.cm.mono s, fun W q => h.f W (s.trans q)⟩
theorem FnC.boolD {P : Program} {f : FuncId} {args : List Value} {V0 : HV} {σ0 : Res} {b : Bool} (h : FnC P f args V0 σ0 (fun v _ _ => v = .bool b)) : FnC P f args V0 σ0 (fun v _ _ => v = .bool (decide (b = true))) := by
  rw [← bool_dec]; exact h
/-- What the walk does, for keys less than n levels above the constants. -/
def CmbC (vars : Int) (Ds : List Dg) (F : Bool → Bool → Bool → Bool) (lv : Value) (nvs : List Value) (fid : Nat) (fcaps : List Value) (pd pv pl pf pr pm bb bd bi : Nat) (n : Nat) : Prop :=
  ∀ (V : HV) (k : K3r) (M : List Fk) (Dn : K3r → Option Int) (u : Value), CEnv V vars Ds F lv nvs fid fcaps pd pv pl pf pr pm bb bd → KOk Ds k → (vars - mlv vars Ds k).toNat < n → CInv vars Ds F M Dn → M.length + 2 ^ (vars - mlv vars Ds k).toNat ≤ 2199023255552 →
  FnC Try.prog 76 [kv k, pt pd, pt pv, pt pl, pt pf, pt pr, pt pm] V [Arr 95 bb [u, .map (some bi)], Gr 42 3 u M.length (fks M), Mf bi fkv (Value.int .i64) (idxF M), Mf bd kv (Value.int .i64) Dn] (fun v _ σ' => ∃ M' Dn' p u', v = .int .i64 p ∧ σ' = [Arr 95 bb [u', .map (some bi)], Gr 42 3 u' M'.length (fks M'), Mf bi fkv (Value.int .i64) (idxF M'), Mf bd kv (Value.int .i64) Dn'] ∧ COk vars Ds F k M M' Dn' p)

set_option maxRecDepth 100000 in
set_option maxHeartbeats 4000000 in
theorem comb_step {V : HV} {vars : Int} {Ds : List Dg} {F : Bool → Bool → Bool → Bool} {lv : Value} {nvs : List Value} {fid : Nat} {fcaps : List Value} {pd pv pl pf pr pm bb bd bi n : Nat} (IH : CmbC vars Ds F lv nvs fid fcaps pd pv pl pf pr pm bb bd bi n) {k : K3r} {M : List Fk} {Dn : K3r → Option Int} {u : Value} (hE : CEnv V vars Ds F lv nvs fid fcaps pd pv pl pf pr pm bb bd) (hK : KOk Ds k) (hn : (vars - mlv vars Ds k).toNat < n + 1) (hI : CInv vars Ds F M Dn) (hMb : M.length + 2 ^ (vars - mlv vars Ds k).toNat ≤ 2199023255552) :
    FnC Try.prog 76 [(.agg #[(.int .i64 k.1), (.int .i64 k.2.1), (.int .i64 k.2.2)]), (Value.pointer (some ⟨pd, 0, none⟩)), (Value.pointer (some ⟨pv, 0, none⟩)), (Value.pointer (some ⟨pl, 0, none⟩)), (Value.pointer (some ⟨pf, 0, none⟩)), (Value.pointer (some ⟨pr, 0, none⟩)), (Value.pointer (some ⟨pm, 0, none⟩))] V [(Arr 95 bb [u, (Value.map (some bi))]), (Gr 42 3 u M.length ((fks M))), (Mf bi fkv (Value.int .i64) (idxF M)), (Mf bd kv (Value.int .i64) Dn)] (fun v _ σ' => ∃ M' Dn' p u', v = .int .i64 p ∧ σ' = [Arr 95 bb [u', .map (some bi)], Gr 42 3 u' M'.length (fks M'), Mf bi fkv (Value.int .i64) (idxF M'), Mf bd kv (Value.int .i64) Dn'] ∧ COk vars Ds F k M M' Dn' p) := by
 refine fn_intro (N := 106) Try.func76 (by kernel_rfl) rfl rfl rfl (Nat.le_of_ble_eq_true rfl) ?_
 intro w0 D
 have hb := SlS.bound hE.bl.sl
 have hd := hE.ok
 have hle := hd.le
 have hv0 := hd.v0
 have hv1 := hd.v1
 have hmb := mlv_bd hd hK
 refine vc_seq ?_
 refine vc_res (σ' := [(Arr 95 bb [u, (Value.map (some bi))]), (Gr 42 3 u M.length ((fks M))), (Mf bi fkv (Value.int .i64) (idxF M)), (Mf bd kv (Value.int .i64) Dn)]) rfl ?_
 refine vc_region ?_
 refine ops_box (v := (.agg #[(.int .i64 k.1), (.int .i64 k.2.1), (.int .i64 k.2.2)])) (cs := [(.int .i64 k.1), (.int .i64 k.2.1), (.int .i64 k.2.2)]) rfl rfl (fun b1 => ?_)
 refine oq (qv_as (Value.int .i64 0) rfl) ?_
 refine ops_nil ?_
 refine vc_seq ?_
 refine vc_seq ?_
 refine vc_res (σ' := [(Arr 95 bb [u, (Value.map (some bi))]), (Gr 42 3 u M.length ((fks M))), (Mf bi fkv (Value.int .i64) (idxF M)), (Mf bd kv (Value.int .i64) Dn), (Arr 109 b1 [(.int .i64 k.1), (.int .i64 k.2.1), (.int .i64 k.2.2)])]) rfl ?_
 refine vc_region ?_
 refine oq (qv_ldp (v := (Value.map (some bd))) Try.plain107 rfl (inVc hE.cd) rfl) ?_
 refine oq (qv_ldm (vs := [(.int .i64 k.1), (.int .i64 k.2.1), (.int .i64 k.2.2)]) Try.agg109 rfl (inOc (k := 4) rfl) rfl rfl) ?_
 refine oq (qv_look (a0 := 0) (key := k) (k := 3) Try.underlying107 k3_key Try.ti3 rfl rfl rfl) ?_
 refine oq (qv_mv (.tuple #[(.int .i64 ((Dn k).getD 0)), (.bool (decide ((Dn k).isSome = true)))]) rfl) ?_
 refine oq (qv_ext (.int .i64 ((Dn k).getD 0)) rfl rfl) ?_
 refine oq (qv_ext (.bool (decide ((Dn k).isSome = true))) rfl rfl) ?_
 refine oq (qv_as (.int .i64 ((Dn k).getD 0)) rfl) ?_
 refine oq (qv_as (.bool (decide ((Dn k).isSome = true))) rfl) ?_
 refine ops_nil ?_
 refine vc_seq ?_
 refine vc_region ?_
 refine oq (qv_mv (.bool (decide ((Dn k).isSome = true))) rfl) ?_
 refine ops_nil ?_
 refine vc_if rfl (fun c1 => ?_) (fun c1 => ?_)
 ·
  refine vc_seq ?_
  refine vc_region ?_
  refine oq (qv_mv (.int .i64 ((Dn k).getD 0)) rfl) ?_
  refine oq (qv_as (.int .i64 ((Dn k).getD 0)) rfl) ?_
  refine ops_nil ?_
  refine vc_drop [(Arr 95 bb [u, (Value.map (some bi))]), (Gr 42 3 u M.length ((fks M))), (Mf bi fkv (Value.int .i64) (idxF M)), (Mf bd kv (Value.int .i64) Dn)] [(Arr 109 b1 [(Value.int .i64 (k.1)), (Value.int .i64 (k.2.1)), (Value.int .i64 (k.2.2))])] ((List.perm_middle (l₁ := [(Arr 95 bb [u, (Value.map (some bi))]), (Gr 42 3 u M.length ((fks M))), (Mf bi fkv (Value.int .i64) (idxF M)), (Mf bd kv (Value.int .i64) Dn)]) (l₂ := [])).trans (List.perm_append_comm (l₁ := [(Arr 109 b1 [(Value.int .i64 (k.1)), (Value.int .i64 (k.2.1)), (Value.int .i64 (k.2.2))])]))) ?_
  refine vc_ret ?_
  refine rq1 (.int .i64 ((Dn k).getD 0)) rfl ?_
  obtain ⟨p, hp⟩ := Option.isSome_iff_exists.1 c1
  exact ⟨M, Dn, p, u, by rw [hp]; rfl, rfl, comb_hit hI hK hp⟩
 ·
  refine vc_skip ?_
  refine vc_seq ?_
  refine vc_region ?_
  refine oq (qv_ldp (v := (Value.int .i64 vars)) Try.plain3 rfl (inVc hE.cv) rfl) ?_
  refine oq (qv_as (Value.int .i64 vars) rfl) ?_
  refine ops_nil ?_
  refine vc_seq ?_
  refine vc_seq ?_
  refine vc_region ?_
  refine oq (qv_ldp (v := lv) Try.plain83 rfl (inVc hE.cl) rfl) ?_
  refine oq (qv_lenSS Try.underlying83 rfl hE.bl.sl) ?_
  refine oq (qv_mv (Value.int .i64 0) rfl) ?_
  refine ops_nil ?_
  refine vc_block ?_
  refine vc_loop (α := Int) (fun (xx : Int) => [(0, (.agg #[(.int .i64 k.1), (.int .i64 k.2.1), (.int .i64 k.2.2)])), (1, (Value.pointer (some ⟨pd, 0, none⟩))), (2, (Value.pointer (some ⟨pv, 0, none⟩))), (3, (Value.pointer (some ⟨pl, 0, none⟩))), (4, (Value.pointer (some ⟨pf, 0, none⟩))), (5, (Value.pointer (some ⟨pr, 0, none⟩))), (6, (Value.pointer (some ⟨pm, 0, none⟩))), (7, (Value.pointer (some ⟨b1, 0, none⟩))), (8, (Value.int .i64 0)), (9, (.int .i64 ((Dn k).getD 0))), (10, (.bool (decide ((Dn k).isSome = true)))), (29, (.bool (decide ((Dn k).isSome = true)))), (32, lv), (33, (.int .i64 ((Ds.length : Int)))), (11, (.int .i64 (tpN vars Ds k xx.toNat))), (34, (Value.int .i64 xx))]) (fun (xx : Int) V' σ' => V = V' ∧ [(Arr 95 bb [u, (Value.map (some bi))]), (Gr 42 3 u M.length ((fks M))), (Mf bi fkv (Value.int .i64) (idxF M)), (Mf bd kv (Value.int .i64) Dn), (Arr 109 b1 [(.int .i64 k.1), (.int .i64 k.2.1), (.int .i64 k.2.2)])] = σ' ∧ 0 ≤ xx ∧ xx ≤ Ds.length) (fun (xx : Int) => (Ds.length - xx).toNat) (0) ?_ ?_ ?_
  · exact ⟨rfl, rfl, rfl, rfl, rfl, rfl, rfl, rfl, rfl, rfl, rfl, rfl, rfl, rfl, (congrArg (Value.int .i64) (show vars = (tpN vars Ds k (0 : Int).toNat) from by rfl)), rfl, trivial⟩
  · exact ⟨rfl, rfl, by omega, by omega⟩
  rintro i e1 V0l σ0l hI0
  obtain ⟨rfl, rfl, i1, i2⟩ : V = V0l ∧ [(Arr 95 bb [u, (Value.map (some bi))]), (Gr 42 3 u M.length ((fks M))), (Mf bi fkv (Value.int .i64) (idxF M)), (Mf bd kv (Value.int .i64) Dn), (Arr 109 b1 [(.int .i64 k.1), (.int .i64 k.2.1), (.int .i64 k.2.2)])] = σ0l ∧ 0 ≤ i ∧ i ≤ Ds.length := hI0
  refine vc_seq ?_
  refine vc_region ?_
  refine oq (qv_lss rfl rfl) ?_
  refine ops_nil ?_
  refine vc_seq ?_
  refine vc_if rfl (fun c2 => ?_) (fun c2 => ?_)
  ·
   refine vc_skip ?_
   refine vc_seq ?_
   refine vc_block ?_
   refine vc_seq ?_
   have hki := hK i (by omega) (by omega)
   have hvi := hE.v i (by omega) (by omega)
   have hkr := hki.1.1
   have hkr2 := hki.1.2
   have hlv : lev (dg Ds (i)).v (dg Ds (i)).N (gi [k.1, k.2.1, k.2.2] (i)) = lev vars (dg Ds i).N (kg k i) := by rw [hvi]
   refine vc_region ?_
   refine oq (qv_mv (Value.int .i64 i) rfl) ?_
   refine oq (qv_ias (v := lv) (i := i) Try.underlying83 Try.size24 rfl hE.bl.sl rfl (by omega) (by omega)) ?_
   refine oq (qv_lds (v := lv) (i := i) (vs := [(.int .i64 ((dg Ds (i)).v)), (gv nvs (i)), (.int .i64 ((dg Ds (i)).r))]) Try.agg24 rfl hE.bl.sl (by omega) (by omega) (bdls_at (by omega) (by omega))) ?_
   refine ops_alloc Try.ti24 rfl (fun b2 => ?_)
   refine oq (qv_as (Value.int .i64 i) rfl) ?_
   refine ops_stw (k := 5) (vs := [(.int .i64 ((dg Ds (i)).v)), (gv nvs (i)), (.int .i64 ((dg Ds (i)).r))]) Try.size24 rfl rfl rfl (allc rfl (allc (SlS.one (hE.bl.at_ (i) (by omega) (by omega))) (allc rfl rfl))) rfl rfl ?_
   refine ops_nil ?_
   refine vc_res (σ' := [(Arr 95 bb [u, (Value.map (some bi))]), (Gr 42 3 u M.length ((fks M))), (Mf bi fkv (Value.int .i64) (idxF M)), (Mf bd kv (Value.int .i64) Dn), (Arr 109 b1 [(.int .i64 k.1), (.int .i64 k.2.1), (.int .i64 k.2.2)]), (Arr 24 b2 [(.int .i64 ((dg Ds (i)).v)), (gv nvs (i)), (.int .i64 ((dg Ds (i)).r))])]) rfl ?_
   refine vc_region_any Try.mixed (by kernel_rfl) ?_
   refine qq (qv_mv (.int .i64 (tpN vars Ds k i.toNat)) rfl) ?_
   refine qq (qv_ldm (vs := [(.int .i64 ((dg Ds (i)).v)), (gv nvs (i)), (.int .i64 ((dg Ds (i)).r))]) Try.agg24 rfl (inOc (k := 5) rfl) rfl rfl) ?_
   refine qq (qv_mv (Value.int .i64 i) rfl) ?_
   refine qq (qv_iav (i := i) (off := 0) Try.underlying109 Try.size3 rfl rfl (by omega) (by omega)) ?_
   refine qq (qv_ldp (v := (.int .i64 (gi [k.1, k.2.1, k.2.2] (i)))) Try.plain3 rfl (inOc (k := 4) rfl) (arr_at (ys := [k.1, k.2.1, k.2.2]) (by omega) (by simp; omega))) ?_
   refine qq (qv_call (v := (.int .i64 (lev (dg Ds (i)).v (dg Ds (i)).N (gi [k.1, k.2.1, k.2.2] (i))))) (level_c (hE.bl.at_ (i) (by omega) (by omega)) (r := gi [k.1, k.2.1, k.2.2] (i)) (by omega) (by omega)) rfl rfl) ?_
   refine qq (qv_min rfl rfl) ?_
   refine qq (qv_as (.int .i64 (if (lev (dg Ds (i)).v (dg Ds (i)).N (gi [k.1, k.2.1, k.2.2] (i))) < (tpN vars Ds k i.toNat) then lev (dg Ds (i)).v (dg Ds (i)).N (gi [k.1, k.2.1, k.2.2] (i)) else tpN vars Ds k i.toNat)) rfl) ?_
   refine qops_nil ?_
   refine vc_drop [(Arr 95 bb [u, (Value.map (some bi))]), (Gr 42 3 u M.length ((fks M))), (Mf bi fkv (Value.int .i64) (idxF M)), (Mf bd kv (Value.int .i64) Dn), (Arr 109 b1 [(Value.int .i64 (k.1)), (Value.int .i64 (k.2.1)), (Value.int .i64 (k.2.2))])] [(Arr 24 b2 [(Value.int .i64 ((dg Ds (i)).v)), (gv nvs (i)), (Value.int .i64 ((dg Ds (i)).r))])] ((List.perm_middle (l₁ := [(Arr 95 bb [u, (Value.map (some bi))]), (Gr 42 3 u M.length ((fks M))), (Mf bi fkv (Value.int .i64) (idxF M)), (Mf bd kv (Value.int .i64) Dn), (Arr 109 b1 [(Value.int .i64 (k.1)), (Value.int .i64 (k.2.1)), (Value.int .i64 (k.2.2))])]) (l₂ := [])).trans (List.perm_append_comm (l₁ := [(Arr 24 b2 [(Value.int .i64 ((dg Ds (i)).v)), (gv nvs (i)), (Value.int .i64 ((dg Ds (i)).r))])]))) ?_
   refine vc_region ?_
   refine oq (qv_add rfl rfl (by omega)) ?_
   refine oq (qv_mv (.int .i64 (i + 1)) rfl) ?_
   refine ops_nil ?_
   refine ⟨(i + 1), ⟨rfl, rfl, rfl, rfl, rfl, rfl, rfl, rfl, rfl, rfl, rfl, rfl, rfl, rfl, (congrArg (Value.int .i64) (show (if (lev (dg Ds (i)).v (dg Ds (i)).N (gi [k.1, k.2.1, k.2.2] (i))) < (tpN vars Ds k i.toNat) then lev (dg Ds (i)).v (dg Ds (i)).N (gi [k.1, k.2.1, k.2.2] (i)) else tpN vars Ds k i.toNat) = (tpN vars Ds k (i + 1 : Int).toNat) from by rw [hlv]; exact (tpN_step (by omega)).symm)), (congrArg (Value.int .i64) (show (i + 1) = ((i + 1)) from by rfl)), trivial⟩, ⟨rfl, rfl, by omega, by omega⟩, by omega⟩
  ·
   refine vc_exit ?_
   refine blockQ_hit ?_
   refine vc_seq ?_
   have htp : tpN vars Ds k i.toNat = mlv vars Ds k := tpN_all hK (by omega) (by omega)
   refine vc_region ?_
   refine oq (qv_as (Value.int .i64 0) rfl) ?_
   refine ops_nil ?_
   refine vc_seq ?_
   refine vc_seq ?_
   refine vc_region ?_
   refine oq (qv_mv (.int .i64 (tpN vars Ds k i.toNat)) rfl) ?_
   refine oq (qv_ldp (v := (Value.int .i64 vars)) Try.plain3 rfl (inVc hE.cv) rfl) ?_
   refine oq (qv_eql rfl rfl) ?_
   refine ops_nil ?_
   refine vc_if rfl (fun c3 => ?_) (fun c3 => ?_)
   ·
    refine vc_seq ?_
    refine vc_region ?_
    refine ops_alloc Try.ti84 rfl (fun b3 => ?_)
    refine ops_nil ?_
    refine vc_seq ?_
    refine vc_seq ?_
    refine vc_res (σ' := [(Arr 95 bb [u, (Value.map (some bi))]), (Gr 42 3 u M.length ((fks M))), (Mf bi fkv (Value.int .i64) (idxF M)), (Mf bd kv (Value.int .i64) Dn), (Arr 109 b1 [(.int .i64 k.1), (.int .i64 k.2.1), (.int .i64 k.2.2)]), (Arr 84 b3 [(Value.bool false), (Value.bool false), (Value.bool false)])]) rfl ?_
    refine vc_region ?_
    refine oq (qv_ldp (v := lv) Try.plain83 rfl (inVc hE.cl) rfl) ?_
    refine oq (qv_lenSS Try.underlying83 rfl hE.bl.sl) ?_
    refine oq (qv_mv (Value.int .i64 0) rfl) ?_
    refine ops_nil ?_
    refine vc_block ?_
    refine vc_loop (α := Int) (fun (xx : Int) => [(0, (.agg #[(.int .i64 k.1), (.int .i64 k.2.1), (.int .i64 k.2.2)])), (1, (Value.pointer (some ⟨pd, 0, none⟩))), (2, (Value.pointer (some ⟨pv, 0, none⟩))), (3, (Value.pointer (some ⟨pl, 0, none⟩))), (4, (Value.pointer (some ⟨pf, 0, none⟩))), (5, (Value.pointer (some ⟨pr, 0, none⟩))), (6, (Value.pointer (some ⟨pm, 0, none⟩))), (7, (Value.pointer (some ⟨b1, 0, none⟩))), (8, (Value.int .i64 0)), (9, (.int .i64 ((Dn k).getD 0))), (10, (.bool (decide ((Dn k).isSome = true)))), (11, (.int .i64 (tpN vars Ds k i.toNat))), (14, (Value.int .i64 0)), (15, (Value.pointer (some ⟨b3, 0, none⟩))), (29, (.bool (decide ((Dn k).isSome = true)))), (32, lv), (33, (.int .i64 ((Ds.length : Int)))), (34, (Value.int .i64 i)), (35, (.bool (decide (i < ((Ds.length : Int)))))), (49, (.bool (decide ((tpN vars Ds k i.toNat) = vars)))), (51, (.int .i64 ((Ds.length : Int)))), (52, (Value.int .i64 xx))]) (fun (xx : Int) V' σ' => V = V' ∧ [(Arr 95 bb [u, (Value.map (some bi))]), (Gr 42 3 u M.length ((fks M))), (Mf bi fkv (Value.int .i64) (idxF M)), (Mf bd kv (Value.int .i64) Dn), (Arr 109 b1 [(.int .i64 k.1), (.int .i64 k.2.1), (.int .i64 k.2.2)]), (Arr 84 b3 [(.bool (decide (bt Ds k xx.toNat 0))), (.bool (decide (bt Ds k xx.toNat 1))), (.bool (decide (bt Ds k xx.toNat 2)))])] = σ' ∧ 0 ≤ xx ∧ xx ≤ Ds.length) (fun (xx : Int) => (Ds.length - xx).toNat) (0) ?_ ?_ ?_
    · exact ⟨rfl, rfl, rfl, rfl, rfl, rfl, rfl, rfl, rfl, rfl, rfl, rfl, rfl, rfl, rfl, rfl, rfl, rfl, rfl, rfl, rfl, rfl, trivial⟩
    · exact ⟨rfl, (show [(Arr 95 bb [u, (Value.map (some bi))]), (Gr 42 3 u M.length ((fks M))), (Mf bi fkv (Value.int .i64) (idxF M)), (Mf bd kv (Value.int .i64) Dn), (Arr 109 b1 [(.int .i64 k.1), (.int .i64 k.2.1), (.int .i64 k.2.2)]), (Arr 84 b3 [(.bool (decide (bt Ds k (0 : Int).toNat 0))), (.bool (decide (bt Ds k (0 : Int).toNat 1))), (.bool (decide (bt Ds k (0 : Int).toNat 2)))])] = [(Arr 95 bb [u, (Value.map (some bi))]), (Gr 42 3 u M.length ((fks M))), (Mf bi fkv (Value.int .i64) (idxF M)), (Mf bd kv (Value.int .i64) Dn), (Arr 109 b1 [(.int .i64 k.1), (.int .i64 k.2.1), (.int .i64 k.2.2)]), (Arr 84 b3 [(Value.bool false), (Value.bool false), (Value.bool false)])] from by rw [show ([(.bool (decide (bt Ds k (Int.toNat 0) 0))), (.bool (decide (bt Ds k (Int.toNat 0) 1))), (.bool (decide (bt Ds k (Int.toNat 0) 2)))] : List Value) = [.bool false, .bool false, .bool false] from btL_0]), by omega, by omega⟩
    rintro j e2 V1l σ1l hI1
    obtain ⟨rfl, rfl, i3, i4⟩ : V = V1l ∧ [(Arr 95 bb [u, (Value.map (some bi))]), (Gr 42 3 u M.length ((fks M))), (Mf bi fkv (Value.int .i64) (idxF M)), (Mf bd kv (Value.int .i64) Dn), (Arr 109 b1 [(.int .i64 k.1), (.int .i64 k.2.1), (.int .i64 k.2.2)]), (Arr 84 b3 [(.bool (decide (bt Ds k j.toNat 0))), (.bool (decide (bt Ds k j.toNat 1))), (.bool (decide (bt Ds k j.toNat 2)))])] = σ1l ∧ 0 ≤ j ∧ j ≤ Ds.length := hI1
    refine vc_seq ?_
    refine vc_res (σ' := [(Arr 95 bb [u, (Value.map (some bi))]), (Gr 42 3 u M.length ((fks M))), (Mf bi fkv (Value.int .i64) (idxF M)), (Mf bd kv (Value.int .i64) Dn), (Arr 109 b1 [(.int .i64 k.1), (.int .i64 k.2.1), (.int .i64 k.2.2)]), (Arr 84 b3 [(.bool (decide (bt Ds k j.toNat 0))), (.bool (decide (bt Ds k j.toNat 1))), (.bool (decide (bt Ds k j.toNat 2)))])]) rfl ?_
    refine vc_region ?_
    refine oq (qv_lss rfl rfl) ?_
    refine ops_nil ?_
    refine vc_seq ?_
    refine vc_if rfl (fun c4 => ?_) (fun c4 => ?_)
    ·
     refine vc_skip ?_
     refine vc_seq ?_
     refine vc_block ?_
     refine vc_seq ?_
     refine vc_region ?_
     refine oq (qv_mv (Value.int .i64 j) rfl) ?_
     refine oq (qv_as (Value.int .i64 j) rfl) ?_
     refine ops_nil ?_
     refine vc_region ?_
     refine oq (qv_mv (Value.int .i64 j) rfl) ?_
     refine oq (qv_mv (Value.int .i64 j) rfl) ?_
     refine oq (qv_iav (i := j) (off := 0) Try.underlying109 Try.size3 rfl rfl (by omega) (by omega)) ?_
     refine oq (qv_ldp (v := (.int .i64 (gi [k.1, k.2.1, k.2.2] (j)))) Try.plain3 rfl (inOc (k := 4) rfl) (arr_at (ys := [k.1, k.2.1, k.2.2]) (by omega) (by simp; omega))) ?_
     refine oq (qv_eql rfl rfl) ?_
     refine oq (qv_iav (i := j) (off := 0) Try.underlying84 Try.size4 rfl rfl (by omega) (by omega)) ?_
     refine ops_stp (k := 5) (off := 0 + (j).toNat) (cs := [(.bool (decide (bt Ds k j.toNat 0))), (.bool (decide (bt Ds k j.toNat 1))), (.bool (decide (bt Ds k j.toNat 2)))]) Try.size4 rfl (rfl : ev _ _ = (.bool (decide ((gi [k.1, k.2.1, k.2.2] (j)) = 1)))) rfl rfl (by simp; omega) ?_
     refine ops_nil ?_
     refine vc_res (σ' := [(Arr 95 bb [u, (Value.map (some bi))]), (Gr 42 3 u M.length ((fks M))), (Mf bi fkv (Value.int .i64) (idxF M)), (Mf bd kv (Value.int .i64) Dn), (Arr 109 b1 [(.int .i64 k.1), (.int .i64 k.2.1), (.int .i64 k.2.2)]), (Arr 84 b3 (([(.bool (decide (bt Ds k j.toNat 0))), (.bool (decide (bt Ds k j.toNat 1))), (.bool (decide (bt Ds k j.toNat 2)))]).set (0 + (j).toNat) (.bool (decide ((gi [k.1, k.2.1, k.2.2] (j)) = 1)))))]) rfl ?_
     refine vc_region ?_
     refine oq (qv_add rfl rfl (by omega)) ?_
     refine oq (qv_mv (.int .i64 (j + 1)) rfl) ?_
     refine ops_nil ?_
     refine ⟨(j + 1), ⟨rfl, rfl, rfl, rfl, rfl, rfl, rfl, rfl, rfl, rfl, rfl, rfl, rfl, rfl, rfl, rfl, rfl, rfl, rfl, rfl, rfl, (congrArg (Value.int .i64) (show (j + 1) = ((j + 1)) from by omega)), trivial⟩, ⟨rfl, (show [(Arr 95 bb [u, (Value.map (some bi))]), (Gr 42 3 u M.length ((fks M))), (Mf bi fkv (Value.int .i64) (idxF M)), (Mf bd kv (Value.int .i64) Dn), (Arr 109 b1 [(.int .i64 k.1), (.int .i64 k.2.1), (.int .i64 k.2.2)]), (Arr 84 b3 [(.bool (decide (bt Ds k (j + 1 : Int).toNat 0))), (.bool (decide (bt Ds k (j + 1 : Int).toNat 1))), (.bool (decide (bt Ds k (j + 1 : Int).toNat 2)))])] = [(Arr 95 bb [u, (Value.map (some bi))]), (Gr 42 3 u M.length ((fks M))), (Mf bi fkv (Value.int .i64) (idxF M)), (Mf bd kv (Value.int .i64) Dn), (Arr 109 b1 [(.int .i64 k.1), (.int .i64 k.2.1), (.int .i64 k.2.2)]), (Arr 84 b3 (([(.bool (decide (bt Ds k j.toNat 0))), (.bool (decide (bt Ds k j.toNat 1))), (.bool (decide (bt Ds k j.toNat 2)))]).set (0 + (j).toNat) (.bool (decide ((gi [k.1, k.2.1, k.2.2] (j)) = 1)))))] from by rw [show ([(.bool (decide (bt Ds k (j + 1).toNat 0))), (.bool (decide (bt Ds k (j + 1).toNat 1))), (.bool (decide (bt Ds k (j + 1).toNat 2)))] : List Value) = ([(.bool (decide (bt Ds k j.toNat 0))), (.bool (decide (bt Ds k j.toNat 1))), (.bool (decide (bt Ds k j.toNat 2)))] : List Value).set (0 + j.toNat) (.bool (decide (gi [k.1, k.2.1, k.2.2] j = 1))) from (btL_step (by omega) (by omega)).symm]), by omega, by omega⟩, by omega⟩
    ·
     refine vc_exit ?_
     refine blockQ_hit ?_
     refine vc_seq ?_
     refine vc_region ?_
     refine oq (qv_ldp (v := (Value.func (.func fid) #[] fcaps.toArray)) Try.plain85 rfl (inVc hE.cf) rfl) ?_
     refine oq (qv_ldm (vs := [(.bool (decide (bt Ds k j.toNat 0))), (.bool (decide (bt Ds k j.toNat 1))), (.bool (decide (bt Ds k j.toNat 2)))]) Try.agg84 rfl (inOc (k := 5) rfl) rfl rfl) ?_
     refine oq (qv_call (v := (.bool (decide (F (decide (bt Ds k j.toNat 0)) (decide (bt Ds k j.toNat 1)) (decide (bt Ds k j.toNat 2)) = true)))) (FnC.boolD (hE.f _ (Vc.Sub.refl _) _ _ _)) rfl rfl) ?_
     refine ops_nil ?_
     refine vc_if rfl (fun c5 => ?_) (fun c5 => ?_)
     ·
      refine vc_region ?_
      refine oq (qv_as (Value.int .i64 1) rfl) ?_
      refine ops_nil ?_
      refine vc_seq ?_
      refine vc_region ?_
      refine oq (qv_ldp (v := (Value.map (some bd))) Try.plain107 rfl (inVc hE.cd) rfl) ?_
      refine oq (qv_ldm (vs := [(.int .i64 k.1), (.int .i64 k.2.1), (.int .i64 k.2.2)]) Try.agg109 rfl (inOc (k := 4) rfl) rfl rfl) ?_
      refine oq (qv_mv (Value.int .i64 1) rfl) ?_
      refine ops_mapset (k := 3) (key := k) (v := 1) Try.underlying107 k3_key rfl rfl rfl rfl ?_
      refine ops_nil ?_
      refine vc_seq ?_
      refine vc_res (σ' := [(Arr 95 bb [u, (Value.map (some bi))]), (Gr 42 3 u M.length ((fks M))), (Mf bi fkv (Value.int .i64) (idxF M)), (Mf bd kv (Value.int .i64) (setF Dn k 1)), (Arr 109 b1 [(.int .i64 k.1), (.int .i64 k.2.1), (.int .i64 k.2.2)]), (Arr 84 b3 [(.bool (decide (bt Ds k j.toNat 0))), (.bool (decide (bt Ds k j.toNat 1))), (.bool (decide (bt Ds k j.toNat 2)))])]) rfl ?_
      refine vc_region ?_
      refine oq (qv_mv (Value.int .i64 1) rfl) ?_
      refine oq (qv_as (Value.int .i64 1) rfl) ?_
      refine ops_nil ?_
      refine vc_drop [(Arr 95 bb [u, (Value.map (some bi))]), (Gr 42 3 u M.length ((fks M))), (Mf bi fkv (Value.int .i64) (idxF M)), (Mf bd kv (Value.int .i64) (setF Dn k 1)), (Arr 109 b1 [(Value.int .i64 (k.1)), (Value.int .i64 (k.2.1)), (Value.int .i64 (k.2.2))])] [(Arr 84 b3 [(Value.bool (decide (bt Ds k j.toNat 0))), (Value.bool (decide (bt Ds k j.toNat 1))), (Value.bool (decide (bt Ds k j.toNat 2)))])] ((List.perm_middle (l₁ := [(Arr 95 bb [u, (Value.map (some bi))]), (Gr 42 3 u M.length ((fks M))), (Mf bi fkv (Value.int .i64) (idxF M)), (Mf bd kv (Value.int .i64) (setF Dn k 1)), (Arr 109 b1 [(Value.int .i64 (k.1)), (Value.int .i64 (k.2.1)), (Value.int .i64 (k.2.2))])]) (l₂ := [])).trans (List.perm_append_comm (l₁ := [(Arr 84 b3 [(Value.bool (decide (bt Ds k j.toNat 0))), (Value.bool (decide (bt Ds k j.toNat 1))), (Value.bool (decide (bt Ds k j.toNat 2)))])]))) ?_
      refine vc_drop [(Arr 95 bb [u, (Value.map (some bi))]), (Gr 42 3 u M.length ((fks M))), (Mf bi fkv (Value.int .i64) (idxF M)), (Mf bd kv (Value.int .i64) (setF Dn k 1))] [(Arr 109 b1 [(Value.int .i64 (k.1)), (Value.int .i64 (k.2.1)), (Value.int .i64 (k.2.2))])] ((List.perm_middle (l₁ := [(Arr 95 bb [u, (Value.map (some bi))]), (Gr 42 3 u M.length ((fks M))), (Mf bi fkv (Value.int .i64) (idxF M)), (Mf bd kv (Value.int .i64) (setF Dn k 1))]) (l₂ := [])).trans (List.perm_append_comm (l₁ := [(Arr 109 b1 [(Value.int .i64 (k.1)), (Value.int .i64 (k.2.1)), (Value.int .i64 (k.2.2))])]))) ?_
      refine vc_ret ?_
      refine rq1 (Value.int .i64 1) rfl ?_
      exact ⟨M, setF Dn k 1, 1, u, rfl, rfl, comb_leaf hI hd hK (by omega) (n := j.toNat) (by omega) (if_pos c5).symm⟩
     ·
      refine vc_skip ?_
      refine vc_seq ?_
      refine vc_region ?_
      refine oq (qv_ldp (v := (Value.map (some bd))) Try.plain107 rfl (inVc hE.cd) rfl) ?_
      refine oq (qv_ldm (vs := [(.int .i64 k.1), (.int .i64 k.2.1), (.int .i64 k.2.2)]) Try.agg109 rfl (inOc (k := 4) rfl) rfl rfl) ?_
      refine oq (qv_mv (Value.int .i64 0) rfl) ?_
      refine ops_mapset (k := 3) (key := k) (v := 0) Try.underlying107 k3_key rfl rfl rfl rfl ?_
      refine ops_nil ?_
      refine vc_seq ?_
      refine vc_res (σ' := [(Arr 95 bb [u, (Value.map (some bi))]), (Gr 42 3 u M.length ((fks M))), (Mf bi fkv (Value.int .i64) (idxF M)), (Mf bd kv (Value.int .i64) (setF Dn k 0)), (Arr 109 b1 [(.int .i64 k.1), (.int .i64 k.2.1), (.int .i64 k.2.2)]), (Arr 84 b3 [(.bool (decide (bt Ds k j.toNat 0))), (.bool (decide (bt Ds k j.toNat 1))), (.bool (decide (bt Ds k j.toNat 2)))])]) rfl ?_
      refine vc_region ?_
      refine oq (qv_mv (Value.int .i64 0) rfl) ?_
      refine oq (qv_as (Value.int .i64 0) rfl) ?_
      refine ops_nil ?_
      refine vc_drop [(Arr 95 bb [u, (Value.map (some bi))]), (Gr 42 3 u M.length ((fks M))), (Mf bi fkv (Value.int .i64) (idxF M)), (Mf bd kv (Value.int .i64) (setF Dn k 0)), (Arr 109 b1 [(Value.int .i64 (k.1)), (Value.int .i64 (k.2.1)), (Value.int .i64 (k.2.2))])] [(Arr 84 b3 [(Value.bool (decide (bt Ds k j.toNat 0))), (Value.bool (decide (bt Ds k j.toNat 1))), (Value.bool (decide (bt Ds k j.toNat 2)))])] ((List.perm_middle (l₁ := [(Arr 95 bb [u, (Value.map (some bi))]), (Gr 42 3 u M.length ((fks M))), (Mf bi fkv (Value.int .i64) (idxF M)), (Mf bd kv (Value.int .i64) (setF Dn k 0)), (Arr 109 b1 [(Value.int .i64 (k.1)), (Value.int .i64 (k.2.1)), (Value.int .i64 (k.2.2))])]) (l₂ := [])).trans (List.perm_append_comm (l₁ := [(Arr 84 b3 [(Value.bool (decide (bt Ds k j.toNat 0))), (Value.bool (decide (bt Ds k j.toNat 1))), (Value.bool (decide (bt Ds k j.toNat 2)))])]))) ?_
      refine vc_drop [(Arr 95 bb [u, (Value.map (some bi))]), (Gr 42 3 u M.length ((fks M))), (Mf bi fkv (Value.int .i64) (idxF M)), (Mf bd kv (Value.int .i64) (setF Dn k 0))] [(Arr 109 b1 [(Value.int .i64 (k.1)), (Value.int .i64 (k.2.1)), (Value.int .i64 (k.2.2))])] ((List.perm_middle (l₁ := [(Arr 95 bb [u, (Value.map (some bi))]), (Gr 42 3 u M.length ((fks M))), (Mf bi fkv (Value.int .i64) (idxF M)), (Mf bd kv (Value.int .i64) (setF Dn k 0))]) (l₂ := [])).trans (List.perm_append_comm (l₁ := [(Arr 109 b1 [(Value.int .i64 (k.1)), (Value.int .i64 (k.2.1)), (Value.int .i64 (k.2.2))])]))) ?_
      refine vc_ret ?_
      refine rq1 (Value.int .i64 0) rfl ?_
      exact ⟨M, setF Dn k 0, 0, u, rfl, rfl, comb_leaf hI hd hK (by omega) (n := j.toNat) (by omega) (if_neg c5).symm⟩
   ·
    refine vc_seq ?_
    have ht : mlv vars Ds k < vars := by omega
    have l1 := lk_ok hd hK ht False
    have l2 := lk_ok hd hK ht True
    have w1 := lk_pow hd hK ht False
    have w2 := lk_pow hd hK ht True
    have mb1 := mlv_bd hd l1.1
    have mb2 := mlv_bd hd l2.1
    have pw1 := one_le_two_pow' (vars - mlv vars Ds (lk_ vars Ds k False)).toNat
    have pw2 := one_le_two_pow' (vars - mlv vars Ds (lk_ vars Ds k True)).toNat
    refine vc_join (α := Nat × Nat) (fun xx => [(0, (.agg #[(.int .i64 k.1), (.int .i64 k.2.1), (.int .i64 k.2.2)])), (1, (Value.pointer (some ⟨pd, 0, none⟩))), (2, (Value.pointer (some ⟨pv, 0, none⟩))), (3, (Value.pointer (some ⟨pl, 0, none⟩))), (4, (Value.pointer (some ⟨pf, 0, none⟩))), (5, (Value.pointer (some ⟨pr, 0, none⟩))), (6, (Value.pointer (some ⟨pm, 0, none⟩))), (7, (Value.pointer (some ⟨b1, 0, none⟩))), (8, (Value.int .i64 0)), (9, (.int .i64 ((Dn k).getD 0))), (10, (.bool (decide ((Dn k).isSome = true)))), (11, (.int .i64 (tpN vars Ds k i.toNat))), (14, (Value.int .i64 0)), (17, (Value.pointer (some ⟨xx.1, 0, none⟩))), (18, (Value.pointer (some ⟨xx.2, 0, none⟩))), (29, (.bool (decide ((Dn k).isSome = true)))), (32, lv), (33, (.int .i64 ((Ds.length : Int)))), (34, (Value.int .i64 i)), (35, (.bool (decide (i < ((Ds.length : Int)))))), (49, (.bool (decide ((tpN vars Ds k i.toNat) = vars))))]) (fun xx V' σ' => V = V' ∧ [(Arr 95 bb [u, (Value.map (some bi))]), (Gr 42 3 u M.length ((fks M))), (Mf bi fkv (Value.int .i64) (idxF M)), (Mf bd kv (Value.int .i64) Dn), (Arr 109 b1 [(.int .i64 k.1), (.int .i64 k.2.1), (.int .i64 k.2.2)]), (Arr 109 xx.1 [(.int .i64 k.1), (.int .i64 k.2.1), (.int .i64 k.2.2)]), (Arr 109 xx.2 [(.int .i64 k.1), (.int .i64 k.2.1), (.int .i64 k.2.2)])] = σ') ?_ ?_
    ·
     refine vc_region_E (τ := []) (n := 6) [(Arr 95 bb [u, (Value.map (some bi))]), (Gr 42 3 u M.length ((fks M))), (Mf bi fkv (Value.int .i64) (idxF M)), (Mf bd kv (Value.int .i64) Dn), (Arr 109 b1 [(.int .i64 k.1), (.int .i64 k.2.1), (.int .i64 k.2.2)])] Try.mixed (perm_nil _) rfl ?_
     refine eq_ (i := 0) (by kernel_rfl) rfl (qv_ldm (vs := [(.int .i64 k.1), (.int .i64 k.2.1), (.int .i64 k.2.2)]) Try.agg109 rfl (inOc (k := 4) rfl) rfl rfl) ?_
     refine eq_ (i := 1) (by kernel_rfl) rfl (qv_ldm (vs := [(.int .i64 k.1), (.int .i64 k.2.1), (.int .i64 k.2.2)]) Try.agg109 rfl (inOc (k := 4) rfl) rfl rfl) ?_
     refine el2 (i := 2) (j := 3) (by kernel_rfl) ?_ ?_
     ·
      refine ⟨_, rfl, ?_⟩
      refine ops_alloc Try.ti109 rfl (fun b4 => ?_)
      refine ops_nil ⟨[(Arr 95 bb [u, (Value.map (some bi))]), (Gr 42 3 u M.length ((fks M))), (Mf bi fkv (Value.int .i64) (idxF M)), (Mf bd kv (Value.int .i64) Dn), (Arr 109 b1 [(.int .i64 k.1), (.int .i64 k.2.1), (.int .i64 k.2.2)])], [(Arr 109 b4 [(Value.int .i64 0), (Value.int .i64 0), (Value.int .i64 0)])], (perm_idx _ _ [0, 1, 2, 3, 4, 5] rfl rfl), .inl ⟨(Sub.refl _), [], .refl _⟩, ?_⟩
      refine el1 (i := 3) (by kernel_rfl) ?_
      refine ⟨_, rfl, ?_⟩
      refine ops_alloc Try.ti109 rfl (fun b5 => ?_)
      refine ops_nil ⟨[(Arr 95 bb [u, (Value.map (some bi))]), (Gr 42 3 u M.length ((fks M))), (Mf bi fkv (Value.int .i64) (idxF M)), (Mf bd kv (Value.int .i64) Dn), (Arr 109 b1 [(.int .i64 k.1), (.int .i64 k.2.1), (.int .i64 k.2.2)]), (Arr 109 b5 [(Value.int .i64 0), (Value.int .i64 0), (Value.int .i64 0)])], [(Arr 109 b4 [(Value.int .i64 0), (Value.int .i64 0), (Value.int .i64 0)])], (perm_idx _ _ [0, 1, 2, 3, 4, 6, 5] rfl rfl), .inl ⟨(Sub.refl _), [(Arr 109 b5 [(Value.int .i64 0), (Value.int .i64 0), (Value.int .i64 0)])], .refl _⟩, ?_⟩
      refine el1 (i := 4) (by kernel_rfl) ?_
      refine ⟨_, rfl, ?_⟩
      refine ops_stw (k := 5) (vs := [(.int .i64 k.1), (.int .i64 k.2.1), (.int .i64 k.2.2)]) Try.size109 rfl rfl rfl rfl rfl rfl ?_
      refine ops_nil ⟨[(Arr 95 bb [u, (Value.map (some bi))]), (Gr 42 3 u M.length ((fks M))), (Mf bi fkv (Value.int .i64) (idxF M)), (Mf bd kv (Value.int .i64) Dn), (Arr 109 b1 [(.int .i64 k.1), (.int .i64 k.2.1), (.int .i64 k.2.2)]), (Arr 109 b5 [(Value.int .i64 0), (Value.int .i64 0), (Value.int .i64 0)])], [(Arr 109 b4 [(.int .i64 k.1), (.int .i64 k.2.1), (.int .i64 k.2.2)])], (perm_idx _ _ [0, 1, 2, 3, 4, 6, 5] rfl rfl), .inl ⟨(Sub.refl _), [], .refl _⟩, ?_⟩
      refine el1 (i := 5) (by kernel_rfl) ?_
      refine ⟨_, rfl, ?_⟩
      refine ops_stw (k := 6) (vs := [(.int .i64 k.1), (.int .i64 k.2.1), (.int .i64 k.2.2)]) Try.size109 rfl rfl rfl rfl rfl rfl ?_
      refine ops_nil ⟨[(Arr 95 bb [u, (Value.map (some bi))]), (Gr 42 3 u M.length ((fks M))), (Mf bi fkv (Value.int .i64) (idxF M)), (Mf bd kv (Value.int .i64) Dn), (Arr 109 b1 [(.int .i64 k.1), (.int .i64 k.2.1), (.int .i64 k.2.2)]), (Arr 109 b5 [(.int .i64 k.1), (.int .i64 k.2.1), (.int .i64 k.2.2)])], [(Arr 109 b4 [(.int .i64 k.1), (.int .i64 k.2.1), (.int .i64 k.2.2)])], (perm_idx _ _ [0, 1, 2, 3, 4, 6, 5] rfl rfl), .inr (by kernel_rfl), ?_⟩
      refine enil (σ' := [(Arr 95 bb [u, (Value.map (some bi))]), (Gr 42 3 u M.length ((fks M))), (Mf bi fkv (Value.int .i64) (idxF M)), (Mf bd kv (Value.int .i64) Dn), (Arr 109 b1 [(.int .i64 k.1), (.int .i64 k.2.1), (.int .i64 k.2.2)]), (Arr 109 b4 [(.int .i64 k.1), (.int .i64 k.2.1), (.int .i64 k.2.2)]), (Arr 109 b5 [(.int .i64 k.1), (.int .i64 k.2.1), (.int .i64 k.2.2)])]) (by kernel_rfl) (perm_idx _ _ [0, 1, 2, 3, 4, 5, 6] rfl rfl) ⟨(b4, b5), ⟨rfl, rfl, rfl, rfl, rfl, rfl, rfl, rfl, rfl, rfl, rfl, rfl, rfl, rfl, rfl, rfl, rfl, rfl, rfl, rfl, rfl, trivial⟩, rfl, rfl⟩
     ·
      refine ⟨_, rfl, ?_⟩
      refine ops_alloc Try.ti109 rfl (fun b6 => ?_)
      refine ops_nil ⟨[(Arr 95 bb [u, (Value.map (some bi))]), (Gr 42 3 u M.length ((fks M))), (Mf bi fkv (Value.int .i64) (idxF M)), (Mf bd kv (Value.int .i64) Dn), (Arr 109 b1 [(.int .i64 k.1), (.int .i64 k.2.1), (.int .i64 k.2.2)]), (Arr 109 b6 [(Value.int .i64 0), (Value.int .i64 0), (Value.int .i64 0)])], [], (perm_nil _), .inl ⟨(Sub.refl _), [(Arr 109 b6 [(Value.int .i64 0), (Value.int .i64 0), (Value.int .i64 0)])], .refl _⟩, ?_⟩
      refine el1 (i := 2) (by kernel_rfl) ?_
      refine ⟨_, rfl, ?_⟩
      refine ops_alloc Try.ti109 rfl (fun b7 => ?_)
      refine ops_nil ⟨[(Arr 95 bb [u, (Value.map (some bi))]), (Gr 42 3 u M.length ((fks M))), (Mf bi fkv (Value.int .i64) (idxF M)), (Mf bd kv (Value.int .i64) Dn), (Arr 109 b1 [(.int .i64 k.1), (.int .i64 k.2.1), (.int .i64 k.2.2)]), (Arr 109 b6 [(Value.int .i64 0), (Value.int .i64 0), (Value.int .i64 0)])], [(Arr 109 b7 [(Value.int .i64 0), (Value.int .i64 0), (Value.int .i64 0)])], (perm_idx _ _ [0, 1, 2, 3, 4, 5, 6] rfl rfl), .inl ⟨(Sub.refl _), [], .refl _⟩, ?_⟩
      refine el1 (i := 4) (by kernel_rfl) ?_
      refine ⟨_, rfl, ?_⟩
      refine ops_stw (k := 6) (vs := [(.int .i64 k.1), (.int .i64 k.2.1), (.int .i64 k.2.2)]) Try.size109 rfl rfl rfl rfl rfl rfl ?_
      refine ops_nil ⟨[(Arr 95 bb [u, (Value.map (some bi))]), (Gr 42 3 u M.length ((fks M))), (Mf bi fkv (Value.int .i64) (idxF M)), (Mf bd kv (Value.int .i64) Dn), (Arr 109 b1 [(.int .i64 k.1), (.int .i64 k.2.1), (.int .i64 k.2.2)]), (Arr 109 b6 [(Value.int .i64 0), (Value.int .i64 0), (Value.int .i64 0)])], [(Arr 109 b7 [(.int .i64 k.1), (.int .i64 k.2.1), (.int .i64 k.2.2)])], (perm_idx _ _ [0, 1, 2, 3, 4, 5, 6] rfl rfl), .inl ⟨(Sub.refl _), [], .refl _⟩, ?_⟩
      refine el1 (i := 5) (by kernel_rfl) ?_
      refine ⟨_, rfl, ?_⟩
      refine ops_stw (k := 5) (vs := [(.int .i64 k.1), (.int .i64 k.2.1), (.int .i64 k.2.2)]) Try.size109 rfl rfl rfl rfl rfl rfl ?_
      refine ops_nil ⟨[(Arr 95 bb [u, (Value.map (some bi))]), (Gr 42 3 u M.length ((fks M))), (Mf bi fkv (Value.int .i64) (idxF M)), (Mf bd kv (Value.int .i64) Dn), (Arr 109 b1 [(.int .i64 k.1), (.int .i64 k.2.1), (.int .i64 k.2.2)]), (Arr 109 b6 [(.int .i64 k.1), (.int .i64 k.2.1), (.int .i64 k.2.2)])], [(Arr 109 b7 [(.int .i64 k.1), (.int .i64 k.2.1), (.int .i64 k.2.2)])], (perm_idx _ _ [0, 1, 2, 3, 4, 5, 6] rfl rfl), .inr (by kernel_rfl), ?_⟩
      refine enil (σ' := [(Arr 95 bb [u, (Value.map (some bi))]), (Gr 42 3 u M.length ((fks M))), (Mf bi fkv (Value.int .i64) (idxF M)), (Mf bd kv (Value.int .i64) Dn), (Arr 109 b1 [(.int .i64 k.1), (.int .i64 k.2.1), (.int .i64 k.2.2)]), (Arr 109 b7 [(.int .i64 k.1), (.int .i64 k.2.1), (.int .i64 k.2.2)]), (Arr 109 b6 [(.int .i64 k.1), (.int .i64 k.2.1), (.int .i64 k.2.2)])]) (by kernel_rfl) (perm_idx _ _ [0, 1, 2, 3, 4, 6, 5] rfl rfl) ⟨(b7, b6), ⟨rfl, rfl, rfl, rfl, rfl, rfl, rfl, rfl, rfl, rfl, rfl, rfl, rfl, rfl, rfl, rfl, rfl, rfl, rfl, rfl, rfl, trivial⟩, rfl, rfl⟩
    rintro ⟨z17, z18⟩ e3 Vj1 σj1 hJ1
    obtain ⟨rfl, rfl⟩ : V = Vj1 ∧ [(Arr 95 bb [u, (Value.map (some bi))]), (Gr 42 3 u M.length ((fks M))), (Mf bi fkv (Value.int .i64) (idxF M)), (Mf bd kv (Value.int .i64) Dn), (Arr 109 b1 [(.int .i64 k.1), (.int .i64 k.2.1), (.int .i64 k.2.2)]), (Arr 109 z17 [(.int .i64 k.1), (.int .i64 k.2.1), (.int .i64 k.2.2)]), (Arr 109 z18 [(.int .i64 k.1), (.int .i64 k.2.1), (.int .i64 k.2.2)])] = σj1 := hJ1
    change VC _ _ _ _ _ _ (upds 106 [(0, (.agg #[(.int .i64 k.1), (.int .i64 k.2.1), (.int .i64 k.2.2)])), (1, (Value.pointer (some ⟨pd, 0, none⟩))), (2, (Value.pointer (some ⟨pv, 0, none⟩))), (3, (Value.pointer (some ⟨pl, 0, none⟩))), (4, (Value.pointer (some ⟨pf, 0, none⟩))), (5, (Value.pointer (some ⟨pr, 0, none⟩))), (6, (Value.pointer (some ⟨pm, 0, none⟩))), (7, (Value.pointer (some ⟨b1, 0, none⟩))), (8, (Value.int .i64 0)), (9, (.int .i64 ((Dn k).getD 0))), (10, (.bool (decide ((Dn k).isSome = true)))), (11, (.int .i64 (tpN vars Ds k i.toNat))), (14, (Value.int .i64 0)), (17, (Value.pointer (some ⟨z17, 0, none⟩))), (18, (Value.pointer (some ⟨z18, 0, none⟩))), (29, (.bool (decide ((Dn k).isSome = true)))), (32, lv), (33, (.int .i64 ((Ds.length : Int)))), (34, (Value.int .i64 i)), (35, (.bool (decide (i < ((Ds.length : Int)))))), (49, (.bool (decide ((tpN vars Ds k i.toNat) = vars))))] e3) _ _
    refine vc_seq ?_
    refine vc_seq ?_
    refine vc_region ?_
    refine oq (qv_ldp (v := lv) Try.plain83 rfl (inVc hE.cl) rfl) ?_
    refine oq (qv_lenSS Try.underlying83 rfl hE.bl.sl) ?_
    refine oq (qv_mv (Value.int .i64 0) rfl) ?_
    refine ops_nil ?_
    refine vc_block ?_
    refine vc_loop (α := Int) (fun (xx : Int) => [(0, (.agg #[(.int .i64 k.1), (.int .i64 k.2.1), (.int .i64 k.2.2)])), (1, (Value.pointer (some ⟨pd, 0, none⟩))), (2, (Value.pointer (some ⟨pv, 0, none⟩))), (3, (Value.pointer (some ⟨pl, 0, none⟩))), (4, (Value.pointer (some ⟨pf, 0, none⟩))), (5, (Value.pointer (some ⟨pr, 0, none⟩))), (6, (Value.pointer (some ⟨pm, 0, none⟩))), (7, (Value.pointer (some ⟨b1, 0, none⟩))), (8, (Value.int .i64 0)), (9, (.int .i64 ((Dn k).getD 0))), (10, (.bool (decide ((Dn k).isSome = true)))), (11, (.int .i64 (tpN vars Ds k i.toNat))), (14, (Value.int .i64 0)), (17, (Value.pointer (some ⟨z17, 0, none⟩))), (18, (Value.pointer (some ⟨z18, 0, none⟩))), (29, (.bool (decide ((Dn k).isSome = true)))), (32, lv), (33, (.int .i64 ((Ds.length : Int)))), (34, (Value.int .i64 i)), (35, (.bool (decide (i < ((Ds.length : Int)))))), (49, (.bool (decide ((tpN vars Ds k i.toNat) = vars)))), (67, lv), (68, (.int .i64 ((Ds.length : Int)))), (69, (Value.int .i64 xx))]) (fun (xx : Int) V' σ' => V = V' ∧ [(Arr 95 bb [u, (Value.map (some bi))]), (Gr 42 3 u M.length ((fks M))), (Mf bi fkv (Value.int .i64) (idxF M)), (Mf bd kv (Value.int .i64) Dn), (Arr 109 b1 [(.int .i64 k.1), (.int .i64 k.2.1), (.int .i64 k.2.2)]), (Arr 109 z17 [(.int .i64 (lw vars Ds k (tpN vars Ds k i.toNat) False xx.toNat 0)), (.int .i64 (lw vars Ds k (tpN vars Ds k i.toNat) False xx.toNat 1)), (.int .i64 (lw vars Ds k (tpN vars Ds k i.toNat) False xx.toNat 2))]), (Arr 109 z18 [(.int .i64 (lw vars Ds k (tpN vars Ds k i.toNat) True xx.toNat 0)), (.int .i64 (lw vars Ds k (tpN vars Ds k i.toNat) True xx.toNat 1)), (.int .i64 (lw vars Ds k (tpN vars Ds k i.toNat) True xx.toNat 2))])] = σ' ∧ 0 ≤ xx ∧ xx ≤ Ds.length) (fun (xx : Int) => (Ds.length - xx).toNat) (0) ?_ ?_ ?_
    · exact ⟨rfl, rfl, rfl, rfl, rfl, rfl, rfl, rfl, rfl, rfl, rfl, rfl, rfl, rfl, rfl, rfl, rfl, rfl, rfl, rfl, rfl, rfl, rfl, rfl, trivial⟩
    · exact ⟨rfl, (show [(Arr 95 bb [u, (Value.map (some bi))]), (Gr 42 3 u M.length ((fks M))), (Mf bi fkv (Value.int .i64) (idxF M)), (Mf bd kv (Value.int .i64) Dn), (Arr 109 b1 [(.int .i64 k.1), (.int .i64 k.2.1), (.int .i64 k.2.2)]), (Arr 109 z17 [(.int .i64 (lw vars Ds k (tpN vars Ds k i.toNat) False (0 : Int).toNat 0)), (.int .i64 (lw vars Ds k (tpN vars Ds k i.toNat) False (0 : Int).toNat 1)), (.int .i64 (lw vars Ds k (tpN vars Ds k i.toNat) False (0 : Int).toNat 2))]), (Arr 109 z18 [(.int .i64 (lw vars Ds k (tpN vars Ds k i.toNat) True (0 : Int).toNat 0)), (.int .i64 (lw vars Ds k (tpN vars Ds k i.toNat) True (0 : Int).toNat 1)), (.int .i64 (lw vars Ds k (tpN vars Ds k i.toNat) True (0 : Int).toNat 2))])] = [(Arr 95 bb [u, (Value.map (some bi))]), (Gr 42 3 u M.length ((fks M))), (Mf bi fkv (Value.int .i64) (idxF M)), (Mf bd kv (Value.int .i64) Dn), (Arr 109 b1 [(.int .i64 k.1), (.int .i64 k.2.1), (.int .i64 k.2.2)]), (Arr 109 z17 [(.int .i64 k.1), (.int .i64 k.2.1), (.int .i64 k.2.2)]), (Arr 109 z18 [(.int .i64 k.1), (.int .i64 k.2.1), (.int .i64 k.2.2)])] from by simp only [show Int.toNat 0 = 0 from rfl, lw_0]; rfl), by omega, by omega⟩
    rintro q e4 V2l σ2l hI2
    obtain ⟨rfl, rfl, i5, i6⟩ : V = V2l ∧ [(Arr 95 bb [u, (Value.map (some bi))]), (Gr 42 3 u M.length ((fks M))), (Mf bi fkv (Value.int .i64) (idxF M)), (Mf bd kv (Value.int .i64) Dn), (Arr 109 b1 [(.int .i64 k.1), (.int .i64 k.2.1), (.int .i64 k.2.2)]), (Arr 109 z17 [(.int .i64 (lw vars Ds k (tpN vars Ds k i.toNat) False q.toNat 0)), (.int .i64 (lw vars Ds k (tpN vars Ds k i.toNat) False q.toNat 1)), (.int .i64 (lw vars Ds k (tpN vars Ds k i.toNat) False q.toNat 2))]), (Arr 109 z18 [(.int .i64 (lw vars Ds k (tpN vars Ds k i.toNat) True q.toNat 0)), (.int .i64 (lw vars Ds k (tpN vars Ds k i.toNat) True q.toNat 1)), (.int .i64 (lw vars Ds k (tpN vars Ds k i.toNat) True q.toNat 2))])] = σ2l ∧ 0 ≤ q ∧ q ≤ Ds.length := hI2
    refine vc_seq ?_
    refine vc_res (σ' := [(Arr 95 bb [u, (Value.map (some bi))]), (Gr 42 3 u M.length ((fks M))), (Mf bi fkv (Value.int .i64) (idxF M)), (Mf bd kv (Value.int .i64) Dn), (Arr 109 b1 [(.int .i64 k.1), (.int .i64 k.2.1), (.int .i64 k.2.2)]), (Arr 109 z17 [(.int .i64 (lw vars Ds k (tpN vars Ds k i.toNat) False q.toNat 0)), (.int .i64 (lw vars Ds k (tpN vars Ds k i.toNat) False q.toNat 1)), (.int .i64 (lw vars Ds k (tpN vars Ds k i.toNat) False q.toNat 2))]), (Arr 109 z18 [(.int .i64 (lw vars Ds k (tpN vars Ds k i.toNat) True q.toNat 0)), (.int .i64 (lw vars Ds k (tpN vars Ds k i.toNat) True q.toNat 1)), (.int .i64 (lw vars Ds k (tpN vars Ds k i.toNat) True q.toNat 2))])]) rfl ?_
    refine vc_region ?_
    refine oq (qv_lss rfl rfl) ?_
    refine ops_nil ?_
    refine vc_seq ?_
    refine vc_if rfl (fun c6 => ?_) (fun c6 => ?_)
    ·
     refine vc_skip ?_
     refine vc_seq ?_
     refine vc_block ?_
     refine vc_seq ?_
     have hkq := hK q (by omega) (by omega)
     have hvq := hE.v q (by omega) (by omega)
     have hkr := hkq.1.1
     have hkr2 := hkq.1.2
     refine vc_region ?_
     refine oq (qv_mv (Value.int .i64 q) rfl) ?_
     refine oq (qv_ias (v := lv) (i := q) Try.underlying83 Try.size24 rfl hE.bl.sl rfl (by omega) (by omega)) ?_
     refine oq (qv_lds (v := lv) (i := q) (vs := [(.int .i64 ((dg Ds (q)).v)), (gv nvs (q)), (.int .i64 ((dg Ds (q)).r))]) Try.agg24 rfl hE.bl.sl (by omega) (by omega) (bdls_at (by omega) (by omega))) ?_
     refine ops_alloc Try.ti24 rfl (fun b8 => ?_)
     refine oq (qv_as (Value.int .i64 q) rfl) ?_
     refine ops_stw (k := 7) (vs := [(.int .i64 ((dg Ds (q)).v)), (gv nvs (q)), (.int .i64 ((dg Ds (q)).r))]) Try.size24 rfl rfl rfl (allc rfl (allc (SlS.one (hE.bl.at_ (q) (by omega) (by omega))) (allc rfl rfl))) rfl rfl ?_
     refine ops_nil ?_
     refine vc_res (σ' := [(Arr 95 bb [u, (Value.map (some bi))]), (Gr 42 3 u M.length ((fks M))), (Mf bi fkv (Value.int .i64) (idxF M)), (Mf bd kv (Value.int .i64) Dn), (Arr 109 b1 [(.int .i64 k.1), (.int .i64 k.2.1), (.int .i64 k.2.2)]), (Arr 109 z17 [(.int .i64 (lw vars Ds k (tpN vars Ds k i.toNat) False q.toNat 0)), (.int .i64 (lw vars Ds k (tpN vars Ds k i.toNat) False q.toNat 1)), (.int .i64 (lw vars Ds k (tpN vars Ds k i.toNat) False q.toNat 2))]), (Arr 109 z18 [(.int .i64 (lw vars Ds k (tpN vars Ds k i.toNat) True q.toNat 0)), (.int .i64 (lw vars Ds k (tpN vars Ds k i.toNat) True q.toNat 1)), (.int .i64 (lw vars Ds k (tpN vars Ds k i.toNat) True q.toNat 2))]), (Arr 24 b8 [(.int .i64 ((dg Ds (q)).v)), (gv nvs (q)), (.int .i64 ((dg Ds (q)).r))])]) rfl ?_
     refine vc_region_order (τ := [(Arr 109 z17 [(.int .i64 (lw vars Ds k (tpN vars Ds k i.toNat) False q.toNat 0)), (.int .i64 (lw vars Ds k (tpN vars Ds k i.toNat) False q.toNat 1)), (.int .i64 (lw vars Ds k (tpN vars Ds k i.toNat) False q.toNat 2))])]) [(0, false), (1, false), (2, false), (3, false), (4, false), (5, false), (6, false), (7, false), (8, false), (9, false), (10, false), (11, false), (12, false), (13, false), (14, false), (15, true), (16, false), (17, true)] [(Arr 95 bb [u, (Value.map (some bi))]), (Gr 42 3 u M.length ((fks M))), (Mf bi fkv (Value.int .i64) (idxF M)), (Mf bd kv (Value.int .i64) Dn), (Arr 109 b1 [(.int .i64 k.1), (.int .i64 k.2.1), (.int .i64 k.2.2)]), (Arr 109 z18 [(.int .i64 (lw vars Ds k (tpN vars Ds k i.toNat) True q.toNat 0)), (.int .i64 (lw vars Ds k (tpN vars Ds k i.toNat) True q.toNat 1)), (.int .i64 (lw vars Ds k (tpN vars Ds k i.toNat) True q.toNat 2))]), (Arr 24 b8 [(.int .i64 ((dg Ds (q)).v)), (gv nvs (q)), (.int .i64 ((dg Ds (q)).r))])] Try.mixed (perm_idx _ _ [0, 1, 2, 3, 4, 6, 7, 5] rfl rfl) (by kernel_rfl) ?_
     refine rq rfl (qv_mv (Value.int .i64 q) rfl) ?_
     refine rq rfl (qv_mv (Value.int .i64 q) rfl) ?_
     refine rq rfl (qv_ldm (vs := [(.int .i64 ((dg Ds (q)).v)), (gv nvs (q)), (.int .i64 ((dg Ds (q)).r))]) Try.agg24 rfl (inOc (k := 6) rfl) rfl rfl) ?_
     refine rq rfl (qv_mv (Value.int .i64 q) rfl) ?_
     refine rq rfl (qv_iav (i := q) (off := 0) Try.underlying109 Try.size3 rfl rfl (by omega) (by omega)) ?_
     refine rq rfl (qv_ldp (v := (.int .i64 (gi [k.1, k.2.1, k.2.2] (q)))) Try.plain3 rfl (inOc (k := 4) rfl) (arr_at (ys := [k.1, k.2.1, k.2.2]) (by omega) (by simp; omega))) ?_
     refine rq rfl (qv_mv (.int .i64 (tpN vars Ds k i.toNat)) rfl) ?_
     refine rq rfl (qv_call (v := (.int .i64 (fol (dg Ds (q)).v (dg Ds (q)).N (gi [k.1, k.2.1, k.2.2] (q)) (tpN vars Ds k i.toNat) False))) (follow_c (hE.bl.at_ (q) (by omega) (by omega)) (r := gi [k.1, k.2.1, k.2.2] (q)) (x := tpN vars Ds k i.toNat) (hi := False) (by omega) (by omega) (by omega)) rfl rfl) ?_
     refine rq rfl (qv_ldm (vs := [(.int .i64 ((dg Ds (q)).v)), (gv nvs (q)), (.int .i64 ((dg Ds (q)).r))]) Try.agg24 rfl (inOc (k := 6) rfl) rfl rfl) ?_
     refine rq rfl (qv_mv (Value.int .i64 q) rfl) ?_
     refine rq rfl (qv_iav (i := q) (off := 0) Try.underlying109 Try.size3 rfl rfl (by omega) (by omega)) ?_
     refine rq rfl (qv_ldp (v := (.int .i64 (gi [k.1, k.2.1, k.2.2] (q)))) Try.plain3 rfl (inOc (k := 4) rfl) (arr_at (ys := [k.1, k.2.1, k.2.2]) (by omega) (by simp; omega))) ?_
     refine rq rfl (qv_mv (.int .i64 (tpN vars Ds k i.toNat)) rfl) ?_
     refine rq rfl (qv_call (v := (.int .i64 (fol (dg Ds (q)).v (dg Ds (q)).N (gi [k.1, k.2.1, k.2.2] (q)) (tpN vars Ds k i.toNat) True))) (follow_c (hE.bl.at_ (q) (by omega) (by omega)) (r := gi [k.1, k.2.1, k.2.2] (q)) (x := tpN vars Ds k i.toNat) (hi := True) (by omega) (by omega) (by omega)) rfl rfl) ?_
     refine rq rfl (qv_iav (i := q) (off := 0) Try.underlying109 Try.size3 rfl rfl (by omega) (by omega)) ?_
     refine rl rfl ?_
     refine ops_stp (k := 5) (off := 0 + (q).toNat) (cs := [(.int .i64 (lw vars Ds k (tpN vars Ds k i.toNat) False q.toNat 0)), (.int .i64 (lw vars Ds k (tpN vars Ds k i.toNat) False q.toNat 1)), (.int .i64 (lw vars Ds k (tpN vars Ds k i.toNat) False q.toNat 2))]) Try.size3 rfl (rfl : ev _ _ = (.int .i64 (fol (dg Ds (q)).v (dg Ds (q)).N (gi [k.1, k.2.1, k.2.2] (q)) (tpN vars Ds k i.toNat) False))) rfl rfl (by simp; omega) ?_
     refine ops_nil ⟨[(Arr 95 bb [u, (Value.map (some bi))]), (Gr 42 3 u M.length ((fks M))), (Mf bi fkv (Value.int .i64) (idxF M)), (Mf bd kv (Value.int .i64) Dn), (Arr 109 b1 [(.int .i64 k.1), (.int .i64 k.2.1), (.int .i64 k.2.2)]), (Arr 109 z18 [(.int .i64 (lw vars Ds k (tpN vars Ds k i.toNat) True q.toNat 0)), (.int .i64 (lw vars Ds k (tpN vars Ds k i.toNat) True q.toNat 1)), (.int .i64 (lw vars Ds k (tpN vars Ds k i.toNat) True q.toNat 2))]), (Arr 24 b8 [(.int .i64 ((dg Ds (q)).v)), (gv nvs (q)), (.int .i64 ((dg Ds (q)).r))])], [(Arr 109 z17 (([(.int .i64 (lw vars Ds k (tpN vars Ds k i.toNat) False q.toNat 0)), (.int .i64 (lw vars Ds k (tpN vars Ds k i.toNat) False q.toNat 1)), (.int .i64 (lw vars Ds k (tpN vars Ds k i.toNat) False q.toNat 2))]).set (0 + (q).toNat) (.int .i64 (fol (dg Ds (q)).v (dg Ds (q)).N (gi [k.1, k.2.1, k.2.2] (q)) (tpN vars Ds k i.toNat) False))))], (Sub.refl _), (perm_idx _ _ [0, 1, 2, 3, 4, 6, 7, 5] rfl rfl), ⟨[], .refl _⟩, ?_⟩
     refine rq rfl (qv_iav (i := q) (off := 0) Try.underlying109 Try.size3 rfl rfl (by omega) (by omega)) ?_
     refine rl1 (by kernel_rfl) rfl ?_
     refine ops_stp (k := 6) (off := 0 + (q).toNat) (cs := [(.int .i64 (lw vars Ds k (tpN vars Ds k i.toNat) True q.toNat 0)), (.int .i64 (lw vars Ds k (tpN vars Ds k i.toNat) True q.toNat 1)), (.int .i64 (lw vars Ds k (tpN vars Ds k i.toNat) True q.toNat 2))]) Try.size3 rfl (rfl : ev _ _ = (.int .i64 (fol (dg Ds (q)).v (dg Ds (q)).N (gi [k.1, k.2.1, k.2.2] (q)) (tpN vars Ds k i.toNat) True))) rfl rfl (by simp; omega) ?_
     refine ops_nil ⟨[(Arr 95 bb [u, (Value.map (some bi))]), (Gr 42 3 u M.length ((fks M))), (Mf bi fkv (Value.int .i64) (idxF M)), (Mf bd kv (Value.int .i64) Dn), (Arr 109 b1 [(.int .i64 k.1), (.int .i64 k.2.1), (.int .i64 k.2.2)]), (Arr 109 z18 (([(.int .i64 (lw vars Ds k (tpN vars Ds k i.toNat) True q.toNat 0)), (.int .i64 (lw vars Ds k (tpN vars Ds k i.toNat) True q.toNat 1)), (.int .i64 (lw vars Ds k (tpN vars Ds k i.toNat) True q.toNat 2))]).set (0 + (q).toNat) (.int .i64 (fol (dg Ds (q)).v (dg Ds (q)).N (gi [k.1, k.2.1, k.2.2] (q)) (tpN vars Ds k i.toNat) True)))), (Arr 24 b8 [(.int .i64 ((dg Ds (q)).v)), (gv nvs (q)), (.int .i64 ((dg Ds (q)).r))])], [(Arr 109 z17 (([(.int .i64 (lw vars Ds k (tpN vars Ds k i.toNat) False q.toNat 0)), (.int .i64 (lw vars Ds k (tpN vars Ds k i.toNat) False q.toNat 1)), (.int .i64 (lw vars Ds k (tpN vars Ds k i.toNat) False q.toNat 2))]).set (0 + (q).toNat) (.int .i64 (fol (dg Ds (q)).v (dg Ds (q)).N (gi [k.1, k.2.1, k.2.2] (q)) (tpN vars Ds k i.toNat) False))))], (perm_idx _ _ [0, 1, 2, 3, 4, 6, 7, 5] rfl rfl), ?_⟩
     refine rnil ?_
     refine vc_res (σ' := [(Arr 95 bb [u, (Value.map (some bi))]), (Gr 42 3 u M.length ((fks M))), (Mf bi fkv (Value.int .i64) (idxF M)), (Mf bd kv (Value.int .i64) Dn), (Arr 109 b1 [(.int .i64 k.1), (.int .i64 k.2.1), (.int .i64 k.2.2)]), (Arr 109 z17 (([(.int .i64 (lw vars Ds k (tpN vars Ds k i.toNat) False q.toNat 0)), (.int .i64 (lw vars Ds k (tpN vars Ds k i.toNat) False q.toNat 1)), (.int .i64 (lw vars Ds k (tpN vars Ds k i.toNat) False q.toNat 2))]).set (0 + (q).toNat) (.int .i64 (fol (dg Ds (q)).v (dg Ds (q)).N (gi [k.1, k.2.1, k.2.2] (q)) (tpN vars Ds k i.toNat) False)))), (Arr 109 z18 (([(.int .i64 (lw vars Ds k (tpN vars Ds k i.toNat) True q.toNat 0)), (.int .i64 (lw vars Ds k (tpN vars Ds k i.toNat) True q.toNat 1)), (.int .i64 (lw vars Ds k (tpN vars Ds k i.toNat) True q.toNat 2))]).set (0 + (q).toNat) (.int .i64 (fol (dg Ds (q)).v (dg Ds (q)).N (gi [k.1, k.2.1, k.2.2] (q)) (tpN vars Ds k i.toNat) True)))), (Arr 24 b8 [(.int .i64 ((dg Ds (q)).v)), (gv nvs (q)), (.int .i64 ((dg Ds (q)).r))])]) rfl ?_
     refine vc_drop [(Arr 95 bb [u, (Value.map (some bi))]), (Gr 42 3 u M.length ((fks M))), (Mf bi fkv (Value.int .i64) (idxF M)), (Mf bd kv (Value.int .i64) Dn), (Arr 109 b1 [(Value.int .i64 (k.1)), (Value.int .i64 (k.2.1)), (Value.int .i64 (k.2.2))]), (Arr 109 z17 (([(Value.int .i64 (lw vars Ds k (tpN vars Ds k i.toNat) False q.toNat 0)), (Value.int .i64 (lw vars Ds k (tpN vars Ds k i.toNat) False q.toNat 1)), (Value.int .i64 (lw vars Ds k (tpN vars Ds k i.toNat) False q.toNat 2))]).set (0 + (q).toNat) (Value.int .i64 (fol (dg Ds (q)).v (dg Ds (q)).N (gi [k.1, k.2.1, k.2.2] (q)) (tpN vars Ds k i.toNat) False)))), (Arr 109 z18 (([(Value.int .i64 (lw vars Ds k (tpN vars Ds k i.toNat) True q.toNat 0)), (Value.int .i64 (lw vars Ds k (tpN vars Ds k i.toNat) True q.toNat 1)), (Value.int .i64 (lw vars Ds k (tpN vars Ds k i.toNat) True q.toNat 2))]).set (0 + (q).toNat) (Value.int .i64 (fol (dg Ds (q)).v (dg Ds (q)).N (gi [k.1, k.2.1, k.2.2] (q)) (tpN vars Ds k i.toNat) True))))] [(Arr 24 b8 [(Value.int .i64 ((dg Ds (q)).v)), (gv nvs (q)), (Value.int .i64 ((dg Ds (q)).r))])] ((List.perm_middle (l₁ := [(Arr 95 bb [u, (Value.map (some bi))]), (Gr 42 3 u M.length ((fks M))), (Mf bi fkv (Value.int .i64) (idxF M)), (Mf bd kv (Value.int .i64) Dn), (Arr 109 b1 [(Value.int .i64 (k.1)), (Value.int .i64 (k.2.1)), (Value.int .i64 (k.2.2))]), (Arr 109 z17 (([(Value.int .i64 (lw vars Ds k (tpN vars Ds k i.toNat) False q.toNat 0)), (Value.int .i64 (lw vars Ds k (tpN vars Ds k i.toNat) False q.toNat 1)), (Value.int .i64 (lw vars Ds k (tpN vars Ds k i.toNat) False q.toNat 2))]).set (0 + (q).toNat) (Value.int .i64 (fol (dg Ds (q)).v (dg Ds (q)).N (gi [k.1, k.2.1, k.2.2] (q)) (tpN vars Ds k i.toNat) False)))), (Arr 109 z18 (([(Value.int .i64 (lw vars Ds k (tpN vars Ds k i.toNat) True q.toNat 0)), (Value.int .i64 (lw vars Ds k (tpN vars Ds k i.toNat) True q.toNat 1)), (Value.int .i64 (lw vars Ds k (tpN vars Ds k i.toNat) True q.toNat 2))]).set (0 + (q).toNat) (Value.int .i64 (fol (dg Ds (q)).v (dg Ds (q)).N (gi [k.1, k.2.1, k.2.2] (q)) (tpN vars Ds k i.toNat) True))))]) (l₂ := [])).trans (List.perm_append_comm (l₁ := [(Arr 24 b8 [(Value.int .i64 ((dg Ds (q)).v)), (gv nvs (q)), (Value.int .i64 ((dg Ds (q)).r))])]))) ?_
     refine vc_region ?_
     refine oq (qv_add rfl rfl (by omega)) ?_
     refine oq (qv_mv (.int .i64 (q + 1)) rfl) ?_
     refine ops_nil ?_
     refine ⟨(q + 1), ⟨rfl, rfl, rfl, rfl, rfl, rfl, rfl, rfl, rfl, rfl, rfl, rfl, rfl, rfl, rfl, rfl, rfl, rfl, rfl, rfl, rfl, rfl, rfl, (congrArg (Value.int .i64) (show (q + 1) = ((q + 1)) from by omega)), trivial⟩, ⟨rfl, (show [(Arr 95 bb [u, (Value.map (some bi))]), (Gr 42 3 u M.length ((fks M))), (Mf bi fkv (Value.int .i64) (idxF M)), (Mf bd kv (Value.int .i64) Dn), (Arr 109 b1 [(.int .i64 k.1), (.int .i64 k.2.1), (.int .i64 k.2.2)]), (Arr 109 z17 [(.int .i64 (lw vars Ds k (tpN vars Ds k i.toNat) False (q + 1 : Int).toNat 0)), (.int .i64 (lw vars Ds k (tpN vars Ds k i.toNat) False (q + 1 : Int).toNat 1)), (.int .i64 (lw vars Ds k (tpN vars Ds k i.toNat) False (q + 1 : Int).toNat 2))]), (Arr 109 z18 [(.int .i64 (lw vars Ds k (tpN vars Ds k i.toNat) True (q + 1 : Int).toNat 0)), (.int .i64 (lw vars Ds k (tpN vars Ds k i.toNat) True (q + 1 : Int).toNat 1)), (.int .i64 (lw vars Ds k (tpN vars Ds k i.toNat) True (q + 1 : Int).toNat 2))])] = [(Arr 95 bb [u, (Value.map (some bi))]), (Gr 42 3 u M.length ((fks M))), (Mf bi fkv (Value.int .i64) (idxF M)), (Mf bd kv (Value.int .i64) Dn), (Arr 109 b1 [(.int .i64 k.1), (.int .i64 k.2.1), (.int .i64 k.2.2)]), (Arr 109 z17 (([(.int .i64 (lw vars Ds k (tpN vars Ds k i.toNat) False q.toNat 0)), (.int .i64 (lw vars Ds k (tpN vars Ds k i.toNat) False q.toNat 1)), (.int .i64 (lw vars Ds k (tpN vars Ds k i.toNat) False q.toNat 2))]).set (0 + (q).toNat) (.int .i64 (fol (dg Ds (q)).v (dg Ds (q)).N (gi [k.1, k.2.1, k.2.2] (q)) (tpN vars Ds k i.toNat) False)))), (Arr 109 z18 (([(.int .i64 (lw vars Ds k (tpN vars Ds k i.toNat) True q.toNat 0)), (.int .i64 (lw vars Ds k (tpN vars Ds k i.toNat) True q.toNat 1)), (.int .i64 (lw vars Ds k (tpN vars Ds k i.toNat) True q.toNat 2))]).set (0 + (q).toNat) (.int .i64 (fol (dg Ds (q)).v (dg Ds (q)).N (gi [k.1, k.2.1, k.2.2] (q)) (tpN vars Ds k i.toNat) True))))] from by rw [show ([(.int .i64 (lw vars Ds k (tpN vars Ds k i.toNat) False (q + 1).toNat 0)), (.int .i64 (lw vars Ds k (tpN vars Ds k i.toNat) False (q + 1).toNat 1)), (.int .i64 (lw vars Ds k (tpN vars Ds k i.toNat) False (q + 1).toNat 2))] : List Value) = ([(.int .i64 (lw vars Ds k (tpN vars Ds k i.toNat) False q.toNat 0)), (.int .i64 (lw vars Ds k (tpN vars Ds k i.toNat) False q.toNat 1)), (.int .i64 (lw vars Ds k (tpN vars Ds k i.toNat) False q.toNat 2))] : List Value).set (0 + q.toNat) (.int .i64 (fol (dg Ds (q)).v (dg Ds (q)).N (gi [k.1, k.2.1, k.2.2] (q)) (tpN vars Ds k i.toNat) False)) from by rw [hvq]; exact (lwL_step (by omega) (by omega)).symm, show ([(.int .i64 (lw vars Ds k (tpN vars Ds k i.toNat) True (q + 1).toNat 0)), (.int .i64 (lw vars Ds k (tpN vars Ds k i.toNat) True (q + 1).toNat 1)), (.int .i64 (lw vars Ds k (tpN vars Ds k i.toNat) True (q + 1).toNat 2))] : List Value) = ([(.int .i64 (lw vars Ds k (tpN vars Ds k i.toNat) True q.toNat 0)), (.int .i64 (lw vars Ds k (tpN vars Ds k i.toNat) True q.toNat 1)), (.int .i64 (lw vars Ds k (tpN vars Ds k i.toNat) True q.toNat 2))] : List Value).set (0 + q.toNat) (.int .i64 (fol (dg Ds (q)).v (dg Ds (q)).N (gi [k.1, k.2.1, k.2.2] (q)) (tpN vars Ds k i.toNat) True)) from by rw [hvq]; exact (lwL_step (by omega) (by omega)).symm]), by omega, by omega⟩, by omega⟩
    ·
     refine vc_exit ?_
     refine blockQ_hit ?_
     refine vc_seq ?_
     have hlkF : lwL vars Ds k (tpN vars Ds k i.toNat) False q.toNat = lk_ vars Ds k False := by rw [htp, show q.toNat = Ds.length by omega]; rfl
     have hlkT : lwL vars Ds k (tpN vars Ds k i.toNat) True q.toNat = lk_ vars Ds k True := by rw [htp, show q.toNat = Ds.length by omega]; rfl
     refine vc_region ?_
     refine oq (qv_ldp (v := (Value.func (.func 76) #[] #[(Value.pointer (some ⟨pd, 0, none⟩)), (Value.pointer (some ⟨pv, 0, none⟩)), (Value.pointer (some ⟨pl, 0, none⟩)), (Value.pointer (some ⟨pf, 0, none⟩)), (Value.pointer (some ⟨pr, 0, none⟩)), (Value.pointer (some ⟨pm, 0, none⟩))])) Try.plain108 rfl (inVc hE.cr) rfl) ?_
     refine oq (qv_ldm (vs := [(.int .i64 (lw vars Ds k (tpN vars Ds k i.toNat) False q.toNat 0)), (.int .i64 (lw vars Ds k (tpN vars Ds k i.toNat) False q.toNat 1)), (.int .i64 (lw vars Ds k (tpN vars Ds k i.toNat) False q.toNat 2))]) Try.agg109 rfl (inOc (k := 5) rfl) rfl rfl) ?_
     refine ops_call (σa := [(Arr 95 bb [u, (Value.map (some bi))]), (Gr 42 3 u M.length ((fks M))), (Mf bi fkv (Value.int .i64) (idxF M)), (Mf bd kv (Value.int .i64) Dn)]) (σr := [(Arr 109 b1 [(.int .i64 k.1), (.int .i64 k.2.1), (.int .i64 k.2.2)]), (Arr 109 z17 [(.int .i64 (lw vars Ds k (tpN vars Ds k i.toNat) False q.toNat 0)), (.int .i64 (lw vars Ds k (tpN vars Ds k i.toNat) False q.toNat 1)), (.int .i64 (lw vars Ds k (tpN vars Ds k i.toNat) False q.toNat 2))]), (Arr 109 z18 [(.int .i64 (lw vars Ds k (tpN vars Ds k i.toNat) True q.toNat 0)), (.int .i64 (lw vars Ds k (tpN vars Ds k i.toNat) True q.toNat 1)), (.int .i64 (lw vars Ds k (tpN vars Ds k i.toNat) True q.toNat 2))])]) (by have h := IH _ (lk_ vars Ds k False) M Dn u hE l1.1 (by omega) hI (by omega); rw [← hlkF] at h; exact h) rfl rfl (.refl _) (fun r1 V1 sg1 hV1 hp1 => ?_)
     obtain ⟨M1, D1, p1, u1, rfl, rfl, A⟩ := hp1
     rw [hlkF] at A
     have hE := hE.mono hV1
     refine oq (qv_as (Value.int .i64 p1) rfl) ?_
     refine ops_nil ?_
     refine vc_seq ?_
     refine vc_res (σ' := [(Arr 95 bb [u1, (Value.map (some bi))]), (Gr 42 3 u1 M1.length ((fks M1))), (Mf bi fkv (Value.int .i64) (idxF M1)), (Mf bd kv (Value.int .i64) D1), (Arr 109 b1 [(.int .i64 k.1), (.int .i64 k.2.1), (.int .i64 k.2.2)]), (Arr 109 z17 [(.int .i64 (lw vars Ds k (tpN vars Ds k i.toNat) False q.toNat 0)), (.int .i64 (lw vars Ds k (tpN vars Ds k i.toNat) False q.toNat 1)), (.int .i64 (lw vars Ds k (tpN vars Ds k i.toNat) False q.toNat 2))]), (Arr 109 z18 [(.int .i64 (lw vars Ds k (tpN vars Ds k i.toNat) True q.toNat 0)), (.int .i64 (lw vars Ds k (tpN vars Ds k i.toNat) True q.toNat 1)), (.int .i64 (lw vars Ds k (tpN vars Ds k i.toNat) True q.toNat 2))])]) rfl ?_
     have hAl := A.len
     refine vc_region ?_
     refine oq (qv_ldp (v := (Value.func (.func 76) #[] #[(Value.pointer (some ⟨pd, 0, none⟩)), (Value.pointer (some ⟨pv, 0, none⟩)), (Value.pointer (some ⟨pl, 0, none⟩)), (Value.pointer (some ⟨pf, 0, none⟩)), (Value.pointer (some ⟨pr, 0, none⟩)), (Value.pointer (some ⟨pm, 0, none⟩))])) Try.plain108 rfl (inVc hE.cr) rfl) ?_
     refine oq (qv_ldm (vs := [(.int .i64 (lw vars Ds k (tpN vars Ds k i.toNat) True q.toNat 0)), (.int .i64 (lw vars Ds k (tpN vars Ds k i.toNat) True q.toNat 1)), (.int .i64 (lw vars Ds k (tpN vars Ds k i.toNat) True q.toNat 2))]) Try.agg109 rfl (inOc (k := 6) rfl) rfl rfl) ?_
     refine ops_call (σa := [(Arr 95 bb [u1, (Value.map (some bi))]), (Gr 42 3 u1 M1.length ((fks M1))), (Mf bi fkv (Value.int .i64) (idxF M1)), (Mf bd kv (Value.int .i64) D1)]) (σr := [(Arr 109 b1 [(.int .i64 k.1), (.int .i64 k.2.1), (.int .i64 k.2.2)]), (Arr 109 z17 [(.int .i64 (lw vars Ds k (tpN vars Ds k i.toNat) False q.toNat 0)), (.int .i64 (lw vars Ds k (tpN vars Ds k i.toNat) False q.toNat 1)), (.int .i64 (lw vars Ds k (tpN vars Ds k i.toNat) False q.toNat 2))]), (Arr 109 z18 [(.int .i64 (lw vars Ds k (tpN vars Ds k i.toNat) True q.toNat 0)), (.int .i64 (lw vars Ds k (tpN vars Ds k i.toNat) True q.toNat 1)), (.int .i64 (lw vars Ds k (tpN vars Ds k i.toNat) True q.toNat 2))])]) (by have h := IH _ (lk_ vars Ds k True) M1 D1 u1 hE l2.1 (by omega) A.inv (by omega); rw [← hlkT] at h; exact h) rfl rfl (.refl _) (fun r2 V2 sg2 hV2 hp2 => ?_)
     obtain ⟨M2, D2, p2, u2, rfl, rfl, B⟩ := hp2
     rw [hlkT] at B
     have hE := hE.mono hV2
     refine oq (qv_as (Value.int .i64 p2) rfl) ?_
     refine ops_nil ?_
     refine vc_res (σ' := [(Arr 95 bb [u2, (Value.map (some bi))]), (Gr 42 3 u2 M2.length ((fks M2))), (Mf bi fkv (Value.int .i64) (idxF M2)), (Mf bd kv (Value.int .i64) D2), (Arr 109 b1 [(.int .i64 k.1), (.int .i64 k.2.1), (.int .i64 k.2.2)]), (Arr 109 z17 [(.int .i64 (lw vars Ds k (tpN vars Ds k i.toNat) False q.toNat 0)), (.int .i64 (lw vars Ds k (tpN vars Ds k i.toNat) False q.toNat 1)), (.int .i64 (lw vars Ds k (tpN vars Ds k i.toNat) False q.toNat 2))]), (Arr 109 z18 [(.int .i64 (lw vars Ds k (tpN vars Ds k i.toNat) True q.toNat 0)), (.int .i64 (lw vars Ds k (tpN vars Ds k i.toNat) True q.toNat 1)), (.int .i64 (lw vars Ds k (tpN vars Ds k i.toNat) True q.toNat 2))])]) rfl ?_
     have hBl := B.len
     refine vc_region ?_
     refine oq (qv_ldp (v := (Value.pointer (some ⟨bb, 0, none⟩))) Try.plain92 rfl (inVc hE.cm) rfl) ?_
     refine oq (qv_mv (.int .i64 (tpN vars Ds k i.toNat)) rfl) ?_
     refine oq (qv_mv (Value.int .i64 p1) rfl) ?_
     refine oq (qv_mv (Value.int .i64 p2) rfl) ?_
     refine ops_call (σa := [(Arr 95 bb [u2, (Value.map (some bi))]), (Gr 42 3 u2 M2.length ((fks M2))), (Mf bi fkv (Value.int .i64) (idxF M2))]) (σr := [(Mf bd kv (Value.int .i64) D2), (Arr 109 b1 [(.int .i64 k.1), (.int .i64 k.2.1), (.int .i64 k.2.2)]), (Arr 109 z17 [(.int .i64 (lw vars Ds k (tpN vars Ds k i.toNat) False q.toNat 0)), (.int .i64 (lw vars Ds k (tpN vars Ds k i.toNat) False q.toNat 1)), (.int .i64 (lw vars Ds k (tpN vars Ds k i.toNat) False q.toNat 2))]), (Arr 109 z18 [(.int .i64 (lw vars Ds k (tpN vars Ds k i.toNat) True q.toNat 0)), (.int .i64 (lw vars Ds k (tpN vars Ds k i.toNat) True q.toNat 1)), (.int .i64 (lw vars Ds k (tpN vars Ds k i.toNat) True q.toNat 2))])]) (node_c (M := M2) (v := (tpN vars Ds k i.toNat)) (l := p1) (h := p2) (u := u2) (by omega)) rfl rfl (.refl _) (fun r3 V3 sg3 hV3 hp3 => ?_)
     obtain ⟨rfl, u3, rfl⟩ := hp3
     have hE := hE.mono hV3
     refine oq (qv_as (.int .i64 ((nodeR M2 (tpN vars Ds k i.toNat) p1 p2).2)) rfl) ?_
     refine ops_nil ?_
     refine vc_seq ?_
     refine vc_res (σ' := [(Arr 95 bb [u3, (Value.map (some bi))]), (Gr 42 3 u3 ((nodeR M2 (tpN vars Ds k i.toNat) p1 p2).1.length) ((fks (nodeR M2 (tpN vars Ds k i.toNat) p1 p2).1))), (Mf bi fkv (Value.int .i64) (idxF (nodeR M2 (tpN vars Ds k i.toNat) p1 p2).1)), (Mf bd kv (Value.int .i64) D2), (Arr 109 b1 [(.int .i64 k.1), (.int .i64 k.2.1), (.int .i64 k.2.2)]), (Arr 109 z17 [(.int .i64 (lw vars Ds k (tpN vars Ds k i.toNat) False q.toNat 0)), (.int .i64 (lw vars Ds k (tpN vars Ds k i.toNat) False q.toNat 1)), (.int .i64 (lw vars Ds k (tpN vars Ds k i.toNat) False q.toNat 2))]), (Arr 109 z18 [(.int .i64 (lw vars Ds k (tpN vars Ds k i.toNat) True q.toNat 0)), (.int .i64 (lw vars Ds k (tpN vars Ds k i.toNat) True q.toNat 1)), (.int .i64 (lw vars Ds k (tpN vars Ds k i.toNat) True q.toNat 2))])]) rfl ?_
     refine vc_region ?_
     refine oq (qv_ldp (v := (Value.map (some bd))) Try.plain107 rfl (inVc hE.cd) rfl) ?_
     refine oq (qv_ldm (vs := [(.int .i64 k.1), (.int .i64 k.2.1), (.int .i64 k.2.2)]) Try.agg109 rfl (inOc (k := 4) rfl) rfl rfl) ?_
     refine oq (qv_mv (.int .i64 ((nodeR M2 (tpN vars Ds k i.toNat) p1 p2).2)) rfl) ?_
     refine ops_mapset (k := 3) (key := k) (v := (nodeR M2 (tpN vars Ds k i.toNat) p1 p2).2) Try.underlying107 k3_key rfl rfl rfl rfl ?_
     refine ops_nil ?_
     refine vc_seq ?_
     refine vc_res (σ' := [(Arr 95 bb [u3, (Value.map (some bi))]), (Gr 42 3 u3 ((nodeR M2 (tpN vars Ds k i.toNat) p1 p2).1.length) ((fks (nodeR M2 (tpN vars Ds k i.toNat) p1 p2).1))), (Mf bi fkv (Value.int .i64) (idxF (nodeR M2 (tpN vars Ds k i.toNat) p1 p2).1)), (Mf bd kv (Value.int .i64) (setF D2 k ((nodeR M2 (tpN vars Ds k i.toNat) p1 p2).2))), (Arr 109 b1 [(.int .i64 k.1), (.int .i64 k.2.1), (.int .i64 k.2.2)]), (Arr 109 z17 [(.int .i64 (lw vars Ds k (tpN vars Ds k i.toNat) False q.toNat 0)), (.int .i64 (lw vars Ds k (tpN vars Ds k i.toNat) False q.toNat 1)), (.int .i64 (lw vars Ds k (tpN vars Ds k i.toNat) False q.toNat 2))]), (Arr 109 z18 [(.int .i64 (lw vars Ds k (tpN vars Ds k i.toNat) True q.toNat 0)), (.int .i64 (lw vars Ds k (tpN vars Ds k i.toNat) True q.toNat 1)), (.int .i64 (lw vars Ds k (tpN vars Ds k i.toNat) True q.toNat 2))])]) rfl ?_
     refine vc_region ?_
     refine oq (qv_mv (.int .i64 ((nodeR M2 (tpN vars Ds k i.toNat) p1 p2).2)) rfl) ?_
     refine oq (qv_as (.int .i64 ((nodeR M2 (tpN vars Ds k i.toNat) p1 p2).2)) rfl) ?_
     refine ops_nil ?_
     refine vc_drop [(Arr 95 bb [u3, (Value.map (some bi))]), (Gr 42 3 u3 ((nodeR M2 (tpN vars Ds k i.toNat) p1 p2).1.length) ((fks (nodeR M2 (tpN vars Ds k i.toNat) p1 p2).1))), (Mf bi fkv (Value.int .i64) (idxF (nodeR M2 (tpN vars Ds k i.toNat) p1 p2).1)), (Mf bd kv (Value.int .i64) (setF D2 k ((nodeR M2 (tpN vars Ds k i.toNat) p1 p2).2))), (Arr 109 b1 [(Value.int .i64 (k.1)), (Value.int .i64 (k.2.1)), (Value.int .i64 (k.2.2))]), (Arr 109 z17 [(Value.int .i64 (lw vars Ds k (tpN vars Ds k i.toNat) False q.toNat 0)), (Value.int .i64 (lw vars Ds k (tpN vars Ds k i.toNat) False q.toNat 1)), (Value.int .i64 (lw vars Ds k (tpN vars Ds k i.toNat) False q.toNat 2))])] [(Arr 109 z18 [(Value.int .i64 (lw vars Ds k (tpN vars Ds k i.toNat) True q.toNat 0)), (Value.int .i64 (lw vars Ds k (tpN vars Ds k i.toNat) True q.toNat 1)), (Value.int .i64 (lw vars Ds k (tpN vars Ds k i.toNat) True q.toNat 2))])] ((List.perm_middle (l₁ := [(Arr 95 bb [u3, (Value.map (some bi))]), (Gr 42 3 u3 ((nodeR M2 (tpN vars Ds k i.toNat) p1 p2).1.length) ((fks (nodeR M2 (tpN vars Ds k i.toNat) p1 p2).1))), (Mf bi fkv (Value.int .i64) (idxF (nodeR M2 (tpN vars Ds k i.toNat) p1 p2).1)), (Mf bd kv (Value.int .i64) (setF D2 k ((nodeR M2 (tpN vars Ds k i.toNat) p1 p2).2))), (Arr 109 b1 [(Value.int .i64 (k.1)), (Value.int .i64 (k.2.1)), (Value.int .i64 (k.2.2))]), (Arr 109 z17 [(Value.int .i64 (lw vars Ds k (tpN vars Ds k i.toNat) False q.toNat 0)), (Value.int .i64 (lw vars Ds k (tpN vars Ds k i.toNat) False q.toNat 1)), (Value.int .i64 (lw vars Ds k (tpN vars Ds k i.toNat) False q.toNat 2))])]) (l₂ := [])).trans (List.perm_append_comm (l₁ := [(Arr 109 z18 [(Value.int .i64 (lw vars Ds k (tpN vars Ds k i.toNat) True q.toNat 0)), (Value.int .i64 (lw vars Ds k (tpN vars Ds k i.toNat) True q.toNat 1)), (Value.int .i64 (lw vars Ds k (tpN vars Ds k i.toNat) True q.toNat 2))])]))) ?_
     refine vc_drop [(Arr 95 bb [u3, (Value.map (some bi))]), (Gr 42 3 u3 ((nodeR M2 (tpN vars Ds k i.toNat) p1 p2).1.length) ((fks (nodeR M2 (tpN vars Ds k i.toNat) p1 p2).1))), (Mf bi fkv (Value.int .i64) (idxF (nodeR M2 (tpN vars Ds k i.toNat) p1 p2).1)), (Mf bd kv (Value.int .i64) (setF D2 k ((nodeR M2 (tpN vars Ds k i.toNat) p1 p2).2))), (Arr 109 b1 [(Value.int .i64 (k.1)), (Value.int .i64 (k.2.1)), (Value.int .i64 (k.2.2))])] [(Arr 109 z17 [(Value.int .i64 (lw vars Ds k (tpN vars Ds k i.toNat) False q.toNat 0)), (Value.int .i64 (lw vars Ds k (tpN vars Ds k i.toNat) False q.toNat 1)), (Value.int .i64 (lw vars Ds k (tpN vars Ds k i.toNat) False q.toNat 2))])] ((List.perm_middle (l₁ := [(Arr 95 bb [u3, (Value.map (some bi))]), (Gr 42 3 u3 ((nodeR M2 (tpN vars Ds k i.toNat) p1 p2).1.length) ((fks (nodeR M2 (tpN vars Ds k i.toNat) p1 p2).1))), (Mf bi fkv (Value.int .i64) (idxF (nodeR M2 (tpN vars Ds k i.toNat) p1 p2).1)), (Mf bd kv (Value.int .i64) (setF D2 k ((nodeR M2 (tpN vars Ds k i.toNat) p1 p2).2))), (Arr 109 b1 [(Value.int .i64 (k.1)), (Value.int .i64 (k.2.1)), (Value.int .i64 (k.2.2))])]) (l₂ := [])).trans (List.perm_append_comm (l₁ := [(Arr 109 z17 [(Value.int .i64 (lw vars Ds k (tpN vars Ds k i.toNat) False q.toNat 0)), (Value.int .i64 (lw vars Ds k (tpN vars Ds k i.toNat) False q.toNat 1)), (Value.int .i64 (lw vars Ds k (tpN vars Ds k i.toNat) False q.toNat 2))])]))) ?_
     refine vc_drop [(Arr 95 bb [u3, (Value.map (some bi))]), (Gr 42 3 u3 ((nodeR M2 (tpN vars Ds k i.toNat) p1 p2).1.length) ((fks (nodeR M2 (tpN vars Ds k i.toNat) p1 p2).1))), (Mf bi fkv (Value.int .i64) (idxF (nodeR M2 (tpN vars Ds k i.toNat) p1 p2).1)), (Mf bd kv (Value.int .i64) (setF D2 k ((nodeR M2 (tpN vars Ds k i.toNat) p1 p2).2)))] [(Arr 109 b1 [(Value.int .i64 (k.1)), (Value.int .i64 (k.2.1)), (Value.int .i64 (k.2.2))])] ((List.perm_middle (l₁ := [(Arr 95 bb [u3, (Value.map (some bi))]), (Gr 42 3 u3 ((nodeR M2 (tpN vars Ds k i.toNat) p1 p2).1.length) ((fks (nodeR M2 (tpN vars Ds k i.toNat) p1 p2).1))), (Mf bi fkv (Value.int .i64) (idxF (nodeR M2 (tpN vars Ds k i.toNat) p1 p2).1)), (Mf bd kv (Value.int .i64) (setF D2 k ((nodeR M2 (tpN vars Ds k i.toNat) p1 p2).2)))]) (l₂ := [])).trans (List.perm_append_comm (l₁ := [(Arr 109 b1 [(Value.int .i64 (k.1)), (Value.int .i64 (k.2.1)), (Value.int .i64 (k.2.2))])]))) ?_
     refine vc_ret ?_
     refine rq1 (.int .i64 ((nodeR M2 (tpN vars Ds k i.toNat) p1 p2).2)) rfl ?_
     exact ⟨(nodeR M2 (tpN vars Ds k i.toNat) p1 p2).1, setF D2 k (nodeR M2 (tpN vars Ds k i.toNat) p1 p2).2, (nodeR M2 (tpN vars Ds k i.toNat) p1 p2).2, u3, rfl, rfl, comb_node hd hK ht A B (by rw [htp])⟩

theorem comb_c {vars : Int} {Ds : List Dg} {F : Bool → Bool → Bool → Bool} {lv : Value} {nvs : List Value} {fid : Nat} {fcaps : List Value} {pd pv pl pf pr pm bb bd bi : Nat} : ∀ n, CmbC vars Ds F lv nvs fid fcaps pd pv pl pf pr pm bb bd bi n
  | 0 => fun V k M Dn u _ _ hn => by omega
  | n + 1 => fun V k M Dn u hE hK hn hI hMb => comb_step (comb_c n) hE hK hn hI hMb
end Go.Proofs.Ytgehdgeiikjohaa
