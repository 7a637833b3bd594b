/- Walks of bdd: what each function returns. Printed by a program out of notes. -/
import Derived.Test.YtgehdgeiikjohaaBj
import Derived.Test.YtgehdgeiikjohaaWd
namespace Go.Proofs.Ytgehdgeiikjohaa
open Go.Vc
open Classical

/-- What a restriction reads and never changes. -/
structure REnv (V : HV) (vars : Int) (N : List Fk) (nv : Value) (root i : Int) (b : Bool) (pd pn pi pq pr pm bb bd : Nat) : Prop where
  nd : Fks V nv N
  fm : Fm vars N
  v1 : vars ≤ 40
  cd : Cells V pd [.map (some bd)]
  cn : Cells V pn [.int .i64 vars, nv, .int .i64 root]
  ci : Cells V pi [.int .i64 i]
  cq : Cells V pq [.bool (decide (b = true))]
  cr : Cells V pr [.func (.func 78) #[] #[pt pd, pt pn, pt pi, pt pq, pt pr, pt pm]]
  cm : Cells V pm [.pointer (some ⟨bb, 0, none⟩)]
theorem REnv.mono {V V' : HV} {vars : Int} {N : List Fk} {nv : Value} {root i : Int} {b : Bool} {pd pn pi pq pr pm bb bd : Nat} (h : REnv V vars N nv root i b pd pn pi pq pr pm bb bd) (s : Vc.Sub V V') : REnv V' vars N nv root i b pd pn pi pq pr pm bb bd :=
  ⟨h.nd.mono s, h.fm, h.v1, h.cd.mono s, h.cn.mono s, h.ci.mono s, h.cq.mono s, h.cr.mono s, h.cm.mono s⟩
/-- What the walk does, for references below n. -/
def RstC (vars : Int) (N : List Fk) (nv : Value) (root i : Int) (b : Bool) (pd pn pi pq pr pm bb bd bi : Nat) (n : Nat) : Prop :=
  ∀ (V : HV) (r : Int) (M : List Fk) (Dn : Int → Option Int) (u : Value), REnv V vars N nv root i b pd pn pi pq pr pm bb bd → Rf N r → r < n → RInv vars N i b M Dn → M.length + 2 ^ (vars - lev vars N r).toNat ≤ 2199023255552 →
  FnC Try.prog 78 [.int .i64 r, pt pd, pt pn, pt pi, pt pq, pt pr, pt pm] V [Arr 95 bb [u, .map (some bi)], Gr 42 3 u M.length (fks M), Mf bi fkv (Value.int .i64) (idxF M), Mf bd (Value.int .i64) (Value.int .i64) Dn] (fun v _ σ' => ∃ M' Dn' p u', v = .int .i64 p ∧ σ' = [Arr 95 bb [u', .map (some bi)], Gr 42 3 u' M'.length (fks M'), Mf bi fkv (Value.int .i64) (idxF M'), Mf bd (Value.int .i64) (Value.int .i64) Dn'] ∧ ROk vars N i b r M M' Dn' p)

set_option maxRecDepth 100000 in
set_option maxHeartbeats 4000000 in
theorem rst_step {vars : Int} {N : List Fk} {nv : Value} {root i : Int} {b : Bool} {pd pn pi pq pr pm bb bd bi n : Nat} {V : HV} (IH : RstC vars N nv root i b pd pn pi pq pr pm bb bd bi n) {r : Int} {M : List Fk} {Dn : Int → Option Int} {u : Value} (hE : REnv V vars N nv root i b pd pn pi pq pr pm bb bd) (hr : Rf N r) (hk : r < (n + 1 : Nat)) (hI : RInv vars N i b M Dn) (hMb : M.length + 2 ^ (vars - lev vars N r).toNat ≤ 2199023255552) :
    FnC Try.prog 78 [(Value.int .i64 r), (Value.pointer (some ⟨pd, 0, none⟩)), (Value.pointer (some ⟨pn, 0, none⟩)), (Value.pointer (some ⟨pi, 0, none⟩)), (Value.pointer (some ⟨pq, 0, none⟩)), (Value.pointer (some ⟨pr, 0, none⟩)), (Value.pointer (some ⟨pm, 0, none⟩))] V [(Arr 95 bb [u, (Value.map (some bi))]), (Gr 42 3 u M.length ((fks M))), (Mf bi fkv (Value.int .i64) (idxF M)), (Mf bd (Value.int .i64) (Value.int .i64) Dn)] (fun v _ σ' => ∃ M' Dn' p u', v = .int .i64 p ∧ σ' = [Arr 95 bb [u', .map (some bi)], Gr 42 3 u' M'.length (fks M'), Mf bi fkv (Value.int .i64) (idxF M'), Mf bd (Value.int .i64) (Value.int .i64) Dn'] ∧ ROk vars N i b r M M' Dn' p) := by
 refine fn_intro (N := 68) Try.func78 (by kernel_rfl) rfl rfl rfl (Nat.le_of_ble_eq_true rfl) ?_
 intro w0 D
 have hb := SlS.bound hE.nd
 have hv1 := hE.v1
 refine vc_seq ?_
 refine vc_res (σ' := [(Arr 95 bb [u, (Value.map (some bi))]), (Gr 42 3 u M.length ((fks M))), (Mf bi fkv (Value.int .i64) (idxF M)), (Mf bd (Value.int .i64) (Value.int .i64) Dn)]) rfl ?_
 refine vc_region ?_
 refine oq (qv_as (Value.int .i64 0) rfl) ?_
 refine ops_nil ?_
 refine vc_seq ?_
 refine vc_seq ?_
 refine vc_region ?_
 refine oq (qv_ldp (v := (Value.map (some bd))) Try.plain101 rfl (inVc hE.cd) rfl) ?_
 refine oq (qv_mv (Value.int .i64 r) rfl) ?_
 refine oq (qv_look (a0 := 0) (key := r) (k := 3) Try.underlying101 (KeyT.int Try.underlying3) Try.ti3 rfl rfl rfl) ?_
 refine oq (qv_mv (.tuple #[(.int .i64 ((Dn r).getD 0)), (.bool (decide ((Dn r).isSome = true)))]) rfl) ?_
 refine oq (qv_ext (.int .i64 ((Dn r).getD 0)) rfl rfl) ?_
 refine oq (qv_ext (.bool (decide ((Dn r).isSome = true))) rfl rfl) ?_
 refine oq (qv_as (.int .i64 ((Dn r).getD 0)) rfl) ?_
 refine oq (qv_as (.bool (decide ((Dn r).isSome = true))) rfl) ?_
 refine ops_nil ?_
 refine vc_seq ?_
 refine vc_region ?_
 refine oq (qv_mv (.bool (decide ((Dn r).isSome = true))) rfl) ?_
 refine ops_nil ?_
 refine vc_if rfl (fun c1 => ?_) (fun c1 => ?_)
 ·
  refine vc_seq ?_
  refine vc_region ?_
  refine oq (qv_mv (.int .i64 ((Dn r).getD 0)) rfl) ?_
  refine oq (qv_as (.int .i64 ((Dn r).getD 0)) rfl) ?_
  refine ops_nil ?_
  refine vc_ret ?_
  refine rq1 (.int .i64 ((Dn r).getD 0)) rfl ?_
  obtain ⟨p, hp⟩ := Option.isSome_iff_exists.1 c1
  exact ⟨M, Dn, p, u, by rw [hp]; rfl, rfl, res_hit hI hr hp⟩
 ·
  refine vc_skip ?_
  refine vc_seq ?_
  have hnone : Dn r = none := by cases hq : Dn r with | none => rfl | some p => exact absurd (by rw [hq]; rfl) c1
  have h2 := hI.ge2 hr hnone
  have h3 := hr.2
  have hlo := hE.fm.lo r h2 hr.2
  have hhi := hE.fm.hi r h2 hr.2
  have hvr := hE.fm.vr r h2 hr.2
  have hlr : lev vars N r = (nd N r).v := lev_node (by omega)
  have hll := hE.fm.lev_le (r := (nd N r).l) ⟨hlo.1, by omega⟩
  have hlh := hE.fm.lev_le (r := (nd N r).h) ⟨hhi.1, by omega⟩
  have w1 := pow_lt (vars := vars) (a := lev vars N r) (c := lev vars N (nd N r).l) (by omega) hll
  have w2 := pow_lt (vars := vars) (a := lev vars N r) (c := lev vars N (nd N r).h) (by omega) hlh
  have pw1 := one_le_two_pow' (vars - lev vars N (nd N r).l).toNat
  have pw2 := one_le_two_pow' (vars - lev vars N (nd N r).h).toNat
  rw [nd_fk] at hlo hhi hvr hlr hll hlh w1 w2 pw1 pw2
  refine vc_region ?_
  refine oq (qv_fa (off := 0) Try.field24_1 rfl) ?_
  refine oq (qv_ldp (v := nv) Try.plain22 rfl (inVc hE.cn) rfl) ?_
  refine oq (qv_mv (Value.int .i64 r) rfl) ?_
  refine oq (qv_sub rfl rfl (by omega)) ?_
  refine oq (qv_ias (v := nv) (i := r - 2) Try.underlying22 Try.size42 rfl hE.nd rfl (by omega) (by omega)) ?_
  refine oq (qv_lds (v := nv) (i := r - 2) (vs := [(.int .i64 ((fk N (r - 2)).v)), (.int .i64 ((fk N (r - 2)).l)), (.int .i64 ((fk N (r - 2)).h))]) Try.agg42 rfl hE.nd (by omega) (by omega) (fks_at (N := N) (by omega) (by omega))) ?_
  refine ops_alloc Try.ti42 rfl (fun b1 => ?_)
  refine ops_stw (k := 4) (vs := [(.int .i64 ((fk N (r - 2)).v)), (.int .i64 ((fk N (r - 2)).l)), (.int .i64 ((fk N (r - 2)).h))]) Try.size42 rfl rfl rfl rfl rfl rfl ?_
  refine ops_nil ?_
  refine vc_seq ?_
  refine vc_res (σ' := [(Arr 95 bb [u, (Value.map (some bi))]), (Gr 42 3 u M.length ((fks M))), (Mf bi fkv (Value.int .i64) (idxF M)), (Mf bd (Value.int .i64) (Value.int .i64) Dn), (Arr 42 b1 [(.int .i64 ((fk N (r - 2)).v)), (.int .i64 ((fk N (r - 2)).l)), (.int .i64 ((fk N (r - 2)).h))])]) rfl ?_
  refine vc_region ?_
  refine oq (qv_as (Value.int .i64 0) rfl) ?_
  refine ops_nil ?_
  refine vc_seq ?_
  refine vc_block ?_
  refine vc_seq ?_
  refine vc_region ?_
  refine oq (qv_fa (off := 0) Try.field42_0 rfl) ?_
  refine oq (qv_ldp (v := (.int .i64 ((fk N (r - 2)).v))) Try.plain3 rfl (inOc (k := 4) rfl) rfl) ?_
  refine oq (qv_ldp (v := (Value.int .i64 i)) Try.plain3 rfl (inVc hE.ci) rfl) ?_
  refine oq (qv_eql rfl rfl) ?_
  refine oq (qv_mv (.bool (decide (((fk N (r - 2)).v) = i))) rfl) ?_
  by_cases g1 : ((fk N (r - 2)).v) = i
  ·
   refine og (qv_ldp (v := (.bool (decide (b = true)))) Try.plain4 rfl (inVc hE.cq) rfl) (want_t g1 rfl rfl rfl) ?_
   refine oq (qv_pick_t g1 rfl (rfl : ev _ _ = (.bool (decide (b = true))))) ?_
   refine oq (qv_as (.bool (decide (b = true))) rfl) ?_
   refine ops_nil ?_
   refine vc_if rfl (fun c2 => ?_) (fun c2 => ?_)
   ·
    have hbq : b = true := c2
    refine vc_region ?_
    refine oq (qv_ldp (v := (Value.func (.func 78) #[] #[(Value.pointer (some ⟨pd, 0, none⟩)), (Value.pointer (some ⟨pn, 0, none⟩)), (Value.pointer (some ⟨pi, 0, none⟩)), (Value.pointer (some ⟨pq, 0, none⟩)), (Value.pointer (some ⟨pr, 0, none⟩)), (Value.pointer (some ⟨pm, 0, none⟩))])) Try.plain44 rfl (inVc hE.cr) rfl) ?_
    refine oq (qv_fa (off := 0) Try.field42_2 rfl) ?_
    refine oq (qv_ldp (v := (.int .i64 ((fk N (r - 2)).h))) Try.plain3 rfl (inOc (k := 4) rfl) rfl) ?_
    refine ops_call (σa := [(Arr 95 bb [u, (Value.map (some bi))]), (Gr 42 3 u M.length ((fks M))), (Mf bi fkv (Value.int .i64) (idxF M)), (Mf bd (Value.int .i64) (Value.int .i64) Dn)]) (σr := [(Arr 42 b1 [(.int .i64 ((fk N (r - 2)).v)), (.int .i64 ((fk N (r - 2)).l)), (.int .i64 ((fk N (r - 2)).h))])]) (IH _ (fk N (r - 2)).h M Dn u hE ⟨by omega, by omega⟩ (by omega) hI (by omega)) rfl rfl (.refl _) (fun r1 V1 sg1 hV1 hp1 => ?_)
    obtain ⟨M1, D1, p1, u1, rfl, rfl, A⟩ := hp1
    have hAl := A.len
    have hE := hE.mono hV1
    refine oq (qv_as (Value.int .i64 p1) rfl) ?_
    refine ops_nil ?_
    refine vc_seq ?_
    refine vc_res (σ' := [(Arr 95 bb [u1, (Value.map (some bi))]), (Gr 42 3 u1 M1.length ((fks M1))), (Mf bi fkv (Value.int .i64) (idxF M1)), (Mf bd (Value.int .i64) (Value.int .i64) D1), (Arr 42 b1 [(.int .i64 ((fk N (r - 2)).v)), (.int .i64 ((fk N (r - 2)).l)), (.int .i64 ((fk N (r - 2)).h))])]) rfl ?_
    refine vc_region ?_
    refine oq (qv_ldp (v := (Value.map (some bd))) Try.plain101 rfl (inVc hE.cd) rfl) ?_
    refine oq (qv_mv (Value.int .i64 r) rfl) ?_
    refine oq (qv_mv (Value.int .i64 p1) rfl) ?_
    refine ops_mapset (k := 3) (key := r) (v := p1) Try.underlying101 (KeyT.int Try.underlying3) rfl rfl rfl rfl ?_
    refine ops_nil ?_
    refine vc_seq ?_
    refine vc_res (σ' := [(Arr 95 bb [u1, (Value.map (some bi))]), (Gr 42 3 u1 M1.length ((fks M1))), (Mf bi fkv (Value.int .i64) (idxF M1)), (Mf bd (Value.int .i64) (Value.int .i64) (setF D1 r p1)), (Arr 42 b1 [(.int .i64 ((fk N (r - 2)).v)), (.int .i64 ((fk N (r - 2)).l)), (.int .i64 ((fk N (r - 2)).h))])]) rfl ?_
    refine vc_region ?_
    refine oq (qv_mv (Value.int .i64 p1) rfl) ?_
    refine oq (qv_as (Value.int .i64 p1) rfl) ?_
    refine ops_nil ?_
    refine vc_drop [(Arr 95 bb [u1, (Value.map (some bi))]), (Gr 42 3 u1 M1.length ((fks M1))), (Mf bi fkv (Value.int .i64) (idxF M1)), (Mf bd (Value.int .i64) (Value.int .i64) (setF D1 r p1))] [(Arr 42 b1 [(Value.int .i64 ((fk N (r - 2)).v)), (Value.int .i64 ((fk N (r - 2)).l)), (Value.int .i64 ((fk N (r - 2)).h))])] ((List.perm_middle (l₁ := [(Arr 95 bb [u1, (Value.map (some bi))]), (Gr 42 3 u1 M1.length ((fks M1))), (Mf bi fkv (Value.int .i64) (idxF M1)), (Mf bd (Value.int .i64) (Value.int .i64) (setF D1 r p1))]) (l₂ := [])).trans (List.perm_append_comm (l₁ := [(Arr 42 b1 [(Value.int .i64 ((fk N (r - 2)).v)), (Value.int .i64 ((fk N (r - 2)).l)), (Value.int .i64 ((fk N (r - 2)).h))])]))) ?_
    refine vc_ret ?_
    refine rq1 (Value.int .i64 p1) rfl ?_
    exact ⟨M1, setF D1 r p1, p1, u1, rfl, rfl, res_one hE.fm h2 hr (by omega) (c := (fk N (r - 2)).h) (by rw [if_pos hbq]) A⟩
   ·
    refine vc_seq ?_
    refine vc_region ?_
    refine oq (qv_fa (off := 0) Try.field42_0 rfl) ?_
    refine oq (qv_ldp (v := (.int .i64 ((fk N (r - 2)).v))) Try.plain3 rfl (inOc (k := 4) rfl) rfl) ?_
    refine oq (qv_ldp (v := (Value.int .i64 i)) Try.plain3 rfl (inVc hE.ci) rfl) ?_
    refine oq (qv_eql rfl rfl) ?_
    refine oq (qv_as (.bool (decide (((fk N (r - 2)).v) = i))) rfl) ?_
    refine ops_nil ?_
    refine vc_if_t rfl g1 ?_
    have hbq : ¬ b = true := fun z => by first | exact absurd z (by assumption) | omega
    refine vc_region ?_
    refine oq (qv_ldp (v := (Value.func (.func 78) #[] #[(Value.pointer (some ⟨pd, 0, none⟩)), (Value.pointer (some ⟨pn, 0, none⟩)), (Value.pointer (some ⟨pi, 0, none⟩)), (Value.pointer (some ⟨pq, 0, none⟩)), (Value.pointer (some ⟨pr, 0, none⟩)), (Value.pointer (some ⟨pm, 0, none⟩))])) Try.plain44 rfl (inVc hE.cr) rfl) ?_
    refine oq (qv_fa (off := 0) Try.field42_1 rfl) ?_
    refine oq (qv_ldp (v := (.int .i64 ((fk N (r - 2)).l))) Try.plain3 rfl (inOc (k := 4) rfl) rfl) ?_
    refine ops_call (σa := [(Arr 95 bb [u, (Value.map (some bi))]), (Gr 42 3 u M.length ((fks M))), (Mf bi fkv (Value.int .i64) (idxF M)), (Mf bd (Value.int .i64) (Value.int .i64) Dn)]) (σr := [(Arr 42 b1 [(.int .i64 ((fk N (r - 2)).v)), (.int .i64 ((fk N (r - 2)).l)), (.int .i64 ((fk N (r - 2)).h))])]) (IH _ (fk N (r - 2)).l M Dn u hE ⟨by omega, by omega⟩ (by omega) hI (by omega)) rfl rfl (.refl _) (fun r2 V2 sg2 hV2 hp2 => ?_)
    obtain ⟨M1, D1, p1, u1, rfl, rfl, A⟩ := hp2
    have hAl := A.len
    have hE := hE.mono hV2
    refine oq (qv_as (Value.int .i64 p1) rfl) ?_
    refine ops_nil ?_
    refine vc_seq ?_
    refine vc_res (σ' := [(Arr 95 bb [u1, (Value.map (some bi))]), (Gr 42 3 u1 M1.length ((fks M1))), (Mf bi fkv (Value.int .i64) (idxF M1)), (Mf bd (Value.int .i64) (Value.int .i64) D1), (Arr 42 b1 [(.int .i64 ((fk N (r - 2)).v)), (.int .i64 ((fk N (r - 2)).l)), (.int .i64 ((fk N (r - 2)).h))])]) rfl ?_
    refine vc_region ?_
    refine oq (qv_ldp (v := (Value.map (some bd))) Try.plain101 rfl (inVc hE.cd) rfl) ?_
    refine oq (qv_mv (Value.int .i64 r) rfl) ?_
    refine oq (qv_mv (Value.int .i64 p1) rfl) ?_
    refine ops_mapset (k := 3) (key := r) (v := p1) Try.underlying101 (KeyT.int Try.underlying3) rfl rfl rfl rfl ?_
    refine ops_nil ?_
    refine vc_seq ?_
    refine vc_res (σ' := [(Arr 95 bb [u1, (Value.map (some bi))]), (Gr 42 3 u1 M1.length ((fks M1))), (Mf bi fkv (Value.int .i64) (idxF M1)), (Mf bd (Value.int .i64) (Value.int .i64) (setF D1 r p1)), (Arr 42 b1 [(.int .i64 ((fk N (r - 2)).v)), (.int .i64 ((fk N (r - 2)).l)), (.int .i64 ((fk N (r - 2)).h))])]) rfl ?_
    refine vc_region ?_
    refine oq (qv_mv (Value.int .i64 p1) rfl) ?_
    refine oq (qv_as (Value.int .i64 p1) rfl) ?_
    refine ops_nil ?_
    refine vc_drop [(Arr 95 bb [u1, (Value.map (some bi))]), (Gr 42 3 u1 M1.length ((fks M1))), (Mf bi fkv (Value.int .i64) (idxF M1)), (Mf bd (Value.int .i64) (Value.int .i64) (setF D1 r p1))] [(Arr 42 b1 [(Value.int .i64 ((fk N (r - 2)).v)), (Value.int .i64 ((fk N (r - 2)).l)), (Value.int .i64 ((fk N (r - 2)).h))])] ((List.perm_middle (l₁ := [(Arr 95 bb [u1, (Value.map (some bi))]), (Gr 42 3 u1 M1.length ((fks M1))), (Mf bi fkv (Value.int .i64) (idxF M1)), (Mf bd (Value.int .i64) (Value.int .i64) (setF D1 r p1))]) (l₂ := [])).trans (List.perm_append_comm (l₁ := [(Arr 42 b1 [(Value.int .i64 ((fk N (r - 2)).v)), (Value.int .i64 ((fk N (r - 2)).l)), (Value.int .i64 ((fk N (r - 2)).h))])]))) ?_
    refine vc_ret ?_
    refine rq1 (Value.int .i64 p1) rfl ?_
    exact ⟨M1, setF D1 r p1, p1, u1, rfl, rfl, res_one hE.fm h2 hr (by omega) (c := (fk N (r - 2)).l) (by rw [if_neg hbq]) A⟩
  ·
   refine os (want_tn g1 rfl rfl rfl) ?_
   refine oq (qv_pick_f g1 rfl (rfl : ev _ _ = (Value.bool false))) ?_
   refine oq (qv_as (Value.bool false) rfl) ?_
   refine ops_nil ?_
   refine vc_ff rfl ?_
   refine vc_seq ?_
   refine vc_region ?_
   refine oq (qv_fa (off := 0) Try.field42_0 rfl) ?_
   refine oq (qv_ldp (v := (.int .i64 ((fk N (r - 2)).v))) Try.plain3 rfl (inOc (k := 4) rfl) rfl) ?_
   refine oq (qv_ldp (v := (Value.int .i64 i)) Try.plain3 rfl (inVc hE.ci) rfl) ?_
   refine oq (qv_eql rfl rfl) ?_
   refine oq (qv_as (.bool (decide (((fk N (r - 2)).v) = i))) rfl) ?_
   refine ops_nil ?_
   refine vc_if_f rfl g1 ?_
   refine vc_seq ?_
   refine vc_region ?_
   refine oq (qv_ldp (v := (Value.func (.func 78) #[] #[(Value.pointer (some ⟨pd, 0, none⟩)), (Value.pointer (some ⟨pn, 0, none⟩)), (Value.pointer (some ⟨pi, 0, none⟩)), (Value.pointer (some ⟨pq, 0, none⟩)), (Value.pointer (some ⟨pr, 0, none⟩)), (Value.pointer (some ⟨pm, 0, none⟩))])) Try.plain44 rfl (inVc hE.cr) rfl) ?_
   refine oq (qv_fa (off := 0) Try.field42_1 rfl) ?_
   refine oq (qv_ldp (v := (.int .i64 ((fk N (r - 2)).l))) Try.plain3 rfl (inOc (k := 4) rfl) rfl) ?_
   refine ops_call (σa := [(Arr 95 bb [u, (Value.map (some bi))]), (Gr 42 3 u M.length ((fks M))), (Mf bi fkv (Value.int .i64) (idxF M)), (Mf bd (Value.int .i64) (Value.int .i64) Dn)]) (σr := [(Arr 42 b1 [(.int .i64 ((fk N (r - 2)).v)), (.int .i64 ((fk N (r - 2)).l)), (.int .i64 ((fk N (r - 2)).h))])]) (IH _ (fk N (r - 2)).l M Dn u hE ⟨by omega, by omega⟩ (by omega) hI (by omega)) rfl rfl (.refl _) (fun r3 V3 sg3 hV3 hp3 => ?_)
   obtain ⟨M1, D1, p1, u1, rfl, rfl, A⟩ := hp3
   have hAl := A.len
   have hE := hE.mono hV3
   refine oq (qv_as (Value.int .i64 p1) rfl) ?_
   refine ops_nil ?_
   refine vc_seq ?_
   refine vc_res (σ' := [(Arr 95 bb [u1, (Value.map (some bi))]), (Gr 42 3 u1 M1.length ((fks M1))), (Mf bi fkv (Value.int .i64) (idxF M1)), (Mf bd (Value.int .i64) (Value.int .i64) D1), (Arr 42 b1 [(.int .i64 ((fk N (r - 2)).v)), (.int .i64 ((fk N (r - 2)).l)), (.int .i64 ((fk N (r - 2)).h))])]) rfl ?_
   refine vc_region ?_
   refine oq (qv_ldp (v := (Value.func (.func 78) #[] #[(Value.pointer (some ⟨pd, 0, none⟩)), (Value.pointer (some ⟨pn, 0, none⟩)), (Value.pointer (some ⟨pi, 0, none⟩)), (Value.pointer (some ⟨pq, 0, none⟩)), (Value.pointer (some ⟨pr, 0, none⟩)), (Value.pointer (some ⟨pm, 0, none⟩))])) Try.plain44 rfl (inVc hE.cr) rfl) ?_
   refine oq (qv_fa (off := 0) Try.field42_2 rfl) ?_
   refine oq (qv_ldp (v := (.int .i64 ((fk N (r - 2)).h))) Try.plain3 rfl (inOc (k := 4) rfl) rfl) ?_
   refine ops_call (σa := [(Arr 95 bb [u1, (Value.map (some bi))]), (Gr 42 3 u1 M1.length ((fks M1))), (Mf bi fkv (Value.int .i64) (idxF M1)), (Mf bd (Value.int .i64) (Value.int .i64) D1)]) (σr := [(Arr 42 b1 [(.int .i64 ((fk N (r - 2)).v)), (.int .i64 ((fk N (r - 2)).l)), (.int .i64 ((fk N (r - 2)).h))])]) (IH _ (fk N (r - 2)).h M1 D1 u1 hE ⟨by omega, by omega⟩ (by omega) A.inv (by omega)) rfl rfl (.refl _) (fun r4 V4 sg4 hV4 hp4 => ?_)
   obtain ⟨M2, D2, p2, u2, rfl, rfl, B⟩ := hp4
   have hBl := B.len
   have hE := hE.mono hV4
   refine oq (qv_as (Value.int .i64 p2) rfl) ?_
   refine ops_nil ?_
   refine vc_res (σ' := [(Arr 95 bb [u2, (Value.map (some bi))]), (Gr 42 3 u2 M2.length ((fks M2))), (Mf bi fkv (Value.int .i64) (idxF M2)), (Mf bd (Value.int .i64) (Value.int .i64) D2), (Arr 42 b1 [(.int .i64 ((fk N (r - 2)).v)), (.int .i64 ((fk N (r - 2)).l)), (.int .i64 ((fk N (r - 2)).h))])]) rfl ?_
   refine vc_region ?_
   refine oq (qv_ldp (v := (Value.pointer (some ⟨bb, 0, none⟩))) Try.plain92 rfl (inVc hE.cm) rfl) ?_
   refine oq (qv_fa (off := 0) Try.field42_0 rfl) ?_
   refine oq (qv_ldp (v := (.int .i64 ((fk N (r - 2)).v))) Try.plain3 rfl (inOc (k := 4) rfl) rfl) ?_
   refine oq (qv_mv (Value.int .i64 p1) rfl) ?_
   refine oq (qv_mv (Value.int .i64 p2) rfl) ?_
   refine ops_call (σa := [(Arr 95 bb [u2, (Value.map (some bi))]), (Gr 42 3 u2 M2.length ((fks M2))), (Mf bi fkv (Value.int .i64) (idxF M2))]) (σr := [(Mf bd (Value.int .i64) (Value.int .i64) D2), (Arr 42 b1 [(.int .i64 ((fk N (r - 2)).v)), (.int .i64 ((fk N (r - 2)).l)), (.int .i64 ((fk N (r - 2)).h))])]) (node_c (M := M2) (v := (fk N (r - 2)).v) (l := p1) (h := p2) (u := u2) (by omega)) rfl rfl (.refl _) (fun r5 V5 sg5 hV5 hp5 => ?_)
   obtain ⟨rfl, u3, rfl⟩ := hp5
   have hE := hE.mono hV5
   refine oq (qv_as (.int .i64 ((nodeR M2 (fk N (r - 2)).v p1 p2).2)) rfl) ?_
   refine ops_nil ?_
   refine vc_seq ?_
   refine vc_res (σ' := [(Arr 95 bb [u3, (Value.map (some bi))]), (Gr 42 3 u3 ((nodeR M2 (fk N (r - 2)).v p1 p2).1.length) ((fks (nodeR M2 (fk N (r - 2)).v p1 p2).1))), (Mf bi fkv (Value.int .i64) (idxF (nodeR M2 (fk N (r - 2)).v p1 p2).1)), (Mf bd (Value.int .i64) (Value.int .i64) D2), (Arr 42 b1 [(.int .i64 ((fk N (r - 2)).v)), (.int .i64 ((fk N (r - 2)).l)), (.int .i64 ((fk N (r - 2)).h))])]) rfl ?_
   refine vc_region ?_
   refine oq (qv_ldp (v := (Value.map (some bd))) Try.plain101 rfl (inVc hE.cd) rfl) ?_
   refine oq (qv_mv (Value.int .i64 r) rfl) ?_
   refine oq (qv_mv (.int .i64 ((nodeR M2 (fk N (r - 2)).v p1 p2).2)) rfl) ?_
   refine ops_mapset (k := 3) (key := r) (v := (nodeR M2 (fk N (r - 2)).v p1 p2).2) Try.underlying101 (KeyT.int Try.underlying3) rfl rfl rfl rfl ?_
   refine ops_nil ?_
   refine vc_seq ?_
   refine vc_res (σ' := [(Arr 95 bb [u3, (Value.map (some bi))]), (Gr 42 3 u3 ((nodeR M2 (fk N (r - 2)).v p1 p2).1.length) ((fks (nodeR M2 (fk N (r - 2)).v p1 p2).1))), (Mf bi fkv (Value.int .i64) (idxF (nodeR M2 (fk N (r - 2)).v p1 p2).1)), (Mf bd (Value.int .i64) (Value.int .i64) (setF D2 r ((nodeR M2 (fk N (r - 2)).v p1 p2).2))), (Arr 42 b1 [(.int .i64 ((fk N (r - 2)).v)), (.int .i64 ((fk N (r - 2)).l)), (.int .i64 ((fk N (r - 2)).h))])]) rfl ?_
   refine vc_region ?_
   refine oq (qv_mv (.int .i64 ((nodeR M2 (fk N (r - 2)).v p1 p2).2)) rfl) ?_
   refine oq (qv_as (.int .i64 ((nodeR M2 (fk N (r - 2)).v p1 p2).2)) rfl) ?_
   refine ops_nil ?_
   refine vc_drop [(Arr 95 bb [u3, (Value.map (some bi))]), (Gr 42 3 u3 ((nodeR M2 (fk N (r - 2)).v p1 p2).1.length) ((fks (nodeR M2 (fk N (r - 2)).v p1 p2).1))), (Mf bi fkv (Value.int .i64) (idxF (nodeR M2 (fk N (r - 2)).v p1 p2).1)), (Mf bd (Value.int .i64) (Value.int .i64) (setF D2 r ((nodeR M2 (fk N (r - 2)).v p1 p2).2)))] [(Arr 42 b1 [(Value.int .i64 ((fk N (r - 2)).v)), (Value.int .i64 ((fk N (r - 2)).l)), (Value.int .i64 ((fk N (r - 2)).h))])] ((List.perm_middle (l₁ := [(Arr 95 bb [u3, (Value.map (some bi))]), (Gr 42 3 u3 ((nodeR M2 (fk N (r - 2)).v p1 p2).1.length) ((fks (nodeR M2 (fk N (r - 2)).v p1 p2).1))), (Mf bi fkv (Value.int .i64) (idxF (nodeR M2 (fk N (r - 2)).v p1 p2).1)), (Mf bd (Value.int .i64) (Value.int .i64) (setF D2 r ((nodeR M2 (fk N (r - 2)).v p1 p2).2)))]) (l₂ := [])).trans (List.perm_append_comm (l₁ := [(Arr 42 b1 [(Value.int .i64 ((fk N (r - 2)).v)), (Value.int .i64 ((fk N (r - 2)).l)), (Value.int .i64 ((fk N (r - 2)).h))])]))) ?_
   refine vc_ret ?_
   refine rq1 (.int .i64 ((nodeR M2 (fk N (r - 2)).v p1 p2).2)) rfl ?_
   exact ⟨(nodeR M2 (fk N (r - 2)).v p1 p2).1, setF D2 r (nodeR M2 (fk N (r - 2)).v p1 p2).2, (nodeR M2 (fk N (r - 2)).v p1 p2).2, u3, rfl, rfl, res_node hE.fm h2 hr (by omega) A B rfl⟩

theorem rst_c {vars : Int} {N : List Fk} {nv : Value} {root i : Int} {b : Bool} {pd pn pi pq pr pm bb bd bi : Nat} : ∀ n, RstC vars N nv root i b pd pn pi pq pr pm bb bd bi n
  | 0 => fun V r M Dn u _ hr hk => by have := hr.1; omega
  | n + 1 => fun V r M Dn u hE hr hk hI hMb => rst_step (rst_c n) hE hr hk hI hMb
end Go.Proofs.Ytgehdgeiikjohaa
