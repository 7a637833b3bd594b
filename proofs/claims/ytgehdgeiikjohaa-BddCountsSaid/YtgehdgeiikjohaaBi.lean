/- Walks of bdd: what each function returns. Printed by a program out of notes. -/
import Derived.Test.YtgehdgeiikjohaaBh
namespace Go.Proofs.Ytgehdgeiikjohaa
open Go.Vc
open Classical

set_option maxRecDepth 100000 in
set_option maxHeartbeats 4000000 in
theorem limited_c {V : HV} {nv : Value} {N : List Fk} {vars root : Int} (hN : Fks V nv N) (hl4 : N.length ≤ 4096) :
    FnC Try.prog 54 [(.agg #[(Value.int .i64 vars), nv, (Value.int .i64 root)])] V [] (RD ⟨vars, N, root⟩ 0) := by
 refine fn_intro (N := 10) Try.func54 (by kernel_rfl) rfl rfl rfl (Nat.le_of_ble_eq_true rfl) ?_
 intro w0 D
 refine vc_seq ?_
 refine vc_region ?_
 refine ops_box (v := (.agg #[(Value.int .i64 vars), nv, (Value.int .i64 root)])) (cs := [(Value.int .i64 vars), nv, (Value.int .i64 root)]) rfl rfl (fun b1 => ?_)
 refine ops_alloc Try.ti24 rfl (fun b2 => ?_)
 refine oq (qv_as (Value.int .i64 0) rfl) ?_
 refine ops_nil ?_
 refine vc_seq ?_
 refine vc_seq ?_
 refine vc_res (σ' := [(Arr 24 b1 [(Value.int .i64 vars), nv, (Value.int .i64 root)]), (Arr 24 b2 [(Value.int .i64 0), (Value.slice none 0 0), (Value.int .i64 0)])]) rfl ?_
 refine vc_region ?_
 refine oq (qv_fa (off := 0) Try.field24_1 rfl) ?_
 refine oq (qv_ldp (v := nv) Try.plain22 rfl (inOc (k := 0) rfl) rfl) ?_
 refine oq (qv_lenSS Try.underlying22 rfl hN) ?_
 refine oq (qv_gtr rfl rfl) ?_
 refine ops_nil ?_
 refine vc_if rfl (fun c1 => ?_) (fun c1 => ?_)
 ·
  omega
 ·
  refine vc_skip ?_
  refine vc_seq ?_
  refine vc_region ?_
  refine oq (qv_ldm (vs := [(Value.int .i64 vars), nv, (Value.int .i64 root)]) Try.agg24 rfl (inOc (k := 0) rfl) rfl rfl) ?_
  refine ops_stw (k := 1) (vs := [(Value.int .i64 vars), nv, (Value.int .i64 root)]) Try.size24 rfl rfl rfl (allc rfl (allc (SlS.one hN) (allc rfl rfl))) rfl rfl ?_
  refine oq (qv_as (Value.int .i64 0) rfl) ?_
  refine ops_nil ?_
  refine vc_freeze (b := b2) (o := .cells ([(Value.int .i64 vars), nv, (Value.int .i64 root)] : List Value).toArray 24 (0, 0)) (σr := [(Arr 24 b1 [(Value.int .i64 vars), nv, (Value.int .i64 root)])]) (List.perm_middle (l₁ := [(Arr 24 b1 [(Value.int .i64 vars), nv, (Value.int .i64 root)])]) (l₂ := [])) (fun Vf1 hVf1 hb1 => ?_)
  have hc1 : Cells Vf1 b2 [(Value.int .i64 vars), nv, (Value.int .i64 root)] := ⟨_, _, hb1⟩
  have hN := hN.mono hVf1
  refine vc_drop [] [(Arr 24 b1 [(Value.int .i64 vars), nv, (Value.int .i64 root)])] (.refl _) ?_
  refine vc_ret ?_
  refine rs2 _ (Value.int .i64 0) (rv_c (vs := [(Value.int .i64 vars), nv, (Value.int .i64 root)]) Try.agg24 rfl (inVc hc1) rfl rfl) (rv_t rfl) ?_
  exact ⟨rfl, nv, rfl, hN⟩

set_option maxRecDepth 100000 in
set_option maxHeartbeats 4000000 in
theorem Apply_c {V : HV} {op : Int} {na : Value} {A : Dg} (hA : Fks V na A.N) {nb : Value} {B : Dg} (hB : Fks V nb B.N) (h12 : A.v ≤ 12) :
    FnC Try.prog 17 [(Value.int .i64 op), (.agg #[(.int .i64 A.v), na, (.int .i64 A.r)]), (.agg #[(.int .i64 B.v), nb, (.int .i64 B.r)])] V [] (RD (apD op A B) (apE op A B)) := by
 refine fn_intro (N := 32) Try.func17 (by kernel_rfl) rfl rfl rfl (Nat.le_of_ble_eq_true rfl) ?_
 intro w0 D
 refine vc_seq ?_
 refine vc_region ?_
 refine ops_box (v := (Value.int .i64 op)) (cs := [(Value.int .i64 op)]) rfl rfl (fun b1 => ?_)
 refine ops_box (v := (.agg #[(.int .i64 A.v), na, (.int .i64 A.r)])) (cs := [(.int .i64 A.v), na, (.int .i64 A.r)]) rfl rfl (fun b2 => ?_)
 refine ops_box (v := (.agg #[(.int .i64 B.v), nb, (.int .i64 B.r)])) (cs := [(.int .i64 B.v), nb, (.int .i64 B.r)]) rfl rfl (fun b3 => ?_)
 refine ops_alloc Try.ti24 rfl (fun b4 => ?_)
 refine oq (qv_as (Value.int .i64 0) rfl) ?_
 refine ops_nil ?_
 refine vc_seq ?_
 refine vc_seq ?_
 refine vc_res (σ' := [(Arr 3 b1 [(Value.int .i64 op)]), (Arr 24 b2 [(.int .i64 A.v), na, (.int .i64 A.r)]), (Arr 24 b3 [(.int .i64 B.v), nb, (.int .i64 B.r)]), (Arr 24 b4 [(Value.int .i64 0), (Value.slice none 0 0), (Value.int .i64 0)])]) rfl ?_
 refine vc_region ?_
 refine oq (qv_ldm (vs := [(.int .i64 A.v), na, (.int .i64 A.r)]) Try.agg24 rfl (inOc (k := 1) rfl) rfl rfl) ?_
 refine oq (qv_ldm (vs := [(.int .i64 B.v), nb, (.int .i64 B.r)]) Try.agg24 rfl (inOc (k := 2) rfl) rfl rfl) ?_
 refine ops_lit (n := 2) (s := 3) (cs := [(.int .i64 A.v), na, (.int .i64 A.r), (.int .i64 B.v), nb, (.int .i64 B.r)]) Try.underlying83 Try.ti24 (Nat.le_of_ble_eq_true rfl) rfl rfl rfl (Nat.le_of_ble_eq_true rfl) rfl (fun b5 => ?_)
 refine ops_freeze (b := b5) (o := .cells ([(Value.int .i64 (A.v)), na, (Value.int .i64 (A.r)), (Value.int .i64 (B.v)), nb, (Value.int .i64 (B.r))] : List Value).toArray 24 (0, 0)) (σr := [(Arr 3 b1 [(Value.int .i64 op)]), (Arr 24 b2 [(Value.int .i64 (A.v)), na, (Value.int .i64 (A.r))]), (Arr 24 b3 [(Value.int .i64 (B.v)), nb, (Value.int .i64 (B.r))]), (Arr 24 b4 [(Value.int .i64 0), (Value.slice none 0 0), (Value.int .i64 0)])]) (List.perm_middle (l₁ := [(Arr 3 b1 [(Value.int .i64 op)]), (Arr 24 b2 [(Value.int .i64 (A.v)), na, (Value.int .i64 (A.r))]), (Arr 24 b3 [(Value.int .i64 (B.v)), nb, (Value.int .i64 (B.r))]), (Arr 24 b4 [(Value.int .i64 0), (Value.slice none 0 0), (Value.int .i64 0)])]) (l₂ := [])) (fun Vf1 hVf1 hb1 => ?_)
 have hc1 : Cells Vf1 b5 [(.int .i64 A.v), na, (.int .i64 A.r), (.int .i64 B.v), nb, (.int .i64 B.r)] := ⟨_, _, hb1⟩
 have hA := hA.mono hVf1
 have hB := hB.mono hVf1
 refine oq (qv_call (v := (.int .i64 (vE [A, B]))) (valid_c (Bdl.two hc1 hA hB) (by show 1 ≤ 2; omega)) rfl rfl) ?_
 refine oq (qv_as (.int .i64 (vE [A, B])) rfl) ?_
 refine ops_nil ?_
 refine vc_seq ?_
 refine vc_region ?_
 refine oq (qv_mv (.int .i64 (vE [A, B])) rfl) ?_
 refine oq (qv_neq rfl rfl) ?_
 refine ops_nil ?_
 refine vc_if rfl (fun c1 => ?_) (fun c1 => ?_)
 ·
  refine vc_seq ?_
  refine vc_region ?_
  refine oq (qv_build (out := [(Value.int .i64 0), (Value.slice none 0 0), (Value.int .i64 0)]) Try.build24 [] rfl rfl) ?_
  refine oq (qv_mv (.int .i64 (vE [A, B])) rfl) ?_
  refine ops_stw (k := 3) (vs := [(Value.int .i64 0), (Value.slice none 0 0), (Value.int .i64 0)]) Try.size24 rfl rfl rfl rfl rfl rfl ?_
  refine oq (qv_as (.int .i64 (vE [A, B])) rfl) ?_
  refine ops_nil ?_
  refine vc_freeze (b := b4) (o := .cells ([(Value.int .i64 0), (Value.slice none 0 0), (Value.int .i64 0)] : List Value).toArray 24 (0, 0)) (σr := [(Arr 3 b1 [(Value.int .i64 op)]), (Arr 24 b2 [(Value.int .i64 (A.v)), na, (Value.int .i64 (A.r))]), (Arr 24 b3 [(Value.int .i64 (B.v)), nb, (Value.int .i64 (B.r))])]) (List.perm_middle (l₁ := [(Arr 3 b1 [(Value.int .i64 op)]), (Arr 24 b2 [(Value.int .i64 (A.v)), na, (Value.int .i64 (A.r))]), (Arr 24 b3 [(Value.int .i64 (B.v)), nb, (Value.int .i64 (B.r))])]) (l₂ := [])) (fun Vf2 hVf2 hb2 => ?_)
  have hc2 : Cells Vf2 b4 [(Value.int .i64 0), (Value.slice none 0 0), (Value.int .i64 0)] := ⟨_, _, hb2⟩
  have hA := hA.mono hVf2
  have hB := hB.mono hVf2
  have hc1 := hc1.mono hVf2
  refine vc_drop [] [(Arr 3 b1 [(Value.int .i64 op)]), (Arr 24 b2 [(.int .i64 A.v), na, (.int .i64 A.r)]), (Arr 24 b3 [(.int .i64 B.v), nb, (.int .i64 B.r)])] (.refl _) ?_
  refine vc_ret ?_
  refine rs2 _ (.int .i64 (vE [A, B])) (rv_c (vs := [(Value.int .i64 0), (Value.slice none 0 0), (Value.int .i64 0)]) Try.agg24 rfl (inVc hc2) rfl rfl) (rv_t rfl) ?_
  obtain ⟨e1, e2⟩ := apE_v (A := A) (B := B) (op := op) (by omega)
  rw [e1, e2]
  exact ⟨rfl, _, rfl, Fks.nil⟩
 ·
  refine vc_skip ?_
  refine vc_seq ?_
  refine vc_seq ?_
  have hz : vE [A, B] = 0 := by omega
  have hcm : Cmb A.v [A, B] := cmb_of (by show 1 ≤ 2; omega) (by show 2 ≤ 3; omega) hz
  refine vc_region ?_
  refine oq (qv_ldp (v := (Value.int .i64 op)) Try.plain3 rfl (inOc (k := 0) rfl) rfl) ?_
  refine oq (qv_lss rfl rfl) ?_
  refine oq (qv_mv (.bool (decide (op < 0))) rfl) ?_
  by_cases g1 : op < 0
  ·
   refine os (want_fn g1 rfl rfl rfl) ?_
   refine os (want_fn g1 rfl rfl rfl) ?_
   refine oq (qv_pick_t g1 rfl (rfl : ev _ _ = (Value.bool true))) ?_
   refine ops_nil ?_
   refine vc_tt rfl ?_
   refine vc_seq ?_
   refine vc_region ?_
   refine oq (qv_build (out := [(Value.int .i64 0), (Value.slice none 0 0), (Value.int .i64 0)]) Try.build24 [] rfl rfl) ?_
   refine ops_stw (k := 3) (vs := [(Value.int .i64 0), (Value.slice none 0 0), (Value.int .i64 0)]) Try.size24 rfl rfl rfl rfl rfl rfl ?_
   refine oq (qv_as (Value.int .i64 3) rfl) ?_
   refine ops_nil ?_
   refine vc_freeze (b := b4) (o := .cells ([(Value.int .i64 0), (Value.slice none 0 0), (Value.int .i64 0)] : List Value).toArray 24 (0, 0)) (σr := [(Arr 3 b1 [(Value.int .i64 op)]), (Arr 24 b2 [(Value.int .i64 (A.v)), na, (Value.int .i64 (A.r))]), (Arr 24 b3 [(Value.int .i64 (B.v)), nb, (Value.int .i64 (B.r))])]) (List.perm_middle (l₁ := [(Arr 3 b1 [(Value.int .i64 op)]), (Arr 24 b2 [(Value.int .i64 (A.v)), na, (Value.int .i64 (A.r))]), (Arr 24 b3 [(Value.int .i64 (B.v)), nb, (Value.int .i64 (B.r))])]) (l₂ := [])) (fun Vf3 hVf3 hb3 => ?_)
   have hc3 : Cells Vf3 b4 [(Value.int .i64 0), (Value.slice none 0 0), (Value.int .i64 0)] := ⟨_, _, hb3⟩
   have hA := hA.mono hVf3
   have hB := hB.mono hVf3
   have hc1 := hc1.mono hVf3
   refine vc_drop [] [(Arr 3 b1 [(Value.int .i64 op)]), (Arr 24 b2 [(.int .i64 A.v), na, (.int .i64 A.r)]), (Arr 24 b3 [(.int .i64 B.v), nb, (.int .i64 B.r)])] (.refl _) ?_
   refine vc_ret ?_
   refine rs2 _ (Value.int .i64 3) (rv_c (vs := [(Value.int .i64 0), (Value.slice none 0 0), (Value.int .i64 0)]) Try.agg24 rfl (inVc hc3) rfl rfl) (rv_t rfl) ?_
   obtain ⟨e1, e2⟩ := apE_3 (A := A) (B := B) (op := op) hz (by omega)
   rw [e1, e2]
   exact ⟨rfl, _, rfl, Fks.nil⟩
  ·
   refine og (qv_ldp (v := (Value.int .i64 op)) Try.plain3 rfl (inOc (k := 0) rfl) rfl) (want_f g1 rfl rfl rfl) ?_
   refine og (qv_gtr rfl rfl) (want_f g1 rfl rfl rfl) ?_
   refine oq (qv_pick_f g1 rfl (rfl : ev _ _ = (.bool (decide (15 < op))))) ?_
   refine ops_nil ?_
   refine vc_if rfl (fun c2 => ?_) (fun c2 => ?_)
   ·
    refine vc_seq ?_
    refine vc_region ?_
    refine oq (qv_build (out := [(Value.int .i64 0), (Value.slice none 0 0), (Value.int .i64 0)]) Try.build24 [] rfl rfl) ?_
    refine ops_stw (k := 3) (vs := [(Value.int .i64 0), (Value.slice none 0 0), (Value.int .i64 0)]) Try.size24 rfl rfl rfl rfl rfl rfl ?_
    refine oq (qv_as (Value.int .i64 3) rfl) ?_
    refine ops_nil ?_
    refine vc_freeze (b := b4) (o := .cells ([(Value.int .i64 0), (Value.slice none 0 0), (Value.int .i64 0)] : List Value).toArray 24 (0, 0)) (σr := [(Arr 3 b1 [(Value.int .i64 op)]), (Arr 24 b2 [(Value.int .i64 (A.v)), na, (Value.int .i64 (A.r))]), (Arr 24 b3 [(Value.int .i64 (B.v)), nb, (Value.int .i64 (B.r))])]) (List.perm_middle (l₁ := [(Arr 3 b1 [(Value.int .i64 op)]), (Arr 24 b2 [(Value.int .i64 (A.v)), na, (Value.int .i64 (A.r))]), (Arr 24 b3 [(Value.int .i64 (B.v)), nb, (Value.int .i64 (B.r))])]) (l₂ := [])) (fun Vf4 hVf4 hb4 => ?_)
    have hc4 : Cells Vf4 b4 [(Value.int .i64 0), (Value.slice none 0 0), (Value.int .i64 0)] := ⟨_, _, hb4⟩
    have hA := hA.mono hVf4
    have hB := hB.mono hVf4
    have hc1 := hc1.mono hVf4
    refine vc_drop [] [(Arr 3 b1 [(Value.int .i64 op)]), (Arr 24 b2 [(.int .i64 A.v), na, (.int .i64 A.r)]), (Arr 24 b3 [(.int .i64 B.v), nb, (.int .i64 B.r)])] (.refl _) ?_
    refine vc_ret ?_
    refine rs2 _ (Value.int .i64 3) (rv_c (vs := [(Value.int .i64 0), (Value.slice none 0 0), (Value.int .i64 0)]) Try.agg24 rfl (inVc hc4) rfl rfl) (rv_t rfl) ?_
    obtain ⟨e1, e2⟩ := apE_3 (A := A) (B := B) (op := op) hz (by omega)
    rw [e1, e2]
    exact ⟨rfl, _, rfl, Fks.nil⟩
   ·
    refine vc_skip ?_
    refine vc_seq ?_
    have h0 : 0 ≤ op := by omega
    have h1 : op ≤ 15 := by omega
    refine vc_region ?_
    refine oq (qv_ldm (vs := [(.int .i64 A.v), na, (.int .i64 A.r)]) Try.agg24 rfl (inOc (k := 1) rfl) rfl rfl) ?_
    refine oq (qv_ldm (vs := [(.int .i64 B.v), nb, (.int .i64 B.r)]) Try.agg24 rfl (inOc (k := 2) rfl) rfl rfl) ?_
    refine ops_lit (n := 2) (s := 3) (cs := [(.int .i64 A.v), na, (.int .i64 A.r), (.int .i64 B.v), nb, (.int .i64 B.r)]) Try.underlying83 Try.ti24 (Nat.le_of_ble_eq_true rfl) rfl rfl rfl (Nat.le_of_ble_eq_true rfl) rfl (fun b6 => ?_)
    refine oq (qv_func (cs := [(Value.pointer (some ⟨b1, 0, none⟩))]) rfl) ?_
    refine ops_freeze (b := b6) (o := .cells ([(Value.int .i64 (A.v)), na, (Value.int .i64 (A.r)), (Value.int .i64 (B.v)), nb, (Value.int .i64 (B.r))] : List Value).toArray 24 (0, 0)) (σr := [(Arr 3 b1 [(Value.int .i64 op)]), (Arr 24 b2 [(Value.int .i64 (A.v)), na, (Value.int .i64 (A.r))]), (Arr 24 b3 [(Value.int .i64 (B.v)), nb, (Value.int .i64 (B.r))]), (Arr 24 b4 [(Value.int .i64 0), (Value.slice none 0 0), (Value.int .i64 0)])]) (List.perm_middle (l₁ := [(Arr 3 b1 [(Value.int .i64 op)]), (Arr 24 b2 [(Value.int .i64 (A.v)), na, (Value.int .i64 (A.r))]), (Arr 24 b3 [(Value.int .i64 (B.v)), nb, (Value.int .i64 (B.r))]), (Arr 24 b4 [(Value.int .i64 0), (Value.slice none 0 0), (Value.int .i64 0)])]) (l₂ := [])) (fun Vf5 hVf5 hb5 => ?_)
    have hc5 : Cells Vf5 b6 [(.int .i64 A.v), na, (.int .i64 A.r), (.int .i64 B.v), nb, (.int .i64 B.r)] := ⟨_, _, hb5⟩
    have hA := hA.mono hVf5
    have hB := hB.mono hVf5
    have hc1 := hc1.mono hVf5
    refine ops_freeze (b := b1) (o := .cells ([(Value.int .i64 op)] : List Value).toArray 3 (0, 0)) (σr := [(Arr 24 b2 [(Value.int .i64 (A.v)), na, (Value.int .i64 (A.r))]), (Arr 24 b3 [(Value.int .i64 (B.v)), nb, (Value.int .i64 (B.r))]), (Arr 24 b4 [(Value.int .i64 0), (Value.slice none 0 0), (Value.int .i64 0)])]) (List.perm_middle (l₁ := []) (l₂ := [(Arr 24 b2 [(Value.int .i64 (A.v)), na, (Value.int .i64 (A.r))]), (Arr 24 b3 [(Value.int .i64 (B.v)), nb, (Value.int .i64 (B.r))]), (Arr 24 b4 [(Value.int .i64 0), (Value.slice none 0 0), (Value.int .i64 0)])])) (fun Vf6 hVf6 hb6 => ?_)
    have hc6 : Cells Vf6 b1 [(Value.int .i64 op)] := ⟨_, _, hb6⟩
    have hA := hA.mono hVf6
    have hB := hB.mono hVf6
    have hc1 := hc1.mono hVf6
    have hc5 := hc5.mono hVf6
    refine ops_call (σa := []) (σr := [(Arr 24 b2 [(.int .i64 A.v), na, (.int .i64 A.r)]), (Arr 24 b3 [(.int .i64 B.v), nb, (.int .i64 B.r)]), (Arr 24 b4 [(Value.int .i64 0), (Value.slice none 0 0), (Value.int .i64 0)])]) (combine_c (F := opF op) (fid := 56) (fcaps := [(Value.pointer (some ⟨b1, 0, none⟩))]) (Bdl.two hc5 hA hB) hcm.ok (by show 1 ≤ 2; omega) hcm.v hcm.r (fun W s b0 b1 b2 => by have h := Apply1_c (V := W) (op := op) (p0 := b0 = true) (p1 := b1 = true) (p2 := b2 = true) h0 h1 (hc6.mono s); simp only [Bool.decide_eq_true] at h; exact h)) rfl rfl (.refl _) (fun r1 V1 sg1 hV1 hp1 => ?_)
    obtain ⟨rfl, u1, rfl, hN1⟩ := hp1
    have hA := hA.mono hV1
    have hB := hB.mono hV1
    have hc1 := hc1.mono hV1
    have hc5 := hc5.mono hV1
    have hc6 := hc6.mono hV1
    refine ops_call (σa := []) (σr := [(Arr 24 b2 [(.int .i64 A.v), na, (.int .i64 A.r)]), (Arr 24 b3 [(.int .i64 B.v), nb, (.int .i64 B.r)]), (Arr 24 b4 [(Value.int .i64 0), (Value.slice none 0 0), (Value.int .i64 0)])]) (limited_c hN1 (cmb_small h12)) rfl rfl (.refl _) (fun r2 V2 sg2 hV2 hp2 => ?_)
    obtain ⟨rfl, u2, rfl, hN2⟩ := hp2
    have hA := hA.mono hV2
    have hB := hB.mono hV2
    have hc1 := hc1.mono hV2
    have hc5 := hc5.mono hV2
    have hc6 := hc6.mono hV2
    have hN1 := hN1.mono hV2
    refine oq (qv_ext (.agg #[(.int .i64 A.v), u2, (.int .i64 ((cmb A.v [A, B] (opF op)).2))]) rfl rfl) ?_
    refine oq (qv_ext (Value.int .i64 0) rfl rfl) ?_
    refine ops_stw (k := 2) (vs := [(.int .i64 A.v), u2, (.int .i64 ((cmb A.v [A, B] (opF op)).2))]) Try.size24 rfl rfl rfl (allc rfl (allc (SlS.one hN2) (allc rfl rfl))) rfl rfl ?_
    refine oq (qv_as (Value.int .i64 0) rfl) ?_
    refine ops_nil ?_
    refine vc_freeze (b := b4) (o := .cells ([(Value.int .i64 (A.v)), u2, (Value.int .i64 ((cmb A.v [A, B] (opF op)).2))] : List Value).toArray 24 (0, 0)) (σr := [(Arr 24 b2 [(Value.int .i64 (A.v)), na, (Value.int .i64 (A.r))]), (Arr 24 b3 [(Value.int .i64 (B.v)), nb, (Value.int .i64 (B.r))])]) (List.perm_middle (l₁ := [(Arr 24 b2 [(Value.int .i64 (A.v)), na, (Value.int .i64 (A.r))]), (Arr 24 b3 [(Value.int .i64 (B.v)), nb, (Value.int .i64 (B.r))])]) (l₂ := [])) (fun Vf7 hVf7 hb7 => ?_)
    have hc7 : Cells Vf7 b4 [(.int .i64 A.v), u2, (.int .i64 ((cmb A.v [A, B] (opF op)).2))] := ⟨_, _, hb7⟩
    have hA := hA.mono hVf7
    have hB := hB.mono hVf7
    have hc1 := hc1.mono hVf7
    have hc5 := hc5.mono hVf7
    have hc6 := hc6.mono hVf7
    have hN1 := hN1.mono hVf7
    have hN2 := hN2.mono hVf7
    refine vc_drop [] [(Arr 24 b2 [(.int .i64 A.v), na, (.int .i64 A.r)]), (Arr 24 b3 [(.int .i64 B.v), nb, (.int .i64 B.r)])] (.refl _) ?_
    refine vc_ret ?_
    refine rs2 _ (Value.int .i64 0) (rv_c (vs := [(.int .i64 A.v), u2, (.int .i64 ((cmb A.v [A, B] (opF op)).2))]) Try.agg24 rfl (inVc hc7) rfl rfl) (rv_t rfl) ?_
    obtain ⟨e1, e2⟩ := apE_0 (A := A) (B := B) (op := op) hz (by omega)
    rw [e1, e2]
    exact ⟨rfl, u2, rfl, hN2⟩

end Go.Proofs.Ytgehdgeiikjohaa
