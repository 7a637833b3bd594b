/- Walks of bdd: what each function returns. Printed by a program out of notes. -/
import Derived.Test.YtgehdgeiikjohaaBm
import Derived.Test.YtgehdgeiikjohaaBdI
namespace Go.Proofs.Ytgehdgeiikjohaa
open Go.Vc
open Classical

set_option maxRecDepth 100000 in
set_option maxHeartbeats 4000000 in
theorem Compose_c {V : HV} {i : Int} {na : Value} {A : Dg} (hA : Fks V na A.N) {nb : Value} {B : Dg} (hB : Fks V nb B.N) (h12 : A.v ≤ 12) :
    FnC Try.prog 41 [(.agg #[(.int .i64 A.v), na, (.int .i64 A.r)]), (Value.int .i64 i), (.agg #[(.int .i64 B.v), nb, (.int .i64 B.r)])] V [] (RD (cpD A B i) (cpE A B i)) := by
 refine fn_intro (N := 37) Try.func41 (by kernel_rfl) rfl rfl rfl (Nat.le_of_ble_eq_true rfl) ?_
 intro w0 D
 refine vc_seq ?_
 refine vc_region ?_
 refine ops_box (v := (.agg #[(.int .i64 A.v), na, (.int .i64 A.r)])) (cs := [(.int .i64 A.v), na, (.int .i64 A.r)]) rfl rfl (fun b1 => ?_)
 refine ops_box (v := (.agg #[(.int .i64 B.v), nb, (.int .i64 B.r)])) (cs := [(.int .i64 B.v), nb, (.int .i64 B.r)]) rfl rfl (fun b2 => ?_)
 refine ops_alloc Try.ti24 rfl (fun b3 => ?_)
 refine oq (qv_as (Value.int .i64 0) rfl) ?_
 refine ops_nil ?_
 refine vc_seq ?_
 refine vc_seq ?_
 refine vc_res (σ' := [(Arr 24 b1 [(.int .i64 A.v), na, (.int .i64 A.r)]), (Arr 24 b2 [(.int .i64 B.v), nb, (.int .i64 B.r)]), (Arr 24 b3 [(Value.int .i64 0), (Value.slice none 0 0), (Value.int .i64 0)])]) rfl ?_
 refine vc_region ?_
 refine oq (qv_ldm (vs := [(.int .i64 A.v), na, (.int .i64 A.r)]) Try.agg24 rfl (inOc (k := 0) rfl) rfl rfl) ?_
 refine oq (qv_ldm (vs := [(.int .i64 B.v), nb, (.int .i64 B.r)]) Try.agg24 rfl (inOc (k := 1) rfl) rfl rfl) ?_
 refine ops_lit (n := 2) (s := 3) (cs := [(.int .i64 A.v), na, (.int .i64 A.r), (.int .i64 B.v), nb, (.int .i64 B.r)]) Try.underlying83 Try.ti24 (Nat.le_of_ble_eq_true rfl) rfl rfl rfl (Nat.le_of_ble_eq_true rfl) rfl (fun b4 => ?_)
 refine ops_freeze (b := b4) (o := .cells ([(Value.int .i64 (A.v)), na, (Value.int .i64 (A.r)), (Value.int .i64 (B.v)), nb, (Value.int .i64 (B.r))] : List Value).toArray 24 (0, 0)) (σr := [(Arr 24 b1 [(Value.int .i64 (A.v)), na, (Value.int .i64 (A.r))]), (Arr 24 b2 [(Value.int .i64 (B.v)), nb, (Value.int .i64 (B.r))]), (Arr 24 b3 [(Value.int .i64 0), (Value.slice none 0 0), (Value.int .i64 0)])]) (List.perm_middle (l₁ := [(Arr 24 b1 [(Value.int .i64 (A.v)), na, (Value.int .i64 (A.r))]), (Arr 24 b2 [(Value.int .i64 (B.v)), nb, (Value.int .i64 (B.r))]), (Arr 24 b3 [(Value.int .i64 0), (Value.slice none 0 0), (Value.int .i64 0)])]) (l₂ := [])) (fun Vf1 hVf1 hb1 => ?_)
 have hc1 : Cells Vf1 b4 [(.int .i64 A.v), na, (.int .i64 A.r), (.int .i64 B.v), nb, (.int .i64 B.r)] := ⟨_, _, hb1⟩
 have hA := hA.mono hVf1
 have hB := hB.mono hVf1
 refine oq (qv_call (v := (.int .i64 (vE [A, B]))) (valid_c (Bdl.two hc1 hA hB) (by show 1 ≤ 2; omega)) rfl rfl) ?_
 refine oq (qv_as (.int .i64 (vE [A, B])) rfl) ?_
 refine ops_nil ?_
 refine vc_seq ?_
 refine vc_region ?_
 refine oq (qv_mv (.int .i64 (vE [A, B])) rfl) ?_
 refine oq (qv_neq rfl rfl) ?_
 refine ops_nil ?_
 refine vc_if rfl (fun c1 => ?_) (fun c1 => ?_)
 ·
  refine vc_seq ?_
  refine vc_region ?_
  refine oq (qv_build (out := [(Value.int .i64 0), (Value.slice none 0 0), (Value.int .i64 0)]) Try.build24 [] rfl rfl) ?_
  refine oq (qv_mv (.int .i64 (vE [A, B])) rfl) ?_
  refine ops_stw (k := 2) (vs := [(Value.int .i64 0), (Value.slice none 0 0), (Value.int .i64 0)]) Try.size24 rfl rfl rfl rfl rfl rfl ?_
  refine oq (qv_as (.int .i64 (vE [A, B])) rfl) ?_
  refine ops_nil ?_
  refine vc_freeze (b := b3) (o := .cells ([(Value.int .i64 0), (Value.slice none 0 0), (Value.int .i64 0)] : List Value).toArray 24 (0, 0)) (σr := [(Arr 24 b1 [(Value.int .i64 (A.v)), na, (Value.int .i64 (A.r))]), (Arr 24 b2 [(Value.int .i64 (B.v)), nb, (Value.int .i64 (B.r))])]) (List.perm_middle (l₁ := [(Arr 24 b1 [(Value.int .i64 (A.v)), na, (Value.int .i64 (A.r))]), (Arr 24 b2 [(Value.int .i64 (B.v)), nb, (Value.int .i64 (B.r))])]) (l₂ := [])) (fun Vf2 hVf2 hb2 => ?_)
  have hc2 : Cells Vf2 b3 [(Value.int .i64 0), (Value.slice none 0 0), (Value.int .i64 0)] := ⟨_, _, hb2⟩
  have hA := hA.mono hVf2
  have hB := hB.mono hVf2
  have hc1 := hc1.mono hVf2
  refine vc_drop [] [(Arr 24 b1 [(.int .i64 A.v), na, (.int .i64 A.r)]), (Arr 24 b2 [(.int .i64 B.v), nb, (.int .i64 B.r)])] (.refl _) ?_
  refine vc_ret ?_
  refine rs2 _ (.int .i64 (vE [A, B])) (rv_c (vs := [(Value.int .i64 0), (Value.slice none 0 0), (Value.int .i64 0)]) Try.agg24 rfl (inVc hc2) rfl rfl) (rv_t rfl) ?_
  obtain ⟨e1, e2⟩ := cp_v (A := A) (B := B) (i := i) (by omega)
  rw [e1, e2]
  exact ⟨rfl, _, rfl, Fks.nil⟩
 ·
  refine vc_skip ?_
  refine vc_seq ?_
  refine vc_seq ?_
  have hz : vE [A, B] = 0 := by omega
  have hok := ok2 hz
  refine vc_region ?_
  refine oq (qv_mv (Value.int .i64 i) rfl) ?_
  refine oq (qv_lss rfl rfl) ?_
  refine oq (qv_mv (.bool (decide (i < 0))) rfl) ?_
  by_cases g1 : i < 0
  ·
   refine os (want_fn g1 rfl rfl rfl) ?_
   refine os (want_fn g1 rfl rfl rfl) ?_
   refine os (want_fn g1 rfl rfl rfl) ?_
   refine os (want_fn g1 rfl rfl rfl) ?_
   refine oq (qv_pick_t g1 rfl (rfl : ev _ _ = (Value.bool true))) ?_
   refine ops_nil ?_
   refine vc_tt rfl ?_
   refine vc_seq ?_
   refine vc_region ?_
   refine oq (qv_build (out := [(Value.int .i64 0), (Value.slice none 0 0), (Value.int .i64 0)]) Try.build24 [] rfl rfl) ?_
   refine ops_stw (k := 2) (vs := [(Value.int .i64 0), (Value.slice none 0 0), (Value.int .i64 0)]) Try.size24 rfl rfl rfl rfl rfl rfl ?_
   refine oq (qv_as (Value.int .i64 3) rfl) ?_
   refine ops_nil ?_
   refine vc_freeze (b := b3) (o := .cells ([(Value.int .i64 0), (Value.slice none 0 0), (Value.int .i64 0)] : List Value).toArray 24 (0, 0)) (σr := [(Arr 24 b1 [(Value.int .i64 (A.v)), na, (Value.int .i64 (A.r))]), (Arr 24 b2 [(Value.int .i64 (B.v)), nb, (Value.int .i64 (B.r))])]) (List.perm_middle (l₁ := [(Arr 24 b1 [(Value.int .i64 (A.v)), na, (Value.int .i64 (A.r))]), (Arr 24 b2 [(Value.int .i64 (B.v)), nb, (Value.int .i64 (B.r))])]) (l₂ := [])) (fun Vf3 hVf3 hb3 => ?_)
   have hc3 : Cells Vf3 b3 [(Value.int .i64 0), (Value.slice none 0 0), (Value.int .i64 0)] := ⟨_, _, hb3⟩
   have hA := hA.mono hVf3
   have hB := hB.mono hVf3
   have hc1 := hc1.mono hVf3
   refine vc_drop [] [(Arr 24 b1 [(.int .i64 A.v), na, (.int .i64 A.r)]), (Arr 24 b2 [(.int .i64 B.v), nb, (.int .i64 B.r)])] (.refl _) ?_
   refine vc_ret ?_
   refine rs2 _ (Value.int .i64 3) (rv_c (vs := [(Value.int .i64 0), (Value.slice none 0 0), (Value.int .i64 0)]) Try.agg24 rfl (inVc hc3) rfl rfl) (rv_t rfl) ?_
   obtain ⟨e1, e2⟩ := cp_3 (A := A) (B := B) (i := i) hz (by omega)
   rw [e1, e2]
   exact ⟨rfl, _, rfl, Fks.nil⟩
  ·
   refine og (qv_mv (Value.int .i64 i) rfl) (want_f g1 rfl rfl rfl) ?_
   refine og (qv_fa (off := 0) Try.field24_0 rfl) (want_f g1 rfl rfl rfl) ?_
   refine og (qv_ldp (v := (.int .i64 A.v)) Try.plain3 rfl (inOc (k := 0) rfl) rfl) (want_f g1 rfl rfl rfl) ?_
   refine og (qv_geq rfl rfl) (want_f g1 rfl rfl rfl) ?_
   refine oq (qv_pick_f g1 rfl (rfl : ev _ _ = (.bool (decide (A.v ≤ i))))) ?_
   refine ops_nil ?_
   refine vc_if rfl (fun c2 => ?_) (fun c2 => ?_)
   ·
    refine vc_seq ?_
    refine vc_region ?_
    refine oq (qv_build (out := [(Value.int .i64 0), (Value.slice none 0 0), (Value.int .i64 0)]) Try.build24 [] rfl rfl) ?_
    refine ops_stw (k := 2) (vs := [(Value.int .i64 0), (Value.slice none 0 0), (Value.int .i64 0)]) Try.size24 rfl rfl rfl rfl rfl rfl ?_
    refine oq (qv_as (Value.int .i64 3) rfl) ?_
    refine ops_nil ?_
    refine vc_freeze (b := b3) (o := .cells ([(Value.int .i64 0), (Value.slice none 0 0), (Value.int .i64 0)] : List Value).toArray 24 (0, 0)) (σr := [(Arr 24 b1 [(Value.int .i64 (A.v)), na, (Value.int .i64 (A.r))]), (Arr 24 b2 [(Value.int .i64 (B.v)), nb, (Value.int .i64 (B.r))])]) (List.perm_middle (l₁ := [(Arr 24 b1 [(Value.int .i64 (A.v)), na, (Value.int .i64 (A.r))]), (Arr 24 b2 [(Value.int .i64 (B.v)), nb, (Value.int .i64 (B.r))])]) (l₂ := [])) (fun Vf4 hVf4 hb4 => ?_)
    have hc4 : Cells Vf4 b3 [(Value.int .i64 0), (Value.slice none 0 0), (Value.int .i64 0)] := ⟨_, _, hb4⟩
    have hA := hA.mono hVf4
    have hB := hB.mono hVf4
    have hc1 := hc1.mono hVf4
    refine vc_drop [] [(Arr 24 b1 [(.int .i64 A.v), na, (.int .i64 A.r)]), (Arr 24 b2 [(.int .i64 B.v), nb, (.int .i64 B.r)])] (.refl _) ?_
    refine vc_ret ?_
    refine rs2 _ (Value.int .i64 3) (rv_c (vs := [(Value.int .i64 0), (Value.slice none 0 0), (Value.int .i64 0)]) Try.agg24 rfl (inVc hc4) rfl rfl) (rv_t rfl) ?_
    obtain ⟨e1, e2⟩ := cp_3 (A := A) (B := B) (i := i) hz (by omega)
    rw [e1, e2]
    exact ⟨rfl, _, rfl, Fks.nil⟩
   ·
    refine vc_skip ?_
    refine vc_seq ?_
    have hcm := comp_cmb (i := i) hz h12
    refine vc_region_order (τ := []) [(0, false), (1, false), (2, false), (4, false), (5, false), (3, true), (6, true), (7, true), (8, true), (9, false), (10, false), (11, true), (12, false)] [(Arr 24 b1 [(.int .i64 A.v), na, (.int .i64 A.r)]), (Arr 24 b2 [(.int .i64 B.v), nb, (.int .i64 B.r)]), (Arr 24 b3 [(Value.int .i64 0), (Value.slice none 0 0), (Value.int .i64 0)])] Try.mixed (perm_nil _) (by kernel_rfl) ?_
    refine rq rfl (qv_ldm (vs := [(.int .i64 B.v), nb, (.int .i64 B.r)]) Try.agg24 rfl (inOc (k := 1) rfl) rfl rfl) ?_
    refine rq rfl (qv_ldm (vs := [(.int .i64 A.v), na, (.int .i64 A.r)]) Try.agg24 rfl (inOc (k := 0) rfl) rfl rfl) ?_
    refine rq rfl (qv_mv (Value.int .i64 i) rfl) ?_
    refine rq rfl (qv_ldm (vs := [(.int .i64 A.v), na, (.int .i64 A.r)]) Try.agg24 rfl (inOc (k := 0) rfl) rfl rfl) ?_
    refine rq rfl (qv_mv (Value.int .i64 i) rfl) ?_
    refine rl rfl ?_
    refine ops_call (σa := []) (σr := [(Arr 24 b1 [(.int .i64 A.v), na, (.int .i64 A.r)]), (Arr 24 b2 [(.int .i64 B.v), nb, (.int .i64 B.r)]), (Arr 24 b3 [(Value.int .i64 0), (Value.slice none 0 0), (Value.int .i64 0)])]) (restrict_c (A := A) (i := i) (b := true) hA hok.1.2.2.1 hok.1.1) rfl rfl (.refl _) (fun r1 V1 sg1 hV1 hp1 => ?_)
    obtain ⟨rfl, u1, rfl, hN1⟩ := hp1
    have hA := hA.mono hV1
    have hB := hB.mono hV1
    have hc1 := hc1.mono hV1
    refine ops_nil ⟨[(Arr 24 b1 [(.int .i64 A.v), na, (.int .i64 A.r)]), (Arr 24 b2 [(.int .i64 B.v), nb, (.int .i64 B.r)]), (Arr 24 b3 [(Value.int .i64 0), (Value.slice none 0 0), (Value.int .i64 0)])], [], hV1, perm_nil _, ⟨[], (.refl _)⟩, ?_⟩
    refine rl rfl ?_
    refine ops_call (σa := []) (σr := [(Arr 24 b1 [(.int .i64 A.v), na, (.int .i64 A.r)]), (Arr 24 b2 [(.int .i64 B.v), nb, (.int .i64 B.r)]), (Arr 24 b3 [(Value.int .i64 0), (Value.slice none 0 0), (Value.int .i64 0)])]) (restrict_c (A := A) (i := i) (b := false) hA hok.1.2.2.1 hok.1.1) rfl rfl (.refl _) (fun r2 V2 sg2 hV2 hp2 => ?_)
    obtain ⟨rfl, u2, rfl, hN2⟩ := hp2
    have hA := hA.mono hV2
    have hB := hB.mono hV2
    have hc1 := hc1.mono hV2
    have hN1 := hN1.mono hV2
    refine ops_nil ⟨[(Arr 24 b1 [(.int .i64 A.v), na, (.int .i64 A.r)]), (Arr 24 b2 [(.int .i64 B.v), nb, (.int .i64 B.r)]), (Arr 24 b3 [(Value.int .i64 0), (Value.slice none 0 0), (Value.int .i64 0)])], [], hV2, perm_nil _, ⟨[], (.refl _)⟩, ?_⟩
    refine rl rfl ?_
    refine ops_call (σa := []) (σr := [(Arr 24 b1 [(.int .i64 A.v), na, (.int .i64 A.r)]), (Arr 24 b2 [(.int .i64 B.v), nb, (.int .i64 B.r)]), (Arr 24 b3 [(Value.int .i64 0), (Value.slice none 0 0), (Value.int .i64 0)])]) (choose_c (A := B) (B := rsD A i true) (C0 := rsD A i false) hB hN1 hN2 (by rw [hok.2.2]; exact hcm)) rfl rfl (.refl _) (fun r3 V3 sg3 hV3 hp3 => ?_)
    obtain ⟨rfl, u3, rfl, hN3⟩ := hp3
    have hA := hA.mono hV3
    have hB := hB.mono hV3
    have hc1 := hc1.mono hV3
    have hN1 := hN1.mono hV3
    have hN2 := hN2.mono hV3
    refine ops_nil ⟨[(Arr 24 b1 [(.int .i64 A.v), na, (.int .i64 A.r)]), (Arr 24 b2 [(.int .i64 B.v), nb, (.int .i64 B.r)]), (Arr 24 b3 [(Value.int .i64 0), (Value.slice none 0 0), (Value.int .i64 0)])], [], hV3, perm_nil _, ⟨[], (.refl _)⟩, ?_⟩
    refine rl rfl ?_
    refine ops_call (σa := []) (σr := [(Arr 24 b1 [(.int .i64 A.v), na, (.int .i64 A.r)]), (Arr 24 b2 [(.int .i64 B.v), nb, (.int .i64 B.r)]), (Arr 24 b3 [(Value.int .i64 0), (Value.slice none 0 0), (Value.int .i64 0)])]) (limited_c (vars := B.v) (N := (cmD B.v [B, rsD A i true, rsD A i false] iteF).N) (root := (cmD B.v [B, rsD A i true, rsD A i false] iteF).r) hN3 (by show (cmb B.v _ iteF).1.length ≤ 4096; rw [hok.2.2]; exact cmb_small h12)) rfl rfl (.refl _) (fun r4 V4 sg4 hV4 hp4 => ?_)
    obtain ⟨rfl, u9, rfl, hN9⟩ := hp4
    have hA := hA.mono hV4
    have hB := hB.mono hV4
    have hc1 := hc1.mono hV4
    have hN1 := hN1.mono hV4
    have hN2 := hN2.mono hV4
    have hN3 := hN3.mono hV4
    refine ops_nil ⟨[(Arr 24 b1 [(.int .i64 A.v), na, (.int .i64 A.r)]), (Arr 24 b2 [(.int .i64 B.v), nb, (.int .i64 B.r)]), (Arr 24 b3 [(Value.int .i64 0), (Value.slice none 0 0), (Value.int .i64 0)])], [], hV4, perm_nil _, ⟨[], (.refl _)⟩, ?_⟩
    refine rq rfl (qv_ext (.agg #[(.int .i64 B.v), u9, (.int .i64 ((cmD B.v [B, rsD A i true, rsD A i false] iteF).r))]) rfl rfl) ?_
    refine rq rfl (qv_ext (Value.int .i64 0) rfl rfl) ?_
    refine rl1 (by kernel_rfl) rfl ?_
    refine ops_stw (k := 2) (vs := [(.int .i64 B.v), u9, (.int .i64 ((cmD B.v [B, rsD A i true, rsD A i false] iteF).r))]) Try.size24 rfl rfl rfl (allc rfl (allc (SlS.one hN9) (allc rfl rfl))) rfl rfl ?_
    refine ops_nil ⟨[(Arr 24 b1 [(.int .i64 A.v), na, (.int .i64 A.r)]), (Arr 24 b2 [(.int .i64 B.v), nb, (.int .i64 B.r)]), (Arr 24 b3 [(.int .i64 B.v), u9, (.int .i64 ((cmD B.v [B, rsD A i true, rsD A i false] iteF).r))])], [], perm_nil _, ?_⟩
    refine rq rfl (qv_as (Value.int .i64 0) rfl) ?_
    refine rnil ?_
    refine vc_freeze (b := b3) (o := .cells ([(Value.int .i64 (B.v)), u9, (Value.int .i64 ((cmD B.v [B, rsD A i true, rsD A i false] iteF).r))] : List Value).toArray 24 (0, 0)) (σr := [(Arr 24 b1 [(Value.int .i64 (A.v)), na, (Value.int .i64 (A.r))]), (Arr 24 b2 [(Value.int .i64 (B.v)), nb, (Value.int .i64 (B.r))])]) (List.perm_middle (l₁ := [(Arr 24 b1 [(Value.int .i64 (A.v)), na, (Value.int .i64 (A.r))]), (Arr 24 b2 [(Value.int .i64 (B.v)), nb, (Value.int .i64 (B.r))])]) (l₂ := [])) (fun Vf5 hVf5 hb5 => ?_)
    have hc5 : Cells Vf5 b3 [(.int .i64 B.v), u9, (.int .i64 ((cmD B.v [B, rsD A i true, rsD A i false] iteF).r))] := ⟨_, _, hb5⟩
    have hA := hA.mono hVf5
    have hB := hB.mono hVf5
    have hc1 := hc1.mono hVf5
    have hN1 := hN1.mono hVf5
    have hN2 := hN2.mono hVf5
    have hN3 := hN3.mono hVf5
    have hN9 := hN9.mono hVf5
    refine vc_drop [] [(Arr 24 b1 [(.int .i64 A.v), na, (.int .i64 A.r)]), (Arr 24 b2 [(.int .i64 B.v), nb, (.int .i64 B.r)])] (.refl _) ?_
    refine vc_ret ?_
    refine rs2 _ (Value.int .i64 0) (rv_c (vs := [(.int .i64 B.v), u9, (.int .i64 ((cmD B.v [B, rsD A i true, rsD A i false] iteF).r))]) Try.agg24 rfl (inVc hc5) rfl rfl) (rv_t rfl) ?_
    obtain ⟨e1, e2⟩ := cp_0 (A := A) (B := B) (i := i) hz (by omega)
    rw [e1, e2]
    have hcc := cmb_comp (B := B) (i := i) hok.1
    refine ⟨rfl, u9, ?_, ?_⟩
    · show Value.tuple #[.agg #[.int .i64 B.v, u9, .int .i64 (cmb B.v [B, rsD A i true, rsD A i false] iteF).2], .int .i64 0] = Value.tuple #[.agg #[.int .i64 A.v, u9, .int .i64 (cF A.v _).2], .int .i64 0]
      rw [hok.2.2, hcc]
    · have h9 : Fks _ u9 (cmb B.v [B, rsD A i true, rsD A i false] iteF).1 := hN9
      rw [hok.2.2, hcc] at h9
      exact h9

end Go.Proofs.Ytgehdgeiikjohaa
