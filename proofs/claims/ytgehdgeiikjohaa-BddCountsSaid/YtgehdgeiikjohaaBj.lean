/- Walks of bdd: what each function returns. Printed by a program out of notes. -/
import Derived.Test.YtgehdgeiikjohaaBi
namespace Go.Proofs.Ytgehdgeiikjohaa
open Go.Vc
open Classical

set_option maxRecDepth 100000 in
set_option maxHeartbeats 4000000 in
theorem Not_c {V : HV} {na : Value} {A : Dg} (hA : Fks V na A.N) (h12 : A.v ≤ 12) :
    FnC Try.prog 18 [(.agg #[(.int .i64 A.v), na, (.int .i64 A.r)])] V [] (RD (cbD [A] notF) (vE [A])) := by
 refine fn_intro (N := 18) Try.func18 (by kernel_rfl) rfl rfl rfl (Nat.le_of_ble_eq_true rfl) ?_
 intro w0 D
 refine vc_seq ?_
 refine vc_region ?_
 refine ops_box (v := (.agg #[(.int .i64 A.v), na, (.int .i64 A.r)])) (cs := [(.int .i64 A.v), na, (.int .i64 A.r)]) rfl rfl (fun b1 => ?_)
 refine ops_alloc Try.ti24 rfl (fun b2 => ?_)
 refine oq (qv_as (Value.int .i64 0) rfl) ?_
 refine ops_nil ?_
 refine vc_seq ?_
 refine vc_seq ?_
 refine vc_res (σ' := [(Arr 24 b1 [(.int .i64 A.v), na, (.int .i64 A.r)]), (Arr 24 b2 [(Value.int .i64 0), (Value.slice none 0 0), (Value.int .i64 0)])]) rfl ?_
 refine vc_region ?_
 refine oq (qv_ldm (vs := [(.int .i64 A.v), na, (.int .i64 A.r)]) Try.agg24 rfl (inOc (k := 0) rfl) rfl rfl) ?_
 refine ops_lit (n := 1) (s := 3) (cs := [(.int .i64 A.v), na, (.int .i64 A.r)]) Try.underlying83 Try.ti24 (Nat.le_of_ble_eq_true rfl) rfl rfl rfl (Nat.le_of_ble_eq_true rfl) rfl (fun b3 => ?_)
 refine ops_freeze (b := b3) (o := .cells ([(Value.int .i64 (A.v)), na, (Value.int .i64 (A.r))] : List Value).toArray 24 (0, 0)) (σr := [(Arr 24 b1 [(Value.int .i64 (A.v)), na, (Value.int .i64 (A.r))]), (Arr 24 b2 [(Value.int .i64 0), (Value.slice none 0 0), (Value.int .i64 0)])]) (List.perm_middle (l₁ := [(Arr 24 b1 [(Value.int .i64 (A.v)), na, (Value.int .i64 (A.r))]), (Arr 24 b2 [(Value.int .i64 0), (Value.slice none 0 0), (Value.int .i64 0)])]) (l₂ := [])) (fun Vf1 hVf1 hb1 => ?_)
 have hc1 : Cells Vf1 b3 [(.int .i64 A.v), na, (.int .i64 A.r)] := ⟨_, _, hb1⟩
 have hA := hA.mono hVf1
 refine oq (qv_call (v := (.int .i64 (vE [A]))) (valid_c (Bdl.one hc1 hA) (by show 1 ≤ 1; omega)) rfl rfl) ?_
 refine oq (qv_as (.int .i64 (vE [A])) rfl) ?_
 refine ops_nil ?_
 refine vc_seq ?_
 refine vc_region ?_
 refine oq (qv_mv (.int .i64 (vE [A])) rfl) ?_
 refine oq (qv_neq rfl rfl) ?_
 refine ops_nil ?_
 refine vc_if rfl (fun c1 => ?_) (fun c1 => ?_)
 ·
  refine vc_seq ?_
  refine vc_region ?_
  refine oq (qv_build (out := [(Value.int .i64 0), (Value.slice none 0 0), (Value.int .i64 0)]) Try.build24 [] rfl rfl) ?_
  refine oq (qv_mv (.int .i64 (vE [A])) rfl) ?_
  refine ops_stw (k := 1) (vs := [(Value.int .i64 0), (Value.slice none 0 0), (Value.int .i64 0)]) Try.size24 rfl rfl rfl rfl rfl rfl ?_
  refine oq (qv_as (.int .i64 (vE [A])) rfl) ?_
  refine ops_nil ?_
  refine vc_freeze (b := b2) (o := .cells ([(Value.int .i64 0), (Value.slice none 0 0), (Value.int .i64 0)] : List Value).toArray 24 (0, 0)) (σr := [(Arr 24 b1 [(Value.int .i64 (A.v)), na, (Value.int .i64 (A.r))])]) (List.perm_middle (l₁ := [(Arr 24 b1 [(Value.int .i64 (A.v)), na, (Value.int .i64 (A.r))])]) (l₂ := [])) (fun Vf2 hVf2 hb2 => ?_)
  have hc2 : Cells Vf2 b2 [(Value.int .i64 0), (Value.slice none 0 0), (Value.int .i64 0)] := ⟨_, _, hb2⟩
  have hA := hA.mono hVf2
  have hc1 := hc1.mono hVf2
  refine vc_drop [] [(Arr 24 b1 [(.int .i64 A.v), na, (.int .i64 A.r)])] (.refl _) ?_
  refine vc_ret ?_
  refine rs2 _ (.int .i64 (vE [A])) (rv_c (vs := [(Value.int .i64 0), (Value.slice none 0 0), (Value.int .i64 0)]) Try.agg24 rfl (inVc hc2) rfl rfl) (rv_t rfl) ?_
  rw [cbD_n (by omega)]
  exact ⟨rfl, _, rfl, Fks.nil⟩
 ·
  refine vc_skip ?_
  refine vc_seq ?_
  have hz : vE [A] = 0 := by omega
  have hcm : Cmb A.v [A] := cmb_of (by show 1 ≤ 1; omega) (by show 1 ≤ 3; omega) hz
  refine vc_region ?_
  refine oq (qv_ldm (vs := [(.int .i64 A.v), na, (.int .i64 A.r)]) Try.agg24 rfl (inOc (k := 0) rfl) rfl rfl) ?_
  refine ops_lit (n := 1) (s := 3) (cs := [(.int .i64 A.v), na, (.int .i64 A.r)]) Try.underlying83 Try.ti24 (Nat.le_of_ble_eq_true rfl) rfl rfl rfl (Nat.le_of_ble_eq_true rfl) rfl (fun b4 => ?_)
  refine ops_freeze (b := b4) (o := .cells ([(Value.int .i64 (A.v)), na, (Value.int .i64 (A.r))] : List Value).toArray 24 (0, 0)) (σr := [(Arr 24 b1 [(Value.int .i64 (A.v)), na, (Value.int .i64 (A.r))]), (Arr 24 b2 [(Value.int .i64 0), (Value.slice none 0 0), (Value.int .i64 0)])]) (List.perm_middle (l₁ := [(Arr 24 b1 [(Value.int .i64 (A.v)), na, (Value.int .i64 (A.r))]), (Arr 24 b2 [(Value.int .i64 0), (Value.slice none 0 0), (Value.int .i64 0)])]) (l₂ := [])) (fun Vf3 hVf3 hb3 => ?_)
  have hc3 : Cells Vf3 b4 [(.int .i64 A.v), na, (.int .i64 A.r)] := ⟨_, _, hb3⟩
  have hA := hA.mono hVf3
  have hc1 := hc1.mono hVf3
  refine ops_call (σa := []) (σr := [(Arr 24 b1 [(.int .i64 A.v), na, (.int .i64 A.r)]), (Arr 24 b2 [(Value.int .i64 0), (Value.slice none 0 0), (Value.int .i64 0)])]) (combine_c (F := notF) (fid := 57) (fcaps := []) (Bdl.one hc3 hA) hcm.ok (by show 1 ≤ 1; omega) hcm.v hcm.r (fun W s b0 b1 b2 => by have h := Not1_c (V := W) (p0 := b0 = true) (p1 := b1 = true) (p2 := b2 = true); simp only [Bool.decide_eq_true] at h; exact h)) rfl rfl (.refl _) (fun r1 V1 sg1 hV1 hp1 => ?_)
  obtain ⟨rfl, u1, rfl, hN1⟩ := hp1
  have hA := hA.mono hV1
  have hc1 := hc1.mono hV1
  have hc3 := hc3.mono hV1
  refine ops_call (σa := []) (σr := [(Arr 24 b1 [(.int .i64 A.v), na, (.int .i64 A.r)]), (Arr 24 b2 [(Value.int .i64 0), (Value.slice none 0 0), (Value.int .i64 0)])]) (limited_c hN1 (cmb_small h12)) rfl rfl (.refl _) (fun r2 V2 sg2 hV2 hp2 => ?_)
  obtain ⟨rfl, u2, rfl, hN2⟩ := hp2
  have hA := hA.mono hV2
  have hc1 := hc1.mono hV2
  have hc3 := hc3.mono hV2
  have hN1 := hN1.mono hV2
  refine oq (qv_ext (.agg #[(.int .i64 A.v), u2, (.int .i64 ((cmb A.v [A] notF).2))]) rfl rfl) ?_
  refine oq (qv_ext (Value.int .i64 0) rfl rfl) ?_
  refine ops_stw (k := 1) (vs := [(.int .i64 A.v), u2, (.int .i64 ((cmb A.v [A] notF).2))]) Try.size24 rfl rfl rfl (allc rfl (allc (SlS.one hN2) (allc rfl rfl))) rfl rfl ?_
  refine oq (qv_as (Value.int .i64 0) rfl) ?_
  refine ops_nil ?_
  refine vc_freeze (b := b2) (o := .cells ([(Value.int .i64 (A.v)), u2, (Value.int .i64 ((cmb A.v [A] notF).2))] : List Value).toArray 24 (0, 0)) (σr := [(Arr 24 b1 [(Value.int .i64 (A.v)), na, (Value.int .i64 (A.r))])]) (List.perm_middle (l₁ := [(Arr 24 b1 [(Value.int .i64 (A.v)), na, (Value.int .i64 (A.r))])]) (l₂ := [])) (fun Vf4 hVf4 hb4 => ?_)
  have hc4 : Cells Vf4 b2 [(.int .i64 A.v), u2, (.int .i64 ((cmb A.v [A] notF).2))] := ⟨_, _, hb4⟩
  have hA := hA.mono hVf4
  have hc1 := hc1.mono hVf4
  have hc3 := hc3.mono hVf4
  have hN1 := hN1.mono hVf4
  have hN2 := hN2.mono hVf4
  refine vc_drop [] [(Arr 24 b1 [(.int .i64 A.v), na, (.int .i64 A.r)])] (.refl _) ?_
  refine vc_ret ?_
  refine rs2 _ (Value.int .i64 0) (rv_c (vs := [(.int .i64 A.v), u2, (.int .i64 ((cmb A.v [A] notF).2))]) Try.agg24 rfl (inVc hc4) rfl rfl) (rv_t rfl) ?_
  rw [show vE [A] = 0 from hz, cbD_0 hz]
  exact ⟨rfl, u2, rfl, hN2⟩

set_option maxRecDepth 100000 in
set_option maxHeartbeats 4000000 in
theorem choose_c {V : HV} {na : Value} {A : Dg} (hA : Fks V na A.N) {nb : Value} {B : Dg} (hB : Fks V nb B.N) {nc : Value} {C0 : Dg} (hC : Fks V nc C0.N) (hcm : Cmb A.v [A, B, C0]) :
    FnC Try.prog 62 [(.agg #[(.int .i64 A.v), na, (.int .i64 A.r)]), (.agg #[(.int .i64 B.v), nb, (.int .i64 B.r)]), (.agg #[(.int .i64 C0.v), nc, (.int .i64 C0.r)])] V [] (RB (cmD A.v [A, B, C0] iteF)) := by
 refine fn_intro (N := 12) Try.func62 (by kernel_rfl) rfl rfl rfl (Nat.le_of_ble_eq_true rfl) ?_
 intro w0 D
 refine vc_seq ?_
 refine vc_region ?_
 refine ops_box (v := (.agg #[(.int .i64 A.v), na, (.int .i64 A.r)])) (cs := [(.int .i64 A.v), na, (.int .i64 A.r)]) rfl rfl (fun b1 => ?_)
 refine ops_box (v := (.agg #[(.int .i64 B.v), nb, (.int .i64 B.r)])) (cs := [(.int .i64 B.v), nb, (.int .i64 B.r)]) rfl rfl (fun b2 => ?_)
 refine ops_box (v := (.agg #[(.int .i64 C0.v), nc, (.int .i64 C0.r)])) (cs := [(.int .i64 C0.v), nc, (.int .i64 C0.r)]) rfl rfl (fun b3 => ?_)
 refine ops_alloc Try.ti24 rfl (fun b4 => ?_)
 refine ops_nil ?_
 refine vc_seq ?_
 refine vc_res (σ' := [(Arr 24 b1 [(.int .i64 A.v), na, (.int .i64 A.r)]), (Arr 24 b2 [(.int .i64 B.v), nb, (.int .i64 B.r)]), (Arr 24 b3 [(.int .i64 C0.v), nc, (.int .i64 C0.r)]), (Arr 24 b4 [(Value.int .i64 0), (Value.slice none 0 0), (Value.int .i64 0)])]) rfl ?_
 refine vc_region ?_
 refine oq (qv_ldm (vs := [(.int .i64 A.v), na, (.int .i64 A.r)]) Try.agg24 rfl (inOc (k := 0) rfl) rfl rfl) ?_
 refine oq (qv_ldm (vs := [(.int .i64 B.v), nb, (.int .i64 B.r)]) Try.agg24 rfl (inOc (k := 1) rfl) rfl rfl) ?_
 refine oq (qv_ldm (vs := [(.int .i64 C0.v), nc, (.int .i64 C0.r)]) Try.agg24 rfl (inOc (k := 2) rfl) rfl rfl) ?_
 refine ops_lit (n := 3) (s := 3) (cs := [(.int .i64 A.v), na, (.int .i64 A.r), (.int .i64 B.v), nb, (.int .i64 B.r), (.int .i64 C0.v), nc, (.int .i64 C0.r)]) Try.underlying83 Try.ti24 (Nat.le_of_ble_eq_true rfl) rfl rfl rfl (Nat.le_of_ble_eq_true rfl) rfl (fun b5 => ?_)
 refine ops_freeze (b := b5) (o := .cells ([(Value.int .i64 (A.v)), na, (Value.int .i64 (A.r)), (Value.int .i64 (B.v)), nb, (Value.int .i64 (B.r)), (Value.int .i64 (C0.v)), nc, (Value.int .i64 (C0.r))] : List Value).toArray 24 (0, 0)) (σr := [(Arr 24 b1 [(Value.int .i64 (A.v)), na, (Value.int .i64 (A.r))]), (Arr 24 b2 [(Value.int .i64 (B.v)), nb, (Value.int .i64 (B.r))]), (Arr 24 b3 [(Value.int .i64 (C0.v)), nc, (Value.int .i64 (C0.r))]), (Arr 24 b4 [(Value.int .i64 0), (Value.slice none 0 0), (Value.int .i64 0)])]) (List.perm_middle (l₁ := [(Arr 24 b1 [(Value.int .i64 (A.v)), na, (Value.int .i64 (A.r))]), (Arr 24 b2 [(Value.int .i64 (B.v)), nb, (Value.int .i64 (B.r))]), (Arr 24 b3 [(Value.int .i64 (C0.v)), nc, (Value.int .i64 (C0.r))]), (Arr 24 b4 [(Value.int .i64 0), (Value.slice none 0 0), (Value.int .i64 0)])]) (l₂ := [])) (fun Vf1 hVf1 hb1 => ?_)
 have hc1 : Cells Vf1 b5 [(.int .i64 A.v), na, (.int .i64 A.r), (.int .i64 B.v), nb, (.int .i64 B.r), (.int .i64 C0.v), nc, (.int .i64 C0.r)] := ⟨_, _, hb1⟩
 have hA := hA.mono hVf1
 have hB := hB.mono hVf1
 have hC := hC.mono hVf1
 refine ops_call (σa := []) (σr := [(Arr 24 b1 [(.int .i64 A.v), na, (.int .i64 A.r)]), (Arr 24 b2 [(.int .i64 B.v), nb, (.int .i64 B.r)]), (Arr 24 b3 [(.int .i64 C0.v), nc, (.int .i64 C0.r)]), (Arr 24 b4 [(Value.int .i64 0), (Value.slice none 0 0), (Value.int .i64 0)])]) (combine_c (F := iteF) (fid := 77) (fcaps := []) (Bdl.three hc1 hA hB hC) hcm.ok (by show 1 ≤ 3; omega) hcm.v hcm.r (fun W s b0 b1 b2 => by have h := choose1_c (V := W) (p0 := b0 = true) (p1 := b1 = true) (p2 := b2 = true); simp only [Bool.decide_eq_true] at h; exact h)) rfl rfl (.refl _) (fun r1 V1 sg1 hV1 hp1 => ?_)
 obtain ⟨rfl, u1, rfl, hN1⟩ := hp1
 have hA := hA.mono hV1
 have hB := hB.mono hV1
 have hC := hC.mono hV1
 have hc1 := hc1.mono hV1
 refine ops_stw (k := 3) (vs := [(.int .i64 A.v), u1, (.int .i64 ((cmb A.v [A, B, C0] iteF).2))]) Try.size24 rfl rfl rfl (allc rfl (allc (SlS.one hN1) (allc rfl rfl))) rfl rfl ?_
 refine ops_nil ?_
 refine vc_freeze (b := b4) (o := .cells ([(Value.int .i64 (A.v)), u1, (Value.int .i64 ((cmb A.v [A, B, C0] iteF).2))] : List Value).toArray 24 (0, 0)) (σr := [(Arr 24 b1 [(Value.int .i64 (A.v)), na, (Value.int .i64 (A.r))]), (Arr 24 b2 [(Value.int .i64 (B.v)), nb, (Value.int .i64 (B.r))]), (Arr 24 b3 [(Value.int .i64 (C0.v)), nc, (Value.int .i64 (C0.r))])]) (List.perm_middle (l₁ := [(Arr 24 b1 [(Value.int .i64 (A.v)), na, (Value.int .i64 (A.r))]), (Arr 24 b2 [(Value.int .i64 (B.v)), nb, (Value.int .i64 (B.r))]), (Arr 24 b3 [(Value.int .i64 (C0.v)), nc, (Value.int .i64 (C0.r))])]) (l₂ := [])) (fun Vf2 hVf2 hb2 => ?_)
 have hc2 : Cells Vf2 b4 [(.int .i64 A.v), u1, (.int .i64 ((cmb A.v [A, B, C0] iteF).2))] := ⟨_, _, hb2⟩
 have hA := hA.mono hVf2
 have hB := hB.mono hVf2
 have hC := hC.mono hVf2
 have hc1 := hc1.mono hVf2
 have hN1 := hN1.mono hVf2
 refine vc_drop [] [(Arr 24 b1 [(.int .i64 A.v), na, (.int .i64 A.r)]), (Arr 24 b2 [(.int .i64 B.v), nb, (.int .i64 B.r)]), (Arr 24 b3 [(.int .i64 C0.v), nc, (.int .i64 C0.r)])] (.refl _) ?_
 refine vc_ret ?_
 refine rs1 _ (rv_c (vs := [(.int .i64 A.v), u1, (.int .i64 ((cmb A.v [A, B, C0] iteF).2))]) Try.agg24 rfl (inVc hc2) rfl rfl) ?_
 exact ⟨rfl, u1, rfl, hN1⟩

set_option maxRecDepth 100000 in
set_option maxHeartbeats 4000000 in
theorem Ite_c {V : HV} {na : Value} {A : Dg} (hA : Fks V na A.N) {nb : Value} {B : Dg} (hB : Fks V nb B.N) {nc : Value} {C0 : Dg} (hC : Fks V nc C0.N) (h12 : A.v ≤ 12) :
    FnC Try.prog 29 [(.agg #[(.int .i64 A.v), na, (.int .i64 A.r)]), (.agg #[(.int .i64 B.v), nb, (.int .i64 B.r)]), (.agg #[(.int .i64 C0.v), nc, (.int .i64 C0.r)])] V [] (RD (cbD [A, B, C0] iteF) (vE [A, B, C0])) := by
 refine fn_intro (N := 25) Try.func29 (by kernel_rfl) rfl rfl rfl (Nat.le_of_ble_eq_true rfl) ?_
 intro w0 D
 refine vc_seq ?_
 refine vc_region ?_
 refine ops_box (v := (.agg #[(.int .i64 A.v), na, (.int .i64 A.r)])) (cs := [(.int .i64 A.v), na, (.int .i64 A.r)]) rfl rfl (fun b1 => ?_)
 refine ops_box (v := (.agg #[(.int .i64 B.v), nb, (.int .i64 B.r)])) (cs := [(.int .i64 B.v), nb, (.int .i64 B.r)]) rfl rfl (fun b2 => ?_)
 refine ops_box (v := (.agg #[(.int .i64 C0.v), nc, (.int .i64 C0.r)])) (cs := [(.int .i64 C0.v), nc, (.int .i64 C0.r)]) rfl rfl (fun b3 => ?_)
 refine ops_alloc Try.ti24 rfl (fun b4 => ?_)
 refine oq (qv_as (Value.int .i64 0) rfl) ?_
 refine ops_nil ?_
 refine vc_seq ?_
 refine vc_seq ?_
 refine vc_res (σ' := [(Arr 24 b1 [(.int .i64 A.v), na, (.int .i64 A.r)]), (Arr 24 b2 [(.int .i64 B.v), nb, (.int .i64 B.r)]), (Arr 24 b3 [(.int .i64 C0.v), nc, (.int .i64 C0.r)]), (Arr 24 b4 [(Value.int .i64 0), (Value.slice none 0 0), (Value.int .i64 0)])]) rfl ?_
 refine vc_region ?_
 refine oq (qv_ldm (vs := [(.int .i64 A.v), na, (.int .i64 A.r)]) Try.agg24 rfl (inOc (k := 0) rfl) rfl rfl) ?_
 refine oq (qv_ldm (vs := [(.int .i64 B.v), nb, (.int .i64 B.r)]) Try.agg24 rfl (inOc (k := 1) rfl) rfl rfl) ?_
 refine oq (qv_ldm (vs := [(.int .i64 C0.v), nc, (.int .i64 C0.r)]) Try.agg24 rfl (inOc (k := 2) rfl) rfl rfl) ?_
 refine ops_lit (n := 3) (s := 3) (cs := [(.int .i64 A.v), na, (.int .i64 A.r), (.int .i64 B.v), nb, (.int .i64 B.r), (.int .i64 C0.v), nc, (.int .i64 C0.r)]) Try.underlying83 Try.ti24 (Nat.le_of_ble_eq_true rfl) rfl rfl rfl (Nat.le_of_ble_eq_true rfl) rfl (fun b5 => ?_)
 refine ops_freeze (b := b5) (o := .cells ([(Value.int .i64 (A.v)), na, (Value.int .i64 (A.r)), (Value.int .i64 (B.v)), nb, (Value.int .i64 (B.r)), (Value.int .i64 (C0.v)), nc, (Value.int .i64 (C0.r))] : List Value).toArray 24 (0, 0)) (σr := [(Arr 24 b1 [(Value.int .i64 (A.v)), na, (Value.int .i64 (A.r))]), (Arr 24 b2 [(Value.int .i64 (B.v)), nb, (Value.int .i64 (B.r))]), (Arr 24 b3 [(Value.int .i64 (C0.v)), nc, (Value.int .i64 (C0.r))]), (Arr 24 b4 [(Value.int .i64 0), (Value.slice none 0 0), (Value.int .i64 0)])]) (List.perm_middle (l₁ := [(Arr 24 b1 [(Value.int .i64 (A.v)), na, (Value.int .i64 (A.r))]), (Arr 24 b2 [(Value.int .i64 (B.v)), nb, (Value.int .i64 (B.r))]), (Arr 24 b3 [(Value.int .i64 (C0.v)), nc, (Value.int .i64 (C0.r))]), (Arr 24 b4 [(Value.int .i64 0), (Value.slice none 0 0), (Value.int .i64 0)])]) (l₂ := [])) (fun Vf1 hVf1 hb1 => ?_)
 have hc1 : Cells Vf1 b5 [(.int .i64 A.v), na, (.int .i64 A.r), (.int .i64 B.v), nb, (.int .i64 B.r), (.int .i64 C0.v), nc, (.int .i64 C0.r)] := ⟨_, _, hb1⟩
 have hA := hA.mono hVf1
 have hB := hB.mono hVf1
 have hC := hC.mono hVf1
 refine oq (qv_call (v := (.int .i64 (vE [A, B, C0]))) (valid_c (Bdl.three hc1 hA hB hC) (by show 1 ≤ 3; omega)) rfl rfl) ?_
 refine oq (qv_as (.int .i64 (vE [A, B, C0])) rfl) ?_
 refine ops_nil ?_
 refine vc_seq ?_
 refine vc_region ?_
 refine oq (qv_mv (.int .i64 (vE [A, B, C0])) rfl) ?_
 refine oq (qv_neq rfl rfl) ?_
 refine ops_nil ?_
 refine vc_if rfl (fun c1 => ?_) (fun c1 => ?_)
 ·
  refine vc_seq ?_
  refine vc_region ?_
  refine oq (qv_build (out := [(Value.int .i64 0), (Value.slice none 0 0), (Value.int .i64 0)]) Try.build24 [] rfl rfl) ?_
  refine oq (qv_mv (.int .i64 (vE [A, B, C0])) rfl) ?_
  refine ops_stw (k := 3) (vs := [(Value.int .i64 0), (Value.slice none 0 0), (Value.int .i64 0)]) Try.size24 rfl rfl rfl rfl rfl rfl ?_
  refine oq (qv_as (.int .i64 (vE [A, B, C0])) rfl) ?_
  refine ops_nil ?_
  refine vc_freeze (b := b4) (o := .cells ([(Value.int .i64 0), (Value.slice none 0 0), (Value.int .i64 0)] : List Value).toArray 24 (0, 0)) (σr := [(Arr 24 b1 [(Value.int .i64 (A.v)), na, (Value.int .i64 (A.r))]), (Arr 24 b2 [(Value.int .i64 (B.v)), nb, (Value.int .i64 (B.r))]), (Arr 24 b3 [(Value.int .i64 (C0.v)), nc, (Value.int .i64 (C0.r))])]) (List.perm_middle (l₁ := [(Arr 24 b1 [(Value.int .i64 (A.v)), na, (Value.int .i64 (A.r))]), (Arr 24 b2 [(Value.int .i64 (B.v)), nb, (Value.int .i64 (B.r))]), (Arr 24 b3 [(Value.int .i64 (C0.v)), nc, (Value.int .i64 (C0.r))])]) (l₂ := [])) (fun Vf2 hVf2 hb2 => ?_)
  have hc2 : Cells Vf2 b4 [(Value.int .i64 0), (Value.slice none 0 0), (Value.int .i64 0)] := ⟨_, _, hb2⟩
  have hA := hA.mono hVf2
  have hB := hB.mono hVf2
  have hC := hC.mono hVf2
  have hc1 := hc1.mono hVf2
  refine vc_drop [] [(Arr 24 b1 [(.int .i64 A.v), na, (.int .i64 A.r)]), (Arr 24 b2 [(.int .i64 B.v), nb, (.int .i64 B.r)]), (Arr 24 b3 [(.int .i64 C0.v), nc, (.int .i64 C0.r)])] (.refl _) ?_
  refine vc_ret ?_
  refine rs2 _ (.int .i64 (vE [A, B, C0])) (rv_c (vs := [(Value.int .i64 0), (Value.slice none 0 0), (Value.int .i64 0)]) Try.agg24 rfl (inVc hc2) rfl rfl) (rv_t rfl) ?_
  rw [cbD_n (by omega)]
  exact ⟨rfl, _, rfl, Fks.nil⟩
 ·
  refine vc_skip ?_
  refine vc_seq ?_
  have hz : vE [A, B, C0] = 0 := by omega
  have hcm : Cmb A.v [A, B, C0] := cmb_of (by show 1 ≤ 3; omega) (by show 3 ≤ 3; omega) hz
  refine vc_region ?_
  refine oq (qv_ldm (vs := [(.int .i64 A.v), na, (.int .i64 A.r)]) Try.agg24 rfl (inOc (k := 0) rfl) rfl rfl) ?_
  refine oq (qv_ldm (vs := [(.int .i64 B.v), nb, (.int .i64 B.r)]) Try.agg24 rfl (inOc (k := 1) rfl) rfl rfl) ?_
  refine oq (qv_ldm (vs := [(.int .i64 C0.v), nc, (.int .i64 C0.r)]) Try.agg24 rfl (inOc (k := 2) rfl) rfl rfl) ?_
  refine ops_call (σa := []) (σr := [(Arr 24 b1 [(.int .i64 A.v), na, (.int .i64 A.r)]), (Arr 24 b2 [(.int .i64 B.v), nb, (.int .i64 B.r)]), (Arr 24 b3 [(.int .i64 C0.v), nc, (.int .i64 C0.r)]), (Arr 24 b4 [(Value.int .i64 0), (Value.slice none 0 0), (Value.int .i64 0)])]) (choose_c hA hB hC hcm) rfl rfl (.refl _) (fun r1 V1 sg1 hV1 hp1 => ?_)
  obtain ⟨rfl, u1, rfl, hN1⟩ := hp1
  have hA := hA.mono hV1
  have hB := hB.mono hV1
  have hC := hC.mono hV1
  have hc1 := hc1.mono hV1
  refine ops_call (σa := []) (σr := [(Arr 24 b1 [(.int .i64 A.v), na, (.int .i64 A.r)]), (Arr 24 b2 [(.int .i64 B.v), nb, (.int .i64 B.r)]), (Arr 24 b3 [(.int .i64 C0.v), nc, (.int .i64 C0.r)]), (Arr 24 b4 [(Value.int .i64 0), (Value.slice none 0 0), (Value.int .i64 0)])]) (limited_c hN1 (cmb_small h12)) rfl rfl (.refl _) (fun r2 V2 sg2 hV2 hp2 => ?_)
  obtain ⟨rfl, u2, rfl, hN2⟩ := hp2
  have hA := hA.mono hV2
  have hB := hB.mono hV2
  have hC := hC.mono hV2
  have hc1 := hc1.mono hV2
  have hN1 := hN1.mono hV2
  refine oq (qv_ext (.agg #[(.int .i64 A.v), u2, (.int .i64 ((cmb A.v [A, B, C0] iteF).2))]) rfl rfl) ?_
  refine oq (qv_ext (Value.int .i64 0) rfl rfl) ?_
  refine ops_stw (k := 3) (vs := [(.int .i64 A.v), u2, (.int .i64 ((cmb A.v [A, B, C0] iteF).2))]) Try.size24 rfl rfl rfl (allc rfl (allc (SlS.one hN2) (allc rfl rfl))) rfl rfl ?_
  refine oq (qv_as (Value.int .i64 0) rfl) ?_
  refine ops_nil ?_
  refine vc_freeze (b := b4) (o := .cells ([(Value.int .i64 (A.v)), u2, (Value.int .i64 ((cmb A.v [A, B, C0] iteF).2))] : List Value).toArray 24 (0, 0)) (σr := [(Arr 24 b1 [(Value.int .i64 (A.v)), na, (Value.int .i64 (A.r))]), (Arr 24 b2 [(Value.int .i64 (B.v)), nb, (Value.int .i64 (B.r))]), (Arr 24 b3 [(Value.int .i64 (C0.v)), nc, (Value.int .i64 (C0.r))])]) (List.perm_middle (l₁ := [(Arr 24 b1 [(Value.int .i64 (A.v)), na, (Value.int .i64 (A.r))]), (Arr 24 b2 [(Value.int .i64 (B.v)), nb, (Value.int .i64 (B.r))]), (Arr 24 b3 [(Value.int .i64 (C0.v)), nc, (Value.int .i64 (C0.r))])]) (l₂ := [])) (fun Vf3 hVf3 hb3 => ?_)
  have hc3 : Cells Vf3 b4 [(.int .i64 A.v), u2, (.int .i64 ((cmb A.v [A, B, C0] iteF).2))] := ⟨_, _, hb3⟩
  have hA := hA.mono hVf3
  have hB := hB.mono hVf3
  have hC := hC.mono hVf3
  have hc1 := hc1.mono hVf3
  have hN1 := hN1.mono hVf3
  have hN2 := hN2.mono hVf3
  refine vc_drop [] [(Arr 24 b1 [(.int .i64 A.v), na, (.int .i64 A.r)]), (Arr 24 b2 [(.int .i64 B.v), nb, (.int .i64 B.r)]), (Arr 24 b3 [(.int .i64 C0.v), nc, (.int .i64 C0.r)])] (.refl _) ?_
  refine vc_ret ?_
  refine rs2 _ (Value.int .i64 0) (rv_c (vs := [(.int .i64 A.v), u2, (.int .i64 ((cmb A.v [A, B, C0] iteF).2))]) Try.agg24 rfl (inVc hc3) rfl rfl) (rv_t rfl) ?_
  rw [show vE [A, B, C0] = 0 from hz, cbD_0 hz]
  exact ⟨rfl, u2, rfl, hN2⟩

set_option maxRecDepth 100000 in
set_option maxHeartbeats 4000000 in
theorem Implies_c {V : HV} {na : Value} {A : Dg} (hA : Fks V na A.N) {nb : Value} {B : Dg} (hB : Fks V nb B.N) :
    FnC Try.prog 30 [(.agg #[(.int .i64 A.v), na, (.int .i64 A.r)]), (.agg #[(.int .i64 B.v), nb, (.int .i64 B.r)])] V [] (fun v _ σ' => σ' = [] ∧ v = .tuple #[.bool (decide (vE [A, B] = 0 ∧ (cmb A.v [A, B] impF).2 = 0)), .int .i64 (vE [A, B])]) := by
 refine fn_intro (N := 22) Try.func30 (by kernel_rfl) rfl rfl rfl (Nat.le_of_ble_eq_true rfl) ?_
 intro w0 D
 refine vc_seq ?_
 refine vc_region ?_
 refine ops_box (v := (.agg #[(.int .i64 A.v), na, (.int .i64 A.r)])) (cs := [(.int .i64 A.v), na, (.int .i64 A.r)]) rfl rfl (fun b1 => ?_)
 refine ops_box (v := (.agg #[(.int .i64 B.v), nb, (.int .i64 B.r)])) (cs := [(.int .i64 B.v), nb, (.int .i64 B.r)]) rfl rfl (fun b2 => ?_)
 refine oq (qv_as (Value.bool false) rfl) ?_
 refine oq (qv_as (Value.int .i64 0) rfl) ?_
 refine ops_nil ?_
 refine vc_seq ?_
 refine vc_seq ?_
 refine vc_res (σ' := [(Arr 24 b1 [(.int .i64 A.v), na, (.int .i64 A.r)]), (Arr 24 b2 [(.int .i64 B.v), nb, (.int .i64 B.r)])]) rfl ?_
 refine vc_region ?_
 refine oq (qv_ldm (vs := [(.int .i64 A.v), na, (.int .i64 A.r)]) Try.agg24 rfl (inOc (k := 0) rfl) rfl rfl) ?_
 refine oq (qv_ldm (vs := [(.int .i64 B.v), nb, (.int .i64 B.r)]) Try.agg24 rfl (inOc (k := 1) rfl) rfl rfl) ?_
 refine ops_lit (n := 2) (s := 3) (cs := [(.int .i64 A.v), na, (.int .i64 A.r), (.int .i64 B.v), nb, (.int .i64 B.r)]) Try.underlying83 Try.ti24 (Nat.le_of_ble_eq_true rfl) rfl rfl rfl (Nat.le_of_ble_eq_true rfl) rfl (fun b3 => ?_)
 refine ops_freeze (b := b3) (o := .cells ([(Value.int .i64 (A.v)), na, (Value.int .i64 (A.r)), (Value.int .i64 (B.v)), nb, (Value.int .i64 (B.r))] : List Value).toArray 24 (0, 0)) (σr := [(Arr 24 b1 [(Value.int .i64 (A.v)), na, (Value.int .i64 (A.r))]), (Arr 24 b2 [(Value.int .i64 (B.v)), nb, (Value.int .i64 (B.r))])]) (List.perm_middle (l₁ := [(Arr 24 b1 [(Value.int .i64 (A.v)), na, (Value.int .i64 (A.r))]), (Arr 24 b2 [(Value.int .i64 (B.v)), nb, (Value.int .i64 (B.r))])]) (l₂ := [])) (fun Vf1 hVf1 hb1 => ?_)
 have hc1 : Cells Vf1 b3 [(.int .i64 A.v), na, (.int .i64 A.r), (.int .i64 B.v), nb, (.int .i64 B.r)] := ⟨_, _, hb1⟩
 have hA := hA.mono hVf1
 have hB := hB.mono hVf1
 refine oq (qv_call (v := (.int .i64 (vE [A, B]))) (valid_c (Bdl.two hc1 hA hB) (by show 1 ≤ 2; omega)) rfl rfl) ?_
 refine oq (qv_as (.int .i64 (vE [A, B])) rfl) ?_
 refine ops_nil ?_
 refine vc_seq ?_
 refine vc_region ?_
 refine oq (qv_mv (.int .i64 (vE [A, B])) rfl) ?_
 refine oq (qv_neq rfl rfl) ?_
 refine ops_nil ?_
 refine vc_if rfl (fun c1 => ?_) (fun c1 => ?_)
 ·
  refine vc_seq ?_
  refine vc_region ?_
  refine oq (qv_mv (.int .i64 (vE [A, B])) rfl) ?_
  refine oq (qv_as (Value.bool false) rfl) ?_
  refine oq (qv_as (.int .i64 (vE [A, B])) rfl) ?_
  refine ops_nil ?_
  refine vc_drop [] [(Arr 24 b1 [(.int .i64 A.v), na, (.int .i64 A.r)]), (Arr 24 b2 [(.int .i64 B.v), nb, (.int .i64 B.r)])] (.refl _) ?_
  refine vc_ret ?_
  refine rq2 (Value.bool false) (.int .i64 (vE [A, B])) rfl rfl ?_
  refine ⟨rfl, ?_⟩
  rw [decide_eq_false (fun q => absurd q.1 (by omega))]
 ·
  refine vc_skip ?_
  refine vc_seq ?_
  have hz : vE [A, B] = 0 := by omega
  have hcm : Cmb A.v [A, B] := cmb_of (by show 1 ≤ 2; omega) (by show 2 ≤ 3; omega) hz
  refine vc_region ?_
  refine oq (qv_ldm (vs := [(.int .i64 A.v), na, (.int .i64 A.r)]) Try.agg24 rfl (inOc (k := 0) rfl) rfl rfl) ?_
  refine oq (qv_ldm (vs := [(.int .i64 B.v), nb, (.int .i64 B.r)]) Try.agg24 rfl (inOc (k := 1) rfl) rfl rfl) ?_
  refine ops_lit (n := 2) (s := 3) (cs := [(.int .i64 A.v), na, (.int .i64 A.r), (.int .i64 B.v), nb, (.int .i64 B.r)]) Try.underlying83 Try.ti24 (Nat.le_of_ble_eq_true rfl) rfl rfl rfl (Nat.le_of_ble_eq_true rfl) rfl (fun b4 => ?_)
  refine ops_freeze (b := b4) (o := .cells ([(Value.int .i64 (A.v)), na, (Value.int .i64 (A.r)), (Value.int .i64 (B.v)), nb, (Value.int .i64 (B.r))] : List Value).toArray 24 (0, 0)) (σr := [(Arr 24 b1 [(Value.int .i64 (A.v)), na, (Value.int .i64 (A.r))]), (Arr 24 b2 [(Value.int .i64 (B.v)), nb, (Value.int .i64 (B.r))])]) (List.perm_middle (l₁ := [(Arr 24 b1 [(Value.int .i64 (A.v)), na, (Value.int .i64 (A.r))]), (Arr 24 b2 [(Value.int .i64 (B.v)), nb, (Value.int .i64 (B.r))])]) (l₂ := [])) (fun Vf2 hVf2 hb2 => ?_)
  have hc2 : Cells Vf2 b4 [(.int .i64 A.v), na, (.int .i64 A.r), (.int .i64 B.v), nb, (.int .i64 B.r)] := ⟨_, _, hb2⟩
  have hA := hA.mono hVf2
  have hB := hB.mono hVf2
  have hc1 := hc1.mono hVf2
  refine ops_call (σa := []) (σr := [(Arr 24 b1 [(.int .i64 A.v), na, (.int .i64 A.r)]), (Arr 24 b2 [(.int .i64 B.v), nb, (.int .i64 B.r)])]) (combine_c (F := impF) (fid := 63) (fcaps := []) (Bdl.two hc2 hA hB) hcm.ok (by show 1 ≤ 2; omega) hcm.v hcm.r (fun W s b0 b1 b2 => by have h := Implies1_c (V := W) (p0 := b0 = true) (p1 := b1 = true) (p2 := b2 = true); simp only [Bool.decide_eq_true] at h; exact h)) rfl rfl (.refl _) (fun r1 V1 sg1 hV1 hp1 => ?_)
  obtain ⟨rfl, u1, rfl, hN1⟩ := hp1
  have hA := hA.mono hV1
  have hB := hB.mono hV1
  have hc1 := hc1.mono hV1
  have hc2 := hc2.mono hV1
  refine ops_alloc Try.ti24 rfl (fun b5 => ?_)
  refine ops_stw (k := 2) (vs := [(.int .i64 A.v), u1, (.int .i64 ((cmb A.v [A, B] impF).2))]) Try.size24 rfl rfl rfl (allc rfl (allc (SlS.one hN1) (allc rfl rfl))) rfl rfl ?_
  refine ops_nil ?_
  refine vc_seq ?_
  refine vc_res (σ' := [(Arr 24 b1 [(.int .i64 A.v), na, (.int .i64 A.r)]), (Arr 24 b2 [(.int .i64 B.v), nb, (.int .i64 B.r)]), (Arr 24 b5 [(.int .i64 A.v), u1, (.int .i64 ((cmb A.v [A, B] impF).2))])]) rfl ?_
  refine vc_region ?_
  refine oq (qv_fa (off := 0) Try.field24_2 rfl) ?_
  refine oq (qv_ldp (v := (.int .i64 ((cmb A.v [A, B] impF).2))) Try.plain3 rfl (inOc (k := 2) rfl) rfl) ?_
  refine oq (qv_eql rfl rfl) ?_
  refine oq (qv_as (.bool (decide (((cmb A.v [A, B] impF).2) = 0))) rfl) ?_
  refine oq (qv_as (Value.int .i64 0) rfl) ?_
  refine ops_nil ?_
  refine vc_drop [] [(Arr 24 b1 [(.int .i64 A.v), na, (.int .i64 A.r)]), (Arr 24 b2 [(.int .i64 B.v), nb, (.int .i64 B.r)]), (Arr 24 b5 [(.int .i64 A.v), u1, (.int .i64 ((cmb A.v [A, B] impF).2))])] (.refl _) ?_
  refine vc_ret ?_
  refine rq2 (.bool (decide (((cmb A.v [A, B] impF).2) = 0))) (Value.int .i64 0) rfl rfl ?_
  refine ⟨rfl, ?_⟩
  rw [hz]
  exact congrArg (fun z => Value.tuple #[.bool z, .int .i64 0]) (decide_eq_decide.2 ⟨fun q => ⟨rfl, q⟩, fun q => q.2⟩)

set_option maxRecDepth 100000 in
set_option maxHeartbeats 4000000 in
theorem Const_c {V : HV} {vars : Int} {p : Prop} [Decidable p] :
    FnC Try.prog 24 [(Value.int .i64 vars), (.bool (decide (p)))] V [] (RD (cnD vars p) (cnE vars)) := by
 refine fn_intro (N := 19) Try.func24 (by kernel_rfl) rfl rfl rfl (Nat.le_of_ble_eq_true rfl) ?_
 intro w0 D
 refine vc_seq ?_
 refine vc_region ?_
 refine ops_alloc Try.ti24 rfl (fun b1 => ?_)
 refine oq (qv_as (Value.int .i64 0) rfl) ?_
 refine ops_nil ?_
 refine vc_seq ?_
 refine vc_seq ?_
 refine vc_res (σ' := [(Arr 24 b1 [(Value.int .i64 0), (Value.slice none 0 0), (Value.int .i64 0)])]) rfl ?_
 refine vc_region ?_
 refine oq (qv_mv (Value.int .i64 vars) rfl) ?_
 refine oq (qv_lss rfl rfl) ?_
 refine oq (qv_mv (.bool (decide (vars < 0))) rfl) ?_
 by_cases g1 : vars < 0
 ·
  refine os (want_fn g1 rfl rfl rfl) ?_
  refine os (want_fn g1 rfl rfl rfl) ?_
  refine oq (qv_pick_t g1 rfl (rfl : ev _ _ = (Value.bool true))) ?_
  refine ops_nil ?_
  refine vc_tt rfl ?_
  refine vc_seq ?_
  refine vc_region ?_
  refine oq (qv_build (out := [(Value.int .i64 0), (Value.slice none 0 0), (Value.int .i64 0)]) Try.build24 [] rfl rfl) ?_
  refine ops_stw (k := 0) (vs := [(Value.int .i64 0), (Value.slice none 0 0), (Value.int .i64 0)]) Try.size24 rfl rfl rfl rfl rfl rfl ?_
  refine oq (qv_as (Value.int .i64 3) rfl) ?_
  refine ops_nil ?_
  refine vc_freeze (b := b1) (o := .cells ([(Value.int .i64 0), (Value.slice none 0 0), (Value.int .i64 0)] : List Value).toArray 24 (0, 0)) (σr := []) (List.perm_middle (l₁ := []) (l₂ := [])) (fun Vf1 hVf1 hb1 => ?_)
  have hc1 : Cells Vf1 b1 [(Value.int .i64 0), (Value.slice none 0 0), (Value.int .i64 0)] := ⟨_, _, hb1⟩
  refine vc_ret ?_
  refine rs2 _ (Value.int .i64 3) (rv_c (vs := [(Value.int .i64 0), (Value.slice none 0 0), (Value.int .i64 0)]) Try.agg24 rfl (inVc hc1) rfl rfl) (rv_t rfl) ?_
  obtain ⟨e1, e2⟩ := cn_n (vars := vars) (p := p) (by omega)
  rw [e1, e2]
  exact ⟨rfl, _, rfl, Fks.nil⟩
 ·
  refine og (qv_mv (Value.int .i64 vars) rfl) (want_f g1 rfl rfl rfl) ?_
  refine og (qv_gtr rfl rfl) (want_f g1 rfl rfl rfl) ?_
  refine oq (qv_pick_f g1 rfl (rfl : ev _ _ = (.bool (decide (40 < vars))))) ?_
  refine ops_nil ?_
  refine vc_if rfl (fun c1 => ?_) (fun c1 => ?_)
  ·
   refine vc_seq ?_
   refine vc_region ?_
   refine oq (qv_build (out := [(Value.int .i64 0), (Value.slice none 0 0), (Value.int .i64 0)]) Try.build24 [] rfl rfl) ?_
   refine ops_stw (k := 0) (vs := [(Value.int .i64 0), (Value.slice none 0 0), (Value.int .i64 0)]) Try.size24 rfl rfl rfl rfl rfl rfl ?_
   refine oq (qv_as (Value.int .i64 3) rfl) ?_
   refine ops_nil ?_
   refine vc_freeze (b := b1) (o := .cells ([(Value.int .i64 0), (Value.slice none 0 0), (Value.int .i64 0)] : List Value).toArray 24 (0, 0)) (σr := []) (List.perm_middle (l₁ := []) (l₂ := [])) (fun Vf2 hVf2 hb2 => ?_)
   have hc2 : Cells Vf2 b1 [(Value.int .i64 0), (Value.slice none 0 0), (Value.int .i64 0)] := ⟨_, _, hb2⟩
   refine vc_ret ?_
   refine rs2 _ (Value.int .i64 3) (rv_c (vs := [(Value.int .i64 0), (Value.slice none 0 0), (Value.int .i64 0)]) Try.agg24 rfl (inVc hc2) rfl rfl) (rv_t rfl) ?_
   obtain ⟨e1, e2⟩ := cn_n (vars := vars) (p := p) (by omega)
   rw [e1, e2]
   exact ⟨rfl, _, rfl, Fks.nil⟩
  ·
   refine vc_skip ?_
   refine vc_seq ?_
   refine vc_region ?_
   refine oq (qv_mv (Value.int .i64 vars) rfl) ?_
   refine oq (qv_build (out := [(Value.int .i64 vars), (Value.slice none 0 0), (Value.int .i64 0)]) Try.build24 [(0, [(Value.int .i64 vars)])] rfl rfl) ?_
   refine ops_alloc Try.ti24 rfl (fun b2 => ?_)
   refine ops_stw (k := 1) (vs := [(Value.int .i64 vars), (Value.slice none 0 0), (Value.int .i64 0)]) Try.size24 rfl rfl rfl rfl rfl rfl ?_
   refine ops_nil ?_
   refine vc_seq ?_
   refine vc_seq ?_
   refine vc_res (σ' := [(Arr 24 b1 [(Value.int .i64 0), (Value.slice none 0 0), (Value.int .i64 0)]), (Arr 24 b2 [(Value.int .i64 vars), (Value.slice none 0 0), (Value.int .i64 0)])]) rfl ?_
   refine vc_region ?_
   refine oq (qv_mv (.bool (decide (p))) rfl) ?_
   refine ops_nil ?_
   refine vc_if rfl (fun c2 => ?_) (fun c2 => ?_)
   ·
    refine vc_region ?_
    refine oq (qv_fa (off := 0) Try.field24_2 rfl) ?_
    refine ops_stp (k := 1) (off := 2) (cs := [(Value.int .i64 vars), (Value.slice none 0 0), (Value.int .i64 0)]) Try.size3 rfl (rfl : ev _ _ = (Value.int .i64 1)) rfl rfl (Nat.le_of_ble_eq_true rfl) ?_
    refine ops_nil ?_
    refine vc_seq ?_
    refine vc_res (σ' := [(Arr 24 b1 [(Value.int .i64 0), (Value.slice none 0 0), (Value.int .i64 0)]), (Arr 24 b2 [(Value.int .i64 vars), (Value.slice none 0 0), (Value.int .i64 1)])]) rfl ?_
    refine vc_region ?_
    refine oq (qv_ldm (vs := [(Value.int .i64 vars), (Value.slice none 0 0), (Value.int .i64 1)]) Try.agg24 rfl (inOc (k := 1) rfl) rfl rfl) ?_
    refine ops_stw (k := 0) (vs := [(Value.int .i64 vars), (Value.slice none 0 0), (Value.int .i64 1)]) Try.size24 rfl rfl rfl rfl rfl rfl ?_
    refine oq (qv_as (Value.int .i64 0) rfl) ?_
    refine ops_nil ?_
    refine vc_freeze (b := b1) (o := .cells ([(Value.int .i64 vars), (Value.slice none 0 0), (Value.int .i64 1)] : List Value).toArray 24 (0, 0)) (σr := [(Arr 24 b2 [(Value.int .i64 vars), (Value.slice none 0 0), (Value.int .i64 1)])]) (List.perm_middle (l₁ := []) (l₂ := [(Arr 24 b2 [(Value.int .i64 vars), (Value.slice none 0 0), (Value.int .i64 1)])])) (fun Vf3 hVf3 hb3 => ?_)
    have hc3 : Cells Vf3 b1 [(Value.int .i64 vars), (Value.slice none 0 0), (Value.int .i64 1)] := ⟨_, _, hb3⟩
    refine vc_drop [] [(Arr 24 b2 [(Value.int .i64 vars), (Value.slice none 0 0), (Value.int .i64 1)])] (.refl _) ?_
    refine vc_ret ?_
    refine rs2 _ (Value.int .i64 0) (rv_c (vs := [(Value.int .i64 vars), (Value.slice none 0 0), (Value.int .i64 1)]) Try.agg24 rfl (inVc hc3) rfl rfl) (rv_t rfl) ?_
    obtain ⟨e1, e2⟩ := cn_0 (vars := vars) (p := p) (by omega)
    rw [e1, e2, if_pos (by assumption)]
    exact ⟨rfl, _, rfl, Fks.nil⟩
   ·
    refine vc_skip ?_
    refine vc_seq ?_
    refine vc_region ?_
    refine oq (qv_ldm (vs := [(Value.int .i64 vars), (Value.slice none 0 0), (Value.int .i64 0)]) Try.agg24 rfl (inOc (k := 1) rfl) rfl rfl) ?_
    refine ops_stw (k := 0) (vs := [(Value.int .i64 vars), (Value.slice none 0 0), (Value.int .i64 0)]) Try.size24 rfl rfl rfl rfl rfl rfl ?_
    refine oq (qv_as (Value.int .i64 0) rfl) ?_
    refine ops_nil ?_
    refine vc_freeze (b := b1) (o := .cells ([(Value.int .i64 vars), (Value.slice none 0 0), (Value.int .i64 0)] : List Value).toArray 24 (0, 0)) (σr := [(Arr 24 b2 [(Value.int .i64 vars), (Value.slice none 0 0), (Value.int .i64 0)])]) (List.perm_middle (l₁ := []) (l₂ := [(Arr 24 b2 [(Value.int .i64 vars), (Value.slice none 0 0), (Value.int .i64 0)])])) (fun Vf4 hVf4 hb4 => ?_)
    have hc4 : Cells Vf4 b1 [(Value.int .i64 vars), (Value.slice none 0 0), (Value.int .i64 0)] := ⟨_, _, hb4⟩
    refine vc_drop [] [(Arr 24 b2 [(Value.int .i64 vars), (Value.slice none 0 0), (Value.int .i64 0)])] (.refl _) ?_
    refine vc_ret ?_
    refine rs2 _ (Value.int .i64 0) (rv_c (vs := [(Value.int .i64 vars), (Value.slice none 0 0), (Value.int .i64 0)]) Try.agg24 rfl (inVc hc4) rfl rfl) (rv_t rfl) ?_
    obtain ⟨e1, e2⟩ := cn_0 (vars := vars) (p := p) (by omega)
    rw [e1, e2, if_neg (by assumption)]
    exact ⟨rfl, _, rfl, Fks.nil⟩

set_option maxRecDepth 100000 in
set_option maxHeartbeats 4000000 in
theorem Variable_c {V : HV} {vars i : Int} :
    FnC Try.prog 25 [(Value.int .i64 vars), (Value.int .i64 i)] V [] (RD (vaD vars i) (vaE vars i)) := by
 refine fn_intro (N := 27) Try.func25 (by kernel_rfl) rfl rfl rfl (Nat.le_of_ble_eq_true rfl) ?_
 intro w0 D
 refine vc_seq ?_
 refine vc_region ?_
 refine ops_alloc Try.ti24 rfl (fun b1 => ?_)
 refine oq (qv_as (Value.int .i64 0) rfl) ?_
 refine ops_nil ?_
 refine vc_seq ?_
 refine vc_seq ?_
 refine vc_res (σ' := [(Arr 24 b1 [(Value.int .i64 0), (Value.slice none 0 0), (Value.int .i64 0)])]) rfl ?_
 refine vc_region ?_
 refine oq (qv_mv (Value.int .i64 vars) rfl) ?_
 refine oq (qv_lss rfl rfl) ?_
 refine oq (qv_mv (.bool (decide (vars < 0))) rfl) ?_
 by_cases g1 : vars < 0
 ·
  refine os (want_fn g1 rfl rfl rfl) ?_
  refine os (want_fn g1 rfl rfl rfl) ?_
  refine oq (qv_pick_t g1 rfl (rfl : ev _ _ = (Value.bool true))) ?_
  refine oq (qv_mv (Value.bool true) rfl) ?_
  refine os (want_fnc rfl rfl rfl) ?_
  refine os (want_fnc rfl rfl rfl) ?_
  refine oq (qv_pick_tc rfl (rfl : ev _ _ = (Value.bool true))) ?_
  refine oq (qv_mv (Value.bool true) rfl) ?_
  refine os (want_fnc rfl rfl rfl) ?_
  refine os (want_fnc rfl rfl rfl) ?_
  refine os (want_fnc rfl rfl rfl) ?_
  refine oq (qv_pick_tc rfl (rfl : ev _ _ = (Value.bool true))) ?_
  refine ops_nil ?_
  refine vc_tt rfl ?_
  refine vc_seq ?_
  refine vc_region ?_
  refine oq (qv_build (out := [(Value.int .i64 0), (Value.slice none 0 0), (Value.int .i64 0)]) Try.build24 [] rfl rfl) ?_
  refine ops_stw (k := 0) (vs := [(Value.int .i64 0), (Value.slice none 0 0), (Value.int .i64 0)]) Try.size24 rfl rfl rfl rfl rfl rfl ?_
  refine oq (qv_as (Value.int .i64 3) rfl) ?_
  refine ops_nil ?_
  refine vc_freeze (b := b1) (o := .cells ([(Value.int .i64 0), (Value.slice none 0 0), (Value.int .i64 0)] : List Value).toArray 24 (0, 0)) (σr := []) (List.perm_middle (l₁ := []) (l₂ := [])) (fun Vf1 hVf1 hb1 => ?_)
  have hc1 : Cells Vf1 b1 [(Value.int .i64 0), (Value.slice none 0 0), (Value.int .i64 0)] := ⟨_, _, hb1⟩
  refine vc_ret ?_
  refine rs2 _ (Value.int .i64 3) (rv_c (vs := [(Value.int .i64 0), (Value.slice none 0 0), (Value.int .i64 0)]) Try.agg24 rfl (inVc hc1) rfl rfl) (rv_t rfl) ?_
  obtain ⟨e1, e2⟩ := va_n (vars := vars) (i := i) (by omega)
  rw [e1, e2]
  exact ⟨rfl, _, rfl, Fks.nil⟩
 ·
  refine og (qv_mv (Value.int .i64 vars) rfl) (want_f g1 rfl rfl rfl) ?_
  refine og (qv_gtr rfl rfl) (want_f g1 rfl rfl rfl) ?_
  refine oq (qv_pick_f g1 rfl (rfl : ev _ _ = (.bool (decide (40 < vars))))) ?_
  refine oq (qv_mv (.bool (decide (40 < vars))) rfl) ?_
  by_cases g2 : 40 < vars
  ·
   refine os (want_fn g2 rfl rfl rfl) ?_
   refine os (want_fn g2 rfl rfl rfl) ?_
   refine oq (qv_pick_t g2 rfl (rfl : ev _ _ = (Value.bool true))) ?_
   refine oq (qv_mv (Value.bool true) rfl) ?_
   refine os (want_fnc rfl rfl rfl) ?_
   refine os (want_fnc rfl rfl rfl) ?_
   refine os (want_fnc rfl rfl rfl) ?_
   refine oq (qv_pick_tc rfl (rfl : ev _ _ = (Value.bool true))) ?_
   refine ops_nil ?_
   refine vc_tt rfl ?_
   refine vc_seq ?_
   refine vc_region ?_
   refine oq (qv_build (out := [(Value.int .i64 0), (Value.slice none 0 0), (Value.int .i64 0)]) Try.build24 [] rfl rfl) ?_
   refine ops_stw (k := 0) (vs := [(Value.int .i64 0), (Value.slice none 0 0), (Value.int .i64 0)]) Try.size24 rfl rfl rfl rfl rfl rfl ?_
   refine oq (qv_as (Value.int .i64 3) rfl) ?_
   refine ops_nil ?_
   refine vc_freeze (b := b1) (o := .cells ([(Value.int .i64 0), (Value.slice none 0 0), (Value.int .i64 0)] : List Value).toArray 24 (0, 0)) (σr := []) (List.perm_middle (l₁ := []) (l₂ := [])) (fun Vf2 hVf2 hb2 => ?_)
   have hc2 : Cells Vf2 b1 [(Value.int .i64 0), (Value.slice none 0 0), (Value.int .i64 0)] := ⟨_, _, hb2⟩
   refine vc_ret ?_
   refine rs2 _ (Value.int .i64 3) (rv_c (vs := [(Value.int .i64 0), (Value.slice none 0 0), (Value.int .i64 0)]) Try.agg24 rfl (inVc hc2) rfl rfl) (rv_t rfl) ?_
   obtain ⟨e1, e2⟩ := va_n (vars := vars) (i := i) (by omega)
   rw [e1, e2]
   exact ⟨rfl, _, rfl, Fks.nil⟩
  ·
   refine og (qv_mv (Value.int .i64 i) rfl) (want_f g2 rfl rfl rfl) ?_
   refine og (qv_lss rfl rfl) (want_f g2 rfl rfl rfl) ?_
   refine oq (qv_pick_f g2 rfl (rfl : ev _ _ = (.bool (decide (i < 0))))) ?_
   refine oq (qv_mv (.bool (decide (i < 0))) rfl) ?_
   by_cases g3 : i < 0
   ·
    refine os (want_fn g3 rfl rfl rfl) ?_
    refine os (want_fn g3 rfl rfl rfl) ?_
    refine os (want_fn g3 rfl rfl rfl) ?_
    refine oq (qv_pick_t g3 rfl (rfl : ev _ _ = (Value.bool true))) ?_
    refine ops_nil ?_
    refine vc_tt rfl ?_
    refine vc_seq ?_
    refine vc_region ?_
    refine oq (qv_build (out := [(Value.int .i64 0), (Value.slice none 0 0), (Value.int .i64 0)]) Try.build24 [] rfl rfl) ?_
    refine ops_stw (k := 0) (vs := [(Value.int .i64 0), (Value.slice none 0 0), (Value.int .i64 0)]) Try.size24 rfl rfl rfl rfl rfl rfl ?_
    refine oq (qv_as (Value.int .i64 3) rfl) ?_
    refine ops_nil ?_
    refine vc_freeze (b := b1) (o := .cells ([(Value.int .i64 0), (Value.slice none 0 0), (Value.int .i64 0)] : List Value).toArray 24 (0, 0)) (σr := []) (List.perm_middle (l₁ := []) (l₂ := [])) (fun Vf3 hVf3 hb3 => ?_)
    have hc3 : Cells Vf3 b1 [(Value.int .i64 0), (Value.slice none 0 0), (Value.int .i64 0)] := ⟨_, _, hb3⟩
    refine vc_ret ?_
    refine rs2 _ (Value.int .i64 3) (rv_c (vs := [(Value.int .i64 0), (Value.slice none 0 0), (Value.int .i64 0)]) Try.agg24 rfl (inVc hc3) rfl rfl) (rv_t rfl) ?_
    obtain ⟨e1, e2⟩ := va_n (vars := vars) (i := i) (by omega)
    rw [e1, e2]
    exact ⟨rfl, _, rfl, Fks.nil⟩
   ·
    refine og (qv_mv (Value.int .i64 i) rfl) (want_f g3 rfl rfl rfl) ?_
    refine og (qv_mv (Value.int .i64 vars) rfl) (want_f g3 rfl rfl rfl) ?_
    refine og (qv_geq rfl rfl) (want_f g3 rfl rfl rfl) ?_
    refine oq (qv_pick_f g3 rfl (rfl : ev _ _ = (.bool (decide (vars ≤ i))))) ?_
    refine ops_nil ?_
    refine vc_if rfl (fun c1 => ?_) (fun c1 => ?_)
    ·
     refine vc_seq ?_
     refine vc_region ?_
     refine oq (qv_build (out := [(Value.int .i64 0), (Value.slice none 0 0), (Value.int .i64 0)]) Try.build24 [] rfl rfl) ?_
     refine ops_stw (k := 0) (vs := [(Value.int .i64 0), (Value.slice none 0 0), (Value.int .i64 0)]) Try.size24 rfl rfl rfl rfl rfl rfl ?_
     refine oq (qv_as (Value.int .i64 3) rfl) ?_
     refine ops_nil ?_
     refine vc_freeze (b := b1) (o := .cells ([(Value.int .i64 0), (Value.slice none 0 0), (Value.int .i64 0)] : List Value).toArray 24 (0, 0)) (σr := []) (List.perm_middle (l₁ := []) (l₂ := [])) (fun Vf4 hVf4 hb4 => ?_)
     have hc4 : Cells Vf4 b1 [(Value.int .i64 0), (Value.slice none 0 0), (Value.int .i64 0)] := ⟨_, _, hb4⟩
     refine vc_ret ?_
     refine rs2 _ (Value.int .i64 3) (rv_c (vs := [(Value.int .i64 0), (Value.slice none 0 0), (Value.int .i64 0)]) Try.agg24 rfl (inVc hc4) rfl rfl) (rv_t rfl) ?_
     obtain ⟨e1, e2⟩ := va_n (vars := vars) (i := i) (by omega)
     rw [e1, e2]
     exact ⟨rfl, _, rfl, Fks.nil⟩
    ·
     refine vc_skip ?_
     refine vc_seq ?_
     refine vc_region ?_
     refine oq (qv_mv (Value.int .i64 vars) rfl) ?_
     refine oq (qv_mv (Value.int .i64 i) rfl) ?_
     refine oq (qv_build (out := [(Value.int .i64 i), (Value.int .i64 0), (Value.int .i64 1)]) Try.build42 [(0, [(Value.int .i64 i)]), (1, [(Value.int .i64 0)]), (2, [(Value.int .i64 1)])] rfl rfl) ?_
     refine ops_lit (n := 1) (s := 3) (cs := [(Value.int .i64 i), (Value.int .i64 0), (Value.int .i64 1)]) Try.underlying22 Try.ti42 (Nat.le_of_ble_eq_true rfl) rfl rfl rfl (Nat.le_of_ble_eq_true rfl) rfl (fun b2 => ?_)
     refine oq (qv_build (out := [(Value.int .i64 vars), (.slice (some ⟨b2, 0, none⟩) 1 1), (Value.int .i64 2)]) Try.build24 [(0, [(Value.int .i64 vars)]), (1, [(.slice (some ⟨b2, 0, none⟩) 1 1)]), (2, [(Value.int .i64 2)])] rfl rfl) ?_
     refine ops_stw (k := 0) (vs := [(Value.int .i64 vars), (.slice (some ⟨b2, 0, none⟩) 1 1), (Value.int .i64 2)]) Try.size24 rfl rfl rfl rfl rfl rfl ?_
     refine oq (qv_as (Value.int .i64 0) rfl) ?_
     refine ops_nil ?_
     refine vc_freeze (b := b2) (o := .cells ([(Value.int .i64 i), (Value.int .i64 0), (Value.int .i64 1)] : List Value).toArray 42 (0, 0)) (σr := [(Arr 24 b1 [(Value.int .i64 vars), (Value.slice (some ⟨b2, 0, none⟩) 1 1), (Value.int .i64 2)])]) (List.perm_middle (l₁ := [(Arr 24 b1 [(Value.int .i64 vars), (Value.slice (some ⟨b2, 0, none⟩) 1 1), (Value.int .i64 2)])]) (l₂ := [])) (fun Vf5 hVf5 hb5 => ?_)
     have hc5 : Cells Vf5 b2 [(Value.int .i64 i), (Value.int .i64 0), (Value.int .i64 1)] := ⟨_, _, hb5⟩
     refine vc_freeze (b := b1) (o := .cells ([(Value.int .i64 vars), (Value.slice (some ⟨b2, 0, none⟩) 1 1), (Value.int .i64 2)] : List Value).toArray 24 (0, 0)) (σr := []) (List.perm_middle (l₁ := []) (l₂ := [])) (fun Vf6 hVf6 hb6 => ?_)
     have hc6 : Cells Vf6 b1 [(Value.int .i64 vars), (.slice (some ⟨b2, 0, none⟩) 1 1), (Value.int .i64 2)] := ⟨_, _, hb6⟩
     have hc5 := hc5.mono hVf6
     refine vc_ret ?_
     refine rs2 _ (Value.int .i64 0) (rv_c (vs := [(Value.int .i64 vars), (.slice (some ⟨b2, 0, none⟩) 1 1), (Value.int .i64 2)]) Try.agg24 rfl (inVc hc6) rfl rfl) (rv_t rfl) ?_
     obtain ⟨e1, e2⟩ := va_0 (vars := vars) (i := i) (by omega)
     rw [e1, e2]
     exact ⟨rfl, _, rfl, cells_sls hc5 rfl (Nat.le_refl _) (by omega)⟩

end Go.Proofs.Ytgehdgeiikjohaa
