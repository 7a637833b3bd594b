/- Walks of bdd: what each function returns. Printed by a program out of notes. -/
import Derived.Test.YtgehdgeiikjohaaBl
import Derived.Test.YtgehdgeiikjohaaWd
namespace Go.Proofs.Ytgehdgeiikjohaa
open Go.Vc
open Classical

set_option maxRecDepth 100000 in
set_option maxHeartbeats 4000000 in
theorem Restrict_c {V : HV} {i : Int} {b : Bool} {na : Value} {A : Dg} (hA : Fks V na A.N) :
    FnC Try.prog 40 [(.agg #[(.int .i64 A.v), na, (.int .i64 A.r)]), (Value.int .i64 i), (.bool (decide (b = true)))] V [] (RD (rsR A i b) (rsE A i)) := by
 refine fn_intro (N := 29) Try.func40 (by kernel_rfl) rfl rfl rfl (Nat.le_of_ble_eq_true rfl) ?_
 intro w0 D
 refine vc_seq ?_
 refine vc_region ?_
 refine ops_box (v := (.agg #[(.int .i64 A.v), na, (.int .i64 A.r)])) (cs := [(.int .i64 A.v), na, (.int .i64 A.r)]) rfl rfl (fun b1 => ?_)
 refine ops_alloc Try.ti24 rfl (fun b2 => ?_)
 refine oq (qv_as (Value.int .i64 0) rfl) ?_
 refine ops_nil ?_
 refine vc_seq ?_
 refine vc_seq ?_
 refine vc_res (σ' := [(Arr 24 b1 [(.int .i64 A.v), na, (.int .i64 A.r)]), (Arr 24 b2 [(Value.int .i64 0), (Value.slice none 0 0), (Value.int .i64 0)])]) rfl ?_
 refine vc_region ?_
 refine oq (qv_ldm (vs := [(.int .i64 A.v), na, (.int .i64 A.r)]) Try.agg24 rfl (inOc (k := 0) rfl) rfl rfl) ?_
 refine ops_lit (n := 1) (s := 3) (cs := [(.int .i64 A.v), na, (.int .i64 A.r)]) Try.underlying83 Try.ti24 (Nat.le_of_ble_eq_true rfl) rfl rfl rfl (Nat.le_of_ble_eq_true rfl) rfl (fun b3 => ?_)
 refine ops_freeze (b := b3) (o := .cells ([(Value.int .i64 (A.v)), na, (Value.int .i64 (A.r))] : List Value).toArray 24 (0, 0)) (σr := [(Arr 24 b1 [(Value.int .i64 (A.v)), na, (Value.int .i64 (A.r))]), (Arr 24 b2 [(Value.int .i64 0), (Value.slice none 0 0), (Value.int .i64 0)])]) (List.perm_middle (l₁ := [(Arr 24 b1 [(Value.int .i64 (A.v)), na, (Value.int .i64 (A.r))]), (Arr 24 b2 [(Value.int .i64 0), (Value.slice none 0 0), (Value.int .i64 0)])]) (l₂ := [])) (fun Vf1 hVf1 hb1 => ?_)
 have hc1 : Cells Vf1 b3 [(.int .i64 A.v), na, (.int .i64 A.r)] := ⟨_, _, hb1⟩
 have hA := hA.mono hVf1
 refine oq (qv_call (v := (.int .i64 (vE [A]))) (valid_c (Bdl.one hc1 hA) (by show 1 ≤ 1; omega)) rfl rfl) ?_
 refine oq (qv_as (.int .i64 (vE [A])) rfl) ?_
 refine ops_nil ?_
 refine vc_seq ?_
 refine vc_region ?_
 refine oq (qv_mv (.int .i64 (vE [A])) rfl) ?_
 refine oq (qv_neq rfl rfl) ?_
 refine ops_nil ?_
 refine vc_if rfl (fun c1 => ?_) (fun c1 => ?_)
 ·
  refine vc_seq ?_
  refine vc_region ?_
  refine oq (qv_build (out := [(Value.int .i64 0), (Value.slice none 0 0), (Value.int .i64 0)]) Try.build24 [] rfl rfl) ?_
  refine oq (qv_mv (.int .i64 (vE [A])) rfl) ?_
  refine ops_stw (k := 1) (vs := [(Value.int .i64 0), (Value.slice none 0 0), (Value.int .i64 0)]) Try.size24 rfl rfl rfl rfl rfl rfl ?_
  refine oq (qv_as (.int .i64 (vE [A])) rfl) ?_
  refine ops_nil ?_
  refine vc_freeze (b := b2) (o := .cells ([(Value.int .i64 0), (Value.slice none 0 0), (Value.int .i64 0)] : List Value).toArray 24 (0, 0)) (σr := [(Arr 24 b1 [(Value.int .i64 (A.v)), na, (Value.int .i64 (A.r))])]) (List.perm_middle (l₁ := [(Arr 24 b1 [(Value.int .i64 (A.v)), na, (Value.int .i64 (A.r))])]) (l₂ := [])) (fun Vf2 hVf2 hb2 => ?_)
  have hc2 : Cells Vf2 b2 [(Value.int .i64 0), (Value.slice none 0 0), (Value.int .i64 0)] := ⟨_, _, hb2⟩
  have hA := hA.mono hVf2
  have hc1 := hc1.mono hVf2
  refine vc_drop [] [(Arr 24 b1 [(.int .i64 A.v), na, (.int .i64 A.r)])] (.refl _) ?_
  refine vc_ret ?_
  refine rs2 _ (.int .i64 (vE [A])) (rv_c (vs := [(Value.int .i64 0), (Value.slice none 0 0), (Value.int .i64 0)]) Try.agg24 rfl (inVc hc2) rfl rfl) (rv_t rfl) ?_
  obtain ⟨e1, e2⟩ := rsE_v (A := A) (i := i) (b := b) (by omega)
  rw [e1, e2]
  exact ⟨rfl, _, rfl, Fks.nil⟩
 ·
  refine vc_skip ?_
  refine vc_seq ?_
  refine vc_seq ?_
  have hz : vE [A] = 0 := by omega
  have hok := ok_of hz
  refine vc_region ?_
  refine oq (qv_mv (Value.int .i64 i) rfl) ?_
  refine oq (qv_lss rfl rfl) ?_
  refine oq (qv_mv (.bool (decide (i < 0))) rfl) ?_
  by_cases g1 : i < 0
  ·
   refine os (want_fn g1 rfl rfl rfl) ?_
   refine os (want_fn g1 rfl rfl rfl) ?_
   refine os (want_fn g1 rfl rfl rfl) ?_
   refine os (want_fn g1 rfl rfl rfl) ?_
   refine oq (qv_pick_t g1 rfl (rfl : ev _ _ = (Value.bool true))) ?_
   refine ops_nil ?_
   refine vc_tt rfl ?_
   refine vc_seq ?_
   refine vc_region ?_
   refine oq (qv_build (out := [(Value.int .i64 0), (Value.slice none 0 0), (Value.int .i64 0)]) Try.build24 [] rfl rfl) ?_
   refine ops_stw (k := 1) (vs := [(Value.int .i64 0), (Value.slice none 0 0), (Value.int .i64 0)]) Try.size24 rfl rfl rfl rfl rfl rfl ?_
   refine oq (qv_as (Value.int .i64 3) rfl) ?_
   refine ops_nil ?_
   refine vc_freeze (b := b2) (o := .cells ([(Value.int .i64 0), (Value.slice none 0 0), (Value.int .i64 0)] : List Value).toArray 24 (0, 0)) (σr := [(Arr 24 b1 [(Value.int .i64 (A.v)), na, (Value.int .i64 (A.r))])]) (List.perm_middle (l₁ := [(Arr 24 b1 [(Value.int .i64 (A.v)), na, (Value.int .i64 (A.r))])]) (l₂ := [])) (fun Vf3 hVf3 hb3 => ?_)
   have hc3 : Cells Vf3 b2 [(Value.int .i64 0), (Value.slice none 0 0), (Value.int .i64 0)] := ⟨_, _, hb3⟩
   have hA := hA.mono hVf3
   have hc1 := hc1.mono hVf3
   refine vc_drop [] [(Arr 24 b1 [(.int .i64 A.v), na, (.int .i64 A.r)])] (.refl _) ?_
   refine vc_ret ?_
   refine rs2 _ (Value.int .i64 3) (rv_c (vs := [(Value.int .i64 0), (Value.slice none 0 0), (Value.int .i64 0)]) Try.agg24 rfl (inVc hc3) rfl rfl) (rv_t rfl) ?_
   obtain ⟨e1, e2⟩ := rsE_3 (A := A) (i := i) (b := b) hz (by omega)
   rw [e1, e2]
   exact ⟨rfl, _, rfl, Fks.nil⟩
  ·
   refine og (qv_mv (Value.int .i64 i) rfl) (want_f g1 rfl rfl rfl) ?_
   refine og (qv_fa (off := 0) Try.field24_0 rfl) (want_f g1 rfl rfl rfl) ?_
   refine og (qv_ldp (v := (.int .i64 A.v)) Try.plain3 rfl (inOc (k := 0) rfl) rfl) (want_f g1 rfl rfl rfl) ?_
   refine og (qv_geq rfl rfl) (want_f g1 rfl rfl rfl) ?_
   refine oq (qv_pick_f g1 rfl (rfl : ev _ _ = (.bool (decide (A.v ≤ i))))) ?_
   refine ops_nil ?_
   refine vc_if rfl (fun c2 => ?_) (fun c2 => ?_)
   ·
    refine vc_seq ?_
    refine vc_region ?_
    refine oq (qv_build (out := [(Value.int .i64 0), (Value.slice none 0 0), (Value.int .i64 0)]) Try.build24 [] rfl rfl) ?_
    refine ops_stw (k := 1) (vs := [(Value.int .i64 0), (Value.slice none 0 0), (Value.int .i64 0)]) Try.size24 rfl rfl rfl rfl rfl rfl ?_
    refine oq (qv_as (Value.int .i64 3) rfl) ?_
    refine ops_nil ?_
    refine vc_freeze (b := b2) (o := .cells ([(Value.int .i64 0), (Value.slice none 0 0), (Value.int .i64 0)] : List Value).toArray 24 (0, 0)) (σr := [(Arr 24 b1 [(Value.int .i64 (A.v)), na, (Value.int .i64 (A.r))])]) (List.perm_middle (l₁ := [(Arr 24 b1 [(Value.int .i64 (A.v)), na, (Value.int .i64 (A.r))])]) (l₂ := [])) (fun Vf4 hVf4 hb4 => ?_)
    have hc4 : Cells Vf4 b2 [(Value.int .i64 0), (Value.slice none 0 0), (Value.int .i64 0)] := ⟨_, _, hb4⟩
    have hA := hA.mono hVf4
    have hc1 := hc1.mono hVf4
    refine vc_drop [] [(Arr 24 b1 [(.int .i64 A.v), na, (.int .i64 A.r)])] (.refl _) ?_
    refine vc_ret ?_
    refine rs2 _ (Value.int .i64 3) (rv_c (vs := [(Value.int .i64 0), (Value.slice none 0 0), (Value.int .i64 0)]) Try.agg24 rfl (inVc hc4) rfl rfl) (rv_t rfl) ?_
    obtain ⟨e1, e2⟩ := rsE_3 (A := A) (i := i) (b := b) hz (by omega)
    rw [e1, e2]
    exact ⟨rfl, _, rfl, Fks.nil⟩
   ·
    refine vc_skip ?_
    refine vc_seq ?_
    refine vc_region ?_
    refine oq (qv_ldm (vs := [(.int .i64 A.v), na, (.int .i64 A.r)]) Try.agg24 rfl (inOc (k := 0) rfl) rfl rfl) ?_
    refine oq (qv_mv (Value.int .i64 i) rfl) ?_
    refine oq (qv_mv (.bool (decide (b = true))) rfl) ?_
    refine ops_call (σa := []) (σr := [(Arr 24 b1 [(.int .i64 A.v), na, (.int .i64 A.r)]), (Arr 24 b2 [(Value.int .i64 0), (Value.slice none 0 0), (Value.int .i64 0)])]) (restrict_c (i := i) (b := b) hA hok.2.2.1 hok.1) rfl rfl (.refl _) (fun r1 V1 sg1 hV1 hp1 => ?_)
    obtain ⟨rfl, u1, rfl, hN1⟩ := hp1
    have hA := hA.mono hV1
    have hc1 := hc1.mono hV1
    refine ops_stw (k := 1) (vs := [(.int .i64 A.v), u1, (.int .i64 ((rsF A.v A.N A.r i b).2))]) Try.size24 rfl rfl rfl (allc rfl (allc (SlS.one hN1) (allc rfl rfl))) rfl rfl ?_
    refine oq (qv_as (Value.int .i64 0) rfl) ?_
    refine ops_nil ?_
    refine vc_freeze (b := b2) (o := .cells ([(Value.int .i64 (A.v)), u1, (Value.int .i64 ((rsF A.v A.N A.r i b).2))] : List Value).toArray 24 (0, 0)) (σr := [(Arr 24 b1 [(Value.int .i64 (A.v)), na, (Value.int .i64 (A.r))])]) (List.perm_middle (l₁ := [(Arr 24 b1 [(Value.int .i64 (A.v)), na, (Value.int .i64 (A.r))])]) (l₂ := [])) (fun Vf5 hVf5 hb5 => ?_)
    have hc5 : Cells Vf5 b2 [(.int .i64 A.v), u1, (.int .i64 ((rsF A.v A.N A.r i b).2))] := ⟨_, _, hb5⟩
    have hA := hA.mono hVf5
    have hc1 := hc1.mono hVf5
    have hN1 := hN1.mono hVf5
    refine vc_drop [] [(Arr 24 b1 [(.int .i64 A.v), na, (.int .i64 A.r)])] (.refl _) ?_
    refine vc_ret ?_
    refine rs2 _ (Value.int .i64 0) (rv_c (vs := [(.int .i64 A.v), u1, (.int .i64 ((rsF A.v A.N A.r i b).2))]) Try.agg24 rfl (inVc hc5) rfl rfl) (rv_t rfl) ?_
    obtain ⟨e1, e2⟩ := rsE_0 (A := A) (i := i) (b := b) hz (by omega)
    rw [e1, e2]
    exact ⟨rfl, u1, rfl, hN1⟩

set_option maxRecDepth 100000 in
set_option maxHeartbeats 4000000 in
theorem same_c {V : HV} {na : Value} {A : Dg} (hA : Fks V na A.N) {nb : Value} {B : Dg} (hB : Fks V nb B.N) :
    FnC Try.prog 19 [(.agg #[(.int .i64 A.v), na, (.int .i64 A.r)]), (.agg #[(.int .i64 B.v), nb, (.int .i64 B.r)])] V [] (fun v _ _ => v = (.bool (decide (A = B)))) := by
 refine fn_intro (N := 45) Try.func19 (by kernel_rfl) rfl rfl rfl (Nat.le_of_ble_eq_true rfl) ?_
 intro w0 D
 have hb := SlS.bound hA
 have hb2 := SlS.bound hB
 refine vc_seq ?_
 refine vc_region ?_
 refine ops_box (v := (.agg #[(.int .i64 A.v), na, (.int .i64 A.r)])) (cs := [(.int .i64 A.v), na, (.int .i64 A.r)]) rfl rfl (fun b1 => ?_)
 refine ops_box (v := (.agg #[(.int .i64 B.v), nb, (.int .i64 B.r)])) (cs := [(.int .i64 B.v), nb, (.int .i64 B.r)]) rfl rfl (fun b2 => ?_)
 refine oq (qv_as (Value.bool false) rfl) ?_
 refine ops_nil ?_
 refine vc_seq ?_
 refine vc_seq ?_
 refine vc_res (σ' := [(Arr 24 b1 [(.int .i64 A.v), na, (.int .i64 A.r)]), (Arr 24 b2 [(.int .i64 B.v), nb, (.int .i64 B.r)])]) rfl ?_
 refine vc_region ?_
 refine oq (qv_fa (off := 0) Try.field24_0 rfl) ?_
 refine oq (qv_ldp (v := (.int .i64 A.v)) Try.plain3 rfl (inOc (k := 0) rfl) rfl) ?_
 refine oq (qv_fa (off := 0) Try.field24_0 rfl) ?_
 refine oq (qv_ldp (v := (.int .i64 B.v)) Try.plain3 rfl (inOc (k := 1) rfl) rfl) ?_
 refine oq (qv_neq rfl rfl) ?_
 refine oq (qv_mv (.bool (decide (A.v ≠ B.v))) rfl) ?_
 by_cases g1 : A.v ≠ B.v
 ·
  refine os (want_fn g1 rfl rfl rfl) ?_
  refine os (want_fn g1 rfl rfl rfl) ?_
  refine os (want_fn g1 rfl rfl rfl) ?_
  refine os (want_fn g1 rfl rfl rfl) ?_
  refine os (want_fn g1 rfl rfl rfl) ?_
  refine oq (qv_pick_t g1 rfl (rfl : ev _ _ = (Value.bool true))) ?_
  refine oq (qv_mv (Value.bool true) rfl) ?_
  refine os (want_fnc rfl rfl rfl) ?_
  refine os (want_fnc rfl rfl rfl) ?_
  refine os (want_fnc rfl rfl rfl) ?_
  refine os (want_fnc rfl rfl rfl) ?_
  refine os (want_fnc rfl rfl rfl) ?_
  refine os (want_fnc rfl rfl rfl) ?_
  refine os (want_fnc rfl rfl rfl) ?_
  refine oq (qv_pick_tc rfl (rfl : ev _ _ = (Value.bool true))) ?_
  refine ops_nil ?_
  refine vc_tt rfl ?_
  refine vc_seq ?_
  refine vc_region ?_
  refine oq (qv_as (Value.bool false) rfl) ?_
  refine ops_nil ?_
  refine vc_ret ?_
  exact rq1 (.bool (decide (A = B))) (congrArg Value.bool (decide_eq_false (show ¬ (A = B) from by intro hx; subst hx; first | omega | exact absurd ⟨rfl, rfl, rfl⟩ (by assumption))).symm) rfl
 ·
  refine og (qv_fa (off := 0) Try.field24_2 rfl) (want_f g1 rfl rfl rfl) ?_
  refine og (qv_ldp (v := (.int .i64 A.r)) Try.plain3 rfl (inOc (k := 0) rfl) rfl) (want_f g1 rfl rfl rfl) ?_
  refine og (qv_fa (off := 0) Try.field24_2 rfl) (want_f g1 rfl rfl rfl) ?_
  refine og (qv_ldp (v := (.int .i64 B.r)) Try.plain3 rfl (inOc (k := 1) rfl) rfl) (want_f g1 rfl rfl rfl) ?_
  refine og (qv_neq rfl rfl) (want_f g1 rfl rfl rfl) ?_
  refine oq (qv_pick_f g1 rfl (rfl : ev _ _ = (.bool (decide (A.r ≠ B.r))))) ?_
  refine oq (qv_mv (.bool (decide (A.r ≠ B.r))) rfl) ?_
  by_cases g2 : A.r ≠ B.r
  ·
   refine os (want_fn g2 rfl rfl rfl) ?_
   refine os (want_fn g2 rfl rfl rfl) ?_
   refine os (want_fn g2 rfl rfl rfl) ?_
   refine os (want_fn g2 rfl rfl rfl) ?_
   refine os (want_fn g2 rfl rfl rfl) ?_
   refine os (want_fn g2 rfl rfl rfl) ?_
   refine os (want_fn g2 rfl rfl rfl) ?_
   refine oq (qv_pick_t g2 rfl (rfl : ev _ _ = (Value.bool true))) ?_
   refine ops_nil ?_
   refine vc_tt rfl ?_
   refine vc_seq ?_
   refine vc_region ?_
   refine oq (qv_as (Value.bool false) rfl) ?_
   refine ops_nil ?_
   refine vc_ret ?_
   exact rq1 (.bool (decide (A = B))) (congrArg Value.bool (decide_eq_false (show ¬ (A = B) from by intro hx; subst hx; first | omega | exact absurd ⟨rfl, rfl, rfl⟩ (by assumption))).symm) rfl
  ·
   refine og (qv_fa (off := 0) Try.field24_1 rfl) (want_f g2 rfl rfl rfl) ?_
   refine og (qv_ldp (v := na) Try.plain22 rfl (inOc (k := 0) rfl) rfl) (want_f g2 rfl rfl rfl) ?_
   refine og (qv_lenSS Try.underlying22 rfl hA) (want_f g2 rfl rfl rfl) ?_
   refine og (qv_fa (off := 0) Try.field24_1 rfl) (want_f g2 rfl rfl rfl) ?_
   refine og (qv_ldp (v := nb) Try.plain22 rfl (inOc (k := 1) rfl) rfl) (want_f g2 rfl rfl rfl) ?_
   refine og (qv_lenSS Try.underlying22 rfl hB) (want_f g2 rfl rfl rfl) ?_
   refine og (qv_neq rfl rfl) (want_f g2 rfl rfl rfl) ?_
   refine oq (qv_pick_f g2 rfl (rfl : ev _ _ = (.bool (decide (((A.N.length : Int)) ≠ ((B.N.length : Int))))))) ?_
   refine ops_nil ?_
   refine vc_if rfl (fun c1 => ?_) (fun c1 => ?_)
   ·
    refine vc_seq ?_
    refine vc_region ?_
    refine oq (qv_as (Value.bool false) rfl) ?_
    refine ops_nil ?_
    refine vc_ret ?_
    exact rq1 (.bool (decide (A = B))) (congrArg Value.bool (decide_eq_false (show ¬ (A = B) from by intro hx; subst hx; first | omega | exact absurd ⟨rfl, rfl, rfl⟩ (by assumption))).symm) rfl
   ·
    refine vc_skip ?_
    refine vc_seq ?_
    refine vc_seq ?_
    refine vc_region ?_
    refine oq (qv_fa (off := 0) Try.field24_1 rfl) ?_
    refine oq (qv_ldp (v := na) Try.plain22 rfl (inOc (k := 0) rfl) rfl) ?_
    refine oq (qv_lenSS Try.underlying22 rfl hA) ?_
    refine oq (qv_mv (Value.int .i64 0) rfl) ?_
    refine ops_nil ?_
    refine vc_block ?_
    refine vc_loop (α := Int) (fun (xx : Int) => [(0, (.agg #[(.int .i64 A.v), na, (.int .i64 A.r)])), (1, (.agg #[(.int .i64 B.v), nb, (.int .i64 B.r)])), (2, (Value.pointer (some ⟨b1, 0, none⟩))), (3, (Value.pointer (some ⟨b2, 0, none⟩))), (26, (.bool (decide (((A.N.length : Int)) ≠ ((B.N.length : Int)))))), (29, (.int .i64 ((A.N.length : Int)))), (30, (Value.int .i64 xx))]) (fun (xx : Int) V' σ' => V = V' ∧ [(Arr 24 b1 [(.int .i64 A.v), na, (.int .i64 A.r)]), (Arr 24 b2 [(.int .i64 B.v), nb, (.int .i64 B.r)])] = σ' ∧ 0 ≤ xx ∧ xx ≤ A.N.length ∧ ∀ x : Int, 0 ≤ x → x < xx → fk A.N x = fk B.N x) (fun (xx : Int) => (A.N.length - xx).toNat) (0) ?_ ?_ ?_
    · exact ⟨rfl, rfl, rfl, rfl, rfl, rfl, rfl, trivial⟩
    · exact ⟨rfl, rfl, by omega, by omega, fun x a b => by omega⟩
    rintro i e1 V0l σ0l hI0
    obtain ⟨rfl, rfl, i1, i2, hi⟩ : V = V0l ∧ [(Arr 24 b1 [(.int .i64 A.v), na, (.int .i64 A.r)]), (Arr 24 b2 [(.int .i64 B.v), nb, (.int .i64 B.r)])] = σ0l ∧ 0 ≤ i ∧ i ≤ A.N.length ∧ ∀ x : Int, 0 ≤ x → x < i → fk A.N x = fk B.N x := hI0
    refine vc_seq ?_
    refine vc_region ?_
    refine oq (qv_lss rfl rfl) ?_
    refine ops_nil ?_
    refine vc_seq ?_
    refine vc_if rfl (fun c2 => ?_) (fun c2 => ?_)
    ·
     refine vc_skip ?_
     refine vc_seq ?_
     refine vc_block ?_
     refine vc_seq ?_
     refine vc_region ?_
     refine oq (qv_mv (Value.int .i64 i) rfl) ?_
     refine oq (qv_as (Value.int .i64 i) rfl) ?_
     refine ops_nil ?_
     refine vc_seq ?_
     refine vc_region_any Try.mixed (by kernel_rfl) ?_
     refine qq (qv_fa (off := 0) Try.field24_1 rfl) ?_
     refine qq (qv_ldp (v := na) Try.plain22 rfl (inOc (k := 0) rfl) rfl) ?_
     refine qq (qv_mv (Value.int .i64 i) rfl) ?_
     refine qq (qv_ias (v := na) (i := i) Try.underlying22 Try.size42 rfl hA rfl (by omega) (by omega)) ?_
     refine qq (qv_lds (v := na) (i := i) (vs := [(.int .i64 ((fk A.N (i)).v)), (.int .i64 ((fk A.N (i)).l)), (.int .i64 ((fk A.N (i)).h))]) Try.agg42 rfl hA (by omega) (by omega) (fks_at (N := A.N) (by omega) (by omega))) ?_
     refine qq (qv_fa (off := 0) Try.field24_1 rfl) ?_
     refine qq (qv_ldp (v := nb) Try.plain22 rfl (inOc (k := 1) rfl) rfl) ?_
     refine qq (qv_mv (Value.int .i64 i) rfl) ?_
     refine qq (qv_ias (v := nb) (i := i) Try.underlying22 Try.size42 rfl hB rfl (by omega) (by omega)) ?_
     refine qq (qv_lds (v := nb) (i := i) (vs := [(.int .i64 ((fk B.N (i)).v)), (.int .i64 ((fk B.N (i)).l)), (.int .i64 ((fk B.N (i)).h))]) Try.agg42 rfl hB (by omega) (by omega) (fks_at (N := B.N) (by omega) (by omega))) ?_
     refine qq (qv_neqs Try.eq42 [(fk A.N (i)).v, (fk A.N (i)).l, (fk A.N (i)).h] [(fk B.N (i)).v, (fk B.N (i)).l, (fk B.N (i)).h] rfl rfl rfl rfl rfl rfl eq3) ?_
     refine qops_nil ?_
     refine vc_if rfl (fun c3 => ?_) (fun c3 => ?_)
     ·
      refine vc_seq ?_
      refine vc_region ?_
      refine oq (qv_as (Value.bool false) rfl) ?_
      refine ops_nil ?_
      refine vc_ret ?_
      refine blockQ_ret ?_
      refine blockQ_ret ?_
      exact rq1 (.bool (decide (A = B))) (congrArg Value.bool (decide_eq_false (show ¬ (A = B) from by intro hx; subst hx; first | omega | exact absurd ⟨rfl, rfl, rfl⟩ (by assumption))).symm) rfl
     ·
      refine vc_skip ?_
      refine vc_region ?_
      refine oq (qv_add rfl rfl (by omega)) ?_
      refine oq (qv_mv (.int .i64 (i + 1)) rfl) ?_
      refine ops_nil ?_
      refine ⟨(i + 1), ⟨rfl, rfl, rfl, rfl, rfl, rfl, (congrArg (Value.int .i64) (show (i + 1) = ((i + 1)) from by omega)), trivial⟩, ⟨rfl, rfl, by omega, by omega, all_snoc hi (fk_eq3 (Decidable.not_not.1 (by assumption)))⟩, by omega⟩
    ·
     refine vc_exit ?_
     refine blockQ_hit ?_
     refine vc_seq ?_
     refine vc_region ?_
     refine oq (qv_as (Value.bool true) rfl) ?_
     refine ops_nil ?_
     refine vc_ret ?_
     exact rq1 (.bool (decide (A = B))) (congrArg Value.bool (decide_eq_true (show (A = B) from by exact dg_ext (by omega) (ext_fk (by omega) (fun x a b => hi x a (by omega))) (by omega))).symm) rfl

end Go.Proofs.Ytgehdgeiikjohaa
