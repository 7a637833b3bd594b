/- Walks of bdd: what each function returns. Printed by a program out of notes. -/
import Derived.Test.YtgehdgeiikjohaaBv
import Derived.Test.YtgehdgeiikjohaaBdJ
namespace Go.Proofs.Ytgehdgeiikjohaa
open Go.Vc
open Classical

set_option maxRecDepth 100000 in
set_option maxHeartbeats 4000000 in
theorem Applies_c {V : HV} {op : Int} {na : Value} {A : Dg} (hA : Fks V na A.N) {nb : Value} {B : Dg} (hB : Fks V nb B.N) :
    FnC Try.prog 4 [(Value.int .i64 op), (.agg #[(.int .i64 A.v), na, (.int .i64 A.r)]), (.agg #[(.int .i64 B.v), nb, (.int .i64 B.r)])] V [] (fun v _ _ => v = (Value.bool true)) := by
 refine fn_intro (N := 98) Try.func4 (by kernel_rfl) rfl rfl rfl (Nat.le_of_ble_eq_true rfl) ?_
 intro w0 D
 have hb := SlS.bound hA
 have hb2 := SlS.bound hB
 refine vc_seq ?_
 refine vc_region ?_
 refine ops_box (v := (.agg #[(.int .i64 A.v), na, (.int .i64 A.r)])) (cs := [(.int .i64 A.v), na, (.int .i64 A.r)]) rfl rfl (fun b1 => ?_)
 refine ops_box (v := (.agg #[(.int .i64 B.v), nb, (.int .i64 B.r)])) (cs := [(.int .i64 B.v), nb, (.int .i64 B.r)]) rfl rfl (fun b2 => ?_)
 refine oq (qv_as (Value.bool false) rfl) ?_
 refine ops_nil ?_
 refine vc_seq ?_
 refine vc_seq ?_
 refine vc_res (σ' := [(Arr 24 b1 [(.int .i64 A.v), na, (.int .i64 A.r)]), (Arr 24 b2 [(.int .i64 B.v), nb, (.int .i64 B.r)])]) rfl ?_
 refine vc_region ?_
 refine oq (qv_call (v := (Value.bool true)) (known_c) rfl rfl) ?_
 refine oq (qv_notc rfl) ?_
 refine ops_nil ?_
 refine vc_ff rfl ?_
 refine vc_skip ?_
 refine vc_seq ?_
 refine vc_seq ?_
 refine vc_region ?_
 refine oq (qv_ldm (vs := [(.int .i64 A.v), na, (.int .i64 A.r)]) Try.agg24 rfl (inOc (k := 0) rfl) rfl rfl) ?_
 refine oq (qv_call (v := (.bool (decide (A.v ≤ 7 ∧ A.N.length ≤ 130)))) (few_c hA) rfl rfl) ?_
 refine oq (qv_not rfl) ?_
 refine oq (qv_mv (.bool (decide (¬ (A.v ≤ 7 ∧ A.N.length ≤ 130)))) rfl) ?_
 by_cases g1 : ¬ (A.v ≤ 7 ∧ A.N.length ≤ 130)
 ·
  refine os (want_fn g1 rfl rfl rfl) ?_
  refine os (want_fn g1 rfl rfl rfl) ?_
  refine os (want_fn g1 rfl rfl rfl) ?_
  refine oq (qv_pick_t g1 rfl (rfl : ev _ _ = (Value.bool true))) ?_
  refine ops_nil ?_
  refine vc_tt rfl ?_
  refine vc_seq ?_
  refine vc_region ?_
  refine oq (qv_as (Value.bool true) rfl) ?_
  refine ops_nil ?_
  refine vc_ret ?_
  exact rq1 (Value.bool true) rfl rfl
 ·
  refine og (qv_ldm (vs := [(.int .i64 B.v), nb, (.int .i64 B.r)]) Try.agg24 rfl (inOc (k := 1) rfl) rfl rfl) (want_f g1 rfl rfl rfl) ?_
  refine og (qv_call (v := (.bool (decide (B.v ≤ 7 ∧ B.N.length ≤ 130)))) (few_c hB) rfl rfl) (want_f g1 rfl rfl rfl) ?_
  refine og (qv_not rfl) (want_f g1 rfl rfl rfl) ?_
  refine oq (qv_pick_f g1 rfl (rfl : ev _ _ = (.bool (decide (¬ (B.v ≤ 7 ∧ B.N.length ≤ 130)))))) ?_
  refine ops_nil ?_
  refine vc_if rfl (fun c1 => ?_) (fun c1 => ?_)
  ·
   refine vc_seq ?_
   refine vc_region ?_
   refine oq (qv_as (Value.bool true) rfl) ?_
   refine ops_nil ?_
   refine vc_ret ?_
   exact rq1 (Value.bool true) rfl rfl
  ·
   refine vc_skip ?_
   refine vc_seq ?_
   refine vc_region ?_
   refine oq (qv_mv (Value.int .i64 op) rfl) ?_
   refine oq (qv_ldm (vs := [(.int .i64 A.v), na, (.int .i64 A.r)]) Try.agg24 rfl (inOc (k := 0) rfl) rfl rfl) ?_
   refine oq (qv_ldm (vs := [(.int .i64 B.v), nb, (.int .i64 B.r)]) Try.agg24 rfl (inOc (k := 1) rfl) rfl rfl) ?_
   refine ops_call (σa := []) (σr := [(Arr 24 b1 [(.int .i64 A.v), na, (.int .i64 A.r)]), (Arr 24 b2 [(.int .i64 B.v), nb, (.int .i64 B.r)])]) (Apply_c (op := op) hA hB (by omega)) rfl rfl (.refl _) (fun r1 V1 sg1 hV1 hp1 => ?_)
   obtain ⟨rfl, ux, rfl, hx⟩ := hp1
   have hA := hA.mono hV1
   have hB := hB.mono hV1
   refine oq (qv_mv (.tuple #[(.agg #[(.int .i64 ((apD op A B).v)), ux, (.int .i64 ((apD op A B).r))]), (.int .i64 (apE op A B))]) rfl) ?_
   refine oq (qv_ext (.agg #[(.int .i64 ((apD op A B).v)), ux, (.int .i64 ((apD op A B).r))]) rfl rfl) ?_
   refine oq (qv_ext (.int .i64 (apE op A B)) rfl rfl) ?_
   refine ops_alloc Try.ti24 rfl (fun b3 => ?_)
   refine ops_stw (k := 2) (vs := [(.int .i64 ((apD op A B).v)), ux, (.int .i64 ((apD op A B).r))]) Try.size24 rfl rfl rfl (allc rfl (allc (SlS.one hx) (allc rfl rfl))) rfl rfl ?_
   refine oq (qv_as (.int .i64 (apE op A B)) rfl) ?_
   refine ops_nil ?_
   refine vc_seq ?_
   refine vc_res (σ' := [(Arr 24 b1 [(.int .i64 A.v), na, (.int .i64 A.r)]), (Arr 24 b2 [(.int .i64 B.v), nb, (.int .i64 B.r)]), (Arr 24 b3 [(.int .i64 ((apD op A B).v)), ux, (.int .i64 ((apD op A B).r))])]) rfl ?_
   refine vc_region ?_
   refine oq (qv_ldm (vs := [(.int .i64 A.v), na, (.int .i64 A.r)]) Try.agg24 rfl (inOc (k := 0) rfl) rfl rfl) ?_
   refine ops_call (σa := []) (σr := [(Arr 24 b1 [(.int .i64 A.v), na, (.int .i64 A.r)]), (Arr 24 b2 [(.int .i64 B.v), nb, (.int .i64 B.r)]), (Arr 24 b3 [(.int .i64 ((apD op A B).v)), ux, (.int .i64 ((apD op A B).r))])]) (Not_c hA (by omega)) rfl rfl (.refl _) (fun r2 V2 sg2 hV2 hp2 => ?_)
   obtain ⟨rfl, uy, rfl, hy⟩ := hp2
   have hA := hA.mono hV2
   have hB := hB.mono hV2
   have hx := hx.mono hV2
   refine oq (qv_mv (.tuple #[(.agg #[(.int .i64 ((cbD [A] notF).v)), uy, (.int .i64 ((cbD [A] notF).r))]), (.int .i64 (vE [A]))]) rfl) ?_
   refine oq (qv_ext (.agg #[(.int .i64 ((cbD [A] notF).v)), uy, (.int .i64 ((cbD [A] notF).r))]) rfl rfl) ?_
   refine oq (qv_ext (.int .i64 (vE [A])) rfl rfl) ?_
   refine ops_alloc Try.ti24 rfl (fun b4 => ?_)
   refine ops_stw (k := 3) (vs := [(.int .i64 ((cbD [A] notF).v)), uy, (.int .i64 ((cbD [A] notF).r))]) Try.size24 rfl rfl rfl (allc rfl (allc (SlS.one hy) (allc rfl rfl))) rfl rfl ?_
   refine oq (qv_as (.int .i64 (vE [A])) rfl) ?_
   refine ops_nil ?_
   refine vc_seq ?_
   refine vc_seq ?_
   refine vc_res (σ' := [(Arr 24 b1 [(.int .i64 A.v), na, (.int .i64 A.r)]), (Arr 24 b2 [(.int .i64 B.v), nb, (.int .i64 B.r)]), (Arr 24 b3 [(.int .i64 ((apD op A B).v)), ux, (.int .i64 ((apD op A B).r))]), (Arr 24 b4 [(.int .i64 ((cbD [A] notF).v)), uy, (.int .i64 ((cbD [A] notF).r))])]) rfl ?_
   refine vc_region ?_
   refine oq (qv_ldm (vs := [(.int .i64 A.v), na, (.int .i64 A.r)]) Try.agg24 rfl (inOc (k := 0) rfl) rfl rfl) ?_
   refine oq (qv_call (v := (.int .i64 (chkC A.v A.N A.r))) (check_c hA) rfl rfl) ?_
   refine oq (qv_neq rfl rfl) ?_
   refine ops_nil ?_
   refine vc_if rfl (fun c2 => ?_) (fun c2 => ?_)
   ·
    refine vc_seq ?_
    have hv1 := vE1_1 (A := A) (by omega)
    have hcb := cbD_n (Ds := [A]) (F := notF) (by omega)
    refine vc_region ?_
    refine oq (qv_mv (.int .i64 (vE [A])) rfl) ?_
    refine oq (qv_neq rfl rfl) ?_
    refine oq (qv_mv (.bool (decide ((vE [A]) ≠ 1))) rfl) ?_
    by_cases g2 : (vE [A]) ≠ 1
    ·
     exact absurd hv1 g2
    ·
     refine og (qv_ldm (vs := [(.int .i64 ((cbD [A] notF).v)), uy, (.int .i64 ((cbD [A] notF).r))]) Try.agg24 rfl (inOc (k := 3) rfl) rfl rfl) (want_f g2 rfl rfl rfl) ?_
     refine og (qv_build (out := [(Value.int .i64 0), (Value.slice none 0 0), (Value.int .i64 0)]) Try.build24 [] rfl rfl) (want_f g2 rfl rfl rfl) ?_
     refine og (qv_call (v := (.bool (decide (cbD [A] notF = dg0)))) (same_c (A := (cbD [A] notF)) (B := dg0) hy (Fks.nil)) rfl rfl) (want_f g2 rfl rfl rfl) ?_
     refine og (qv_not rfl) (want_f g2 rfl rfl rfl) ?_
     refine oq (qv_pick_f g2 rfl (rfl : ev _ _ = (.bool (decide (¬ (cbD [A] notF = dg0)))))) ?_
     refine ops_nil ?_
     refine vc_if rfl (fun c3 => ?_) (fun c3 => ?_)
     ·
      exact absurd hcb c3
     ·
      refine vc_skip ?_
      refine vc_seq ?_
      refine vc_region ?_
      refine oq (qv_ldm (vs := [(.int .i64 A.v), na, (.int .i64 A.r)]) Try.agg24 rfl (inOc (k := 0) rfl) rfl rfl) ?_
      refine oq (qv_ldm (vs := [(.int .i64 B.v), nb, (.int .i64 B.r)]) Try.agg24 rfl (inOc (k := 1) rfl) rfl rfl) ?_
      refine oq (qv_call (v := (.int .i64 (vE [A, B]))) (fits_c hA hB) rfl rfl) ?_
      refine oq (qv_as (.int .i64 (vE [A, B])) rfl) ?_
      refine ops_nil ?_
      refine vc_seq ?_
      refine vc_seq ?_
      refine vc_region ?_
      refine oq (qv_mv (.int .i64 (vE [A, B])) rfl) ?_
      refine oq (qv_eql rfl rfl) ?_
      refine oq (qv_mv (.bool (decide ((vE [A, B]) = 0))) rfl) ?_
      by_cases g3 : (vE [A, B]) = 0
      ·
       refine og (qv_mv (Value.int .i64 op) rfl) (want_t g3 rfl rfl rfl) ?_
       refine og (qv_lss rfl rfl) (want_t g3 rfl rfl rfl) ?_
       refine og (qv_mv (.bool (decide (op < 0))) rfl) (want_t g3 rfl rfl rfl) ?_
       by_cases g4 : op < 0
       ·
        refine os (want_fn g4 rfl rfl rfl) ?_
        refine os (want_fn g4 rfl rfl rfl) ?_
        refine og (qv_pick_t g4 rfl (rfl : ev _ _ = (Value.bool true))) (want_t g3 rfl rfl rfl) ?_
        refine oq (qv_pick_t g3 rfl (rfl : ev _ _ = (Value.bool true))) ?_
        refine ops_nil ?_
        refine vc_tt rfl ?_
        refine vc_region ?_
        refine oq (qv_as (Value.int .i64 3) rfl) ?_
        refine ops_nil ?_
        refine vc_seq ?_
        refine vc_seq ?_
        refine vc_region ?_
        refine oq (qv_mv (Value.int .i64 3) rfl) ?_
        refine oq (qv_neq rfl rfl) ?_
        refine ops_nil ?_
        refine vc_if rfl (fun c4 => ?_) (fun c4 => ?_)
        ·
         refine vc_seq ?_
         have hap := apE_3 (A := A) (B := B) (op := op) (by omega) (by omega)
         refine vc_region ?_
         refine oq (qv_mv (.int .i64 (apE op A B)) rfl) ?_
         refine oq (qv_mv (Value.int .i64 3) rfl) ?_
         refine oq (qv_eql rfl rfl) ?_
         refine oq (qv_mv (.bool (decide ((apE op A B) = 3))) rfl) ?_
         by_cases g5 : (apE op A B) = 3
         ·
          refine og (qv_ldm (vs := [(.int .i64 ((apD op A B).v)), ux, (.int .i64 ((apD op A B).r))]) Try.agg24 rfl (inOc (k := 2) rfl) rfl rfl) (want_t g5 rfl rfl rfl) ?_
          refine og (qv_build (out := [(Value.int .i64 0), (Value.slice none 0 0), (Value.int .i64 0)]) Try.build24 [] rfl rfl) (want_t g5 rfl rfl rfl) ?_
          refine og (qv_call (v := (.bool (decide (apD op A B = dg0)))) (same_c (A := (apD op A B)) (B := dg0) hx (Fks.nil)) rfl rfl) (want_t g5 rfl rfl rfl) ?_
          refine oq (qv_pick_t g5 rfl (rfl : ev _ _ = (.bool (decide (apD op A B = dg0))))) ?_
          refine oq (qv_as (.bool (decide (apD op A B = dg0))) rfl) ?_
          refine ops_nil ?_
          refine vc_ret ?_
          exact rq1 (Value.bool true) (congrArg Value.bool (decide_eq_true (show (apD op A B = dg0) from by exact hap.2))) rfl
         ·
          exact absurd hap.1 g5
        ·
         refine vc_skip ?_
         refine vc_seq ?_
         have hz : vE [A, B] = 0 := by omega
         have hap := apE_0 (A := A) (B := B) (op := op) hz (by omega)
         have hal := ap_law (A := A) (B := B) (op := op) hz (by omega)
         obtain ⟨hok1, hok2, hok3⟩ := ok2 hz
         have hvz := hok1.1.1
         have hck1 := chk_ok.2 hok1
         have hck2 := chk_ok.2 hok2
         refine vc_region_order (τ := []) [(0, false), (1, false), (2, false), (3, false), (4, false), (5, false), (6, false), (7, false), (9, false), (8, true), (10, true), (11, true), (12, true), (13, false), (14, false), (15, false)] [(Arr 24 b1 [(.int .i64 A.v), na, (.int .i64 A.r)]), (Arr 24 b2 [(.int .i64 B.v), nb, (.int .i64 B.r)]), (Arr 24 b3 [(.int .i64 ((apD op A B).v)), ux, (.int .i64 ((apD op A B).r))]), (Arr 24 b4 [(.int .i64 ((cbD [A] notF).v)), uy, (.int .i64 ((cbD [A] notF).r))])] Try.mixed (perm_nil _) (by kernel_rfl) ?_
         refine rq rfl (qv_mv (.int .i64 (apE op A B)) rfl) ?_
         refine rq rfl (qv_eql rfl rfl) ?_
         refine rq rfl (qv_mv (.bool (decide ((apE op A B) = 0))) rfl) ?_
         by_cases g6 : (apE op A B) = 0
         ·
          refine re rfl (qv_ldm (vs := [(.int .i64 ((apD op A B).v)), ux, (.int .i64 ((apD op A B).r))]) Try.agg24 rfl (inOc (k := 2) rfl) rfl rfl) (want_t g6 rfl rfl rfl) ?_
          refine re rfl (qv_fa (off := 0) Try.field24_0 rfl) (want_t g6 rfl rfl rfl) ?_
          refine re rfl (qv_ldp (v := (.int .i64 A.v)) Try.plain3 rfl (inOc (k := 0) rfl) rfl) (want_t g6 rfl rfl rfl) ?_
          refine re rfl (qv_mv (Value.int .i64 op) rfl) (want_t g6 rfl rfl rfl) ?_
          refine re rfl (qv_ldm (vs := [(.int .i64 A.v), na, (.int .i64 A.r)]) Try.agg24 rfl (inOc (k := 0) rfl) rfl rfl) (want_t g6 rfl rfl rfl) ?_
          refine re rfl (qv_ldm (vs := [(.int .i64 B.v), nb, (.int .i64 B.r)]) Try.agg24 rfl (inOc (k := 1) rfl) rfl rfl) (want_t g6 rfl rfl rfl) ?_
          refine rl rfl ?_
          refine ops_want (want_t g6 rfl rfl rfl) ?_
          refine ops_call (σa := []) (σr := [(Arr 24 b1 [(.int .i64 A.v), na, (.int .i64 A.r)]), (Arr 24 b2 [(.int .i64 B.v), nb, (.int .i64 B.r)]), (Arr 24 b3 [(.int .i64 ((apD op A B).v)), ux, (.int .i64 ((apD op A B).r))]), (Arr 24 b4 [(.int .i64 ((cbD [A] notF).v)), uy, (.int .i64 ((cbD [A] notF).r))])]) (by have h := table_c (A := A) hA (chk_ok.1 (by omega)) (by omega); rw [tbD_v rfl] at h; exact h) rfl rfl (.refl _) (fun r3 V3 sg3 hV3 hp3 => ?_)
          obtain ⟨rfl, hTr3⟩ := hp3
          have hA := hA.mono hV3
          have hB := hB.mono hV3
          have hx := hx.mono hV3
          have hy := hy.mono hV3
          refine ops_nil ⟨[(Arr 24 b1 [(.int .i64 A.v), na, (.int .i64 A.r)]), (Arr 24 b2 [(.int .i64 B.v), nb, (.int .i64 B.r)]), (Arr 24 b3 [(.int .i64 ((apD op A B).v)), ux, (.int .i64 ((apD op A B).r))]), (Arr 24 b4 [(.int .i64 ((cbD [A] notF).v)), uy, (.int .i64 ((cbD [A] notF).r))])], [], hV3, perm_nil _, ⟨[], (.refl _)⟩, ?_⟩
          refine rl rfl ?_
          refine ops_want (want_t g6 rfl rfl rfl) ?_
          refine ops_call (σa := []) (σr := [(Arr 24 b1 [(.int .i64 A.v), na, (.int .i64 A.r)]), (Arr 24 b2 [(.int .i64 B.v), nb, (.int .i64 B.r)]), (Arr 24 b3 [(.int .i64 ((apD op A B).v)), ux, (.int .i64 ((apD op A B).r))]), (Arr 24 b4 [(.int .i64 ((cbD [A] notF).v)), uy, (.int .i64 ((cbD [A] notF).r))])]) (by have h := table_c (A := B) hB (chk_ok.1 (by omega)) (by omega); rw [tbD_v (vars := A.v) (by omega)] at h; exact h) rfl rfl (.refl _) (fun r4 V4 sg4 hV4 hp4 => ?_)
          obtain ⟨rfl, hTr4⟩ := hp4
          have hA := hA.mono hV4
          have hB := hB.mono hV4
          have hx := hx.mono hV4
          have hy := hy.mono hV4
          have hTr3 := hTr3.mono hV4
          refine ops_nil ⟨[(Arr 24 b1 [(.int .i64 A.v), na, (.int .i64 A.r)]), (Arr 24 b2 [(.int .i64 B.v), nb, (.int .i64 B.r)]), (Arr 24 b3 [(.int .i64 ((apD op A B).v)), ux, (.int .i64 ((apD op A B).r))]), (Arr 24 b4 [(.int .i64 ((cbD [A] notF).v)), uy, (.int .i64 ((cbD [A] notF).r))])], [], hV4, perm_nil _, ⟨[], (.refl _)⟩, ?_⟩
          refine rl rfl ?_
          refine ops_want (want_t g6 rfl rfl rfl) ?_
          refine ops_call (σa := []) (σr := [(Arr 24 b1 [(.int .i64 A.v), na, (.int .i64 A.r)]), (Arr 24 b2 [(.int .i64 B.v), nb, (.int .i64 B.r)]), (Arr 24 b3 [(.int .i64 ((apD op A B).v)), ux, (.int .i64 ((apD op A B).r))]), (Arr 24 b4 [(.int .i64 ((cbD [A] notF).v)), uy, (.int .i64 ((cbD [A] notF).r))])]) (applied_c (op := op) hTr3 hTr4 (by omega) (by omega) (by omega)) rfl rfl (.refl _) (fun r5 V5 sg5 hV5 hp5 => ?_)
          obtain ⟨rfl, hTr5⟩ := hp5
          have hA := hA.mono hV5
          have hB := hB.mono hV5
          have hx := hx.mono hV5
          have hy := hy.mono hV5
          have hTr3 := hTr3.mono hV5
          have hTr4 := hTr4.mono hV5
          refine ops_nil ⟨[(Arr 24 b1 [(.int .i64 A.v), na, (.int .i64 A.r)]), (Arr 24 b2 [(.int .i64 B.v), nb, (.int .i64 B.r)]), (Arr 24 b3 [(.int .i64 ((apD op A B).v)), ux, (.int .i64 ((apD op A B).r))]), (Arr 24 b4 [(.int .i64 ((cbD [A] notF).v)), uy, (.int .i64 ((cbD [A] notF).r))])], [], hV5, perm_nil _, ⟨[], (.refl _)⟩, ?_⟩
          refine rl rfl ?_
          refine ops_want (want_t g6 rfl rfl rfl) ?_
          refine ops_call (σa := []) (σr := [(Arr 24 b1 [(.int .i64 A.v), na, (.int .i64 A.r)]), (Arr 24 b2 [(.int .i64 B.v), nb, (.int .i64 B.r)]), (Arr 24 b3 [(.int .i64 ((apD op A B).v)), ux, (.int .i64 ((apD op A B).r))]), (Arr 24 b4 [(.int .i64 ((cbD [A] notF).v)), uy, (.int .i64 ((cbD [A] notF).r))])]) (build_c hTr5 (by omega) (by omega) (tbl_len _ _)) rfl rfl (.refl _) (fun r6 V6 sg6 hV6 hp6 => ?_)
          obtain ⟨rfl, u4, rfl, h4⟩ := hp6
          have hA := hA.mono hV6
          have hB := hB.mono hV6
          have hx := hx.mono hV6
          have hy := hy.mono hV6
          have hTr3 := hTr3.mono hV6
          have hTr4 := hTr4.mono hV6
          have hTr5 := hTr5.mono hV6
          refine ops_nil ⟨[(Arr 24 b1 [(.int .i64 A.v), na, (.int .i64 A.r)]), (Arr 24 b2 [(.int .i64 B.v), nb, (.int .i64 B.r)]), (Arr 24 b3 [(.int .i64 ((apD op A B).v)), ux, (.int .i64 ((apD op A B).r))]), (Arr 24 b4 [(.int .i64 ((cbD [A] notF).v)), uy, (.int .i64 ((cbD [A] notF).r))])], [], hV6, perm_nil _, ⟨[], (.refl _)⟩, ?_⟩
          refine re rfl (qv_call (v := (.bool (decide (apD op A B = (bldD A.v (tbl A.v (fun e => opF op (gA A e) (gA B e) false))))))) (same_c (A := (apD op A B)) (B := (bldD A.v (tbl A.v (fun e => opF op (gA A e) (gA B e) false)))) hx (h4)) rfl rfl) (want_t g6 rfl rfl rfl) ?_
          refine rq rfl (qv_pick_t g6 rfl (rfl : ev _ _ = (.bool (decide (apD op A B = (bldD A.v (tbl A.v (fun e => opF op (gA A e) (gA B e) false)))))))) ?_
          refine rq rfl (qv_as (.bool (decide (apD op A B = (bldD A.v (tbl A.v (fun e => opF op (gA A e) (gA B e) false)))))) rfl) ?_
          refine rnil ?_
          refine vc_ret ?_
          exact rq1 (Value.bool true) (congrArg Value.bool (decide_eq_true (show (apD op A B = (bldD A.v (tbl A.v (fun e => opF op (gA A e) (gA B e) false)))) from by exact hal))) rfl
         ·
          exact absurd hap.1 g6
       ·
        refine og (qv_mv (Value.int .i64 op) rfl) (want_f g4 rfl rfl rfl) ?_
        refine og (qv_gtr rfl rfl) (want_f g4 rfl rfl rfl) ?_
        refine og (qv_pick_f g4 rfl (rfl : ev _ _ = (.bool (decide (15 < op))))) (want_t g3 rfl rfl rfl) ?_
        refine oq (qv_pick_t g3 rfl (rfl : ev _ _ = (.bool (decide (15 < op))))) ?_
        refine ops_nil ?_
        refine vc_if rfl (fun c5 => ?_) (fun c5 => ?_)
        ·
         refine vc_region ?_
         refine oq (qv_as (Value.int .i64 3) rfl) ?_
         refine ops_nil ?_
         refine vc_seq ?_
         refine vc_seq ?_
         refine vc_region ?_
         refine oq (qv_mv (Value.int .i64 3) rfl) ?_
         refine oq (qv_neq rfl rfl) ?_
         refine ops_nil ?_
         refine vc_if rfl (fun c6 => ?_) (fun c6 => ?_)
         ·
          refine vc_seq ?_
          have hap := apE_3 (A := A) (B := B) (op := op) (by omega) (by omega)
          refine vc_region ?_
          refine oq (qv_mv (.int .i64 (apE op A B)) rfl) ?_
          refine oq (qv_mv (Value.int .i64 3) rfl) ?_
          refine oq (qv_eql rfl rfl) ?_
          refine oq (qv_mv (.bool (decide ((apE op A B) = 3))) rfl) ?_
          by_cases g7 : (apE op A B) = 3
          ·
           refine og (qv_ldm (vs := [(.int .i64 ((apD op A B).v)), ux, (.int .i64 ((apD op A B).r))]) Try.agg24 rfl (inOc (k := 2) rfl) rfl rfl) (want_t g7 rfl rfl rfl) ?_
           refine og (qv_build (out := [(Value.int .i64 0), (Value.slice none 0 0), (Value.int .i64 0)]) Try.build24 [] rfl rfl) (want_t g7 rfl rfl rfl) ?_
           refine og (qv_call (v := (.bool (decide (apD op A B = dg0)))) (same_c (A := (apD op A B)) (B := dg0) hx (Fks.nil)) rfl rfl) (want_t g7 rfl rfl rfl) ?_
           refine oq (qv_pick_t g7 rfl (rfl : ev _ _ = (.bool (decide (apD op A B = dg0))))) ?_
           refine oq (qv_as (.bool (decide (apD op A B = dg0))) rfl) ?_
           refine ops_nil ?_
           refine vc_ret ?_
           exact rq1 (Value.bool true) (congrArg Value.bool (decide_eq_true (show (apD op A B = dg0) from by exact hap.2))) rfl
          ·
           exact absurd hap.1 g7
         ·
          refine vc_skip ?_
          refine vc_seq ?_
          have hz : vE [A, B] = 0 := by omega
          have hap := apE_0 (A := A) (B := B) (op := op) hz (by omega)
          have hal := ap_law (A := A) (B := B) (op := op) hz (by omega)
          obtain ⟨hok1, hok2, hok3⟩ := ok2 hz
          have hvz := hok1.1.1
          have hck1 := chk_ok.2 hok1
          have hck2 := chk_ok.2 hok2
          refine vc_region_order (τ := []) [(0, false), (1, false), (2, false), (3, false), (4, false), (5, false), (6, false), (7, false), (9, false), (8, true), (10, true), (11, true), (12, true), (13, false), (14, false), (15, false)] [(Arr 24 b1 [(.int .i64 A.v), na, (.int .i64 A.r)]), (Arr 24 b2 [(.int .i64 B.v), nb, (.int .i64 B.r)]), (Arr 24 b3 [(.int .i64 ((apD op A B).v)), ux, (.int .i64 ((apD op A B).r))]), (Arr 24 b4 [(.int .i64 ((cbD [A] notF).v)), uy, (.int .i64 ((cbD [A] notF).r))])] Try.mixed (perm_nil _) (by kernel_rfl) ?_
          refine rq rfl (qv_mv (.int .i64 (apE op A B)) rfl) ?_
          refine rq rfl (qv_eql rfl rfl) ?_
          refine rq rfl (qv_mv (.bool (decide ((apE op A B) = 0))) rfl) ?_
          by_cases g8 : (apE op A B) = 0
          ·
           refine re rfl (qv_ldm (vs := [(.int .i64 ((apD op A B).v)), ux, (.int .i64 ((apD op A B).r))]) Try.agg24 rfl (inOc (k := 2) rfl) rfl rfl) (want_t g8 rfl rfl rfl) ?_
           refine re rfl (qv_fa (off := 0) Try.field24_0 rfl) (want_t g8 rfl rfl rfl) ?_
           refine re rfl (qv_ldp (v := (.int .i64 A.v)) Try.plain3 rfl (inOc (k := 0) rfl) rfl) (want_t g8 rfl rfl rfl) ?_
           refine re rfl (qv_mv (Value.int .i64 op) rfl) (want_t g8 rfl rfl rfl) ?_
           refine re rfl (qv_ldm (vs := [(.int .i64 A.v), na, (.int .i64 A.r)]) Try.agg24 rfl (inOc (k := 0) rfl) rfl rfl) (want_t g8 rfl rfl rfl) ?_
           refine re rfl (qv_ldm (vs := [(.int .i64 B.v), nb, (.int .i64 B.r)]) Try.agg24 rfl (inOc (k := 1) rfl) rfl rfl) (want_t g8 rfl rfl rfl) ?_
           refine rl rfl ?_
           refine ops_want (want_t g8 rfl rfl rfl) ?_
           refine ops_call (σa := []) (σr := [(Arr 24 b1 [(.int .i64 A.v), na, (.int .i64 A.r)]), (Arr 24 b2 [(.int .i64 B.v), nb, (.int .i64 B.r)]), (Arr 24 b3 [(.int .i64 ((apD op A B).v)), ux, (.int .i64 ((apD op A B).r))]), (Arr 24 b4 [(.int .i64 ((cbD [A] notF).v)), uy, (.int .i64 ((cbD [A] notF).r))])]) (by have h := table_c (A := A) hA (chk_ok.1 (by omega)) (by omega); rw [tbD_v rfl] at h; exact h) rfl rfl (.refl _) (fun r7 V7 sg7 hV7 hp7 => ?_)
           obtain ⟨rfl, hTr7⟩ := hp7
           have hA := hA.mono hV7
           have hB := hB.mono hV7
           have hx := hx.mono hV7
           have hy := hy.mono hV7
           refine ops_nil ⟨[(Arr 24 b1 [(.int .i64 A.v), na, (.int .i64 A.r)]), (Arr 24 b2 [(.int .i64 B.v), nb, (.int .i64 B.r)]), (Arr 24 b3 [(.int .i64 ((apD op A B).v)), ux, (.int .i64 ((apD op A B).r))]), (Arr 24 b4 [(.int .i64 ((cbD [A] notF).v)), uy, (.int .i64 ((cbD [A] notF).r))])], [], hV7, perm_nil _, ⟨[], (.refl _)⟩, ?_⟩
           refine rl rfl ?_
           refine ops_want (want_t g8 rfl rfl rfl) ?_
           refine ops_call (σa := []) (σr := [(Arr 24 b1 [(.int .i64 A.v), na, (.int .i64 A.r)]), (Arr 24 b2 [(.int .i64 B.v), nb, (.int .i64 B.r)]), (Arr 24 b3 [(.int .i64 ((apD op A B).v)), ux, (.int .i64 ((apD op A B).r))]), (Arr 24 b4 [(.int .i64 ((cbD [A] notF).v)), uy, (.int .i64 ((cbD [A] notF).r))])]) (by have h := table_c (A := B) hB (chk_ok.1 (by omega)) (by omega); rw [tbD_v (vars := A.v) (by omega)] at h; exact h) rfl rfl (.refl _) (fun r8 V8 sg8 hV8 hp8 => ?_)
           obtain ⟨rfl, hTr8⟩ := hp8
           have hA := hA.mono hV8
           have hB := hB.mono hV8
           have hx := hx.mono hV8
           have hy := hy.mono hV8
           have hTr7 := hTr7.mono hV8
           refine ops_nil ⟨[(Arr 24 b1 [(.int .i64 A.v), na, (.int .i64 A.r)]), (Arr 24 b2 [(.int .i64 B.v), nb, (.int .i64 B.r)]), (Arr 24 b3 [(.int .i64 ((apD op A B).v)), ux, (.int .i64 ((apD op A B).r))]), (Arr 24 b4 [(.int .i64 ((cbD [A] notF).v)), uy, (.int .i64 ((cbD [A] notF).r))])], [], hV8, perm_nil _, ⟨[], (.refl _)⟩, ?_⟩
           refine rl rfl ?_
           refine ops_want (want_t g8 rfl rfl rfl) ?_
           refine ops_call (σa := []) (σr := [(Arr 24 b1 [(.int .i64 A.v), na, (.int .i64 A.r)]), (Arr 24 b2 [(.int .i64 B.v), nb, (.int .i64 B.r)]), (Arr 24 b3 [(.int .i64 ((apD op A B).v)), ux, (.int .i64 ((apD op A B).r))]), (Arr 24 b4 [(.int .i64 ((cbD [A] notF).v)), uy, (.int .i64 ((cbD [A] notF).r))])]) (applied_c (op := op) hTr7 hTr8 (by omega) (by omega) (by omega)) rfl rfl (.refl _) (fun r9 V9 sg9 hV9 hp9 => ?_)
           obtain ⟨rfl, hTr9⟩ := hp9
           have hA := hA.mono hV9
           have hB := hB.mono hV9
           have hx := hx.mono hV9
           have hy := hy.mono hV9
           have hTr7 := hTr7.mono hV9
           have hTr8 := hTr8.mono hV9
           refine ops_nil ⟨[(Arr 24 b1 [(.int .i64 A.v), na, (.int .i64 A.r)]), (Arr 24 b2 [(.int .i64 B.v), nb, (.int .i64 B.r)]), (Arr 24 b3 [(.int .i64 ((apD op A B).v)), ux, (.int .i64 ((apD op A B).r))]), (Arr 24 b4 [(.int .i64 ((cbD [A] notF).v)), uy, (.int .i64 ((cbD [A] notF).r))])], [], hV9, perm_nil _, ⟨[], (.refl _)⟩, ?_⟩
           refine rl rfl ?_
           refine ops_want (want_t g8 rfl rfl rfl) ?_
           refine ops_call (σa := []) (σr := [(Arr 24 b1 [(.int .i64 A.v), na, (.int .i64 A.r)]), (Arr 24 b2 [(.int .i64 B.v), nb, (.int .i64 B.r)]), (Arr 24 b3 [(.int .i64 ((apD op A B).v)), ux, (.int .i64 ((apD op A B).r))]), (Arr 24 b4 [(.int .i64 ((cbD [A] notF).v)), uy, (.int .i64 ((cbD [A] notF).r))])]) (build_c hTr9 (by omega) (by omega) (tbl_len _ _)) rfl rfl (.refl _) (fun r10 V10 sg10 hV10 hp10 => ?_)
           obtain ⟨rfl, u4, rfl, h4⟩ := hp10
           have hA := hA.mono hV10
           have hB := hB.mono hV10
           have hx := hx.mono hV10
           have hy := hy.mono hV10
           have hTr7 := hTr7.mono hV10
           have hTr8 := hTr8.mono hV10
           have hTr9 := hTr9.mono hV10
           refine ops_nil ⟨[(Arr 24 b1 [(.int .i64 A.v), na, (.int .i64 A.r)]), (Arr 24 b2 [(.int .i64 B.v), nb, (.int .i64 B.r)]), (Arr 24 b3 [(.int .i64 ((apD op A B).v)), ux, (.int .i64 ((apD op A B).r))]), (Arr 24 b4 [(.int .i64 ((cbD [A] notF).v)), uy, (.int .i64 ((cbD [A] notF).r))])], [], hV10, perm_nil _, ⟨[], (.refl _)⟩, ?_⟩
           refine re rfl (qv_call (v := (.bool (decide (apD op A B = (bldD A.v (tbl A.v (fun e => opF op (gA A e) (gA B e) false))))))) (same_c (A := (apD op A B)) (B := (bldD A.v (tbl A.v (fun e => opF op (gA A e) (gA B e) false)))) hx (h4)) rfl rfl) (want_t g8 rfl rfl rfl) ?_
           refine rq rfl (qv_pick_t g8 rfl (rfl : ev _ _ = (.bool (decide (apD op A B = (bldD A.v (tbl A.v (fun e => opF op (gA A e) (gA B e) false)))))))) ?_
           refine rq rfl (qv_as (.bool (decide (apD op A B = (bldD A.v (tbl A.v (fun e => opF op (gA A e) (gA B e) false)))))) rfl) ?_
           refine rnil ?_
           refine vc_ret ?_
           exact rq1 (Value.bool true) (congrArg Value.bool (decide_eq_true (show (apD op A B = (bldD A.v (tbl A.v (fun e => opF op (gA A e) (gA B e) false)))) from by exact hal))) rfl
          ·
           exact absurd hap.1 g8
        ·
         refine vc_skip ?_
         refine vc_seq ?_
         refine vc_seq ?_
         refine vc_region ?_
         refine oq (qv_mv (.int .i64 (vE [A, B])) rfl) ?_
         refine oq (qv_neq rfl rfl) ?_
         refine ops_nil ?_
         refine vc_if rfl (fun c7 => ?_) (fun c7 => ?_)
         ·
          refine vc_seq ?_
          have hap := apE_v (A := A) (B := B) (op := op) (by omega)
          refine vc_region ?_
          refine oq (qv_mv (.int .i64 (apE op A B)) rfl) ?_
          refine oq (qv_mv (.int .i64 (vE [A, B])) rfl) ?_
          refine oq (qv_eql rfl rfl) ?_
          refine oq (qv_mv (.bool (decide ((apE op A B) = (vE [A, B])))) rfl) ?_
          by_cases g9 : (apE op A B) = (vE [A, B])
          ·
           refine og (qv_ldm (vs := [(.int .i64 ((apD op A B).v)), ux, (.int .i64 ((apD op A B).r))]) Try.agg24 rfl (inOc (k := 2) rfl) rfl rfl) (want_t g9 rfl rfl rfl) ?_
           refine og (qv_build (out := [(Value.int .i64 0), (Value.slice none 0 0), (Value.int .i64 0)]) Try.build24 [] rfl rfl) (want_t g9 rfl rfl rfl) ?_
           refine og (qv_call (v := (.bool (decide (apD op A B = dg0)))) (same_c (A := (apD op A B)) (B := dg0) hx (Fks.nil)) rfl rfl) (want_t g9 rfl rfl rfl) ?_
           refine oq (qv_pick_t g9 rfl (rfl : ev _ _ = (.bool (decide (apD op A B = dg0))))) ?_
           refine oq (qv_as (.bool (decide (apD op A B = dg0))) rfl) ?_
           refine ops_nil ?_
           refine vc_ret ?_
           exact rq1 (Value.bool true) (congrArg Value.bool (decide_eq_true (show (apD op A B = dg0) from by exact hap.2))) rfl
          ·
           exact absurd hap.1 g9
         ·
          refine vc_skip ?_
          refine vc_seq ?_
          have hz : vE [A, B] = 0 := by omega
          have hap := apE_0 (A := A) (B := B) (op := op) hz (by omega)
          have hal := ap_law (A := A) (B := B) (op := op) hz (by omega)
          obtain ⟨hok1, hok2, hok3⟩ := ok2 hz
          have hvz := hok1.1.1
          have hck1 := chk_ok.2 hok1
          have hck2 := chk_ok.2 hok2
          refine vc_region_order (τ := []) [(0, false), (1, false), (2, false), (3, false), (4, false), (5, false), (6, false), (7, false), (9, false), (8, true), (10, true), (11, true), (12, true), (13, false), (14, false), (15, false)] [(Arr 24 b1 [(.int .i64 A.v), na, (.int .i64 A.r)]), (Arr 24 b2 [(.int .i64 B.v), nb, (.int .i64 B.r)]), (Arr 24 b3 [(.int .i64 ((apD op A B).v)), ux, (.int .i64 ((apD op A B).r))]), (Arr 24 b4 [(.int .i64 ((cbD [A] notF).v)), uy, (.int .i64 ((cbD [A] notF).r))])] Try.mixed (perm_nil _) (by kernel_rfl) ?_
          refine rq rfl (qv_mv (.int .i64 (apE op A B)) rfl) ?_
          refine rq rfl (qv_eql rfl rfl) ?_
          refine rq rfl (qv_mv (.bool (decide ((apE op A B) = 0))) rfl) ?_
          by_cases g10 : (apE op A B) = 0
          ·
           refine re rfl (qv_ldm (vs := [(.int .i64 ((apD op A B).v)), ux, (.int .i64 ((apD op A B).r))]) Try.agg24 rfl (inOc (k := 2) rfl) rfl rfl) (want_t g10 rfl rfl rfl) ?_
           refine re rfl (qv_fa (off := 0) Try.field24_0 rfl) (want_t g10 rfl rfl rfl) ?_
           refine re rfl (qv_ldp (v := (.int .i64 A.v)) Try.plain3 rfl (inOc (k := 0) rfl) rfl) (want_t g10 rfl rfl rfl) ?_
           refine re rfl (qv_mv (Value.int .i64 op) rfl) (want_t g10 rfl rfl rfl) ?_
           refine re rfl (qv_ldm (vs := [(.int .i64 A.v), na, (.int .i64 A.r)]) Try.agg24 rfl (inOc (k := 0) rfl) rfl rfl) (want_t g10 rfl rfl rfl) ?_
           refine re rfl (qv_ldm (vs := [(.int .i64 B.v), nb, (.int .i64 B.r)]) Try.agg24 rfl (inOc (k := 1) rfl) rfl rfl) (want_t g10 rfl rfl rfl) ?_
           refine rl rfl ?_
           refine ops_want (want_t g10 rfl rfl rfl) ?_
           refine ops_call (σa := []) (σr := [(Arr 24 b1 [(.int .i64 A.v), na, (.int .i64 A.r)]), (Arr 24 b2 [(.int .i64 B.v), nb, (.int .i64 B.r)]), (Arr 24 b3 [(.int .i64 ((apD op A B).v)), ux, (.int .i64 ((apD op A B).r))]), (Arr 24 b4 [(.int .i64 ((cbD [A] notF).v)), uy, (.int .i64 ((cbD [A] notF).r))])]) (by have h := table_c (A := A) hA (chk_ok.1 (by omega)) (by omega); rw [tbD_v rfl] at h; exact h) rfl rfl (.refl _) (fun r11 V11 sg11 hV11 hp11 => ?_)
           obtain ⟨rfl, hTr11⟩ := hp11
           have hA := hA.mono hV11
           have hB := hB.mono hV11
           have hx := hx.mono hV11
           have hy := hy.mono hV11
           refine ops_nil ⟨[(Arr 24 b1 [(.int .i64 A.v), na, (.int .i64 A.r)]), (Arr 24 b2 [(.int .i64 B.v), nb, (.int .i64 B.r)]), (Arr 24 b3 [(.int .i64 ((apD op A B).v)), ux, (.int .i64 ((apD op A B).r))]), (Arr 24 b4 [(.int .i64 ((cbD [A] notF).v)), uy, (.int .i64 ((cbD [A] notF).r))])], [], hV11, perm_nil _, ⟨[], (.refl _)⟩, ?_⟩
           refine rl rfl ?_
           refine ops_want (want_t g10 rfl rfl rfl) ?_
           refine ops_call (σa := []) (σr := [(Arr 24 b1 [(.int .i64 A.v), na, (.int .i64 A.r)]), (Arr 24 b2 [(.int .i64 B.v), nb, (.int .i64 B.r)]), (Arr 24 b3 [(.int .i64 ((apD op A B).v)), ux, (.int .i64 ((apD op A B).r))]), (Arr 24 b4 [(.int .i64 ((cbD [A] notF).v)), uy, (.int .i64 ((cbD [A] notF).r))])]) (by have h := table_c (A := B) hB (chk_ok.1 (by omega)) (by omega); rw [tbD_v (vars := A.v) (by omega)] at h; exact h) rfl rfl (.refl _) (fun r12 V12 sg12 hV12 hp12 => ?_)
           obtain ⟨rfl, hTr12⟩ := hp12
           have hA := hA.mono hV12
           have hB := hB.mono hV12
           have hx := hx.mono hV12
           have hy := hy.mono hV12
           have hTr11 := hTr11.mono hV12
           refine ops_nil ⟨[(Arr 24 b1 [(.int .i64 A.v), na, (.int .i64 A.r)]), (Arr 24 b2 [(.int .i64 B.v), nb, (.int .i64 B.r)]), (Arr 24 b3 [(.int .i64 ((apD op A B).v)), ux, (.int .i64 ((apD op A B).r))]), (Arr 24 b4 [(.int .i64 ((cbD [A] notF).v)), uy, (.int .i64 ((cbD [A] notF).r))])], [], hV12, perm_nil _, ⟨[], (.refl _)⟩, ?_⟩
           refine rl rfl ?_
           refine ops_want (want_t g10 rfl rfl rfl) ?_
           refine ops_call (σa := []) (σr := [(Arr 24 b1 [(.int .i64 A.v), na, (.int .i64 A.r)]), (Arr 24 b2 [(.int .i64 B.v), nb, (.int .i64 B.r)]), (Arr 24 b3 [(.int .i64 ((apD op A B).v)), ux, (.int .i64 ((apD op A B).r))]), (Arr 24 b4 [(.int .i64 ((cbD [A] notF).v)), uy, (.int .i64 ((cbD [A] notF).r))])]) (applied_c (op := op) hTr11 hTr12 (by omega) (by omega) (by omega)) rfl rfl (.refl _) (fun r13 V13 sg13 hV13 hp13 => ?_)
           obtain ⟨rfl, hTr13⟩ := hp13
           have hA := hA.mono hV13
           have hB := hB.mono hV13
           have hx := hx.mono hV13
           have hy := hy.mono hV13
           have hTr11 := hTr11.mono hV13
           have hTr12 := hTr12.mono hV13
           refine ops_nil ⟨[(Arr 24 b1 [(.int .i64 A.v), na, (.int .i64 A.r)]), (Arr 24 b2 [(.int .i64 B.v), nb, (.int .i64 B.r)]), (Arr 24 b3 [(.int .i64 ((apD op A B).v)), ux, (.int .i64 ((apD op A B).r))]), (Arr 24 b4 [(.int .i64 ((cbD [A] notF).v)), uy, (.int .i64 ((cbD [A] notF).r))])], [], hV13, perm_nil _, ⟨[], (.refl _)⟩, ?_⟩
           refine rl rfl ?_
           refine ops_want (want_t g10 rfl rfl rfl) ?_
           refine ops_call (σa := []) (σr := [(Arr 24 b1 [(.int .i64 A.v), na, (.int .i64 A.r)]), (Arr 24 b2 [(.int .i64 B.v), nb, (.int .i64 B.r)]), (Arr 24 b3 [(.int .i64 ((apD op A B).v)), ux, (.int .i64 ((apD op A B).r))]), (Arr 24 b4 [(.int .i64 ((cbD [A] notF).v)), uy, (.int .i64 ((cbD [A] notF).r))])]) (build_c hTr13 (by omega) (by omega) (tbl_len _ _)) rfl rfl (.refl _) (fun r14 V14 sg14 hV14 hp14 => ?_)
           obtain ⟨rfl, u4, rfl, h4⟩ := hp14
           have hA := hA.mono hV14
           have hB := hB.mono hV14
           have hx := hx.mono hV14
           have hy := hy.mono hV14
           have hTr11 := hTr11.mono hV14
           have hTr12 := hTr12.mono hV14
           have hTr13 := hTr13.mono hV14
           refine ops_nil ⟨[(Arr 24 b1 [(.int .i64 A.v), na, (.int .i64 A.r)]), (Arr 24 b2 [(.int .i64 B.v), nb, (.int .i64 B.r)]), (Arr 24 b3 [(.int .i64 ((apD op A B).v)), ux, (.int .i64 ((apD op A B).r))]), (Arr 24 b4 [(.int .i64 ((cbD [A] notF).v)), uy, (.int .i64 ((cbD [A] notF).r))])], [], hV14, perm_nil _, ⟨[], (.refl _)⟩, ?_⟩
           refine re rfl (qv_call (v := (.bool (decide (apD op A B = (bldD A.v (tbl A.v (fun e => opF op (gA A e) (gA B e) false))))))) (same_c (A := (apD op A B)) (B := (bldD A.v (tbl A.v (fun e => opF op (gA A e) (gA B e) false)))) hx (h4)) rfl rfl) (want_t g10 rfl rfl rfl) ?_
           refine rq rfl (qv_pick_t g10 rfl (rfl : ev _ _ = (.bool (decide (apD op A B = (bldD A.v (tbl A.v (fun e => opF op (gA A e) (gA B e) false)))))))) ?_
           refine rq rfl (qv_as (.bool (decide (apD op A B = (bldD A.v (tbl A.v (fun e => opF op (gA A e) (gA B e) false)))))) rfl) ?_
           refine rnil ?_
           refine vc_ret ?_
           exact rq1 (Value.bool true) (congrArg Value.bool (decide_eq_true (show (apD op A B = (bldD A.v (tbl A.v (fun e => opF op (gA A e) (gA B e) false)))) from by exact hal))) rfl
          ·
           exact absurd hap.1 g10
      ·
       refine os (want_tn g3 rfl rfl rfl) ?_
       refine os (want_tn g3 rfl rfl rfl) ?_
       refine os (want_tn g3 rfl rfl rfl) ?_
       refine os (want_u rfl rfl rfl) ?_
       refine os (want_u rfl rfl rfl) ?_
       refine os (want_tn g3 rfl rfl rfl) ?_
       refine oq (qv_pick_f g3 rfl (rfl : ev _ _ = (Value.bool false))) ?_
       refine ops_nil ?_
       refine vc_ff rfl ?_
       refine vc_skip ?_
       refine vc_seq ?_
       refine vc_seq ?_
       refine vc_region ?_
       refine oq (qv_mv (.int .i64 (vE [A, B])) rfl) ?_
       refine oq (qv_neq rfl rfl) ?_
       refine ops_nil ?_
       refine vc_if rfl (fun c8 => ?_) (fun c8 => ?_)
       ·
        refine vc_seq ?_
        have hap := apE_v (A := A) (B := B) (op := op) (by omega)
        refine vc_region ?_
        refine oq (qv_mv (.int .i64 (apE op A B)) rfl) ?_
        refine oq (qv_mv (.int .i64 (vE [A, B])) rfl) ?_
        refine oq (qv_eql rfl rfl) ?_
        refine oq (qv_mv (.bool (decide ((apE op A B) = (vE [A, B])))) rfl) ?_
        by_cases g11 : (apE op A B) = (vE [A, B])
        ·
         refine og (qv_ldm (vs := [(.int .i64 ((apD op A B).v)), ux, (.int .i64 ((apD op A B).r))]) Try.agg24 rfl (inOc (k := 2) rfl) rfl rfl) (want_t g11 rfl rfl rfl) ?_
         refine og (qv_build (out := [(Value.int .i64 0), (Value.slice none 0 0), (Value.int .i64 0)]) Try.build24 [] rfl rfl) (want_t g11 rfl rfl rfl) ?_
         refine og (qv_call (v := (.bool (decide (apD op A B = dg0)))) (same_c (A := (apD op A B)) (B := dg0) hx (Fks.nil)) rfl rfl) (want_t g11 rfl rfl rfl) ?_
         refine oq (qv_pick_t g11 rfl (rfl : ev _ _ = (.bool (decide (apD op A B = dg0))))) ?_
         refine oq (qv_as (.bool (decide (apD op A B = dg0))) rfl) ?_
         refine ops_nil ?_
         refine vc_ret ?_
         exact rq1 (Value.bool true) (congrArg Value.bool (decide_eq_true (show (apD op A B = dg0) from by exact hap.2))) rfl
        ·
         exact absurd hap.1 g11
       ·
        refine vc_skip ?_
        refine vc_seq ?_
        have hz : vE [A, B] = 0 := by omega
        have hap := apE_0 (A := A) (B := B) (op := op) hz (by omega)
        have hal := ap_law (A := A) (B := B) (op := op) hz (by omega)
        obtain ⟨hok1, hok2, hok3⟩ := ok2 hz
        have hvz := hok1.1.1
        have hck1 := chk_ok.2 hok1
        have hck2 := chk_ok.2 hok2
        refine vc_region_order (τ := []) [(0, false), (1, false), (2, false), (3, false), (4, false), (5, false), (6, false), (7, false), (9, false), (8, true), (10, true), (11, true), (12, true), (13, false), (14, false), (15, false)] [(Arr 24 b1 [(.int .i64 A.v), na, (.int .i64 A.r)]), (Arr 24 b2 [(.int .i64 B.v), nb, (.int .i64 B.r)]), (Arr 24 b3 [(.int .i64 ((apD op A B).v)), ux, (.int .i64 ((apD op A B).r))]), (Arr 24 b4 [(.int .i64 ((cbD [A] notF).v)), uy, (.int .i64 ((cbD [A] notF).r))])] Try.mixed (perm_nil _) (by kernel_rfl) ?_
        refine rq rfl (qv_mv (.int .i64 (apE op A B)) rfl) ?_
        refine rq rfl (qv_eql rfl rfl) ?_
        refine rq rfl (qv_mv (.bool (decide ((apE op A B) = 0))) rfl) ?_
        by_cases g12 : (apE op A B) = 0
        ·
         refine re rfl (qv_ldm (vs := [(.int .i64 ((apD op A B).v)), ux, (.int .i64 ((apD op A B).r))]) Try.agg24 rfl (inOc (k := 2) rfl) rfl rfl) (want_t g12 rfl rfl rfl) ?_
         refine re rfl (qv_fa (off := 0) Try.field24_0 rfl) (want_t g12 rfl rfl rfl) ?_
         refine re rfl (qv_ldp (v := (.int .i64 A.v)) Try.plain3 rfl (inOc (k := 0) rfl) rfl) (want_t g12 rfl rfl rfl) ?_
         refine re rfl (qv_mv (Value.int .i64 op) rfl) (want_t g12 rfl rfl rfl) ?_
         refine re rfl (qv_ldm (vs := [(.int .i64 A.v), na, (.int .i64 A.r)]) Try.agg24 rfl (inOc (k := 0) rfl) rfl rfl) (want_t g12 rfl rfl rfl) ?_
         refine re rfl (qv_ldm (vs := [(.int .i64 B.v), nb, (.int .i64 B.r)]) Try.agg24 rfl (inOc (k := 1) rfl) rfl rfl) (want_t g12 rfl rfl rfl) ?_
         refine rl rfl ?_
         refine ops_want (want_t g12 rfl rfl rfl) ?_
         refine ops_call (σa := []) (σr := [(Arr 24 b1 [(.int .i64 A.v), na, (.int .i64 A.r)]), (Arr 24 b2 [(.int .i64 B.v), nb, (.int .i64 B.r)]), (Arr 24 b3 [(.int .i64 ((apD op A B).v)), ux, (.int .i64 ((apD op A B).r))]), (Arr 24 b4 [(.int .i64 ((cbD [A] notF).v)), uy, (.int .i64 ((cbD [A] notF).r))])]) (by have h := table_c (A := A) hA (chk_ok.1 (by omega)) (by omega); rw [tbD_v rfl] at h; exact h) rfl rfl (.refl _) (fun r15 V15 sg15 hV15 hp15 => ?_)
         obtain ⟨rfl, hTr15⟩ := hp15
         have hA := hA.mono hV15
         have hB := hB.mono hV15
         have hx := hx.mono hV15
         have hy := hy.mono hV15
         refine ops_nil ⟨[(Arr 24 b1 [(.int .i64 A.v), na, (.int .i64 A.r)]), (Arr 24 b2 [(.int .i64 B.v), nb, (.int .i64 B.r)]), (Arr 24 b3 [(.int .i64 ((apD op A B).v)), ux, (.int .i64 ((apD op A B).r))]), (Arr 24 b4 [(.int .i64 ((cbD [A] notF).v)), uy, (.int .i64 ((cbD [A] notF).r))])], [], hV15, perm_nil _, ⟨[], (.refl _)⟩, ?_⟩
         refine rl rfl ?_
         refine ops_want (want_t g12 rfl rfl rfl) ?_
         refine ops_call (σa := []) (σr := [(Arr 24 b1 [(.int .i64 A.v), na, (.int .i64 A.r)]), (Arr 24 b2 [(.int .i64 B.v), nb, (.int .i64 B.r)]), (Arr 24 b3 [(.int .i64 ((apD op A B).v)), ux, (.int .i64 ((apD op A B).r))]), (Arr 24 b4 [(.int .i64 ((cbD [A] notF).v)), uy, (.int .i64 ((cbD [A] notF).r))])]) (by have h := table_c (A := B) hB (chk_ok.1 (by omega)) (by omega); rw [tbD_v (vars := A.v) (by omega)] at h; exact h) rfl rfl (.refl _) (fun r16 V16 sg16 hV16 hp16 => ?_)
         obtain ⟨rfl, hTr16⟩ := hp16
         have hA := hA.mono hV16
         have hB := hB.mono hV16
         have hx := hx.mono hV16
         have hy := hy.mono hV16
         have hTr15 := hTr15.mono hV16
         refine ops_nil ⟨[(Arr 24 b1 [(.int .i64 A.v), na, (.int .i64 A.r)]), (Arr 24 b2 [(.int .i64 B.v), nb, (.int .i64 B.r)]), (Arr 24 b3 [(.int .i64 ((apD op A B).v)), ux, (.int .i64 ((apD op A B).r))]), (Arr 24 b4 [(.int .i64 ((cbD [A] notF).v)), uy, (.int .i64 ((cbD [A] notF).r))])], [], hV16, perm_nil _, ⟨[], (.refl _)⟩, ?_⟩
         refine rl rfl ?_
         refine ops_want (want_t g12 rfl rfl rfl) ?_
         refine ops_call (σa := []) (σr := [(Arr 24 b1 [(.int .i64 A.v), na, (.int .i64 A.r)]), (Arr 24 b2 [(.int .i64 B.v), nb, (.int .i64 B.r)]), (Arr 24 b3 [(.int .i64 ((apD op A B).v)), ux, (.int .i64 ((apD op A B).r))]), (Arr 24 b4 [(.int .i64 ((cbD [A] notF).v)), uy, (.int .i64 ((cbD [A] notF).r))])]) (applied_c (op := op) hTr15 hTr16 (by omega) (by omega) (by omega)) rfl rfl (.refl _) (fun r17 V17 sg17 hV17 hp17 => ?_)
         obtain ⟨rfl, hTr17⟩ := hp17
         have hA := hA.mono hV17
         have hB := hB.mono hV17
         have hx := hx.mono hV17
         have hy := hy.mono hV17
         have hTr15 := hTr15.mono hV17
         have hTr16 := hTr16.mono hV17
         refine ops_nil ⟨[(Arr 24 b1 [(.int .i64 A.v), na, (.int .i64 A.r)]), (Arr 24 b2 [(.int .i64 B.v), nb, (.int .i64 B.r)]), (Arr 24 b3 [(.int .i64 ((apD op A B).v)), ux, (.int .i64 ((apD op A B).r))]), (Arr 24 b4 [(.int .i64 ((cbD [A] notF).v)), uy, (.int .i64 ((cbD [A] notF).r))])], [], hV17, perm_nil _, ⟨[], (.refl _)⟩, ?_⟩
         refine rl rfl ?_
         refine ops_want (want_t g12 rfl rfl rfl) ?_
         refine ops_call (σa := []) (σr := [(Arr 24 b1 [(.int .i64 A.v), na, (.int .i64 A.r)]), (Arr 24 b2 [(.int .i64 B.v), nb, (.int .i64 B.r)]), (Arr 24 b3 [(.int .i64 ((apD op A B).v)), ux, (.int .i64 ((apD op A B).r))]), (Arr 24 b4 [(.int .i64 ((cbD [A] notF).v)), uy, (.int .i64 ((cbD [A] notF).r))])]) (build_c hTr17 (by omega) (by omega) (tbl_len _ _)) rfl rfl (.refl _) (fun r18 V18 sg18 hV18 hp18 => ?_)
         obtain ⟨rfl, u4, rfl, h4⟩ := hp18
         have hA := hA.mono hV18
         have hB := hB.mono hV18
         have hx := hx.mono hV18
         have hy := hy.mono hV18
         have hTr15 := hTr15.mono hV18
         have hTr16 := hTr16.mono hV18
         have hTr17 := hTr17.mono hV18
         refine ops_nil ⟨[(Arr 24 b1 [(.int .i64 A.v), na, (.int .i64 A.r)]), (Arr 24 b2 [(.int .i64 B.v), nb, (.int .i64 B.r)]), (Arr 24 b3 [(.int .i64 ((apD op A B).v)), ux, (.int .i64 ((apD op A B).r))]), (Arr 24 b4 [(.int .i64 ((cbD [A] notF).v)), uy, (.int .i64 ((cbD [A] notF).r))])], [], hV18, perm_nil _, ⟨[], (.refl _)⟩, ?_⟩
         refine re rfl (qv_call (v := (.bool (decide (apD op A B = (bldD A.v (tbl A.v (fun e => opF op (gA A e) (gA B e) false))))))) (same_c (A := (apD op A B)) (B := (bldD A.v (tbl A.v (fun e => opF op (gA A e) (gA B e) false)))) hx (h4)) rfl rfl) (want_t g12 rfl rfl rfl) ?_
         refine rq rfl (qv_pick_t g12 rfl (rfl : ev _ _ = (.bool (decide (apD op A B = (bldD A.v (tbl A.v (fun e => opF op (gA A e) (gA B e) false)))))))) ?_
         refine rq rfl (qv_as (.bool (decide (apD op A B = (bldD A.v (tbl A.v (fun e => opF op (gA A e) (gA B e) false)))))) rfl) ?_
         refine rnil ?_
         refine vc_ret ?_
         exact rq1 (Value.bool true) (congrArg Value.bool (decide_eq_true (show (apD op A B = (bldD A.v (tbl A.v (fun e => opF op (gA A e) (gA B e) false)))) from by exact hal))) rfl
        ·
         exact absurd hap.1 g12
   ·
    refine vc_seq ?_
    have hokA : dOk A := chk_ok.1 (by omega)
    have hv0 := vE1 hokA
    have hvz := hokA.1.1
    have hnl := not_law hokA
    refine vc_region_order (τ := []) [(0, false), (1, false), (2, false), (3, false), (4, false), (5, false), (6, false), (8, false), (7, true), (9, true), (10, true), (11, true), (12, false), (13, false), (14, false)] [(Arr 24 b1 [(.int .i64 A.v), na, (.int .i64 A.r)]), (Arr 24 b2 [(.int .i64 B.v), nb, (.int .i64 B.r)]), (Arr 24 b3 [(.int .i64 ((apD op A B).v)), ux, (.int .i64 ((apD op A B).r))]), (Arr 24 b4 [(.int .i64 ((cbD [A] notF).v)), uy, (.int .i64 ((cbD [A] notF).r))])] Try.mixed (perm_nil _) (by kernel_rfl) ?_
    refine rq rfl (qv_mv (.int .i64 (vE [A])) rfl) ?_
    refine rq rfl (qv_neq rfl rfl) ?_
    refine rq rfl (qv_mv (.bool (decide ((vE [A]) ≠ 0))) rfl) ?_
    by_cases g13 : (vE [A]) ≠ 0
    ·
     exact absurd hv0 g13
    ·
     refine re rfl (qv_ldm (vs := [(.int .i64 ((cbD [A] notF).v)), uy, (.int .i64 ((cbD [A] notF).r))]) Try.agg24 rfl (inOc (k := 3) rfl) rfl rfl) (want_f g13 rfl rfl rfl) ?_
     refine re rfl (qv_fa (off := 0) Try.field24_0 rfl) (want_f g13 rfl rfl rfl) ?_
     refine re rfl (qv_ldp (v := (.int .i64 A.v)) Try.plain3 rfl (inOc (k := 0) rfl) rfl) (want_f g13 rfl rfl rfl) ?_
     refine re rfl (qv_ldm (vs := [(.int .i64 A.v), na, (.int .i64 A.r)]) Try.agg24 rfl (inOc (k := 0) rfl) rfl rfl) (want_f g13 rfl rfl rfl) ?_
     refine re rfl (qv_ldm (vs := [(.int .i64 A.v), na, (.int .i64 A.r)]) Try.agg24 rfl (inOc (k := 0) rfl) rfl rfl) (want_f g13 rfl rfl rfl) ?_
     refine rl rfl ?_
     refine ops_want (want_f g13 rfl rfl rfl) ?_
     refine ops_call (σa := []) (σr := [(Arr 24 b1 [(.int .i64 A.v), na, (.int .i64 A.r)]), (Arr 24 b2 [(.int .i64 B.v), nb, (.int .i64 B.r)]), (Arr 24 b3 [(.int .i64 ((apD op A B).v)), ux, (.int .i64 ((apD op A B).r))]), (Arr 24 b4 [(.int .i64 ((cbD [A] notF).v)), uy, (.int .i64 ((cbD [A] notF).r))])]) (by have h := table_c (A := A) hA (chk_ok.1 (by omega)) (by omega); rw [tbD_v rfl] at h; exact h) rfl rfl (.refl _) (fun r19 V19 sg19 hV19 hp19 => ?_)
     obtain ⟨rfl, hTr19⟩ := hp19
     have hA := hA.mono hV19
     have hB := hB.mono hV19
     have hx := hx.mono hV19
     have hy := hy.mono hV19
     refine ops_nil ⟨[(Arr 24 b1 [(.int .i64 A.v), na, (.int .i64 A.r)]), (Arr 24 b2 [(.int .i64 B.v), nb, (.int .i64 B.r)]), (Arr 24 b3 [(.int .i64 ((apD op A B).v)), ux, (.int .i64 ((apD op A B).r))]), (Arr 24 b4 [(.int .i64 ((cbD [A] notF).v)), uy, (.int .i64 ((cbD [A] notF).r))])], [], hV19, perm_nil _, ⟨[], (.refl _)⟩, ?_⟩
     refine rl rfl ?_
     refine ops_want (want_f g13 rfl rfl rfl) ?_
     refine ops_call (σa := []) (σr := [(Arr 24 b1 [(.int .i64 A.v), na, (.int .i64 A.r)]), (Arr 24 b2 [(.int .i64 B.v), nb, (.int .i64 B.r)]), (Arr 24 b3 [(.int .i64 ((apD op A B).v)), ux, (.int .i64 ((apD op A B).r))]), (Arr 24 b4 [(.int .i64 ((cbD [A] notF).v)), uy, (.int .i64 ((cbD [A] notF).r))])]) (by have h := table_c (A := A) hA (chk_ok.1 (by omega)) (by omega); rw [tbD_v rfl] at h; exact h) rfl rfl (.refl _) (fun r20 V20 sg20 hV20 hp20 => ?_)
     obtain ⟨rfl, hTr20⟩ := hp20
     have hA := hA.mono hV20
     have hB := hB.mono hV20
     have hx := hx.mono hV20
     have hy := hy.mono hV20
     have hTr19 := hTr19.mono hV20
     refine ops_nil ⟨[(Arr 24 b1 [(.int .i64 A.v), na, (.int .i64 A.r)]), (Arr 24 b2 [(.int .i64 B.v), nb, (.int .i64 B.r)]), (Arr 24 b3 [(.int .i64 ((apD op A B).v)), ux, (.int .i64 ((apD op A B).r))]), (Arr 24 b4 [(.int .i64 ((cbD [A] notF).v)), uy, (.int .i64 ((cbD [A] notF).r))])], [], hV20, perm_nil _, ⟨[], (.refl _)⟩, ?_⟩
     refine rl rfl ?_
     refine ops_want (want_f g13 rfl rfl rfl) ?_
     refine ops_call (σa := []) (σr := [(Arr 24 b1 [(.int .i64 A.v), na, (.int .i64 A.r)]), (Arr 24 b2 [(.int .i64 B.v), nb, (.int .i64 B.r)]), (Arr 24 b3 [(.int .i64 ((apD op A B).v)), ux, (.int .i64 ((apD op A B).r))]), (Arr 24 b4 [(.int .i64 ((cbD [A] notF).v)), uy, (.int .i64 ((cbD [A] notF).r))])]) (applied_c (op := 3) hTr19 hTr20 (by omega) (by omega) (by omega)) rfl rfl (.refl _) (fun r21 V21 sg21 hV21 hp21 => ?_)
     obtain ⟨rfl, hTr21⟩ := hp21
     have hA := hA.mono hV21
     have hB := hB.mono hV21
     have hx := hx.mono hV21
     have hy := hy.mono hV21
     have hTr19 := hTr19.mono hV21
     have hTr20 := hTr20.mono hV21
     refine ops_nil ⟨[(Arr 24 b1 [(.int .i64 A.v), na, (.int .i64 A.r)]), (Arr 24 b2 [(.int .i64 B.v), nb, (.int .i64 B.r)]), (Arr 24 b3 [(.int .i64 ((apD op A B).v)), ux, (.int .i64 ((apD op A B).r))]), (Arr 24 b4 [(.int .i64 ((cbD [A] notF).v)), uy, (.int .i64 ((cbD [A] notF).r))])], [], hV21, perm_nil _, ⟨[], (.refl _)⟩, ?_⟩
     refine rl rfl ?_
     refine ops_want (want_f g13 rfl rfl rfl) ?_
     refine ops_call (σa := []) (σr := [(Arr 24 b1 [(.int .i64 A.v), na, (.int .i64 A.r)]), (Arr 24 b2 [(.int .i64 B.v), nb, (.int .i64 B.r)]), (Arr 24 b3 [(.int .i64 ((apD op A B).v)), ux, (.int .i64 ((apD op A B).r))]), (Arr 24 b4 [(.int .i64 ((cbD [A] notF).v)), uy, (.int .i64 ((cbD [A] notF).r))])]) (build_c hTr21 (by omega) (by omega) (tbl_len _ _)) rfl rfl (.refl _) (fun r22 V22 sg22 hV22 hp22 => ?_)
     obtain ⟨rfl, u3, rfl, h3⟩ := hp22
     have hA := hA.mono hV22
     have hB := hB.mono hV22
     have hx := hx.mono hV22
     have hy := hy.mono hV22
     have hTr19 := hTr19.mono hV22
     have hTr20 := hTr20.mono hV22
     have hTr21 := hTr21.mono hV22
     refine ops_nil ⟨[(Arr 24 b1 [(.int .i64 A.v), na, (.int .i64 A.r)]), (Arr 24 b2 [(.int .i64 B.v), nb, (.int .i64 B.r)]), (Arr 24 b3 [(.int .i64 ((apD op A B).v)), ux, (.int .i64 ((apD op A B).r))]), (Arr 24 b4 [(.int .i64 ((cbD [A] notF).v)), uy, (.int .i64 ((cbD [A] notF).r))])], [], hV22, perm_nil _, ⟨[], (.refl _)⟩, ?_⟩
     refine re rfl (qv_call (v := (.bool (decide (cbD [A] notF = (bldD A.v (tbl A.v (fun e => opF 3 (gA A e) (gA A e) false))))))) (same_c (A := (cbD [A] notF)) (B := (bldD A.v (tbl A.v (fun e => opF 3 (gA A e) (gA A e) false)))) hy (h3)) rfl rfl) (want_f g13 rfl rfl rfl) ?_
     refine re rfl (qv_not rfl) (want_f g13 rfl rfl rfl) ?_
     refine rq rfl (qv_pick_f g13 rfl (rfl : ev _ _ = (.bool (decide (¬ (cbD [A] notF = (bldD A.v (tbl A.v (fun e => opF 3 (gA A e) (gA A e) false))))))))) ?_
     refine rnil ?_
     refine vc_if rfl (fun c9 => ?_) (fun c9 => ?_)
     ·
      exact absurd hnl c9
     ·
      refine vc_skip ?_
      refine vc_seq ?_
      refine vc_region ?_
      refine oq (qv_ldm (vs := [(.int .i64 A.v), na, (.int .i64 A.r)]) Try.agg24 rfl (inOc (k := 0) rfl) rfl rfl) ?_
      refine oq (qv_ldm (vs := [(.int .i64 B.v), nb, (.int .i64 B.r)]) Try.agg24 rfl (inOc (k := 1) rfl) rfl rfl) ?_
      refine oq (qv_call (v := (.int .i64 (vE [A, B]))) (fits_c hA hB) rfl rfl) ?_
      refine oq (qv_as (.int .i64 (vE [A, B])) rfl) ?_
      refine ops_nil ?_
      refine vc_seq ?_
      refine vc_seq ?_
      refine vc_region ?_
      refine oq (qv_mv (.int .i64 (vE [A, B])) rfl) ?_
      refine oq (qv_eql rfl rfl) ?_
      refine oq (qv_mv (.bool (decide ((vE [A, B]) = 0))) rfl) ?_
      by_cases g14 : (vE [A, B]) = 0
      ·
       refine og (qv_mv (Value.int .i64 op) rfl) (want_t g14 rfl rfl rfl) ?_
       refine og (qv_lss rfl rfl) (want_t g14 rfl rfl rfl) ?_
       refine og (qv_mv (.bool (decide (op < 0))) rfl) (want_t g14 rfl rfl rfl) ?_
       by_cases g15 : op < 0
       ·
        refine os (want_fn g15 rfl rfl rfl) ?_
        refine os (want_fn g15 rfl rfl rfl) ?_
        refine og (qv_pick_t g15 rfl (rfl : ev _ _ = (Value.bool true))) (want_t g14 rfl rfl rfl) ?_
        refine oq (qv_pick_t g14 rfl (rfl : ev _ _ = (Value.bool true))) ?_
        refine ops_nil ?_
        refine vc_tt rfl ?_
        refine vc_region ?_
        refine oq (qv_as (Value.int .i64 3) rfl) ?_
        refine ops_nil ?_
        refine vc_seq ?_
        refine vc_seq ?_
        refine vc_region ?_
        refine oq (qv_mv (Value.int .i64 3) rfl) ?_
        refine oq (qv_neq rfl rfl) ?_
        refine ops_nil ?_
        refine vc_if rfl (fun c10 => ?_) (fun c10 => ?_)
        ·
         refine vc_seq ?_
         have hap := apE_3 (A := A) (B := B) (op := op) (by omega) (by omega)
         refine vc_region ?_
         refine oq (qv_mv (.int .i64 (apE op A B)) rfl) ?_
         refine oq (qv_mv (Value.int .i64 3) rfl) ?_
         refine oq (qv_eql rfl rfl) ?_
         refine oq (qv_mv (.bool (decide ((apE op A B) = 3))) rfl) ?_
         by_cases g16 : (apE op A B) = 3
         ·
          refine og (qv_ldm (vs := [(.int .i64 ((apD op A B).v)), ux, (.int .i64 ((apD op A B).r))]) Try.agg24 rfl (inOc (k := 2) rfl) rfl rfl) (want_t g16 rfl rfl rfl) ?_
          refine og (qv_build (out := [(Value.int .i64 0), (Value.slice none 0 0), (Value.int .i64 0)]) Try.build24 [] rfl rfl) (want_t g16 rfl rfl rfl) ?_
          refine og (qv_call (v := (.bool (decide (apD op A B = dg0)))) (same_c (A := (apD op A B)) (B := dg0) hx (Fks.nil)) rfl rfl) (want_t g16 rfl rfl rfl) ?_
          refine oq (qv_pick_t g16 rfl (rfl : ev _ _ = (.bool (decide (apD op A B = dg0))))) ?_
          refine oq (qv_as (.bool (decide (apD op A B = dg0))) rfl) ?_
          refine ops_nil ?_
          refine vc_ret ?_
          exact rq1 (Value.bool true) (congrArg Value.bool (decide_eq_true (show (apD op A B = dg0) from by exact hap.2))) rfl
         ·
          exact absurd hap.1 g16
        ·
         refine vc_skip ?_
         refine vc_seq ?_
         have hz : vE [A, B] = 0 := by omega
         have hap := apE_0 (A := A) (B := B) (op := op) hz (by omega)
         have hal := ap_law (A := A) (B := B) (op := op) hz (by omega)
         obtain ⟨hok1, hok2, hok3⟩ := ok2 hz
         have hvz := hok1.1.1
         have hck1 := chk_ok.2 hok1
         have hck2 := chk_ok.2 hok2
         refine vc_region_order (τ := []) [(0, false), (1, false), (2, false), (3, false), (4, false), (5, false), (6, false), (7, false), (9, false), (8, true), (10, true), (11, true), (12, true), (13, false), (14, false), (15, false)] [(Arr 24 b1 [(.int .i64 A.v), na, (.int .i64 A.r)]), (Arr 24 b2 [(.int .i64 B.v), nb, (.int .i64 B.r)]), (Arr 24 b3 [(.int .i64 ((apD op A B).v)), ux, (.int .i64 ((apD op A B).r))]), (Arr 24 b4 [(.int .i64 ((cbD [A] notF).v)), uy, (.int .i64 ((cbD [A] notF).r))])] Try.mixed (perm_nil _) (by kernel_rfl) ?_
         refine rq rfl (qv_mv (.int .i64 (apE op A B)) rfl) ?_
         refine rq rfl (qv_eql rfl rfl) ?_
         refine rq rfl (qv_mv (.bool (decide ((apE op A B) = 0))) rfl) ?_
         by_cases g17 : (apE op A B) = 0
         ·
          refine re rfl (qv_ldm (vs := [(.int .i64 ((apD op A B).v)), ux, (.int .i64 ((apD op A B).r))]) Try.agg24 rfl (inOc (k := 2) rfl) rfl rfl) (want_t g17 rfl rfl rfl) ?_
          refine re rfl (qv_fa (off := 0) Try.field24_0 rfl) (want_t g17 rfl rfl rfl) ?_
          refine re rfl (qv_ldp (v := (.int .i64 A.v)) Try.plain3 rfl (inOc (k := 0) rfl) rfl) (want_t g17 rfl rfl rfl) ?_
          refine re rfl (qv_mv (Value.int .i64 op) rfl) (want_t g17 rfl rfl rfl) ?_
          refine re rfl (qv_ldm (vs := [(.int .i64 A.v), na, (.int .i64 A.r)]) Try.agg24 rfl (inOc (k := 0) rfl) rfl rfl) (want_t g17 rfl rfl rfl) ?_
          refine re rfl (qv_ldm (vs := [(.int .i64 B.v), nb, (.int .i64 B.r)]) Try.agg24 rfl (inOc (k := 1) rfl) rfl rfl) (want_t g17 rfl rfl rfl) ?_
          refine rl rfl ?_
          refine ops_want (want_t g17 rfl rfl rfl) ?_
          refine ops_call (σa := []) (σr := [(Arr 24 b1 [(.int .i64 A.v), na, (.int .i64 A.r)]), (Arr 24 b2 [(.int .i64 B.v), nb, (.int .i64 B.r)]), (Arr 24 b3 [(.int .i64 ((apD op A B).v)), ux, (.int .i64 ((apD op A B).r))]), (Arr 24 b4 [(.int .i64 ((cbD [A] notF).v)), uy, (.int .i64 ((cbD [A] notF).r))])]) (by have h := table_c (A := A) hA (chk_ok.1 (by omega)) (by omega); rw [tbD_v rfl] at h; exact h) rfl rfl (.refl _) (fun r23 V23 sg23 hV23 hp23 => ?_)
          obtain ⟨rfl, hTr23⟩ := hp23
          have hA := hA.mono hV23
          have hB := hB.mono hV23
          have hx := hx.mono hV23
          have hy := hy.mono hV23
          have hTr19 := hTr19.mono hV23
          have hTr20 := hTr20.mono hV23
          have hTr21 := hTr21.mono hV23
          have h3 := h3.mono hV23
          refine ops_nil ⟨[(Arr 24 b1 [(.int .i64 A.v), na, (.int .i64 A.r)]), (Arr 24 b2 [(.int .i64 B.v), nb, (.int .i64 B.r)]), (Arr 24 b3 [(.int .i64 ((apD op A B).v)), ux, (.int .i64 ((apD op A B).r))]), (Arr 24 b4 [(.int .i64 ((cbD [A] notF).v)), uy, (.int .i64 ((cbD [A] notF).r))])], [], hV23, perm_nil _, ⟨[], (.refl _)⟩, ?_⟩
          refine rl rfl ?_
          refine ops_want (want_t g17 rfl rfl rfl) ?_
          refine ops_call (σa := []) (σr := [(Arr 24 b1 [(.int .i64 A.v), na, (.int .i64 A.r)]), (Arr 24 b2 [(.int .i64 B.v), nb, (.int .i64 B.r)]), (Arr 24 b3 [(.int .i64 ((apD op A B).v)), ux, (.int .i64 ((apD op A B).r))]), (Arr 24 b4 [(.int .i64 ((cbD [A] notF).v)), uy, (.int .i64 ((cbD [A] notF).r))])]) (by have h := table_c (A := B) hB (chk_ok.1 (by omega)) (by omega); rw [tbD_v (vars := A.v) (by omega)] at h; exact h) rfl rfl (.refl _) (fun r24 V24 sg24 hV24 hp24 => ?_)
          obtain ⟨rfl, hTr24⟩ := hp24
          have hA := hA.mono hV24
          have hB := hB.mono hV24
          have hx := hx.mono hV24
          have hy := hy.mono hV24
          have hTr19 := hTr19.mono hV24
          have hTr20 := hTr20.mono hV24
          have hTr21 := hTr21.mono hV24
          have h3 := h3.mono hV24
          have hTr23 := hTr23.mono hV24
          refine ops_nil ⟨[(Arr 24 b1 [(.int .i64 A.v), na, (.int .i64 A.r)]), (Arr 24 b2 [(.int .i64 B.v), nb, (.int .i64 B.r)]), (Arr 24 b3 [(.int .i64 ((apD op A B).v)), ux, (.int .i64 ((apD op A B).r))]), (Arr 24 b4 [(.int .i64 ((cbD [A] notF).v)), uy, (.int .i64 ((cbD [A] notF).r))])], [], hV24, perm_nil _, ⟨[], (.refl _)⟩, ?_⟩
          refine rl rfl ?_
          refine ops_want (want_t g17 rfl rfl rfl) ?_
          refine ops_call (σa := []) (σr := [(Arr 24 b1 [(.int .i64 A.v), na, (.int .i64 A.r)]), (Arr 24 b2 [(.int .i64 B.v), nb, (.int .i64 B.r)]), (Arr 24 b3 [(.int .i64 ((apD op A B).v)), ux, (.int .i64 ((apD op A B).r))]), (Arr 24 b4 [(.int .i64 ((cbD [A] notF).v)), uy, (.int .i64 ((cbD [A] notF).r))])]) (applied_c (op := op) hTr23 hTr24 (by omega) (by omega) (by omega)) rfl rfl (.refl _) (fun r25 V25 sg25 hV25 hp25 => ?_)
          obtain ⟨rfl, hTr25⟩ := hp25
          have hA := hA.mono hV25
          have hB := hB.mono hV25
          have hx := hx.mono hV25
          have hy := hy.mono hV25
          have hTr19 := hTr19.mono hV25
          have hTr20 := hTr20.mono hV25
          have hTr21 := hTr21.mono hV25
          have h3 := h3.mono hV25
          have hTr23 := hTr23.mono hV25
          have hTr24 := hTr24.mono hV25
          refine ops_nil ⟨[(Arr 24 b1 [(.int .i64 A.v), na, (.int .i64 A.r)]), (Arr 24 b2 [(.int .i64 B.v), nb, (.int .i64 B.r)]), (Arr 24 b3 [(.int .i64 ((apD op A B).v)), ux, (.int .i64 ((apD op A B).r))]), (Arr 24 b4 [(.int .i64 ((cbD [A] notF).v)), uy, (.int .i64 ((cbD [A] notF).r))])], [], hV25, perm_nil _, ⟨[], (.refl _)⟩, ?_⟩
          refine rl rfl ?_
          refine ops_want (want_t g17 rfl rfl rfl) ?_
          refine ops_call (σa := []) (σr := [(Arr 24 b1 [(.int .i64 A.v), na, (.int .i64 A.r)]), (Arr 24 b2 [(.int .i64 B.v), nb, (.int .i64 B.r)]), (Arr 24 b3 [(.int .i64 ((apD op A B).v)), ux, (.int .i64 ((apD op A B).r))]), (Arr 24 b4 [(.int .i64 ((cbD [A] notF).v)), uy, (.int .i64 ((cbD [A] notF).r))])]) (build_c hTr25 (by omega) (by omega) (tbl_len _ _)) rfl rfl (.refl _) (fun r26 V26 sg26 hV26 hp26 => ?_)
          obtain ⟨rfl, u4, rfl, h4⟩ := hp26
          have hA := hA.mono hV26
          have hB := hB.mono hV26
          have hx := hx.mono hV26
          have hy := hy.mono hV26
          have hTr19 := hTr19.mono hV26
          have hTr20 := hTr20.mono hV26
          have hTr21 := hTr21.mono hV26
          have h3 := h3.mono hV26
          have hTr23 := hTr23.mono hV26
          have hTr24 := hTr24.mono hV26
          have hTr25 := hTr25.mono hV26
          refine ops_nil ⟨[(Arr 24 b1 [(.int .i64 A.v), na, (.int .i64 A.r)]), (Arr 24 b2 [(.int .i64 B.v), nb, (.int .i64 B.r)]), (Arr 24 b3 [(.int .i64 ((apD op A B).v)), ux, (.int .i64 ((apD op A B).r))]), (Arr 24 b4 [(.int .i64 ((cbD [A] notF).v)), uy, (.int .i64 ((cbD [A] notF).r))])], [], hV26, perm_nil _, ⟨[], (.refl _)⟩, ?_⟩
          refine re rfl (qv_call (v := (.bool (decide (apD op A B = (bldD A.v (tbl A.v (fun e => opF op (gA A e) (gA B e) false))))))) (same_c (A := (apD op A B)) (B := (bldD A.v (tbl A.v (fun e => opF op (gA A e) (gA B e) false)))) hx (h4)) rfl rfl) (want_t g17 rfl rfl rfl) ?_
          refine rq rfl (qv_pick_t g17 rfl (rfl : ev _ _ = (.bool (decide (apD op A B = (bldD A.v (tbl A.v (fun e => opF op (gA A e) (gA B e) false)))))))) ?_
          refine rq rfl (qv_as (.bool (decide (apD op A B = (bldD A.v (tbl A.v (fun e => opF op (gA A e) (gA B e) false)))))) rfl) ?_
          refine rnil ?_
          refine vc_ret ?_
          exact rq1 (Value.bool true) (congrArg Value.bool (decide_eq_true (show (apD op A B = (bldD A.v (tbl A.v (fun e => opF op (gA A e) (gA B e) false)))) from by exact hal))) rfl
         ·
          exact absurd hap.1 g17
       ·
        refine og (qv_mv (Value.int .i64 op) rfl) (want_f g15 rfl rfl rfl) ?_
        refine og (qv_gtr rfl rfl) (want_f g15 rfl rfl rfl) ?_
        refine og (qv_pick_f g15 rfl (rfl : ev _ _ = (.bool (decide (15 < op))))) (want_t g14 rfl rfl rfl) ?_
        refine oq (qv_pick_t g14 rfl (rfl : ev _ _ = (.bool (decide (15 < op))))) ?_
        refine ops_nil ?_
        refine vc_if rfl (fun c11 => ?_) (fun c11 => ?_)
        ·
         refine vc_region ?_
         refine oq (qv_as (Value.int .i64 3) rfl) ?_
         refine ops_nil ?_
         refine vc_seq ?_
         refine vc_seq ?_
         refine vc_region ?_
         refine oq (qv_mv (Value.int .i64 3) rfl) ?_
         refine oq (qv_neq rfl rfl) ?_
         refine ops_nil ?_
         refine vc_if rfl (fun c12 => ?_) (fun c12 => ?_)
         ·
          refine vc_seq ?_
          have hap := apE_3 (A := A) (B := B) (op := op) (by omega) (by omega)
          refine vc_region ?_
          refine oq (qv_mv (.int .i64 (apE op A B)) rfl) ?_
          refine oq (qv_mv (Value.int .i64 3) rfl) ?_
          refine oq (qv_eql rfl rfl) ?_
          refine oq (qv_mv (.bool (decide ((apE op A B) = 3))) rfl) ?_
          by_cases g18 : (apE op A B) = 3
          ·
           refine og (qv_ldm (vs := [(.int .i64 ((apD op A B).v)), ux, (.int .i64 ((apD op A B).r))]) Try.agg24 rfl (inOc (k := 2) rfl) rfl rfl) (want_t g18 rfl rfl rfl) ?_
           refine og (qv_build (out := [(Value.int .i64 0), (Value.slice none 0 0), (Value.int .i64 0)]) Try.build24 [] rfl rfl) (want_t g18 rfl rfl rfl) ?_
           refine og (qv_call (v := (.bool (decide (apD op A B = dg0)))) (same_c (A := (apD op A B)) (B := dg0) hx (Fks.nil)) rfl rfl) (want_t g18 rfl rfl rfl) ?_
           refine oq (qv_pick_t g18 rfl (rfl : ev _ _ = (.bool (decide (apD op A B = dg0))))) ?_
           refine oq (qv_as (.bool (decide (apD op A B = dg0))) rfl) ?_
           refine ops_nil ?_
           refine vc_ret ?_
           exact rq1 (Value.bool true) (congrArg Value.bool (decide_eq_true (show (apD op A B = dg0) from by exact hap.2))) rfl
          ·
           exact absurd hap.1 g18
         ·
          refine vc_skip ?_
          refine vc_seq ?_
          have hz : vE [A, B] = 0 := by omega
          have hap := apE_0 (A := A) (B := B) (op := op) hz (by omega)
          have hal := ap_law (A := A) (B := B) (op := op) hz (by omega)
          obtain ⟨hok1, hok2, hok3⟩ := ok2 hz
          have hvz := hok1.1.1
          have hck1 := chk_ok.2 hok1
          have hck2 := chk_ok.2 hok2
          refine vc_region_order (τ := []) [(0, false), (1, false), (2, false), (3, false), (4, false), (5, false), (6, false), (7, false), (9, false), (8, true), (10, true), (11, true), (12, true), (13, false), (14, false), (15, false)] [(Arr 24 b1 [(.int .i64 A.v), na, (.int .i64 A.r)]), (Arr 24 b2 [(.int .i64 B.v), nb, (.int .i64 B.r)]), (Arr 24 b3 [(.int .i64 ((apD op A B).v)), ux, (.int .i64 ((apD op A B).r))]), (Arr 24 b4 [(.int .i64 ((cbD [A] notF).v)), uy, (.int .i64 ((cbD [A] notF).r))])] Try.mixed (perm_nil _) (by kernel_rfl) ?_
          refine rq rfl (qv_mv (.int .i64 (apE op A B)) rfl) ?_
          refine rq rfl (qv_eql rfl rfl) ?_
          refine rq rfl (qv_mv (.bool (decide ((apE op A B) = 0))) rfl) ?_
          by_cases g19 : (apE op A B) = 0
          ·
           refine re rfl (qv_ldm (vs := [(.int .i64 ((apD op A B).v)), ux, (.int .i64 ((apD op A B).r))]) Try.agg24 rfl (inOc (k := 2) rfl) rfl rfl) (want_t g19 rfl rfl rfl) ?_
           refine re rfl (qv_fa (off := 0) Try.field24_0 rfl) (want_t g19 rfl rfl rfl) ?_
           refine re rfl (qv_ldp (v := (.int .i64 A.v)) Try.plain3 rfl (inOc (k := 0) rfl) rfl) (want_t g19 rfl rfl rfl) ?_
           refine re rfl (qv_mv (Value.int .i64 op) rfl) (want_t g19 rfl rfl rfl) ?_
           refine re rfl (qv_ldm (vs := [(.int .i64 A.v), na, (.int .i64 A.r)]) Try.agg24 rfl (inOc (k := 0) rfl) rfl rfl) (want_t g19 rfl rfl rfl) ?_
           refine re rfl (qv_ldm (vs := [(.int .i64 B.v), nb, (.int .i64 B.r)]) Try.agg24 rfl (inOc (k := 1) rfl) rfl rfl) (want_t g19 rfl rfl rfl) ?_
           refine rl rfl ?_
           refine ops_want (want_t g19 rfl rfl rfl) ?_
           refine ops_call (σa := []) (σr := [(Arr 24 b1 [(.int .i64 A.v), na, (.int .i64 A.r)]), (Arr 24 b2 [(.int .i64 B.v), nb, (.int .i64 B.r)]), (Arr 24 b3 [(.int .i64 ((apD op A B).v)), ux, (.int .i64 ((apD op A B).r))]), (Arr 24 b4 [(.int .i64 ((cbD [A] notF).v)), uy, (.int .i64 ((cbD [A] notF).r))])]) (by have h := table_c (A := A) hA (chk_ok.1 (by omega)) (by omega); rw [tbD_v rfl] at h; exact h) rfl rfl (.refl _) (fun r27 V27 sg27 hV27 hp27 => ?_)
           obtain ⟨rfl, hTr27⟩ := hp27
           have hA := hA.mono hV27
           have hB := hB.mono hV27
           have hx := hx.mono hV27
           have hy := hy.mono hV27
           have hTr19 := hTr19.mono hV27
           have hTr20 := hTr20.mono hV27
           have hTr21 := hTr21.mono hV27
           have h3 := h3.mono hV27
           refine ops_nil ⟨[(Arr 24 b1 [(.int .i64 A.v), na, (.int .i64 A.r)]), (Arr 24 b2 [(.int .i64 B.v), nb, (.int .i64 B.r)]), (Arr 24 b3 [(.int .i64 ((apD op A B).v)), ux, (.int .i64 ((apD op A B).r))]), (Arr 24 b4 [(.int .i64 ((cbD [A] notF).v)), uy, (.int .i64 ((cbD [A] notF).r))])], [], hV27, perm_nil _, ⟨[], (.refl _)⟩, ?_⟩
           refine rl rfl ?_
           refine ops_want (want_t g19 rfl rfl rfl) ?_
           refine ops_call (σa := []) (σr := [(Arr 24 b1 [(.int .i64 A.v), na, (.int .i64 A.r)]), (Arr 24 b2 [(.int .i64 B.v), nb, (.int .i64 B.r)]), (Arr 24 b3 [(.int .i64 ((apD op A B).v)), ux, (.int .i64 ((apD op A B).r))]), (Arr 24 b4 [(.int .i64 ((cbD [A] notF).v)), uy, (.int .i64 ((cbD [A] notF).r))])]) (by have h := table_c (A := B) hB (chk_ok.1 (by omega)) (by omega); rw [tbD_v (vars := A.v) (by omega)] at h; exact h) rfl rfl (.refl _) (fun r28 V28 sg28 hV28 hp28 => ?_)
           obtain ⟨rfl, hTr28⟩ := hp28
           have hA := hA.mono hV28
           have hB := hB.mono hV28
           have hx := hx.mono hV28
           have hy := hy.mono hV28
           have hTr19 := hTr19.mono hV28
           have hTr20 := hTr20.mono hV28
           have hTr21 := hTr21.mono hV28
           have h3 := h3.mono hV28
           have hTr27 := hTr27.mono hV28
           refine ops_nil ⟨[(Arr 24 b1 [(.int .i64 A.v), na, (.int .i64 A.r)]), (Arr 24 b2 [(.int .i64 B.v), nb, (.int .i64 B.r)]), (Arr 24 b3 [(.int .i64 ((apD op A B).v)), ux, (.int .i64 ((apD op A B).r))]), (Arr 24 b4 [(.int .i64 ((cbD [A] notF).v)), uy, (.int .i64 ((cbD [A] notF).r))])], [], hV28, perm_nil _, ⟨[], (.refl _)⟩, ?_⟩
           refine rl rfl ?_
           refine ops_want (want_t g19 rfl rfl rfl) ?_
           refine ops_call (σa := []) (σr := [(Arr 24 b1 [(.int .i64 A.v), na, (.int .i64 A.r)]), (Arr 24 b2 [(.int .i64 B.v), nb, (.int .i64 B.r)]), (Arr 24 b3 [(.int .i64 ((apD op A B).v)), ux, (.int .i64 ((apD op A B).r))]), (Arr 24 b4 [(.int .i64 ((cbD [A] notF).v)), uy, (.int .i64 ((cbD [A] notF).r))])]) (applied_c (op := op) hTr27 hTr28 (by omega) (by omega) (by omega)) rfl rfl (.refl _) (fun r29 V29 sg29 hV29 hp29 => ?_)
           obtain ⟨rfl, hTr29⟩ := hp29
           have hA := hA.mono hV29
           have hB := hB.mono hV29
           have hx := hx.mono hV29
           have hy := hy.mono hV29
           have hTr19 := hTr19.mono hV29
           have hTr20 := hTr20.mono hV29
           have hTr21 := hTr21.mono hV29
           have h3 := h3.mono hV29
           have hTr27 := hTr27.mono hV29
           have hTr28 := hTr28.mono hV29
           refine ops_nil ⟨[(Arr 24 b1 [(.int .i64 A.v), na, (.int .i64 A.r)]), (Arr 24 b2 [(.int .i64 B.v), nb, (.int .i64 B.r)]), (Arr 24 b3 [(.int .i64 ((apD op A B).v)), ux, (.int .i64 ((apD op A B).r))]), (Arr 24 b4 [(.int .i64 ((cbD [A] notF).v)), uy, (.int .i64 ((cbD [A] notF).r))])], [], hV29, perm_nil _, ⟨[], (.refl _)⟩, ?_⟩
           refine rl rfl ?_
           refine ops_want (want_t g19 rfl rfl rfl) ?_
           refine ops_call (σa := []) (σr := [(Arr 24 b1 [(.int .i64 A.v), na, (.int .i64 A.r)]), (Arr 24 b2 [(.int .i64 B.v), nb, (.int .i64 B.r)]), (Arr 24 b3 [(.int .i64 ((apD op A B).v)), ux, (.int .i64 ((apD op A B).r))]), (Arr 24 b4 [(.int .i64 ((cbD [A] notF).v)), uy, (.int .i64 ((cbD [A] notF).r))])]) (build_c hTr29 (by omega) (by omega) (tbl_len _ _)) rfl rfl (.refl _) (fun r30 V30 sg30 hV30 hp30 => ?_)
           obtain ⟨rfl, u4, rfl, h4⟩ := hp30
           have hA := hA.mono hV30
           have hB := hB.mono hV30
           have hx := hx.mono hV30
           have hy := hy.mono hV30
           have hTr19 := hTr19.mono hV30
           have hTr20 := hTr20.mono hV30
           have hTr21 := hTr21.mono hV30
           have h3 := h3.mono hV30
           have hTr27 := hTr27.mono hV30
           have hTr28 := hTr28.mono hV30
           have hTr29 := hTr29.mono hV30
           refine ops_nil ⟨[(Arr 24 b1 [(.int .i64 A.v), na, (.int .i64 A.r)]), (Arr 24 b2 [(.int .i64 B.v), nb, (.int .i64 B.r)]), (Arr 24 b3 [(.int .i64 ((apD op A B).v)), ux, (.int .i64 ((apD op A B).r))]), (Arr 24 b4 [(.int .i64 ((cbD [A] notF).v)), uy, (.int .i64 ((cbD [A] notF).r))])], [], hV30, perm_nil _, ⟨[], (.refl _)⟩, ?_⟩
           refine re rfl (qv_call (v := (.bool (decide (apD op A B = (bldD A.v (tbl A.v (fun e => opF op (gA A e) (gA B e) false))))))) (same_c (A := (apD op A B)) (B := (bldD A.v (tbl A.v (fun e => opF op (gA A e) (gA B e) false)))) hx (h4)) rfl rfl) (want_t g19 rfl rfl rfl) ?_
           refine rq rfl (qv_pick_t g19 rfl (rfl : ev _ _ = (.bool (decide (apD op A B = (bldD A.v (tbl A.v (fun e => opF op (gA A e) (gA B e) false)))))))) ?_
           refine rq rfl (qv_as (.bool (decide (apD op A B = (bldD A.v (tbl A.v (fun e => opF op (gA A e) (gA B e) false)))))) rfl) ?_
           refine rnil ?_
           refine vc_ret ?_
           exact rq1 (Value.bool true) (congrArg Value.bool (decide_eq_true (show (apD op A B = (bldD A.v (tbl A.v (fun e => opF op (gA A e) (gA B e) false)))) from by exact hal))) rfl
          ·
           exact absurd hap.1 g19
        ·
         refine vc_skip ?_
         refine vc_seq ?_
         refine vc_seq ?_
         refine vc_region ?_
         refine oq (qv_mv (.int .i64 (vE [A, B])) rfl) ?_
         refine oq (qv_neq rfl rfl) ?_
         refine ops_nil ?_
         refine vc_if rfl (fun c13 => ?_) (fun c13 => ?_)
         ·
          refine vc_seq ?_
          have hap := apE_v (A := A) (B := B) (op := op) (by omega)
          refine vc_region ?_
          refine oq (qv_mv (.int .i64 (apE op A B)) rfl) ?_
          refine oq (qv_mv (.int .i64 (vE [A, B])) rfl) ?_
          refine oq (qv_eql rfl rfl) ?_
          refine oq (qv_mv (.bool (decide ((apE op A B) = (vE [A, B])))) rfl) ?_
          by_cases g20 : (apE op A B) = (vE [A, B])
          ·
           refine og (qv_ldm (vs := [(.int .i64 ((apD op A B).v)), ux, (.int .i64 ((apD op A B).r))]) Try.agg24 rfl (inOc (k := 2) rfl) rfl rfl) (want_t g20 rfl rfl rfl) ?_
           refine og (qv_build (out := [(Value.int .i64 0), (Value.slice none 0 0), (Value.int .i64 0)]) Try.build24 [] rfl rfl) (want_t g20 rfl rfl rfl) ?_
           refine og (qv_call (v := (.bool (decide (apD op A B = dg0)))) (same_c (A := (apD op A B)) (B := dg0) hx (Fks.nil)) rfl rfl) (want_t g20 rfl rfl rfl) ?_
           refine oq (qv_pick_t g20 rfl (rfl : ev _ _ = (.bool (decide (apD op A B = dg0))))) ?_
           refine oq (qv_as (.bool (decide (apD op A B = dg0))) rfl) ?_
           refine ops_nil ?_
           refine vc_ret ?_
           exact rq1 (Value.bool true) (congrArg Value.bool (decide_eq_true (show (apD op A B = dg0) from by exact hap.2))) rfl
          ·
           exact absurd hap.1 g20
         ·
          refine vc_skip ?_
          refine vc_seq ?_
          have hz : vE [A, B] = 0 := by omega
          have hap := apE_0 (A := A) (B := B) (op := op) hz (by omega)
          have hal := ap_law (A := A) (B := B) (op := op) hz (by omega)
          obtain ⟨hok1, hok2, hok3⟩ := ok2 hz
          have hvz := hok1.1.1
          have hck1 := chk_ok.2 hok1
          have hck2 := chk_ok.2 hok2
          refine vc_region_order (τ := []) [(0, false), (1, false), (2, false), (3, false), (4, false), (5, false), (6, false), (7, false), (9, false), (8, true), (10, true), (11, true), (12, true), (13, false), (14, false), (15, false)] [(Arr 24 b1 [(.int .i64 A.v), na, (.int .i64 A.r)]), (Arr 24 b2 [(.int .i64 B.v), nb, (.int .i64 B.r)]), (Arr 24 b3 [(.int .i64 ((apD op A B).v)), ux, (.int .i64 ((apD op A B).r))]), (Arr 24 b4 [(.int .i64 ((cbD [A] notF).v)), uy, (.int .i64 ((cbD [A] notF).r))])] Try.mixed (perm_nil _) (by kernel_rfl) ?_
          refine rq rfl (qv_mv (.int .i64 (apE op A B)) rfl) ?_
          refine rq rfl (qv_eql rfl rfl) ?_
          refine rq rfl (qv_mv (.bool (decide ((apE op A B) = 0))) rfl) ?_
          by_cases g21 : (apE op A B) = 0
          ·
           refine re rfl (qv_ldm (vs := [(.int .i64 ((apD op A B).v)), ux, (.int .i64 ((apD op A B).r))]) Try.agg24 rfl (inOc (k := 2) rfl) rfl rfl) (want_t g21 rfl rfl rfl) ?_
           refine re rfl (qv_fa (off := 0) Try.field24_0 rfl) (want_t g21 rfl rfl rfl) ?_
           refine re rfl (qv_ldp (v := (.int .i64 A.v)) Try.plain3 rfl (inOc (k := 0) rfl) rfl) (want_t g21 rfl rfl rfl) ?_
           refine re rfl (qv_mv (Value.int .i64 op) rfl) (want_t g21 rfl rfl rfl) ?_
           refine re rfl (qv_ldm (vs := [(.int .i64 A.v), na, (.int .i64 A.r)]) Try.agg24 rfl (inOc (k := 0) rfl) rfl rfl) (want_t g21 rfl rfl rfl) ?_
           refine re rfl (qv_ldm (vs := [(.int .i64 B.v), nb, (.int .i64 B.r)]) Try.agg24 rfl (inOc (k := 1) rfl) rfl rfl) (want_t g21 rfl rfl rfl) ?_
           refine rl rfl ?_
           refine ops_want (want_t g21 rfl rfl rfl) ?_
           refine ops_call (σa := []) (σr := [(Arr 24 b1 [(.int .i64 A.v), na, (.int .i64 A.r)]), (Arr 24 b2 [(.int .i64 B.v), nb, (.int .i64 B.r)]), (Arr 24 b3 [(.int .i64 ((apD op A B).v)), ux, (.int .i64 ((apD op A B).r))]), (Arr 24 b4 [(.int .i64 ((cbD [A] notF).v)), uy, (.int .i64 ((cbD [A] notF).r))])]) (by have h := table_c (A := A) hA (chk_ok.1 (by omega)) (by omega); rw [tbD_v rfl] at h; exact h) rfl rfl (.refl _) (fun r31 V31 sg31 hV31 hp31 => ?_)
           obtain ⟨rfl, hTr31⟩ := hp31
           have hA := hA.mono hV31
           have hB := hB.mono hV31
           have hx := hx.mono hV31
           have hy := hy.mono hV31
           have hTr19 := hTr19.mono hV31
           have hTr20 := hTr20.mono hV31
           have hTr21 := hTr21.mono hV31
           have h3 := h3.mono hV31
           refine ops_nil ⟨[(Arr 24 b1 [(.int .i64 A.v), na, (.int .i64 A.r)]), (Arr 24 b2 [(.int .i64 B.v), nb, (.int .i64 B.r)]), (Arr 24 b3 [(.int .i64 ((apD op A B).v)), ux, (.int .i64 ((apD op A B).r))]), (Arr 24 b4 [(.int .i64 ((cbD [A] notF).v)), uy, (.int .i64 ((cbD [A] notF).r))])], [], hV31, perm_nil _, ⟨[], (.refl _)⟩, ?_⟩
           refine rl rfl ?_
           refine ops_want (want_t g21 rfl rfl rfl) ?_
           refine ops_call (σa := []) (σr := [(Arr 24 b1 [(.int .i64 A.v), na, (.int .i64 A.r)]), (Arr 24 b2 [(.int .i64 B.v), nb, (.int .i64 B.r)]), (Arr 24 b3 [(.int .i64 ((apD op A B).v)), ux, (.int .i64 ((apD op A B).r))]), (Arr 24 b4 [(.int .i64 ((cbD [A] notF).v)), uy, (.int .i64 ((cbD [A] notF).r))])]) (by have h := table_c (A := B) hB (chk_ok.1 (by omega)) (by omega); rw [tbD_v (vars := A.v) (by omega)] at h; exact h) rfl rfl (.refl _) (fun r32 V32 sg32 hV32 hp32 => ?_)
           obtain ⟨rfl, hTr32⟩ := hp32
           have hA := hA.mono hV32
           have hB := hB.mono hV32
           have hx := hx.mono hV32
           have hy := hy.mono hV32
           have hTr19 := hTr19.mono hV32
           have hTr20 := hTr20.mono hV32
           have hTr21 := hTr21.mono hV32
           have h3 := h3.mono hV32
           have hTr31 := hTr31.mono hV32
           refine ops_nil ⟨[(Arr 24 b1 [(.int .i64 A.v), na, (.int .i64 A.r)]), (Arr 24 b2 [(.int .i64 B.v), nb, (.int .i64 B.r)]), (Arr 24 b3 [(.int .i64 ((apD op A B).v)), ux, (.int .i64 ((apD op A B).r))]), (Arr 24 b4 [(.int .i64 ((cbD [A] notF).v)), uy, (.int .i64 ((cbD [A] notF).r))])], [], hV32, perm_nil _, ⟨[], (.refl _)⟩, ?_⟩
           refine rl rfl ?_
           refine ops_want (want_t g21 rfl rfl rfl) ?_
           refine ops_call (σa := []) (σr := [(Arr 24 b1 [(.int .i64 A.v), na, (.int .i64 A.r)]), (Arr 24 b2 [(.int .i64 B.v), nb, (.int .i64 B.r)]), (Arr 24 b3 [(.int .i64 ((apD op A B).v)), ux, (.int .i64 ((apD op A B).r))]), (Arr 24 b4 [(.int .i64 ((cbD [A] notF).v)), uy, (.int .i64 ((cbD [A] notF).r))])]) (applied_c (op := op) hTr31 hTr32 (by omega) (by omega) (by omega)) rfl rfl (.refl _) (fun r33 V33 sg33 hV33 hp33 => ?_)
           obtain ⟨rfl, hTr33⟩ := hp33
           have hA := hA.mono hV33
           have hB := hB.mono hV33
           have hx := hx.mono hV33
           have hy := hy.mono hV33
           have hTr19 := hTr19.mono hV33
           have hTr20 := hTr20.mono hV33
           have hTr21 := hTr21.mono hV33
           have h3 := h3.mono hV33
           have hTr31 := hTr31.mono hV33
           have hTr32 := hTr32.mono hV33
           refine ops_nil ⟨[(Arr 24 b1 [(.int .i64 A.v), na, (.int .i64 A.r)]), (Arr 24 b2 [(.int .i64 B.v), nb, (.int .i64 B.r)]), (Arr 24 b3 [(.int .i64 ((apD op A B).v)), ux, (.int .i64 ((apD op A B).r))]), (Arr 24 b4 [(.int .i64 ((cbD [A] notF).v)), uy, (.int .i64 ((cbD [A] notF).r))])], [], hV33, perm_nil _, ⟨[], (.refl _)⟩, ?_⟩
           refine rl rfl ?_
           refine ops_want (want_t g21 rfl rfl rfl) ?_
           refine ops_call (σa := []) (σr := [(Arr 24 b1 [(.int .i64 A.v), na, (.int .i64 A.r)]), (Arr 24 b2 [(.int .i64 B.v), nb, (.int .i64 B.r)]), (Arr 24 b3 [(.int .i64 ((apD op A B).v)), ux, (.int .i64 ((apD op A B).r))]), (Arr 24 b4 [(.int .i64 ((cbD [A] notF).v)), uy, (.int .i64 ((cbD [A] notF).r))])]) (build_c hTr33 (by omega) (by omega) (tbl_len _ _)) rfl rfl (.refl _) (fun r34 V34 sg34 hV34 hp34 => ?_)
           obtain ⟨rfl, u4, rfl, h4⟩ := hp34
           have hA := hA.mono hV34
           have hB := hB.mono hV34
           have hx := hx.mono hV34
           have hy := hy.mono hV34
           have hTr19 := hTr19.mono hV34
           have hTr20 := hTr20.mono hV34
           have hTr21 := hTr21.mono hV34
           have h3 := h3.mono hV34
           have hTr31 := hTr31.mono hV34
           have hTr32 := hTr32.mono hV34
           have hTr33 := hTr33.mono hV34
           refine ops_nil ⟨[(Arr 24 b1 [(.int .i64 A.v), na, (.int .i64 A.r)]), (Arr 24 b2 [(.int .i64 B.v), nb, (.int .i64 B.r)]), (Arr 24 b3 [(.int .i64 ((apD op A B).v)), ux, (.int .i64 ((apD op A B).r))]), (Arr 24 b4 [(.int .i64 ((cbD [A] notF).v)), uy, (.int .i64 ((cbD [A] notF).r))])], [], hV34, perm_nil _, ⟨[], (.refl _)⟩, ?_⟩
           refine re rfl (qv_call (v := (.bool (decide (apD op A B = (bldD A.v (tbl A.v (fun e => opF op (gA A e) (gA B e) false))))))) (same_c (A := (apD op A B)) (B := (bldD A.v (tbl A.v (fun e => opF op (gA A e) (gA B e) false)))) hx (h4)) rfl rfl) (want_t g21 rfl rfl rfl) ?_
           refine rq rfl (qv_pick_t g21 rfl (rfl : ev _ _ = (.bool (decide (apD op A B = (bldD A.v (tbl A.v (fun e => opF op (gA A e) (gA B e) false)))))))) ?_
           refine rq rfl (qv_as (.bool (decide (apD op A B = (bldD A.v (tbl A.v (fun e => opF op (gA A e) (gA B e) false)))))) rfl) ?_
           refine rnil ?_
           refine vc_ret ?_
           exact rq1 (Value.bool true) (congrArg Value.bool (decide_eq_true (show (apD op A B = (bldD A.v (tbl A.v (fun e => opF op (gA A e) (gA B e) false)))) from by exact hal))) rfl
          ·
           exact absurd hap.1 g21
      ·
       refine os (want_tn g14 rfl rfl rfl) ?_
       refine os (want_tn g14 rfl rfl rfl) ?_
       refine os (want_tn g14 rfl rfl rfl) ?_
       refine os (want_u rfl rfl rfl) ?_
       refine os (want_u rfl rfl rfl) ?_
       refine os (want_tn g14 rfl rfl rfl) ?_
       refine oq (qv_pick_f g14 rfl (rfl : ev _ _ = (Value.bool false))) ?_
       refine ops_nil ?_
       refine vc_ff rfl ?_
       refine vc_skip ?_
       refine vc_seq ?_
       refine vc_seq ?_
       refine vc_region ?_
       refine oq (qv_mv (.int .i64 (vE [A, B])) rfl) ?_
       refine oq (qv_neq rfl rfl) ?_
       refine ops_nil ?_
       refine vc_if rfl (fun c14 => ?_) (fun c14 => ?_)
       ·
        refine vc_seq ?_
        have hap := apE_v (A := A) (B := B) (op := op) (by omega)
        refine vc_region ?_
        refine oq (qv_mv (.int .i64 (apE op A B)) rfl) ?_
        refine oq (qv_mv (.int .i64 (vE [A, B])) rfl) ?_
        refine oq (qv_eql rfl rfl) ?_
        refine oq (qv_mv (.bool (decide ((apE op A B) = (vE [A, B])))) rfl) ?_
        by_cases g22 : (apE op A B) = (vE [A, B])
        ·
         refine og (qv_ldm (vs := [(.int .i64 ((apD op A B).v)), ux, (.int .i64 ((apD op A B).r))]) Try.agg24 rfl (inOc (k := 2) rfl) rfl rfl) (want_t g22 rfl rfl rfl) ?_
         refine og (qv_build (out := [(Value.int .i64 0), (Value.slice none 0 0), (Value.int .i64 0)]) Try.build24 [] rfl rfl) (want_t g22 rfl rfl rfl) ?_
         refine og (qv_call (v := (.bool (decide (apD op A B = dg0)))) (same_c (A := (apD op A B)) (B := dg0) hx (Fks.nil)) rfl rfl) (want_t g22 rfl rfl rfl) ?_
         refine oq (qv_pick_t g22 rfl (rfl : ev _ _ = (.bool (decide (apD op A B = dg0))))) ?_
         refine oq (qv_as (.bool (decide (apD op A B = dg0))) rfl) ?_
         refine ops_nil ?_
         refine vc_ret ?_
         exact rq1 (Value.bool true) (congrArg Value.bool (decide_eq_true (show (apD op A B = dg0) from by exact hap.2))) rfl
        ·
         exact absurd hap.1 g22
       ·
        refine vc_skip ?_
        refine vc_seq ?_
        have hz : vE [A, B] = 0 := by omega
        have hap := apE_0 (A := A) (B := B) (op := op) hz (by omega)
        have hal := ap_law (A := A) (B := B) (op := op) hz (by omega)
        obtain ⟨hok1, hok2, hok3⟩ := ok2 hz
        have hvz := hok1.1.1
        have hck1 := chk_ok.2 hok1
        have hck2 := chk_ok.2 hok2
        refine vc_region_order (τ := []) [(0, false), (1, false), (2, false), (3, false), (4, false), (5, false), (6, false), (7, false), (9, false), (8, true), (10, true), (11, true), (12, true), (13, false), (14, false), (15, false)] [(Arr 24 b1 [(.int .i64 A.v), na, (.int .i64 A.r)]), (Arr 24 b2 [(.int .i64 B.v), nb, (.int .i64 B.r)]), (Arr 24 b3 [(.int .i64 ((apD op A B).v)), ux, (.int .i64 ((apD op A B).r))]), (Arr 24 b4 [(.int .i64 ((cbD [A] notF).v)), uy, (.int .i64 ((cbD [A] notF).r))])] Try.mixed (perm_nil _) (by kernel_rfl) ?_
        refine rq rfl (qv_mv (.int .i64 (apE op A B)) rfl) ?_
        refine rq rfl (qv_eql rfl rfl) ?_
        refine rq rfl (qv_mv (.bool (decide ((apE op A B) = 0))) rfl) ?_
        by_cases g23 : (apE op A B) = 0
        ·
         refine re rfl (qv_ldm (vs := [(.int .i64 ((apD op A B).v)), ux, (.int .i64 ((apD op A B).r))]) Try.agg24 rfl (inOc (k := 2) rfl) rfl rfl) (want_t g23 rfl rfl rfl) ?_
         refine re rfl (qv_fa (off := 0) Try.field24_0 rfl) (want_t g23 rfl rfl rfl) ?_
         refine re rfl (qv_ldp (v := (.int .i64 A.v)) Try.plain3 rfl (inOc (k := 0) rfl) rfl) (want_t g23 rfl rfl rfl) ?_
         refine re rfl (qv_mv (Value.int .i64 op) rfl) (want_t g23 rfl rfl rfl) ?_
         refine re rfl (qv_ldm (vs := [(.int .i64 A.v), na, (.int .i64 A.r)]) Try.agg24 rfl (inOc (k := 0) rfl) rfl rfl) (want_t g23 rfl rfl rfl) ?_
         refine re rfl (qv_ldm (vs := [(.int .i64 B.v), nb, (.int .i64 B.r)]) Try.agg24 rfl (inOc (k := 1) rfl) rfl rfl) (want_t g23 rfl rfl rfl) ?_
         refine rl rfl ?_
         refine ops_want (want_t g23 rfl rfl rfl) ?_
         refine ops_call (σa := []) (σr := [(Arr 24 b1 [(.int .i64 A.v), na, (.int .i64 A.r)]), (Arr 24 b2 [(.int .i64 B.v), nb, (.int .i64 B.r)]), (Arr 24 b3 [(.int .i64 ((apD op A B).v)), ux, (.int .i64 ((apD op A B).r))]), (Arr 24 b4 [(.int .i64 ((cbD [A] notF).v)), uy, (.int .i64 ((cbD [A] notF).r))])]) (by have h := table_c (A := A) hA (chk_ok.1 (by omega)) (by omega); rw [tbD_v rfl] at h; exact h) rfl rfl (.refl _) (fun r35 V35 sg35 hV35 hp35 => ?_)
         obtain ⟨rfl, hTr35⟩ := hp35
         have hA := hA.mono hV35
         have hB := hB.mono hV35
         have hx := hx.mono hV35
         have hy := hy.mono hV35
         have hTr19 := hTr19.mono hV35
         have hTr20 := hTr20.mono hV35
         have hTr21 := hTr21.mono hV35
         have h3 := h3.mono hV35
         refine ops_nil ⟨[(Arr 24 b1 [(.int .i64 A.v), na, (.int .i64 A.r)]), (Arr 24 b2 [(.int .i64 B.v), nb, (.int .i64 B.r)]), (Arr 24 b3 [(.int .i64 ((apD op A B).v)), ux, (.int .i64 ((apD op A B).r))]), (Arr 24 b4 [(.int .i64 ((cbD [A] notF).v)), uy, (.int .i64 ((cbD [A] notF).r))])], [], hV35, perm_nil _, ⟨[], (.refl _)⟩, ?_⟩
         refine rl rfl ?_
         refine ops_want (want_t g23 rfl rfl rfl) ?_
         refine ops_call (σa := []) (σr := [(Arr 24 b1 [(.int .i64 A.v), na, (.int .i64 A.r)]), (Arr 24 b2 [(.int .i64 B.v), nb, (.int .i64 B.r)]), (Arr 24 b3 [(.int .i64 ((apD op A B).v)), ux, (.int .i64 ((apD op A B).r))]), (Arr 24 b4 [(.int .i64 ((cbD [A] notF).v)), uy, (.int .i64 ((cbD [A] notF).r))])]) (by have h := table_c (A := B) hB (chk_ok.1 (by omega)) (by omega); rw [tbD_v (vars := A.v) (by omega)] at h; exact h) rfl rfl (.refl _) (fun r36 V36 sg36 hV36 hp36 => ?_)
         obtain ⟨rfl, hTr36⟩ := hp36
         have hA := hA.mono hV36
         have hB := hB.mono hV36
         have hx := hx.mono hV36
         have hy := hy.mono hV36
         have hTr19 := hTr19.mono hV36
         have hTr20 := hTr20.mono hV36
         have hTr21 := hTr21.mono hV36
         have h3 := h3.mono hV36
         have hTr35 := hTr35.mono hV36
         refine ops_nil ⟨[(Arr 24 b1 [(.int .i64 A.v), na, (.int .i64 A.r)]), (Arr 24 b2 [(.int .i64 B.v), nb, (.int .i64 B.r)]), (Arr 24 b3 [(.int .i64 ((apD op A B).v)), ux, (.int .i64 ((apD op A B).r))]), (Arr 24 b4 [(.int .i64 ((cbD [A] notF).v)), uy, (.int .i64 ((cbD [A] notF).r))])], [], hV36, perm_nil _, ⟨[], (.refl _)⟩, ?_⟩
         refine rl rfl ?_
         refine ops_want (want_t g23 rfl rfl rfl) ?_
         refine ops_call (σa := []) (σr := [(Arr 24 b1 [(.int .i64 A.v), na, (.int .i64 A.r)]), (Arr 24 b2 [(.int .i64 B.v), nb, (.int .i64 B.r)]), (Arr 24 b3 [(.int .i64 ((apD op A B).v)), ux, (.int .i64 ((apD op A B).r))]), (Arr 24 b4 [(.int .i64 ((cbD [A] notF).v)), uy, (.int .i64 ((cbD [A] notF).r))])]) (applied_c (op := op) hTr35 hTr36 (by omega) (by omega) (by omega)) rfl rfl (.refl _) (fun r37 V37 sg37 hV37 hp37 => ?_)
         obtain ⟨rfl, hTr37⟩ := hp37
         have hA := hA.mono hV37
         have hB := hB.mono hV37
         have hx := hx.mono hV37
         have hy := hy.mono hV37
         have hTr19 := hTr19.mono hV37
         have hTr20 := hTr20.mono hV37
         have hTr21 := hTr21.mono hV37
         have h3 := h3.mono hV37
         have hTr35 := hTr35.mono hV37
         have hTr36 := hTr36.mono hV37
         refine ops_nil ⟨[(Arr 24 b1 [(.int .i64 A.v), na, (.int .i64 A.r)]), (Arr 24 b2 [(.int .i64 B.v), nb, (.int .i64 B.r)]), (Arr 24 b3 [(.int .i64 ((apD op A B).v)), ux, (.int .i64 ((apD op A B).r))]), (Arr 24 b4 [(.int .i64 ((cbD [A] notF).v)), uy, (.int .i64 ((cbD [A] notF).r))])], [], hV37, perm_nil _, ⟨[], (.refl _)⟩, ?_⟩
         refine rl rfl ?_
         refine ops_want (want_t g23 rfl rfl rfl) ?_
         refine ops_call (σa := []) (σr := [(Arr 24 b1 [(.int .i64 A.v), na, (.int .i64 A.r)]), (Arr 24 b2 [(.int .i64 B.v), nb, (.int .i64 B.r)]), (Arr 24 b3 [(.int .i64 ((apD op A B).v)), ux, (.int .i64 ((apD op A B).r))]), (Arr 24 b4 [(.int .i64 ((cbD [A] notF).v)), uy, (.int .i64 ((cbD [A] notF).r))])]) (build_c hTr37 (by omega) (by omega) (tbl_len _ _)) rfl rfl (.refl _) (fun r38 V38 sg38 hV38 hp38 => ?_)
         obtain ⟨rfl, u4, rfl, h4⟩ := hp38
         have hA := hA.mono hV38
         have hB := hB.mono hV38
         have hx := hx.mono hV38
         have hy := hy.mono hV38
         have hTr19 := hTr19.mono hV38
         have hTr20 := hTr20.mono hV38
         have hTr21 := hTr21.mono hV38
         have h3 := h3.mono hV38
         have hTr35 := hTr35.mono hV38
         have hTr36 := hTr36.mono hV38
         have hTr37 := hTr37.mono hV38
         refine ops_nil ⟨[(Arr 24 b1 [(.int .i64 A.v), na, (.int .i64 A.r)]), (Arr 24 b2 [(.int .i64 B.v), nb, (.int .i64 B.r)]), (Arr 24 b3 [(.int .i64 ((apD op A B).v)), ux, (.int .i64 ((apD op A B).r))]), (Arr 24 b4 [(.int .i64 ((cbD [A] notF).v)), uy, (.int .i64 ((cbD [A] notF).r))])], [], hV38, perm_nil _, ⟨[], (.refl _)⟩, ?_⟩
         refine re rfl (qv_call (v := (.bool (decide (apD op A B = (bldD A.v (tbl A.v (fun e => opF op (gA A e) (gA B e) false))))))) (same_c (A := (apD op A B)) (B := (bldD A.v (tbl A.v (fun e => opF op (gA A e) (gA B e) false)))) hx (h4)) rfl rfl) (want_t g23 rfl rfl rfl) ?_
         refine rq rfl (qv_pick_t g23 rfl (rfl : ev _ _ = (.bool (decide (apD op A B = (bldD A.v (tbl A.v (fun e => opF op (gA A e) (gA B e) false)))))))) ?_
         refine rq rfl (qv_as (.bool (decide (apD op A B = (bldD A.v (tbl A.v (fun e => opF op (gA A e) (gA B e) false)))))) rfl) ?_
         refine rnil ?_
         refine vc_ret ?_
         exact rq1 (Value.bool true) (congrArg Value.bool (decide_eq_true (show (apD op A B = (bldD A.v (tbl A.v (fun e => opF op (gA A e) (gA B e) false)))) from by exact hal))) rfl
        ·
         exact absurd hap.1 g23

end Go.Proofs.Ytgehdgeiikjohaa
