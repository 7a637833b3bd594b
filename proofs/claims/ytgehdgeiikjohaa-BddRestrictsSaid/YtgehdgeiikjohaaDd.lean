/- Walks of bdd: what each function returns. Printed by a program out of notes. -/
import Derived.Test.YtgehdgeiikjohaaBv
import Derived.Test.YtgehdgeiikjohaaBy
import Derived.Test.YtgehdgeiikjohaaBdJ
namespace Go.Proofs.Ytgehdgeiikjohaa
open Go.Vc
open Classical

set_option maxRecDepth 100000 in
set_option maxHeartbeats 4000000 in
theorem Restricts_c {V : HV} {i : Int} {b : Bool} {na : Value} {A : Dg} (hA : Fks V na A.N) {nb : Value} {B : Dg} (hB : Fks V nb B.N) :
    FnC Try.prog 10 [(.agg #[(.int .i64 A.v), na, (.int .i64 A.r)]), (.agg #[(.int .i64 B.v), nb, (.int .i64 B.r)]), (.agg #[(Value.int .i64 i), (.bool (decide (b = true)))])] V [] (fun v _ _ => v = (Value.bool true)) := by
 refine fn_intro (N := 138) Try.func10 (by kernel_rfl) rfl rfl rfl (Nat.le_of_ble_eq_true rfl) ?_
 intro w0 D
 have hb := SlS.bound hA
 have hb2 := SlS.bound hB
 refine vc_seq ?_
 refine vc_region ?_
 refine ops_box (v := (.agg #[(.int .i64 A.v), na, (.int .i64 A.r)])) (cs := [(.int .i64 A.v), na, (.int .i64 A.r)]) rfl rfl (fun b1 => ?_)
 refine ops_box (v := (.agg #[(.int .i64 B.v), nb, (.int .i64 B.r)])) (cs := [(.int .i64 B.v), nb, (.int .i64 B.r)]) rfl rfl (fun b2 => ?_)
 refine ops_box (v := (.agg #[(Value.int .i64 i), (.bool (decide (b = true)))])) (cs := [(Value.int .i64 i), (.bool (decide (b = true)))]) rfl rfl (fun b3 => ?_)
 refine oq (qv_as (Value.bool false) rfl) ?_
 refine ops_nil ?_
 refine vc_seq ?_
 refine vc_seq ?_
 refine vc_res (σ' := [(Arr 24 b1 [(.int .i64 A.v), na, (.int .i64 A.r)]), (Arr 24 b2 [(.int .i64 B.v), nb, (.int .i64 B.r)]), (Arr 64 b3 [(Value.int .i64 i), (.bool (decide (b = true)))])]) rfl ?_
 refine vc_region ?_
 refine oq (qv_call (v := (Value.bool true)) (known_c) rfl rfl) ?_
 refine oq (qv_notc rfl) ?_
 refine ops_nil ?_
 refine vc_ff rfl ?_
 refine vc_skip ?_
 refine vc_seq ?_
 refine vc_seq ?_
 refine vc_region ?_
 refine oq (qv_ldm (vs := [(.int .i64 A.v), na, (.int .i64 A.r)]) Try.agg24 rfl (inOc (k := 0) rfl) rfl rfl) ?_
 refine oq (qv_call (v := (.bool (decide (A.v ≤ 7 ∧ A.N.length ≤ 130)))) (few_c hA) rfl rfl) ?_
 refine oq (qv_not rfl) ?_
 refine oq (qv_mv (.bool (decide (¬ (A.v ≤ 7 ∧ A.N.length ≤ 130)))) rfl) ?_
 by_cases g1 : ¬ (A.v ≤ 7 ∧ A.N.length ≤ 130)
 ·
  refine os (want_fn g1 rfl rfl rfl) ?_
  refine os (want_fn g1 rfl rfl rfl) ?_
  refine os (want_fn g1 rfl rfl rfl) ?_
  refine oq (qv_pick_t g1 rfl (rfl : ev _ _ = (Value.bool true))) ?_
  refine ops_nil ?_
  refine vc_tt rfl ?_
  refine vc_seq ?_
  refine vc_region ?_
  refine oq (qv_as (Value.bool true) rfl) ?_
  refine ops_nil ?_
  refine vc_ret ?_
  exact rq1 (Value.bool true) rfl rfl
 ·
  refine og (qv_ldm (vs := [(.int .i64 B.v), nb, (.int .i64 B.r)]) Try.agg24 rfl (inOc (k := 1) rfl) rfl rfl) (want_f g1 rfl rfl rfl) ?_
  refine og (qv_call (v := (.bool (decide (B.v ≤ 7 ∧ B.N.length ≤ 130)))) (few_c hB) rfl rfl) (want_f g1 rfl rfl rfl) ?_
  refine og (qv_not rfl) (want_f g1 rfl rfl rfl) ?_
  refine oq (qv_pick_f g1 rfl (rfl : ev _ _ = (.bool (decide (¬ (B.v ≤ 7 ∧ B.N.length ≤ 130)))))) ?_
  refine ops_nil ?_
  refine vc_if rfl (fun c1 => ?_) (fun c1 => ?_)
  ·
   refine vc_seq ?_
   refine vc_region ?_
   refine oq (qv_as (Value.bool true) rfl) ?_
   refine ops_nil ?_
   refine vc_ret ?_
   exact rq1 (Value.bool true) rfl rfl
  ·
   refine vc_skip ?_
   refine vc_seq ?_
   refine vc_region ?_
   refine oq (qv_ldm (vs := [(.int .i64 A.v), na, (.int .i64 A.r)]) Try.agg24 rfl (inOc (k := 0) rfl) rfl rfl) ?_
   refine oq (qv_fa (off := 0) Try.field64_0 rfl) ?_
   refine oq (qv_ldp (v := (Value.int .i64 i)) Try.plain3 rfl (inOc (k := 2) rfl) rfl) ?_
   refine oq (qv_fa (off := 0) Try.field64_1 rfl) ?_
   refine oq (qv_ldp (v := (.bool (decide (b = true)))) Try.plain4 rfl (inOc (k := 2) rfl) rfl) ?_
   refine ops_call (σa := []) (σr := [(Arr 24 b1 [(.int .i64 A.v), na, (.int .i64 A.r)]), (Arr 24 b2 [(.int .i64 B.v), nb, (.int .i64 B.r)]), (Arr 64 b3 [(Value.int .i64 i), (.bool (decide (b = true)))])]) (Restrict_c (i := i) (b := b) hA) rfl rfl (.refl _) (fun r1 V1 sg1 hV1 hp1 => ?_)
   obtain ⟨rfl, ux, rfl, hx⟩ := hp1
   have hA := hA.mono hV1
   have hB := hB.mono hV1
   refine oq (qv_mv (.tuple #[(.agg #[(.int .i64 ((rsR A i b).v)), ux, (.int .i64 ((rsR A i b).r))]), (.int .i64 (rsE A i))]) rfl) ?_
   refine oq (qv_ext (.agg #[(.int .i64 ((rsR A i b).v)), ux, (.int .i64 ((rsR A i b).r))]) rfl rfl) ?_
   refine oq (qv_ext (.int .i64 (rsE A i)) rfl rfl) ?_
   refine ops_alloc Try.ti24 rfl (fun b4 => ?_)
   refine ops_stw (k := 3) (vs := [(.int .i64 ((rsR A i b).v)), ux, (.int .i64 ((rsR A i b).r))]) Try.size24 rfl rfl rfl (allc rfl (allc (SlS.one hx) (allc rfl rfl))) rfl rfl ?_
   refine oq (qv_as (.int .i64 (rsE A i)) rfl) ?_
   refine ops_nil ?_
   refine vc_seq ?_
   refine vc_res (σ' := [(Arr 24 b1 [(.int .i64 A.v), na, (.int .i64 A.r)]), (Arr 24 b2 [(.int .i64 B.v), nb, (.int .i64 B.r)]), (Arr 64 b3 [(Value.int .i64 i), (.bool (decide (b = true)))]), (Arr 24 b4 [(.int .i64 ((rsR A i b).v)), ux, (.int .i64 ((rsR A i b).r))])]) rfl ?_
   refine vc_region ?_
   refine oq (qv_ldm (vs := [(.int .i64 A.v), na, (.int .i64 A.r)]) Try.agg24 rfl (inOc (k := 0) rfl) rfl rfl) ?_
   refine oq (qv_fa (off := 0) Try.field64_0 rfl) ?_
   refine oq (qv_ldp (v := (Value.int .i64 i)) Try.plain3 rfl (inOc (k := 2) rfl) rfl) ?_
   refine oq (qv_ldm (vs := [(.int .i64 B.v), nb, (.int .i64 B.r)]) Try.agg24 rfl (inOc (k := 1) rfl) rfl rfl) ?_
   refine ops_call (σa := []) (σr := [(Arr 24 b1 [(.int .i64 A.v), na, (.int .i64 A.r)]), (Arr 24 b2 [(.int .i64 B.v), nb, (.int .i64 B.r)]), (Arr 64 b3 [(Value.int .i64 i), (.bool (decide (b = true)))]), (Arr 24 b4 [(.int .i64 ((rsR A i b).v)), ux, (.int .i64 ((rsR A i b).r))])]) (Compose_c (i := i) hA hB (by omega)) rfl rfl (.refl _) (fun r2 V2 sg2 hV2 hp2 => ?_)
   obtain ⟨rfl, uy, rfl, hy⟩ := hp2
   have hA := hA.mono hV2
   have hB := hB.mono hV2
   have hx := hx.mono hV2
   refine oq (qv_mv (.tuple #[(.agg #[(.int .i64 ((cpD A B i).v)), uy, (.int .i64 ((cpD A B i).r))]), (.int .i64 (cpE A B i))]) rfl) ?_
   refine oq (qv_ext (.agg #[(.int .i64 ((cpD A B i).v)), uy, (.int .i64 ((cpD A B i).r))]) rfl rfl) ?_
   refine oq (qv_ext (.int .i64 (cpE A B i)) rfl rfl) ?_
   refine ops_alloc Try.ti24 rfl (fun b5 => ?_)
   refine ops_stw (k := 4) (vs := [(.int .i64 ((cpD A B i).v)), uy, (.int .i64 ((cpD A B i).r))]) Try.size24 rfl rfl rfl (allc rfl (allc (SlS.one hy) (allc rfl rfl))) rfl rfl ?_
   refine oq (qv_as (.int .i64 (cpE A B i)) rfl) ?_
   refine ops_nil ?_
   refine vc_seq ?_
   refine vc_res (σ' := [(Arr 24 b1 [(.int .i64 A.v), na, (.int .i64 A.r)]), (Arr 24 b2 [(.int .i64 B.v), nb, (.int .i64 B.r)]), (Arr 64 b3 [(Value.int .i64 i), (.bool (decide (b = true)))]), (Arr 24 b4 [(.int .i64 ((rsR A i b).v)), ux, (.int .i64 ((rsR A i b).r))]), (Arr 24 b5 [(.int .i64 ((cpD A B i).v)), uy, (.int .i64 ((cpD A B i).r))])]) rfl ?_
   refine vc_region ?_
   refine oq (qv_fa (off := 0) Try.field64_0 rfl) ?_
   refine oq (qv_ldp (v := (Value.int .i64 i)) Try.plain3 rfl (inOc (k := 2) rfl) rfl) ?_
   refine oq (qv_geq rfl rfl) ?_
   refine oq (qv_mv (.bool (decide (0 ≤ i))) rfl) ?_
   by_cases g2 : 0 ≤ i
   ·
    refine og (qv_fa (off := 0) Try.field64_0 rfl) (want_t g2 rfl rfl rfl) ?_
    refine og (qv_ldp (v := (Value.int .i64 i)) Try.plain3 rfl (inOc (k := 2) rfl) rfl) (want_t g2 rfl rfl rfl) ?_
    refine og (qv_fa (off := 0) Try.field24_0 rfl) (want_t g2 rfl rfl rfl) ?_
    refine og (qv_ldp (v := (.int .i64 A.v)) Try.plain3 rfl (inOc (k := 0) rfl) rfl) (want_t g2 rfl rfl rfl) ?_
    refine og (qv_lss rfl rfl) (want_t g2 rfl rfl rfl) ?_
    refine oq (qv_pick_t g2 rfl (rfl : ev _ _ = (.bool (decide (i < A.v))))) ?_
    refine oq (qv_as (.bool (decide (i < A.v))) rfl) ?_
    refine ops_nil ?_
    refine vc_seq ?_
    refine vc_block ?_
    refine vc_seq ?_
    refine vc_region ?_
    refine oq (qv_ldm (vs := [(.int .i64 A.v), na, (.int .i64 A.r)]) Try.agg24 rfl (inOc (k := 0) rfl) rfl rfl) ?_
    refine oq (qv_call (v := (.int .i64 (chkC A.v A.N A.r))) (check_c hA) rfl rfl) ?_
    refine oq (qv_neq rfl rfl) ?_
    refine oq (qv_as (.bool (decide ((chkC A.v A.N A.r) ≠ 0))) rfl) ?_
    refine ops_nil ?_
    refine vc_if rfl (fun c2 => ?_) (fun c2 => ?_)
    ·
     refine vc_seq ?_
     have hv1 := vE1_1 (A := A) (by omega)
     have hr := rsE_v (A := A) (i := i) (b := b) (by omega)
     have hr1 : rsE A i = 1 := by omega
     refine vc_region ?_
     refine oq (qv_mv (.int .i64 (rsE A i)) rfl) ?_
     refine oq (qv_neq rfl rfl) ?_
     refine oq (qv_mv (.bool (decide ((rsE A i) ≠ 1))) rfl) ?_
     by_cases g3 : (rsE A i) ≠ 1
     ·
      exact absurd hr1 g3
     ·
      refine og (qv_ldm (vs := [(.int .i64 ((rsR A i b).v)), ux, (.int .i64 ((rsR A i b).r))]) Try.agg24 rfl (inOc (k := 3) rfl) rfl rfl) (want_f g3 rfl rfl rfl) ?_
      refine og (qv_build (out := [(Value.int .i64 0), (Value.slice none 0 0), (Value.int .i64 0)]) Try.build24 [] rfl rfl) (want_f g3 rfl rfl rfl) ?_
      refine og (qv_call (v := (.bool (decide (rsR A i b = dg0)))) (same_c (A := (rsR A i b)) (B := dg0) hx (Fks.nil)) rfl rfl) (want_f g3 rfl rfl rfl) ?_
      refine og (qv_not rfl) (want_f g3 rfl rfl rfl) ?_
      refine oq (qv_pick_f g3 rfl (rfl : ev _ _ = (.bool (decide (¬ (rsR A i b = dg0)))))) ?_
      refine ops_nil ?_
      refine vc_if rfl (fun c3 => ?_) (fun c3 => ?_)
      ·
       exact absurd hr.2 c3
      ·
       refine vc_skip ?_
       refine vc_seq ?_
       refine vc_region ?_
       refine oq (qv_ldm (vs := [(.int .i64 A.v), na, (.int .i64 A.r)]) Try.agg24 rfl (inOc (k := 0) rfl) rfl rfl) ?_
       refine oq (qv_ldm (vs := [(.int .i64 B.v), nb, (.int .i64 B.r)]) Try.agg24 rfl (inOc (k := 1) rfl) rfl rfl) ?_
       refine oq (qv_call (v := (.int .i64 (vE [A, B]))) (fits_c hA hB) rfl rfl) ?_
       refine oq (qv_as (.int .i64 (vE [A, B])) rfl) ?_
       refine ops_nil ?_
       refine vc_seq ?_
       refine vc_seq ?_
       refine vc_region ?_
       refine oq (qv_mv (.int .i64 (vE [A, B])) rfl) ?_
       refine oq (qv_eql rfl rfl) ?_
       refine oq (qv_mv (.bool (decide ((vE [A, B]) = 0))) rfl) ?_
       by_cases g4 : (vE [A, B]) = 0
       ·
        refine og (qv_mv (.bool (decide (i < A.v))) rfl) (want_t g4 rfl rfl rfl) ?_
        refine og (qv_not rfl) (want_t g4 rfl rfl rfl) ?_
        refine oq (qv_pick_t g4 rfl (rfl : ev _ _ = (.bool (decide (¬ (i < A.v)))))) ?_
        refine ops_nil ?_
        refine vc_if rfl (fun c4 => ?_) (fun c4 => ?_)
        ·
         refine vc_region ?_
         refine oq (qv_as (Value.int .i64 3) rfl) ?_
         refine ops_nil ?_
         refine vc_seq ?_
         refine vc_seq ?_
         refine vc_region ?_
         refine oq (qv_mv (Value.int .i64 3) rfl) ?_
         refine oq (qv_neq rfl rfl) ?_
         refine ops_nil ?_
         refine vc_if rfl (fun c5 => ?_) (fun c5 => ?_)
         ·
          refine vc_seq ?_
          have hcp := cp_3 (A := A) (B := B) (i := i) (by omega) (by omega)
          refine vc_region ?_
          refine oq (qv_mv (.int .i64 (cpE A B i)) rfl) ?_
          refine oq (qv_mv (Value.int .i64 3) rfl) ?_
          refine oq (qv_eql rfl rfl) ?_
          refine oq (qv_mv (.bool (decide ((cpE A B i) = 3))) rfl) ?_
          by_cases g5 : (cpE A B i) = 3
          ·
           refine og (qv_ldm (vs := [(.int .i64 ((cpD A B i).v)), uy, (.int .i64 ((cpD A B i).r))]) Try.agg24 rfl (inOc (k := 4) rfl) rfl rfl) (want_t g5 rfl rfl rfl) ?_
           refine og (qv_build (out := [(Value.int .i64 0), (Value.slice none 0 0), (Value.int .i64 0)]) Try.build24 [] rfl rfl) (want_t g5 rfl rfl rfl) ?_
           refine og (qv_call (v := (.bool (decide (cpD A B i = dg0)))) (same_c (A := (cpD A B i)) (B := dg0) hy (Fks.nil)) rfl rfl) (want_t g5 rfl rfl rfl) ?_
           refine oq (qv_pick_t g5 rfl (rfl : ev _ _ = (.bool (decide (cpD A B i = dg0))))) ?_
           refine oq (qv_as (.bool (decide (cpD A B i = dg0))) rfl) ?_
           refine ops_nil ?_
           refine vc_ret ?_
           exact rq1 (Value.bool true) (congrArg Value.bool (decide_eq_true (show (cpD A B i = dg0) from by exact hcp.2))) rfl
          ·
           exact absurd hcp.1 g5
         ·
          refine vc_skip ?_
          refine vc_seq ?_
          have hz : vE [A, B] = 0 := by omega
          obtain ⟨hokA, hok2, hok3⟩ := ok2 hz
          have hvz := hokA.1.1
          have hck1 := chk_ok.2 hokA
          have hck2 := chk_ok.2 hok2
          have hcp := cp_0 (A := A) (B := B) (i := i) hz (by omega)
          have hcl := cp_law (A := A) (B := B) (i := i) hz (by omega)
          refine vc_region ?_
          refine oq (qv_ldm (vs := [(.int .i64 A.v), na, (.int .i64 A.r)]) Try.agg24 rfl (inOc (k := 0) rfl) rfl rfl) ?_
          refine ops_call (σa := []) (σr := [(Arr 24 b1 [(.int .i64 A.v), na, (.int .i64 A.r)]), (Arr 24 b2 [(.int .i64 B.v), nb, (.int .i64 B.r)]), (Arr 64 b3 [(Value.int .i64 i), (.bool (decide (b = true)))]), (Arr 24 b4 [(.int .i64 ((rsR A i b).v)), ux, (.int .i64 ((rsR A i b).r))]), (Arr 24 b5 [(.int .i64 ((cpD A B i).v)), uy, (.int .i64 ((cpD A B i).r))])]) (by have h := table_c (A := A) hA (chk_ok.1 (by omega)) (by omega); rw [tbD_v rfl] at h; exact h) rfl rfl (.refl _) (fun r3 V3 sg3 hV3 hp3 => ?_)
          obtain ⟨rfl, hTr3⟩ := hp3
          have hA := hA.mono hV3
          have hB := hB.mono hV3
          have hx := hx.mono hV3
          have hy := hy.mono hV3
          refine oq (qv_as r3 rfl) ?_
          refine ops_nil ?_
          refine vc_seq ?_
          refine vc_region_order (τ := []) [(0, false), (1, false), (2, false), (3, false), (4, false), (5, false), (6, false), (8, false), (9, false), (10, false), (11, false), (12, false), (14, false), (15, false), (16, false), (17, false), (18, false), (7, true), (13, true), (19, true), (20, true), (21, true), (22, false), (23, false), (24, false)] [(Arr 24 b1 [(.int .i64 A.v), na, (.int .i64 A.r)]), (Arr 24 b2 [(.int .i64 B.v), nb, (.int .i64 B.r)]), (Arr 64 b3 [(Value.int .i64 i), (.bool (decide (b = true)))]), (Arr 24 b4 [(.int .i64 ((rsR A i b).v)), ux, (.int .i64 ((rsR A i b).r))]), (Arr 24 b5 [(.int .i64 ((cpD A B i).v)), uy, (.int .i64 ((cpD A B i).r))])] Try.mixed (perm_nil _) (by kernel_rfl) ?_
          refine rq rfl (qv_mv (.int .i64 (cpE A B i)) rfl) ?_
          refine rq rfl (qv_eql rfl rfl) ?_
          refine rq rfl (qv_mv (.bool (decide ((cpE A B i) = 0))) rfl) ?_
          by_cases g6 : (cpE A B i) = 0
          ·
           refine re rfl (qv_ldm (vs := [(.int .i64 ((cpD A B i).v)), uy, (.int .i64 ((cpD A B i).r))]) Try.agg24 rfl (inOc (k := 4) rfl) rfl rfl) (want_t g6 rfl rfl rfl) ?_
           refine re rfl (qv_fa (off := 0) Try.field24_0 rfl) (want_t g6 rfl rfl rfl) ?_
           refine re rfl (qv_ldp (v := (.int .i64 A.v)) Try.plain3 rfl (inOc (k := 0) rfl) rfl) (want_t g6 rfl rfl rfl) ?_
           refine re rfl (qv_ldm (vs := [(.int .i64 B.v), nb, (.int .i64 B.r)]) Try.agg24 rfl (inOc (k := 1) rfl) rfl rfl) (want_t g6 rfl rfl rfl) ?_
           refine re rfl (qv_fa (off := 0) Try.field24_0 rfl) (want_t g6 rfl rfl rfl) ?_
           refine re rfl (qv_ldp (v := (.int .i64 A.v)) Try.plain3 rfl (inOc (k := 0) rfl) rfl) (want_t g6 rfl rfl rfl) ?_
           refine re rfl (qv_mv r3 rfl) (want_t g6 rfl rfl rfl) ?_
           refine re rfl (qv_fa (off := 0) Try.field64_0 rfl) (want_t g6 rfl rfl rfl) ?_
           refine re rfl (qv_ldp (v := (Value.int .i64 i)) Try.plain3 rfl (inOc (k := 2) rfl) rfl) (want_t g6 rfl rfl rfl) ?_
           refine re rfl (qv_fa (off := 0) Try.field24_0 rfl) (want_t g6 rfl rfl rfl) ?_
           refine re rfl (qv_ldp (v := (.int .i64 A.v)) Try.plain3 rfl (inOc (k := 0) rfl) rfl) (want_t g6 rfl rfl rfl) ?_
           refine re rfl (qv_mv r3 rfl) (want_t g6 rfl rfl rfl) ?_
           refine re rfl (qv_fa (off := 0) Try.field64_0 rfl) (want_t g6 rfl rfl rfl) ?_
           refine re rfl (qv_ldp (v := (Value.int .i64 i)) Try.plain3 rfl (inOc (k := 2) rfl) rfl) (want_t g6 rfl rfl rfl) ?_
           refine rl rfl ?_
           refine ops_want (want_t g6 rfl rfl rfl) ?_
           refine ops_call (σa := []) (σr := [(Arr 24 b1 [(.int .i64 A.v), na, (.int .i64 A.r)]), (Arr 24 b2 [(.int .i64 B.v), nb, (.int .i64 B.r)]), (Arr 64 b3 [(Value.int .i64 i), (.bool (decide (b = true)))]), (Arr 24 b4 [(.int .i64 ((rsR A i b).v)), ux, (.int .i64 ((rsR A i b).r))]), (Arr 24 b5 [(.int .i64 ((cpD A B i).v)), uy, (.int .i64 ((cpD A B i).r))])]) (by have h := table_c (A := B) hB (chk_ok.1 (by omega)) (by omega); rw [tbD_v (vars := A.v) (by omega)] at h; exact h) rfl rfl (.refl _) (fun r4 V4 sg4 hV4 hp4 => ?_)
           obtain ⟨rfl, hTr4⟩ := hp4
           have hA := hA.mono hV4
           have hB := hB.mono hV4
           have hx := hx.mono hV4
           have hy := hy.mono hV4
           have hTr3 := hTr3.mono hV4
           refine ops_nil ⟨[(Arr 24 b1 [(.int .i64 A.v), na, (.int .i64 A.r)]), (Arr 24 b2 [(.int .i64 B.v), nb, (.int .i64 B.r)]), (Arr 64 b3 [(Value.int .i64 i), (.bool (decide (b = true)))]), (Arr 24 b4 [(.int .i64 ((rsR A i b).v)), ux, (.int .i64 ((rsR A i b).r))]), (Arr 24 b5 [(.int .i64 ((cpD A B i).v)), uy, (.int .i64 ((cpD A B i).r))])], [], hV4, perm_nil _, ⟨[], (.refl _)⟩, ?_⟩
           refine rl rfl ?_
           refine ops_want (want_t g6 rfl rfl rfl) ?_
           refine ops_call (σa := []) (σr := [(Arr 24 b1 [(.int .i64 A.v), na, (.int .i64 A.r)]), (Arr 24 b2 [(.int .i64 B.v), nb, (.int .i64 B.r)]), (Arr 64 b3 [(Value.int .i64 i), (.bool (decide (b = true)))]), (Arr 24 b4 [(.int .i64 ((rsR A i b).v)), ux, (.int .i64 ((rsR A i b).r))]), (Arr 24 b5 [(.int .i64 ((cpD A B i).v)), uy, (.int .i64 ((cpD A B i).r))])]) (restricted_c (vars := A.v) (i := i) (b := true) (g := gA A) hTr3 (gA_dep hokA) (by omega) (by omega) (by omega) (by omega)) rfl rfl (.refl _) (fun r5 V5 sg5 hV5 hp5 => ?_)
           obtain ⟨rfl, hTr5⟩ := hp5
           have hA := hA.mono hV5
           have hB := hB.mono hV5
           have hx := hx.mono hV5
           have hy := hy.mono hV5
           have hTr3 := hTr3.mono hV5
           have hTr4 := hTr4.mono hV5
           refine ops_nil ⟨[(Arr 24 b1 [(.int .i64 A.v), na, (.int .i64 A.r)]), (Arr 24 b2 [(.int .i64 B.v), nb, (.int .i64 B.r)]), (Arr 64 b3 [(Value.int .i64 i), (.bool (decide (b = true)))]), (Arr 24 b4 [(.int .i64 ((rsR A i b).v)), ux, (.int .i64 ((rsR A i b).r))]), (Arr 24 b5 [(.int .i64 ((cpD A B i).v)), uy, (.int .i64 ((cpD A B i).r))])], [], hV5, perm_nil _, ⟨[], (.refl _)⟩, ?_⟩
           refine rl rfl ?_
           refine ops_want (want_t g6 rfl rfl rfl) ?_
           refine ops_call (σa := []) (σr := [(Arr 24 b1 [(.int .i64 A.v), na, (.int .i64 A.r)]), (Arr 24 b2 [(.int .i64 B.v), nb, (.int .i64 B.r)]), (Arr 64 b3 [(Value.int .i64 i), (.bool (decide (b = true)))]), (Arr 24 b4 [(.int .i64 ((rsR A i b).v)), ux, (.int .i64 ((rsR A i b).r))]), (Arr 24 b5 [(.int .i64 ((cpD A B i).v)), uy, (.int .i64 ((cpD A B i).r))])]) (restricted_c (vars := A.v) (i := i) (b := false) (g := gA A) hTr3 (gA_dep hokA) (by omega) (by omega) (by omega) (by omega)) rfl rfl (.refl _) (fun r6 V6 sg6 hV6 hp6 => ?_)
           obtain ⟨rfl, hTr6⟩ := hp6
           have hA := hA.mono hV6
           have hB := hB.mono hV6
           have hx := hx.mono hV6
           have hy := hy.mono hV6
           have hTr3 := hTr3.mono hV6
           have hTr4 := hTr4.mono hV6
           have hTr5 := hTr5.mono hV6
           refine ops_nil ⟨[(Arr 24 b1 [(.int .i64 A.v), na, (.int .i64 A.r)]), (Arr 24 b2 [(.int .i64 B.v), nb, (.int .i64 B.r)]), (Arr 64 b3 [(Value.int .i64 i), (.bool (decide (b = true)))]), (Arr 24 b4 [(.int .i64 ((rsR A i b).v)), ux, (.int .i64 ((rsR A i b).r))]), (Arr 24 b5 [(.int .i64 ((cpD A B i).v)), uy, (.int .i64 ((cpD A B i).r))])], [], hV6, perm_nil _, ⟨[], (.refl _)⟩, ?_⟩
           refine rl rfl ?_
           refine ops_want (want_t g6 rfl rfl rfl) ?_
           refine ops_call (σa := []) (σr := [(Arr 24 b1 [(.int .i64 A.v), na, (.int .i64 A.r)]), (Arr 24 b2 [(.int .i64 B.v), nb, (.int .i64 B.r)]), (Arr 64 b3 [(Value.int .i64 i), (.bool (decide (b = true)))]), (Arr 24 b4 [(.int .i64 ((rsR A i b).v)), ux, (.int .i64 ((rsR A i b).r))]), (Arr 24 b5 [(.int .i64 ((cpD A B i).v)), uy, (.int .i64 ((cpD A B i).r))])]) (chosen_c hTr4 hTr5 hTr6 (by omega)) rfl rfl (.refl _) (fun r7 V7 sg7 hV7 hp7 => ?_)
           obtain ⟨rfl, hTr7⟩ := hp7
           have hA := hA.mono hV7
           have hB := hB.mono hV7
           have hx := hx.mono hV7
           have hy := hy.mono hV7
           have hTr3 := hTr3.mono hV7
           have hTr4 := hTr4.mono hV7
           have hTr5 := hTr5.mono hV7
           have hTr6 := hTr6.mono hV7
           refine ops_nil ⟨[(Arr 24 b1 [(.int .i64 A.v), na, (.int .i64 A.r)]), (Arr 24 b2 [(.int .i64 B.v), nb, (.int .i64 B.r)]), (Arr 64 b3 [(Value.int .i64 i), (.bool (decide (b = true)))]), (Arr 24 b4 [(.int .i64 ((rsR A i b).v)), ux, (.int .i64 ((rsR A i b).r))]), (Arr 24 b5 [(.int .i64 ((cpD A B i).v)), uy, (.int .i64 ((cpD A B i).r))])], [], hV7, perm_nil _, ⟨[], (.refl _)⟩, ?_⟩
           refine rl rfl ?_
           refine ops_want (want_t g6 rfl rfl rfl) ?_
           refine ops_call (σa := []) (σr := [(Arr 24 b1 [(.int .i64 A.v), na, (.int .i64 A.r)]), (Arr 24 b2 [(.int .i64 B.v), nb, (.int .i64 B.r)]), (Arr 64 b3 [(Value.int .i64 i), (.bool (decide (b = true)))]), (Arr 24 b4 [(.int .i64 ((rsR A i b).v)), ux, (.int .i64 ((rsR A i b).r))]), (Arr 24 b5 [(.int .i64 ((cpD A B i).v)), uy, (.int .i64 ((cpD A B i).r))])]) (build_c hTr7 (by omega) (by omega) (tbl_len _ _)) rfl rfl (.refl _) (fun r8 V8 sg8 hV8 hp8 => ?_)
           obtain ⟨rfl, u4, rfl, h4⟩ := hp8
           have hA := hA.mono hV8
           have hB := hB.mono hV8
           have hx := hx.mono hV8
           have hy := hy.mono hV8
           have hTr3 := hTr3.mono hV8
           have hTr4 := hTr4.mono hV8
           have hTr5 := hTr5.mono hV8
           have hTr6 := hTr6.mono hV8
           have hTr7 := hTr7.mono hV8
           refine ops_nil ⟨[(Arr 24 b1 [(.int .i64 A.v), na, (.int .i64 A.r)]), (Arr 24 b2 [(.int .i64 B.v), nb, (.int .i64 B.r)]), (Arr 64 b3 [(Value.int .i64 i), (.bool (decide (b = true)))]), (Arr 24 b4 [(.int .i64 ((rsR A i b).v)), ux, (.int .i64 ((rsR A i b).r))]), (Arr 24 b5 [(.int .i64 ((cpD A B i).v)), uy, (.int .i64 ((cpD A B i).r))])], [], hV8, perm_nil _, ⟨[], (.refl _)⟩, ?_⟩
           refine re rfl (qv_call (v := (.bool (decide (cpD A B i = (bldD A.v (tbl A.v (fun e => iteF (gA B e) (gA A (up e i true)) (gA A (up e i false))))))))) (same_c (A := (cpD A B i)) (B := (bldD A.v (tbl A.v (fun e => iteF (gA B e) (gA A (up e i true)) (gA A (up e i false)))))) hy (h4)) rfl rfl) (want_t g6 rfl rfl rfl) ?_
           refine rq rfl (qv_pick_t g6 rfl (rfl : ev _ _ = (.bool (decide (cpD A B i = (bldD A.v (tbl A.v (fun e => iteF (gA B e) (gA A (up e i true)) (gA A (up e i false)))))))))) ?_
           refine rq rfl (qv_as (.bool (decide (cpD A B i = (bldD A.v (tbl A.v (fun e => iteF (gA B e) (gA A (up e i true)) (gA A (up e i false)))))))) rfl) ?_
           refine rnil ?_
           refine vc_ret ?_
           exact rq1 (Value.bool true) (congrArg Value.bool (decide_eq_true (show (cpD A B i = (bldD A.v (tbl A.v (fun e => iteF (gA B e) (gA A (up e i true)) (gA A (up e i false)))))) from by exact hcl))) rfl
          ·
           exact absurd hcp.1 g6
        ·
         refine vc_skip ?_
         refine vc_seq ?_
         refine vc_seq ?_
         refine vc_region ?_
         refine oq (qv_mv (.int .i64 (vE [A, B])) rfl) ?_
         refine oq (qv_neq rfl rfl) ?_
         refine ops_nil ?_
         refine vc_if rfl (fun c6 => ?_) (fun c6 => ?_)
         ·
          refine vc_seq ?_
          have hcp := cp_v (A := A) (B := B) (i := i) (by omega)
          refine vc_region ?_
          refine oq (qv_mv (.int .i64 (cpE A B i)) rfl) ?_
          refine oq (qv_mv (.int .i64 (vE [A, B])) rfl) ?_
          refine oq (qv_eql rfl rfl) ?_
          refine oq (qv_mv (.bool (decide ((cpE A B i) = (vE [A, B])))) rfl) ?_
          by_cases g7 : (cpE A B i) = (vE [A, B])
          ·
           refine og (qv_ldm (vs := [(.int .i64 ((cpD A B i).v)), uy, (.int .i64 ((cpD A B i).r))]) Try.agg24 rfl (inOc (k := 4) rfl) rfl rfl) (want_t g7 rfl rfl rfl) ?_
           refine og (qv_build (out := [(Value.int .i64 0), (Value.slice none 0 0), (Value.int .i64 0)]) Try.build24 [] rfl rfl) (want_t g7 rfl rfl rfl) ?_
           refine og (qv_call (v := (.bool (decide (cpD A B i = dg0)))) (same_c (A := (cpD A B i)) (B := dg0) hy (Fks.nil)) rfl rfl) (want_t g7 rfl rfl rfl) ?_
           refine oq (qv_pick_t g7 rfl (rfl : ev _ _ = (.bool (decide (cpD A B i = dg0))))) ?_
           refine oq (qv_as (.bool (decide (cpD A B i = dg0))) rfl) ?_
           refine ops_nil ?_
           refine vc_ret ?_
           exact rq1 (Value.bool true) (congrArg Value.bool (decide_eq_true (show (cpD A B i = dg0) from by exact hcp.2))) rfl
          ·
           exact absurd hcp.1 g7
         ·
          refine vc_skip ?_
          refine vc_seq ?_
          have hz : vE [A, B] = 0 := by omega
          obtain ⟨hokA, hok2, hok3⟩ := ok2 hz
          have hvz := hokA.1.1
          have hck1 := chk_ok.2 hokA
          have hck2 := chk_ok.2 hok2
          have hcp := cp_0 (A := A) (B := B) (i := i) hz (by omega)
          have hcl := cp_law (A := A) (B := B) (i := i) hz (by omega)
          refine vc_region ?_
          refine oq (qv_ldm (vs := [(.int .i64 A.v), na, (.int .i64 A.r)]) Try.agg24 rfl (inOc (k := 0) rfl) rfl rfl) ?_
          refine ops_call (σa := []) (σr := [(Arr 24 b1 [(.int .i64 A.v), na, (.int .i64 A.r)]), (Arr 24 b2 [(.int .i64 B.v), nb, (.int .i64 B.r)]), (Arr 64 b3 [(Value.int .i64 i), (.bool (decide (b = true)))]), (Arr 24 b4 [(.int .i64 ((rsR A i b).v)), ux, (.int .i64 ((rsR A i b).r))]), (Arr 24 b5 [(.int .i64 ((cpD A B i).v)), uy, (.int .i64 ((cpD A B i).r))])]) (by have h := table_c (A := A) hA (chk_ok.1 (by omega)) (by omega); rw [tbD_v rfl] at h; exact h) rfl rfl (.refl _) (fun r9 V9 sg9 hV9 hp9 => ?_)
          obtain ⟨rfl, hTr9⟩ := hp9
          have hA := hA.mono hV9
          have hB := hB.mono hV9
          have hx := hx.mono hV9
          have hy := hy.mono hV9
          refine oq (qv_as r9 rfl) ?_
          refine ops_nil ?_
          refine vc_seq ?_
          refine vc_region_order (τ := []) [(0, false), (1, false), (2, false), (3, false), (4, false), (5, false), (6, false), (8, false), (9, false), (10, false), (11, false), (12, false), (14, false), (15, false), (16, false), (17, false), (18, false), (7, true), (13, true), (19, true), (20, true), (21, true), (22, false), (23, false), (24, false)] [(Arr 24 b1 [(.int .i64 A.v), na, (.int .i64 A.r)]), (Arr 24 b2 [(.int .i64 B.v), nb, (.int .i64 B.r)]), (Arr 64 b3 [(Value.int .i64 i), (.bool (decide (b = true)))]), (Arr 24 b4 [(.int .i64 ((rsR A i b).v)), ux, (.int .i64 ((rsR A i b).r))]), (Arr 24 b5 [(.int .i64 ((cpD A B i).v)), uy, (.int .i64 ((cpD A B i).r))])] Try.mixed (perm_nil _) (by kernel_rfl) ?_
          refine rq rfl (qv_mv (.int .i64 (cpE A B i)) rfl) ?_
          refine rq rfl (qv_eql rfl rfl) ?_
          refine rq rfl (qv_mv (.bool (decide ((cpE A B i) = 0))) rfl) ?_
          by_cases g8 : (cpE A B i) = 0
          ·
           refine re rfl (qv_ldm (vs := [(.int .i64 ((cpD A B i).v)), uy, (.int .i64 ((cpD A B i).r))]) Try.agg24 rfl (inOc (k := 4) rfl) rfl rfl) (want_t g8 rfl rfl rfl) ?_
           refine re rfl (qv_fa (off := 0) Try.field24_0 rfl) (want_t g8 rfl rfl rfl) ?_
           refine re rfl (qv_ldp (v := (.int .i64 A.v)) Try.plain3 rfl (inOc (k := 0) rfl) rfl) (want_t g8 rfl rfl rfl) ?_
           refine re rfl (qv_ldm (vs := [(.int .i64 B.v), nb, (.int .i64 B.r)]) Try.agg24 rfl (inOc (k := 1) rfl) rfl rfl) (want_t g8 rfl rfl rfl) ?_
           refine re rfl (qv_fa (off := 0) Try.field24_0 rfl) (want_t g8 rfl rfl rfl) ?_
           refine re rfl (qv_ldp (v := (.int .i64 A.v)) Try.plain3 rfl (inOc (k := 0) rfl) rfl) (want_t g8 rfl rfl rfl) ?_
           refine re rfl (qv_mv r9 rfl) (want_t g8 rfl rfl rfl) ?_
           refine re rfl (qv_fa (off := 0) Try.field64_0 rfl) (want_t g8 rfl rfl rfl) ?_
           refine re rfl (qv_ldp (v := (Value.int .i64 i)) Try.plain3 rfl (inOc (k := 2) rfl) rfl) (want_t g8 rfl rfl rfl) ?_
           refine re rfl (qv_fa (off := 0) Try.field24_0 rfl) (want_t g8 rfl rfl rfl) ?_
           refine re rfl (qv_ldp (v := (.int .i64 A.v)) Try.plain3 rfl (inOc (k := 0) rfl) rfl) (want_t g8 rfl rfl rfl) ?_
           refine re rfl (qv_mv r9 rfl) (want_t g8 rfl rfl rfl) ?_
           refine re rfl (qv_fa (off := 0) Try.field64_0 rfl) (want_t g8 rfl rfl rfl) ?_
           refine re rfl (qv_ldp (v := (Value.int .i64 i)) Try.plain3 rfl (inOc (k := 2) rfl) rfl) (want_t g8 rfl rfl rfl) ?_
           refine rl rfl ?_
           refine ops_want (want_t g8 rfl rfl rfl) ?_
           refine ops_call (σa := []) (σr := [(Arr 24 b1 [(.int .i64 A.v), na, (.int .i64 A.r)]), (Arr 24 b2 [(.int .i64 B.v), nb, (.int .i64 B.r)]), (Arr 64 b3 [(Value.int .i64 i), (.bool (decide (b = true)))]), (Arr 24 b4 [(.int .i64 ((rsR A i b).v)), ux, (.int .i64 ((rsR A i b).r))]), (Arr 24 b5 [(.int .i64 ((cpD A B i).v)), uy, (.int .i64 ((cpD A B i).r))])]) (by have h := table_c (A := B) hB (chk_ok.1 (by omega)) (by omega); rw [tbD_v (vars := A.v) (by omega)] at h; exact h) rfl rfl (.refl _) (fun r10 V10 sg10 hV10 hp10 => ?_)
           obtain ⟨rfl, hTr10⟩ := hp10
           have hA := hA.mono hV10
           have hB := hB.mono hV10
           have hx := hx.mono hV10
           have hy := hy.mono hV10
           have hTr9 := hTr9.mono hV10
           refine ops_nil ⟨[(Arr 24 b1 [(.int .i64 A.v), na, (.int .i64 A.r)]), (Arr 24 b2 [(.int .i64 B.v), nb, (.int .i64 B.r)]), (Arr 64 b3 [(Value.int .i64 i), (.bool (decide (b = true)))]), (Arr 24 b4 [(.int .i64 ((rsR A i b).v)), ux, (.int .i64 ((rsR A i b).r))]), (Arr 24 b5 [(.int .i64 ((cpD A B i).v)), uy, (.int .i64 ((cpD A B i).r))])], [], hV10, perm_nil _, ⟨[], (.refl _)⟩, ?_⟩
           refine rl rfl ?_
           refine ops_want (want_t g8 rfl rfl rfl) ?_
           refine ops_call (σa := []) (σr := [(Arr 24 b1 [(.int .i64 A.v), na, (.int .i64 A.r)]), (Arr 24 b2 [(.int .i64 B.v), nb, (.int .i64 B.r)]), (Arr 64 b3 [(Value.int .i64 i), (.bool (decide (b = true)))]), (Arr 24 b4 [(.int .i64 ((rsR A i b).v)), ux, (.int .i64 ((rsR A i b).r))]), (Arr 24 b5 [(.int .i64 ((cpD A B i).v)), uy, (.int .i64 ((cpD A B i).r))])]) (restricted_c (vars := A.v) (i := i) (b := true) (g := gA A) hTr9 (gA_dep hokA) (by omega) (by omega) (by omega) (by omega)) rfl rfl (.refl _) (fun r11 V11 sg11 hV11 hp11 => ?_)
           obtain ⟨rfl, hTr11⟩ := hp11
           have hA := hA.mono hV11
           have hB := hB.mono hV11
           have hx := hx.mono hV11
           have hy := hy.mono hV11
           have hTr9 := hTr9.mono hV11
           have hTr10 := hTr10.mono hV11
           refine ops_nil ⟨[(Arr 24 b1 [(.int .i64 A.v), na, (.int .i64 A.r)]), (Arr 24 b2 [(.int .i64 B.v), nb, (.int .i64 B.r)]), (Arr 64 b3 [(Value.int .i64 i), (.bool (decide (b = true)))]), (Arr 24 b4 [(.int .i64 ((rsR A i b).v)), ux, (.int .i64 ((rsR A i b).r))]), (Arr 24 b5 [(.int .i64 ((cpD A B i).v)), uy, (.int .i64 ((cpD A B i).r))])], [], hV11, perm_nil _, ⟨[], (.refl _)⟩, ?_⟩
           refine rl rfl ?_
           refine ops_want (want_t g8 rfl rfl rfl) ?_
           refine ops_call (σa := []) (σr := [(Arr 24 b1 [(.int .i64 A.v), na, (.int .i64 A.r)]), (Arr 24 b2 [(.int .i64 B.v), nb, (.int .i64 B.r)]), (Arr 64 b3 [(Value.int .i64 i), (.bool (decide (b = true)))]), (Arr 24 b4 [(.int .i64 ((rsR A i b).v)), ux, (.int .i64 ((rsR A i b).r))]), (Arr 24 b5 [(.int .i64 ((cpD A B i).v)), uy, (.int .i64 ((cpD A B i).r))])]) (restricted_c (vars := A.v) (i := i) (b := false) (g := gA A) hTr9 (gA_dep hokA) (by omega) (by omega) (by omega) (by omega)) rfl rfl (.refl _) (fun r12 V12 sg12 hV12 hp12 => ?_)
           obtain ⟨rfl, hTr12⟩ := hp12
           have hA := hA.mono hV12
           have hB := hB.mono hV12
           have hx := hx.mono hV12
           have hy := hy.mono hV12
           have hTr9 := hTr9.mono hV12
           have hTr10 := hTr10.mono hV12
           have hTr11 := hTr11.mono hV12
           refine ops_nil ⟨[(Arr 24 b1 [(.int .i64 A.v), na, (.int .i64 A.r)]), (Arr 24 b2 [(.int .i64 B.v), nb, (.int .i64 B.r)]), (Arr 64 b3 [(Value.int .i64 i), (.bool (decide (b = true)))]), (Arr 24 b4 [(.int .i64 ((rsR A i b).v)), ux, (.int .i64 ((rsR A i b).r))]), (Arr 24 b5 [(.int .i64 ((cpD A B i).v)), uy, (.int .i64 ((cpD A B i).r))])], [], hV12, perm_nil _, ⟨[], (.refl _)⟩, ?_⟩
           refine rl rfl ?_
           refine ops_want (want_t g8 rfl rfl rfl) ?_
           refine ops_call (σa := []) (σr := [(Arr 24 b1 [(.int .i64 A.v), na, (.int .i64 A.r)]), (Arr 24 b2 [(.int .i64 B.v), nb, (.int .i64 B.r)]), (Arr 64 b3 [(Value.int .i64 i), (.bool (decide (b = true)))]), (Arr 24 b4 [(.int .i64 ((rsR A i b).v)), ux, (.int .i64 ((rsR A i b).r))]), (Arr 24 b5 [(.int .i64 ((cpD A B i).v)), uy, (.int .i64 ((cpD A B i).r))])]) (chosen_c hTr10 hTr11 hTr12 (by omega)) rfl rfl (.refl _) (fun r13 V13 sg13 hV13 hp13 => ?_)
           obtain ⟨rfl, hTr13⟩ := hp13
           have hA := hA.mono hV13
           have hB := hB.mono hV13
           have hx := hx.mono hV13
           have hy := hy.mono hV13
           have hTr9 := hTr9.mono hV13
           have hTr10 := hTr10.mono hV13
           have hTr11 := hTr11.mono hV13
           have hTr12 := hTr12.mono hV13
           refine ops_nil ⟨[(Arr 24 b1 [(.int .i64 A.v), na, (.int .i64 A.r)]), (Arr 24 b2 [(.int .i64 B.v), nb, (.int .i64 B.r)]), (Arr 64 b3 [(Value.int .i64 i), (.bool (decide (b = true)))]), (Arr 24 b4 [(.int .i64 ((rsR A i b).v)), ux, (.int .i64 ((rsR A i b).r))]), (Arr 24 b5 [(.int .i64 ((cpD A B i).v)), uy, (.int .i64 ((cpD A B i).r))])], [], hV13, perm_nil _, ⟨[], (.refl _)⟩, ?_⟩
           refine rl rfl ?_
           refine ops_want (want_t g8 rfl rfl rfl) ?_
           refine ops_call (σa := []) (σr := [(Arr 24 b1 [(.int .i64 A.v), na, (.int .i64 A.r)]), (Arr 24 b2 [(.int .i64 B.v), nb, (.int .i64 B.r)]), (Arr 64 b3 [(Value.int .i64 i), (.bool (decide (b = true)))]), (Arr 24 b4 [(.int .i64 ((rsR A i b).v)), ux, (.int .i64 ((rsR A i b).r))]), (Arr 24 b5 [(.int .i64 ((cpD A B i).v)), uy, (.int .i64 ((cpD A B i).r))])]) (build_c hTr13 (by omega) (by omega) (tbl_len _ _)) rfl rfl (.refl _) (fun r14 V14 sg14 hV14 hp14 => ?_)
           obtain ⟨rfl, u4, rfl, h4⟩ := hp14
           have hA := hA.mono hV14
           have hB := hB.mono hV14
           have hx := hx.mono hV14
           have hy := hy.mono hV14
           have hTr9 := hTr9.mono hV14
           have hTr10 := hTr10.mono hV14
           have hTr11 := hTr11.mono hV14
           have hTr12 := hTr12.mono hV14
           have hTr13 := hTr13.mono hV14
           refine ops_nil ⟨[(Arr 24 b1 [(.int .i64 A.v), na, (.int .i64 A.r)]), (Arr 24 b2 [(.int .i64 B.v), nb, (.int .i64 B.r)]), (Arr 64 b3 [(Value.int .i64 i), (.bool (decide (b = true)))]), (Arr 24 b4 [(.int .i64 ((rsR A i b).v)), ux, (.int .i64 ((rsR A i b).r))]), (Arr 24 b5 [(.int .i64 ((cpD A B i).v)), uy, (.int .i64 ((cpD A B i).r))])], [], hV14, perm_nil _, ⟨[], (.refl _)⟩, ?_⟩
           refine re rfl (qv_call (v := (.bool (decide (cpD A B i = (bldD A.v (tbl A.v (fun e => iteF (gA B e) (gA A (up e i true)) (gA A (up e i false))))))))) (same_c (A := (cpD A B i)) (B := (bldD A.v (tbl A.v (fun e => iteF (gA B e) (gA A (up e i true)) (gA A (up e i false)))))) hy (h4)) rfl rfl) (want_t g8 rfl rfl rfl) ?_
           refine rq rfl (qv_pick_t g8 rfl (rfl : ev _ _ = (.bool (decide (cpD A B i = (bldD A.v (tbl A.v (fun e => iteF (gA B e) (gA A (up e i true)) (gA A (up e i false)))))))))) ?_
           refine rq rfl (qv_as (.bool (decide (cpD A B i = (bldD A.v (tbl A.v (fun e => iteF (gA B e) (gA A (up e i true)) (gA A (up e i false)))))))) rfl) ?_
           refine rnil ?_
           refine vc_ret ?_
           exact rq1 (Value.bool true) (congrArg Value.bool (decide_eq_true (show (cpD A B i = (bldD A.v (tbl A.v (fun e => iteF (gA B e) (gA A (up e i true)) (gA A (up e i false)))))) from by exact hcl))) rfl
          ·
           exact absurd hcp.1 g8
       ·
        refine os (want_tn g4 rfl rfl rfl) ?_
        refine os (want_tn g4 rfl rfl rfl) ?_
        refine oq (qv_pick_f g4 rfl (rfl : ev _ _ = (Value.bool false))) ?_
        refine ops_nil ?_
        refine vc_ff rfl ?_
        refine vc_skip ?_
        refine vc_seq ?_
        refine vc_seq ?_
        refine vc_region ?_
        refine oq (qv_mv (.int .i64 (vE [A, B])) rfl) ?_
        refine oq (qv_neq rfl rfl) ?_
        refine ops_nil ?_
        refine vc_if rfl (fun c7 => ?_) (fun c7 => ?_)
        ·
         refine vc_seq ?_
         have hcp := cp_v (A := A) (B := B) (i := i) (by omega)
         refine vc_region ?_
         refine oq (qv_mv (.int .i64 (cpE A B i)) rfl) ?_
         refine oq (qv_mv (.int .i64 (vE [A, B])) rfl) ?_
         refine oq (qv_eql rfl rfl) ?_
         refine oq (qv_mv (.bool (decide ((cpE A B i) = (vE [A, B])))) rfl) ?_
         by_cases g9 : (cpE A B i) = (vE [A, B])
         ·
          refine og (qv_ldm (vs := [(.int .i64 ((cpD A B i).v)), uy, (.int .i64 ((cpD A B i).r))]) Try.agg24 rfl (inOc (k := 4) rfl) rfl rfl) (want_t g9 rfl rfl rfl) ?_
          refine og (qv_build (out := [(Value.int .i64 0), (Value.slice none 0 0), (Value.int .i64 0)]) Try.build24 [] rfl rfl) (want_t g9 rfl rfl rfl) ?_
          refine og (qv_call (v := (.bool (decide (cpD A B i = dg0)))) (same_c (A := (cpD A B i)) (B := dg0) hy (Fks.nil)) rfl rfl) (want_t g9 rfl rfl rfl) ?_
          refine oq (qv_pick_t g9 rfl (rfl : ev _ _ = (.bool (decide (cpD A B i = dg0))))) ?_
          refine oq (qv_as (.bool (decide (cpD A B i = dg0))) rfl) ?_
          refine ops_nil ?_
          refine vc_ret ?_
          exact rq1 (Value.bool true) (congrArg Value.bool (decide_eq_true (show (cpD A B i = dg0) from by exact hcp.2))) rfl
         ·
          exact absurd hcp.1 g9
        ·
         refine vc_skip ?_
         refine vc_seq ?_
         have hz : vE [A, B] = 0 := by omega
         obtain ⟨hokA, hok2, hok3⟩ := ok2 hz
         have hvz := hokA.1.1
         have hck1 := chk_ok.2 hokA
         have hck2 := chk_ok.2 hok2
         have hcp := cp_0 (A := A) (B := B) (i := i) hz (by omega)
         have hcl := cp_law (A := A) (B := B) (i := i) hz (by omega)
         refine vc_region ?_
         refine oq (qv_ldm (vs := [(.int .i64 A.v), na, (.int .i64 A.r)]) Try.agg24 rfl (inOc (k := 0) rfl) rfl rfl) ?_
         refine ops_call (σa := []) (σr := [(Arr 24 b1 [(.int .i64 A.v), na, (.int .i64 A.r)]), (Arr 24 b2 [(.int .i64 B.v), nb, (.int .i64 B.r)]), (Arr 64 b3 [(Value.int .i64 i), (.bool (decide (b = true)))]), (Arr 24 b4 [(.int .i64 ((rsR A i b).v)), ux, (.int .i64 ((rsR A i b).r))]), (Arr 24 b5 [(.int .i64 ((cpD A B i).v)), uy, (.int .i64 ((cpD A B i).r))])]) (by have h := table_c (A := A) hA (chk_ok.1 (by omega)) (by omega); rw [tbD_v rfl] at h; exact h) rfl rfl (.refl _) (fun r15 V15 sg15 hV15 hp15 => ?_)
         obtain ⟨rfl, hTr15⟩ := hp15
         have hA := hA.mono hV15
         have hB := hB.mono hV15
         have hx := hx.mono hV15
         have hy := hy.mono hV15
         refine oq (qv_as r15 rfl) ?_
         refine ops_nil ?_
         refine vc_seq ?_
         refine vc_region_order (τ := []) [(0, false), (1, false), (2, false), (3, false), (4, false), (5, false), (6, false), (8, false), (9, false), (10, false), (11, false), (12, false), (14, false), (15, false), (16, false), (17, false), (18, false), (7, true), (13, true), (19, true), (20, true), (21, true), (22, false), (23, false), (24, false)] [(Arr 24 b1 [(.int .i64 A.v), na, (.int .i64 A.r)]), (Arr 24 b2 [(.int .i64 B.v), nb, (.int .i64 B.r)]), (Arr 64 b3 [(Value.int .i64 i), (.bool (decide (b = true)))]), (Arr 24 b4 [(.int .i64 ((rsR A i b).v)), ux, (.int .i64 ((rsR A i b).r))]), (Arr 24 b5 [(.int .i64 ((cpD A B i).v)), uy, (.int .i64 ((cpD A B i).r))])] Try.mixed (perm_nil _) (by kernel_rfl) ?_
         refine rq rfl (qv_mv (.int .i64 (cpE A B i)) rfl) ?_
         refine rq rfl (qv_eql rfl rfl) ?_
         refine rq rfl (qv_mv (.bool (decide ((cpE A B i) = 0))) rfl) ?_
         by_cases g10 : (cpE A B i) = 0
         ·
          refine re rfl (qv_ldm (vs := [(.int .i64 ((cpD A B i).v)), uy, (.int .i64 ((cpD A B i).r))]) Try.agg24 rfl (inOc (k := 4) rfl) rfl rfl) (want_t g10 rfl rfl rfl) ?_
          refine re rfl (qv_fa (off := 0) Try.field24_0 rfl) (want_t g10 rfl rfl rfl) ?_
          refine re rfl (qv_ldp (v := (.int .i64 A.v)) Try.plain3 rfl (inOc (k := 0) rfl) rfl) (want_t g10 rfl rfl rfl) ?_
          refine re rfl (qv_ldm (vs := [(.int .i64 B.v), nb, (.int .i64 B.r)]) Try.agg24 rfl (inOc (k := 1) rfl) rfl rfl) (want_t g10 rfl rfl rfl) ?_
          refine re rfl (qv_fa (off := 0) Try.field24_0 rfl) (want_t g10 rfl rfl rfl) ?_
          refine re rfl (qv_ldp (v := (.int .i64 A.v)) Try.plain3 rfl (inOc (k := 0) rfl) rfl) (want_t g10 rfl rfl rfl) ?_
          refine re rfl (qv_mv r15 rfl) (want_t g10 rfl rfl rfl) ?_
          refine re rfl (qv_fa (off := 0) Try.field64_0 rfl) (want_t g10 rfl rfl rfl) ?_
          refine re rfl (qv_ldp (v := (Value.int .i64 i)) Try.plain3 rfl (inOc (k := 2) rfl) rfl) (want_t g10 rfl rfl rfl) ?_
          refine re rfl (qv_fa (off := 0) Try.field24_0 rfl) (want_t g10 rfl rfl rfl) ?_
          refine re rfl (qv_ldp (v := (.int .i64 A.v)) Try.plain3 rfl (inOc (k := 0) rfl) rfl) (want_t g10 rfl rfl rfl) ?_
          refine re rfl (qv_mv r15 rfl) (want_t g10 rfl rfl rfl) ?_
          refine re rfl (qv_fa (off := 0) Try.field64_0 rfl) (want_t g10 rfl rfl rfl) ?_
          refine re rfl (qv_ldp (v := (Value.int .i64 i)) Try.plain3 rfl (inOc (k := 2) rfl) rfl) (want_t g10 rfl rfl rfl) ?_
          refine rl rfl ?_
          refine ops_want (want_t g10 rfl rfl rfl) ?_
          refine ops_call (σa := []) (σr := [(Arr 24 b1 [(.int .i64 A.v), na, (.int .i64 A.r)]), (Arr 24 b2 [(.int .i64 B.v), nb, (.int .i64 B.r)]), (Arr 64 b3 [(Value.int .i64 i), (.bool (decide (b = true)))]), (Arr 24 b4 [(.int .i64 ((rsR A i b).v)), ux, (.int .i64 ((rsR A i b).r))]), (Arr 24 b5 [(.int .i64 ((cpD A B i).v)), uy, (.int .i64 ((cpD A B i).r))])]) (by have h := table_c (A := B) hB (chk_ok.1 (by omega)) (by omega); rw [tbD_v (vars := A.v) (by omega)] at h; exact h) rfl rfl (.refl _) (fun r16 V16 sg16 hV16 hp16 => ?_)
          obtain ⟨rfl, hTr16⟩ := hp16
          have hA := hA.mono hV16
          have hB := hB.mono hV16
          have hx := hx.mono hV16
          have hy := hy.mono hV16
          have hTr15 := hTr15.mono hV16
          refine ops_nil ⟨[(Arr 24 b1 [(.int .i64 A.v), na, (.int .i64 A.r)]), (Arr 24 b2 [(.int .i64 B.v), nb, (.int .i64 B.r)]), (Arr 64 b3 [(Value.int .i64 i), (.bool (decide (b = true)))]), (Arr 24 b4 [(.int .i64 ((rsR A i b).v)), ux, (.int .i64 ((rsR A i b).r))]), (Arr 24 b5 [(.int .i64 ((cpD A B i).v)), uy, (.int .i64 ((cpD A B i).r))])], [], hV16, perm_nil _, ⟨[], (.refl _)⟩, ?_⟩
          refine rl rfl ?_
          refine ops_want (want_t g10 rfl rfl rfl) ?_
          refine ops_call (σa := []) (σr := [(Arr 24 b1 [(.int .i64 A.v), na, (.int .i64 A.r)]), (Arr 24 b2 [(.int .i64 B.v), nb, (.int .i64 B.r)]), (Arr 64 b3 [(Value.int .i64 i), (.bool (decide (b = true)))]), (Arr 24 b4 [(.int .i64 ((rsR A i b).v)), ux, (.int .i64 ((rsR A i b).r))]), (Arr 24 b5 [(.int .i64 ((cpD A B i).v)), uy, (.int .i64 ((cpD A B i).r))])]) (restricted_c (vars := A.v) (i := i) (b := true) (g := gA A) hTr15 (gA_dep hokA) (by omega) (by omega) (by omega) (by omega)) rfl rfl (.refl _) (fun r17 V17 sg17 hV17 hp17 => ?_)
          obtain ⟨rfl, hTr17⟩ := hp17
          have hA := hA.mono hV17
          have hB := hB.mono hV17
          have hx := hx.mono hV17
          have hy := hy.mono hV17
          have hTr15 := hTr15.mono hV17
          have hTr16 := hTr16.mono hV17
          refine ops_nil ⟨[(Arr 24 b1 [(.int .i64 A.v), na, (.int .i64 A.r)]), (Arr 24 b2 [(.int .i64 B.v), nb, (.int .i64 B.r)]), (Arr 64 b3 [(Value.int .i64 i), (.bool (decide (b = true)))]), (Arr 24 b4 [(.int .i64 ((rsR A i b).v)), ux, (.int .i64 ((rsR A i b).r))]), (Arr 24 b5 [(.int .i64 ((cpD A B i).v)), uy, (.int .i64 ((cpD A B i).r))])], [], hV17, perm_nil _, ⟨[], (.refl _)⟩, ?_⟩
          refine rl rfl ?_
          refine ops_want (want_t g10 rfl rfl rfl) ?_
          refine ops_call (σa := []) (σr := [(Arr 24 b1 [(.int .i64 A.v), na, (.int .i64 A.r)]), (Arr 24 b2 [(.int .i64 B.v), nb, (.int .i64 B.r)]), (Arr 64 b3 [(Value.int .i64 i), (.bool (decide (b = true)))]), (Arr 24 b4 [(.int .i64 ((rsR A i b).v)), ux, (.int .i64 ((rsR A i b).r))]), (Arr 24 b5 [(.int .i64 ((cpD A B i).v)), uy, (.int .i64 ((cpD A B i).r))])]) (restricted_c (vars := A.v) (i := i) (b := false) (g := gA A) hTr15 (gA_dep hokA) (by omega) (by omega) (by omega) (by omega)) rfl rfl (.refl _) (fun r18 V18 sg18 hV18 hp18 => ?_)
          obtain ⟨rfl, hTr18⟩ := hp18
          have hA := hA.mono hV18
          have hB := hB.mono hV18
          have hx := hx.mono hV18
          have hy := hy.mono hV18
          have hTr15 := hTr15.mono hV18
          have hTr16 := hTr16.mono hV18
          have hTr17 := hTr17.mono hV18
          refine ops_nil ⟨[(Arr 24 b1 [(.int .i64 A.v), na, (.int .i64 A.r)]), (Arr 24 b2 [(.int .i64 B.v), nb, (.int .i64 B.r)]), (Arr 64 b3 [(Value.int .i64 i), (.bool (decide (b = true)))]), (Arr 24 b4 [(.int .i64 ((rsR A i b).v)), ux, (.int .i64 ((rsR A i b).r))]), (Arr 24 b5 [(.int .i64 ((cpD A B i).v)), uy, (.int .i64 ((cpD A B i).r))])], [], hV18, perm_nil _, ⟨[], (.refl _)⟩, ?_⟩
          refine rl rfl ?_
          refine ops_want (want_t g10 rfl rfl rfl) ?_
          refine ops_call (σa := []) (σr := [(Arr 24 b1 [(.int .i64 A.v), na, (.int .i64 A.r)]), (Arr 24 b2 [(.int .i64 B.v), nb, (.int .i64 B.r)]), (Arr 64 b3 [(Value.int .i64 i), (.bool (decide (b = true)))]), (Arr 24 b4 [(.int .i64 ((rsR A i b).v)), ux, (.int .i64 ((rsR A i b).r))]), (Arr 24 b5 [(.int .i64 ((cpD A B i).v)), uy, (.int .i64 ((cpD A B i).r))])]) (chosen_c hTr16 hTr17 hTr18 (by omega)) rfl rfl (.refl _) (fun r19 V19 sg19 hV19 hp19 => ?_)
          obtain ⟨rfl, hTr19⟩ := hp19
          have hA := hA.mono hV19
          have hB := hB.mono hV19
          have hx := hx.mono hV19
          have hy := hy.mono hV19
          have hTr15 := hTr15.mono hV19
          have hTr16 := hTr16.mono hV19
          have hTr17 := hTr17.mono hV19
          have hTr18 := hTr18.mono hV19
          refine ops_nil ⟨[(Arr 24 b1 [(.int .i64 A.v), na, (.int .i64 A.r)]), (Arr 24 b2 [(.int .i64 B.v), nb, (.int .i64 B.r)]), (Arr 64 b3 [(Value.int .i64 i), (.bool (decide (b = true)))]), (Arr 24 b4 [(.int .i64 ((rsR A i b).v)), ux, (.int .i64 ((rsR A i b).r))]), (Arr 24 b5 [(.int .i64 ((cpD A B i).v)), uy, (.int .i64 ((cpD A B i).r))])], [], hV19, perm_nil _, ⟨[], (.refl _)⟩, ?_⟩
          refine rl rfl ?_
          refine ops_want (want_t g10 rfl rfl rfl) ?_
          refine ops_call (σa := []) (σr := [(Arr 24 b1 [(.int .i64 A.v), na, (.int .i64 A.r)]), (Arr 24 b2 [(.int .i64 B.v), nb, (.int .i64 B.r)]), (Arr 64 b3 [(Value.int .i64 i), (.bool (decide (b = true)))]), (Arr 24 b4 [(.int .i64 ((rsR A i b).v)), ux, (.int .i64 ((rsR A i b).r))]), (Arr 24 b5 [(.int .i64 ((cpD A B i).v)), uy, (.int .i64 ((cpD A B i).r))])]) (build_c hTr19 (by omega) (by omega) (tbl_len _ _)) rfl rfl (.refl _) (fun r20 V20 sg20 hV20 hp20 => ?_)
          obtain ⟨rfl, u4, rfl, h4⟩ := hp20
          have hA := hA.mono hV20
          have hB := hB.mono hV20
          have hx := hx.mono hV20
          have hy := hy.mono hV20
          have hTr15 := hTr15.mono hV20
          have hTr16 := hTr16.mono hV20
          have hTr17 := hTr17.mono hV20
          have hTr18 := hTr18.mono hV20
          have hTr19 := hTr19.mono hV20
          refine ops_nil ⟨[(Arr 24 b1 [(.int .i64 A.v), na, (.int .i64 A.r)]), (Arr 24 b2 [(.int .i64 B.v), nb, (.int .i64 B.r)]), (Arr 64 b3 [(Value.int .i64 i), (.bool (decide (b = true)))]), (Arr 24 b4 [(.int .i64 ((rsR A i b).v)), ux, (.int .i64 ((rsR A i b).r))]), (Arr 24 b5 [(.int .i64 ((cpD A B i).v)), uy, (.int .i64 ((cpD A B i).r))])], [], hV20, perm_nil _, ⟨[], (.refl _)⟩, ?_⟩
          refine re rfl (qv_call (v := (.bool (decide (cpD A B i = (bldD A.v (tbl A.v (fun e => iteF (gA B e) (gA A (up e i true)) (gA A (up e i false))))))))) (same_c (A := (cpD A B i)) (B := (bldD A.v (tbl A.v (fun e => iteF (gA B e) (gA A (up e i true)) (gA A (up e i false)))))) hy (h4)) rfl rfl) (want_t g10 rfl rfl rfl) ?_
          refine rq rfl (qv_pick_t g10 rfl (rfl : ev _ _ = (.bool (decide (cpD A B i = (bldD A.v (tbl A.v (fun e => iteF (gA B e) (gA A (up e i true)) (gA A (up e i false)))))))))) ?_
          refine rq rfl (qv_as (.bool (decide (cpD A B i = (bldD A.v (tbl A.v (fun e => iteF (gA B e) (gA A (up e i true)) (gA A (up e i false)))))))) rfl) ?_
          refine rnil ?_
          refine vc_ret ?_
          exact rq1 (Value.bool true) (congrArg Value.bool (decide_eq_true (show (cpD A B i = (bldD A.v (tbl A.v (fun e => iteF (gA B e) (gA A (up e i true)) (gA A (up e i false)))))) from by exact hcl))) rfl
         ·
          exact absurd hcp.1 g10
    ·
     refine vc_seq ?_
     refine vc_region ?_
     refine oq (qv_mv (.bool (decide (i < A.v))) rfl) ?_
     refine oq (qv_not rfl) ?_
     refine oq (qv_as (.bool (decide (¬ (i < A.v)))) rfl) ?_
     refine ops_nil ?_
     refine vc_if rfl (fun c8 => ?_) (fun c8 => ?_)
     ·
      refine vc_seq ?_
      have hz1 := vE1_0 (A := A) (by omega)
      have hr := rsE_3 (A := A) (i := i) (b := b) hz1 (by omega)
      refine vc_region ?_
      refine oq (qv_mv (.int .i64 (rsE A i)) rfl) ?_
      refine oq (qv_neq rfl rfl) ?_
      refine oq (qv_mv (.bool (decide ((rsE A i) ≠ 3))) rfl) ?_
      by_cases g11 : (rsE A i) ≠ 3
      ·
       exact absurd hr.1 g11
      ·
       refine og (qv_ldm (vs := [(.int .i64 ((rsR A i b).v)), ux, (.int .i64 ((rsR A i b).r))]) Try.agg24 rfl (inOc (k := 3) rfl) rfl rfl) (want_f g11 rfl rfl rfl) ?_
       refine og (qv_build (out := [(Value.int .i64 0), (Value.slice none 0 0), (Value.int .i64 0)]) Try.build24 [] rfl rfl) (want_f g11 rfl rfl rfl) ?_
       refine og (qv_call (v := (.bool (decide (rsR A i b = dg0)))) (same_c (A := (rsR A i b)) (B := dg0) hx (Fks.nil)) rfl rfl) (want_f g11 rfl rfl rfl) ?_
       refine og (qv_not rfl) (want_f g11 rfl rfl rfl) ?_
       refine oq (qv_pick_f g11 rfl (rfl : ev _ _ = (.bool (decide (¬ (rsR A i b = dg0)))))) ?_
       refine ops_nil ?_
       refine vc_if rfl (fun c9 => ?_) (fun c9 => ?_)
       ·
        exact absurd hr.2 c9
       ·
        refine vc_skip ?_
        refine vc_seq ?_
        refine vc_region ?_
        refine oq (qv_ldm (vs := [(.int .i64 A.v), na, (.int .i64 A.r)]) Try.agg24 rfl (inOc (k := 0) rfl) rfl rfl) ?_
        refine oq (qv_ldm (vs := [(.int .i64 B.v), nb, (.int .i64 B.r)]) Try.agg24 rfl (inOc (k := 1) rfl) rfl rfl) ?_
        refine oq (qv_call (v := (.int .i64 (vE [A, B]))) (fits_c hA hB) rfl rfl) ?_
        refine oq (qv_as (.int .i64 (vE [A, B])) rfl) ?_
        refine ops_nil ?_
        refine vc_seq ?_
        refine vc_seq ?_
        refine vc_region ?_
        refine oq (qv_mv (.int .i64 (vE [A, B])) rfl) ?_
        refine oq (qv_eql rfl rfl) ?_
        refine oq (qv_mv (.bool (decide ((vE [A, B]) = 0))) rfl) ?_
        by_cases g12 : (vE [A, B]) = 0
        ·
         refine og (qv_mv (.bool (decide (i < A.v))) rfl) (want_t g12 rfl rfl rfl) ?_
         refine og (qv_not rfl) (want_t g12 rfl rfl rfl) ?_
         refine oq (qv_pick_t g12 rfl (rfl : ev _ _ = (.bool (decide (¬ (i < A.v)))))) ?_
         refine ops_nil ?_
         refine vc_if_t rfl c8 ?_
         refine vc_region ?_
         refine oq (qv_as (Value.int .i64 3) rfl) ?_
         refine ops_nil ?_
         refine vc_seq ?_
         refine vc_seq ?_
         refine vc_region ?_
         refine oq (qv_mv (Value.int .i64 3) rfl) ?_
         refine oq (qv_neq rfl rfl) ?_
         refine ops_nil ?_
         refine vc_if rfl (fun c10 => ?_) (fun c10 => ?_)
         ·
          refine vc_seq ?_
          have hcp := cp_3 (A := A) (B := B) (i := i) (by omega) (by omega)
          refine vc_region ?_
          refine oq (qv_mv (.int .i64 (cpE A B i)) rfl) ?_
          refine oq (qv_mv (Value.int .i64 3) rfl) ?_
          refine oq (qv_eql rfl rfl) ?_
          refine oq (qv_mv (.bool (decide ((cpE A B i) = 3))) rfl) ?_
          by_cases g13 : (cpE A B i) = 3
          ·
           refine og (qv_ldm (vs := [(.int .i64 ((cpD A B i).v)), uy, (.int .i64 ((cpD A B i).r))]) Try.agg24 rfl (inOc (k := 4) rfl) rfl rfl) (want_t g13 rfl rfl rfl) ?_
           refine og (qv_build (out := [(Value.int .i64 0), (Value.slice none 0 0), (Value.int .i64 0)]) Try.build24 [] rfl rfl) (want_t g13 rfl rfl rfl) ?_
           refine og (qv_call (v := (.bool (decide (cpD A B i = dg0)))) (same_c (A := (cpD A B i)) (B := dg0) hy (Fks.nil)) rfl rfl) (want_t g13 rfl rfl rfl) ?_
           refine oq (qv_pick_t g13 rfl (rfl : ev _ _ = (.bool (decide (cpD A B i = dg0))))) ?_
           refine oq (qv_as (.bool (decide (cpD A B i = dg0))) rfl) ?_
           refine ops_nil ?_
           refine vc_ret ?_
           exact rq1 (Value.bool true) (congrArg Value.bool (decide_eq_true (show (cpD A B i = dg0) from by exact hcp.2))) rfl
          ·
           exact absurd hcp.1 g13
         ·
          refine vc_skip ?_
          refine vc_seq ?_
          have hz : vE [A, B] = 0 := by omega
          obtain ⟨hokA, hok2, hok3⟩ := ok2 hz
          have hvz := hokA.1.1
          have hck1 := chk_ok.2 hokA
          have hck2 := chk_ok.2 hok2
          have hcp := cp_0 (A := A) (B := B) (i := i) hz (by omega)
          have hcl := cp_law (A := A) (B := B) (i := i) hz (by omega)
          refine vc_region ?_
          refine oq (qv_ldm (vs := [(.int .i64 A.v), na, (.int .i64 A.r)]) Try.agg24 rfl (inOc (k := 0) rfl) rfl rfl) ?_
          refine ops_call (σa := []) (σr := [(Arr 24 b1 [(.int .i64 A.v), na, (.int .i64 A.r)]), (Arr 24 b2 [(.int .i64 B.v), nb, (.int .i64 B.r)]), (Arr 64 b3 [(Value.int .i64 i), (.bool (decide (b = true)))]), (Arr 24 b4 [(.int .i64 ((rsR A i b).v)), ux, (.int .i64 ((rsR A i b).r))]), (Arr 24 b5 [(.int .i64 ((cpD A B i).v)), uy, (.int .i64 ((cpD A B i).r))])]) (by have h := table_c (A := A) hA (chk_ok.1 (by omega)) (by omega); rw [tbD_v rfl] at h; exact h) rfl rfl (.refl _) (fun r21 V21 sg21 hV21 hp21 => ?_)
          obtain ⟨rfl, hTr21⟩ := hp21
          have hA := hA.mono hV21
          have hB := hB.mono hV21
          have hx := hx.mono hV21
          have hy := hy.mono hV21
          refine oq (qv_as r21 rfl) ?_
          refine ops_nil ?_
          refine vc_seq ?_
          refine vc_region_order (τ := []) [(0, false), (1, false), (2, false), (3, false), (4, false), (5, false), (6, false), (8, false), (9, false), (10, false), (11, false), (12, false), (14, false), (15, false), (16, false), (17, false), (18, false), (7, true), (13, true), (19, true), (20, true), (21, true), (22, false), (23, false), (24, false)] [(Arr 24 b1 [(.int .i64 A.v), na, (.int .i64 A.r)]), (Arr 24 b2 [(.int .i64 B.v), nb, (.int .i64 B.r)]), (Arr 64 b3 [(Value.int .i64 i), (.bool (decide (b = true)))]), (Arr 24 b4 [(.int .i64 ((rsR A i b).v)), ux, (.int .i64 ((rsR A i b).r))]), (Arr 24 b5 [(.int .i64 ((cpD A B i).v)), uy, (.int .i64 ((cpD A B i).r))])] Try.mixed (perm_nil _) (by kernel_rfl) ?_
          refine rq rfl (qv_mv (.int .i64 (cpE A B i)) rfl) ?_
          refine rq rfl (qv_eql rfl rfl) ?_
          refine rq rfl (qv_mv (.bool (decide ((cpE A B i) = 0))) rfl) ?_
          by_cases g14 : (cpE A B i) = 0
          ·
           refine re rfl (qv_ldm (vs := [(.int .i64 ((cpD A B i).v)), uy, (.int .i64 ((cpD A B i).r))]) Try.agg24 rfl (inOc (k := 4) rfl) rfl rfl) (want_t g14 rfl rfl rfl) ?_
           refine re rfl (qv_fa (off := 0) Try.field24_0 rfl) (want_t g14 rfl rfl rfl) ?_
           refine re rfl (qv_ldp (v := (.int .i64 A.v)) Try.plain3 rfl (inOc (k := 0) rfl) rfl) (want_t g14 rfl rfl rfl) ?_
           refine re rfl (qv_ldm (vs := [(.int .i64 B.v), nb, (.int .i64 B.r)]) Try.agg24 rfl (inOc (k := 1) rfl) rfl rfl) (want_t g14 rfl rfl rfl) ?_
           refine re rfl (qv_fa (off := 0) Try.field24_0 rfl) (want_t g14 rfl rfl rfl) ?_
           refine re rfl (qv_ldp (v := (.int .i64 A.v)) Try.plain3 rfl (inOc (k := 0) rfl) rfl) (want_t g14 rfl rfl rfl) ?_
           refine re rfl (qv_mv r21 rfl) (want_t g14 rfl rfl rfl) ?_
           refine re rfl (qv_fa (off := 0) Try.field64_0 rfl) (want_t g14 rfl rfl rfl) ?_
           refine re rfl (qv_ldp (v := (Value.int .i64 i)) Try.plain3 rfl (inOc (k := 2) rfl) rfl) (want_t g14 rfl rfl rfl) ?_
           refine re rfl (qv_fa (off := 0) Try.field24_0 rfl) (want_t g14 rfl rfl rfl) ?_
           refine re rfl (qv_ldp (v := (.int .i64 A.v)) Try.plain3 rfl (inOc (k := 0) rfl) rfl) (want_t g14 rfl rfl rfl) ?_
           refine re rfl (qv_mv r21 rfl) (want_t g14 rfl rfl rfl) ?_
           refine re rfl (qv_fa (off := 0) Try.field64_0 rfl) (want_t g14 rfl rfl rfl) ?_
           refine re rfl (qv_ldp (v := (Value.int .i64 i)) Try.plain3 rfl (inOc (k := 2) rfl) rfl) (want_t g14 rfl rfl rfl) ?_
           refine rl rfl ?_
           refine ops_want (want_t g14 rfl rfl rfl) ?_
           refine ops_call (σa := []) (σr := [(Arr 24 b1 [(.int .i64 A.v), na, (.int .i64 A.r)]), (Arr 24 b2 [(.int .i64 B.v), nb, (.int .i64 B.r)]), (Arr 64 b3 [(Value.int .i64 i), (.bool (decide (b = true)))]), (Arr 24 b4 [(.int .i64 ((rsR A i b).v)), ux, (.int .i64 ((rsR A i b).r))]), (Arr 24 b5 [(.int .i64 ((cpD A B i).v)), uy, (.int .i64 ((cpD A B i).r))])]) (by have h := table_c (A := B) hB (chk_ok.1 (by omega)) (by omega); rw [tbD_v (vars := A.v) (by omega)] at h; exact h) rfl rfl (.refl _) (fun r22 V22 sg22 hV22 hp22 => ?_)
           obtain ⟨rfl, hTr22⟩ := hp22
           have hA := hA.mono hV22
           have hB := hB.mono hV22
           have hx := hx.mono hV22
           have hy := hy.mono hV22
           have hTr21 := hTr21.mono hV22
           refine ops_nil ⟨[(Arr 24 b1 [(.int .i64 A.v), na, (.int .i64 A.r)]), (Arr 24 b2 [(.int .i64 B.v), nb, (.int .i64 B.r)]), (Arr 64 b3 [(Value.int .i64 i), (.bool (decide (b = true)))]), (Arr 24 b4 [(.int .i64 ((rsR A i b).v)), ux, (.int .i64 ((rsR A i b).r))]), (Arr 24 b5 [(.int .i64 ((cpD A B i).v)), uy, (.int .i64 ((cpD A B i).r))])], [], hV22, perm_nil _, ⟨[], (.refl _)⟩, ?_⟩
           refine rl rfl ?_
           refine ops_want (want_t g14 rfl rfl rfl) ?_
           refine ops_call (σa := []) (σr := [(Arr 24 b1 [(.int .i64 A.v), na, (.int .i64 A.r)]), (Arr 24 b2 [(.int .i64 B.v), nb, (.int .i64 B.r)]), (Arr 64 b3 [(Value.int .i64 i), (.bool (decide (b = true)))]), (Arr 24 b4 [(.int .i64 ((rsR A i b).v)), ux, (.int .i64 ((rsR A i b).r))]), (Arr 24 b5 [(.int .i64 ((cpD A B i).v)), uy, (.int .i64 ((cpD A B i).r))])]) (restricted_c (vars := A.v) (i := i) (b := true) (g := gA A) hTr21 (gA_dep hokA) (by omega) (by omega) (by omega) (by omega)) rfl rfl (.refl _) (fun r23 V23 sg23 hV23 hp23 => ?_)
           obtain ⟨rfl, hTr23⟩ := hp23
           have hA := hA.mono hV23
           have hB := hB.mono hV23
           have hx := hx.mono hV23
           have hy := hy.mono hV23
           have hTr21 := hTr21.mono hV23
           have hTr22 := hTr22.mono hV23
           refine ops_nil ⟨[(Arr 24 b1 [(.int .i64 A.v), na, (.int .i64 A.r)]), (Arr 24 b2 [(.int .i64 B.v), nb, (.int .i64 B.r)]), (Arr 64 b3 [(Value.int .i64 i), (.bool (decide (b = true)))]), (Arr 24 b4 [(.int .i64 ((rsR A i b).v)), ux, (.int .i64 ((rsR A i b).r))]), (Arr 24 b5 [(.int .i64 ((cpD A B i).v)), uy, (.int .i64 ((cpD A B i).r))])], [], hV23, perm_nil _, ⟨[], (.refl _)⟩, ?_⟩
           refine rl rfl ?_
           refine ops_want (want_t g14 rfl rfl rfl) ?_
           refine ops_call (σa := []) (σr := [(Arr 24 b1 [(.int .i64 A.v), na, (.int .i64 A.r)]), (Arr 24 b2 [(.int .i64 B.v), nb, (.int .i64 B.r)]), (Arr 64 b3 [(Value.int .i64 i), (.bool (decide (b = true)))]), (Arr 24 b4 [(.int .i64 ((rsR A i b).v)), ux, (.int .i64 ((rsR A i b).r))]), (Arr 24 b5 [(.int .i64 ((cpD A B i).v)), uy, (.int .i64 ((cpD A B i).r))])]) (restricted_c (vars := A.v) (i := i) (b := false) (g := gA A) hTr21 (gA_dep hokA) (by omega) (by omega) (by omega) (by omega)) rfl rfl (.refl _) (fun r24 V24 sg24 hV24 hp24 => ?_)
           obtain ⟨rfl, hTr24⟩ := hp24
           have hA := hA.mono hV24
           have hB := hB.mono hV24
           have hx := hx.mono hV24
           have hy := hy.mono hV24
           have hTr21 := hTr21.mono hV24
           have hTr22 := hTr22.mono hV24
           have hTr23 := hTr23.mono hV24
           refine ops_nil ⟨[(Arr 24 b1 [(.int .i64 A.v), na, (.int .i64 A.r)]), (Arr 24 b2 [(.int .i64 B.v), nb, (.int .i64 B.r)]), (Arr 64 b3 [(Value.int .i64 i), (.bool (decide (b = true)))]), (Arr 24 b4 [(.int .i64 ((rsR A i b).v)), ux, (.int .i64 ((rsR A i b).r))]), (Arr 24 b5 [(.int .i64 ((cpD A B i).v)), uy, (.int .i64 ((cpD A B i).r))])], [], hV24, perm_nil _, ⟨[], (.refl _)⟩, ?_⟩
           refine rl rfl ?_
           refine ops_want (want_t g14 rfl rfl rfl) ?_
           refine ops_call (σa := []) (σr := [(Arr 24 b1 [(.int .i64 A.v), na, (.int .i64 A.r)]), (Arr 24 b2 [(.int .i64 B.v), nb, (.int .i64 B.r)]), (Arr 64 b3 [(Value.int .i64 i), (.bool (decide (b = true)))]), (Arr 24 b4 [(.int .i64 ((rsR A i b).v)), ux, (.int .i64 ((rsR A i b).r))]), (Arr 24 b5 [(.int .i64 ((cpD A B i).v)), uy, (.int .i64 ((cpD A B i).r))])]) (chosen_c hTr22 hTr23 hTr24 (by omega)) rfl rfl (.refl _) (fun r25 V25 sg25 hV25 hp25 => ?_)
           obtain ⟨rfl, hTr25⟩ := hp25
           have hA := hA.mono hV25
           have hB := hB.mono hV25
           have hx := hx.mono hV25
           have hy := hy.mono hV25
           have hTr21 := hTr21.mono hV25
           have hTr22 := hTr22.mono hV25
           have hTr23 := hTr23.mono hV25
           have hTr24 := hTr24.mono hV25
           refine ops_nil ⟨[(Arr 24 b1 [(.int .i64 A.v), na, (.int .i64 A.r)]), (Arr 24 b2 [(.int .i64 B.v), nb, (.int .i64 B.r)]), (Arr 64 b3 [(Value.int .i64 i), (.bool (decide (b = true)))]), (Arr 24 b4 [(.int .i64 ((rsR A i b).v)), ux, (.int .i64 ((rsR A i b).r))]), (Arr 24 b5 [(.int .i64 ((cpD A B i).v)), uy, (.int .i64 ((cpD A B i).r))])], [], hV25, perm_nil _, ⟨[], (.refl _)⟩, ?_⟩
           refine rl rfl ?_
           refine ops_want (want_t g14 rfl rfl rfl) ?_
           refine ops_call (σa := []) (σr := [(Arr 24 b1 [(.int .i64 A.v), na, (.int .i64 A.r)]), (Arr 24 b2 [(.int .i64 B.v), nb, (.int .i64 B.r)]), (Arr 64 b3 [(Value.int .i64 i), (.bool (decide (b = true)))]), (Arr 24 b4 [(.int .i64 ((rsR A i b).v)), ux, (.int .i64 ((rsR A i b).r))]), (Arr 24 b5 [(.int .i64 ((cpD A B i).v)), uy, (.int .i64 ((cpD A B i).r))])]) (build_c hTr25 (by omega) (by omega) (tbl_len _ _)) rfl rfl (.refl _) (fun r26 V26 sg26 hV26 hp26 => ?_)
           obtain ⟨rfl, u4, rfl, h4⟩ := hp26
           have hA := hA.mono hV26
           have hB := hB.mono hV26
           have hx := hx.mono hV26
           have hy := hy.mono hV26
           have hTr21 := hTr21.mono hV26
           have hTr22 := hTr22.mono hV26
           have hTr23 := hTr23.mono hV26
           have hTr24 := hTr24.mono hV26
           have hTr25 := hTr25.mono hV26
           refine ops_nil ⟨[(Arr 24 b1 [(.int .i64 A.v), na, (.int .i64 A.r)]), (Arr 24 b2 [(.int .i64 B.v), nb, (.int .i64 B.r)]), (Arr 64 b3 [(Value.int .i64 i), (.bool (decide (b = true)))]), (Arr 24 b4 [(.int .i64 ((rsR A i b).v)), ux, (.int .i64 ((rsR A i b).r))]), (Arr 24 b5 [(.int .i64 ((cpD A B i).v)), uy, (.int .i64 ((cpD A B i).r))])], [], hV26, perm_nil _, ⟨[], (.refl _)⟩, ?_⟩
           refine re rfl (qv_call (v := (.bool (decide (cpD A B i = (bldD A.v (tbl A.v (fun e => iteF (gA B e) (gA A (up e i true)) (gA A (up e i false))))))))) (same_c (A := (cpD A B i)) (B := (bldD A.v (tbl A.v (fun e => iteF (gA B e) (gA A (up e i true)) (gA A (up e i false)))))) hy (h4)) rfl rfl) (want_t g14 rfl rfl rfl) ?_
           refine rq rfl (qv_pick_t g14 rfl (rfl : ev _ _ = (.bool (decide (cpD A B i = (bldD A.v (tbl A.v (fun e => iteF (gA B e) (gA A (up e i true)) (gA A (up e i false)))))))))) ?_
           refine rq rfl (qv_as (.bool (decide (cpD A B i = (bldD A.v (tbl A.v (fun e => iteF (gA B e) (gA A (up e i true)) (gA A (up e i false)))))))) rfl) ?_
           refine rnil ?_
           refine vc_ret ?_
           exact rq1 (Value.bool true) (congrArg Value.bool (decide_eq_true (show (cpD A B i = (bldD A.v (tbl A.v (fun e => iteF (gA B e) (gA A (up e i true)) (gA A (up e i false)))))) from by exact hcl))) rfl
          ·
           exact absurd hcp.1 g14
        ·
         refine os (want_tn g12 rfl rfl rfl) ?_
         refine os (want_tn g12 rfl rfl rfl) ?_
         refine oq (qv_pick_f g12 rfl (rfl : ev _ _ = (Value.bool false))) ?_
         refine ops_nil ?_
         refine vc_ff rfl ?_
         refine vc_skip ?_
         refine vc_seq ?_
         refine vc_seq ?_
         refine vc_region ?_
         refine oq (qv_mv (.int .i64 (vE [A, B])) rfl) ?_
         refine oq (qv_neq rfl rfl) ?_
         refine ops_nil ?_
         refine vc_if rfl (fun c11 => ?_) (fun c11 => ?_)
         ·
          refine vc_seq ?_
          have hcp := cp_v (A := A) (B := B) (i := i) (by omega)
          refine vc_region ?_
          refine oq (qv_mv (.int .i64 (cpE A B i)) rfl) ?_
          refine oq (qv_mv (.int .i64 (vE [A, B])) rfl) ?_
          refine oq (qv_eql rfl rfl) ?_
          refine oq (qv_mv (.bool (decide ((cpE A B i) = (vE [A, B])))) rfl) ?_
          by_cases g15 : (cpE A B i) = (vE [A, B])
          ·
           refine og (qv_ldm (vs := [(.int .i64 ((cpD A B i).v)), uy, (.int .i64 ((cpD A B i).r))]) Try.agg24 rfl (inOc (k := 4) rfl) rfl rfl) (want_t g15 rfl rfl rfl) ?_
           refine og (qv_build (out := [(Value.int .i64 0), (Value.slice none 0 0), (Value.int .i64 0)]) Try.build24 [] rfl rfl) (want_t g15 rfl rfl rfl) ?_
           refine og (qv_call (v := (.bool (decide (cpD A B i = dg0)))) (same_c (A := (cpD A B i)) (B := dg0) hy (Fks.nil)) rfl rfl) (want_t g15 rfl rfl rfl) ?_
           refine oq (qv_pick_t g15 rfl (rfl : ev _ _ = (.bool (decide (cpD A B i = dg0))))) ?_
           refine oq (qv_as (.bool (decide (cpD A B i = dg0))) rfl) ?_
           refine ops_nil ?_
           refine vc_ret ?_
           exact rq1 (Value.bool true) (congrArg Value.bool (decide_eq_true (show (cpD A B i = dg0) from by exact hcp.2))) rfl
          ·
           exact absurd hcp.1 g15
         ·
          refine vc_skip ?_
          refine vc_seq ?_
          have hz : vE [A, B] = 0 := by omega
          obtain ⟨hokA, hok2, hok3⟩ := ok2 hz
          have hvz := hokA.1.1
          have hck1 := chk_ok.2 hokA
          have hck2 := chk_ok.2 hok2
          have hcp := cp_0 (A := A) (B := B) (i := i) hz (by omega)
          have hcl := cp_law (A := A) (B := B) (i := i) hz (by omega)
          refine vc_region ?_
          refine oq (qv_ldm (vs := [(.int .i64 A.v), na, (.int .i64 A.r)]) Try.agg24 rfl (inOc (k := 0) rfl) rfl rfl) ?_
          refine ops_call (σa := []) (σr := [(Arr 24 b1 [(.int .i64 A.v), na, (.int .i64 A.r)]), (Arr 24 b2 [(.int .i64 B.v), nb, (.int .i64 B.r)]), (Arr 64 b3 [(Value.int .i64 i), (.bool (decide (b = true)))]), (Arr 24 b4 [(.int .i64 ((rsR A i b).v)), ux, (.int .i64 ((rsR A i b).r))]), (Arr 24 b5 [(.int .i64 ((cpD A B i).v)), uy, (.int .i64 ((cpD A B i).r))])]) (by have h := table_c (A := A) hA (chk_ok.1 (by omega)) (by omega); rw [tbD_v rfl] at h; exact h) rfl rfl (.refl _) (fun r27 V27 sg27 hV27 hp27 => ?_)
          obtain ⟨rfl, hTr27⟩ := hp27
          have hA := hA.mono hV27
          have hB := hB.mono hV27
          have hx := hx.mono hV27
          have hy := hy.mono hV27
          refine oq (qv_as r27 rfl) ?_
          refine ops_nil ?_
          refine vc_seq ?_
          refine vc_region_order (τ := []) [(0, false), (1, false), (2, false), (3, false), (4, false), (5, false), (6, false), (8, false), (9, false), (10, false), (11, false), (12, false), (14, false), (15, false), (16, false), (17, false), (18, false), (7, true), (13, true), (19, true), (20, true), (21, true), (22, false), (23, false), (24, false)] [(Arr 24 b1 [(.int .i64 A.v), na, (.int .i64 A.r)]), (Arr 24 b2 [(.int .i64 B.v), nb, (.int .i64 B.r)]), (Arr 64 b3 [(Value.int .i64 i), (.bool (decide (b = true)))]), (Arr 24 b4 [(.int .i64 ((rsR A i b).v)), ux, (.int .i64 ((rsR A i b).r))]), (Arr 24 b5 [(.int .i64 ((cpD A B i).v)), uy, (.int .i64 ((cpD A B i).r))])] Try.mixed (perm_nil _) (by kernel_rfl) ?_
          refine rq rfl (qv_mv (.int .i64 (cpE A B i)) rfl) ?_
          refine rq rfl (qv_eql rfl rfl) ?_
          refine rq rfl (qv_mv (.bool (decide ((cpE A B i) = 0))) rfl) ?_
          by_cases g16 : (cpE A B i) = 0
          ·
           refine re rfl (qv_ldm (vs := [(.int .i64 ((cpD A B i).v)), uy, (.int .i64 ((cpD A B i).r))]) Try.agg24 rfl (inOc (k := 4) rfl) rfl rfl) (want_t g16 rfl rfl rfl) ?_
           refine re rfl (qv_fa (off := 0) Try.field24_0 rfl) (want_t g16 rfl rfl rfl) ?_
           refine re rfl (qv_ldp (v := (.int .i64 A.v)) Try.plain3 rfl (inOc (k := 0) rfl) rfl) (want_t g16 rfl rfl rfl) ?_
           refine re rfl (qv_ldm (vs := [(.int .i64 B.v), nb, (.int .i64 B.r)]) Try.agg24 rfl (inOc (k := 1) rfl) rfl rfl) (want_t g16 rfl rfl rfl) ?_
           refine re rfl (qv_fa (off := 0) Try.field24_0 rfl) (want_t g16 rfl rfl rfl) ?_
           refine re rfl (qv_ldp (v := (.int .i64 A.v)) Try.plain3 rfl (inOc (k := 0) rfl) rfl) (want_t g16 rfl rfl rfl) ?_
           refine re rfl (qv_mv r27 rfl) (want_t g16 rfl rfl rfl) ?_
           refine re rfl (qv_fa (off := 0) Try.field64_0 rfl) (want_t g16 rfl rfl rfl) ?_
           refine re rfl (qv_ldp (v := (Value.int .i64 i)) Try.plain3 rfl (inOc (k := 2) rfl) rfl) (want_t g16 rfl rfl rfl) ?_
           refine re rfl (qv_fa (off := 0) Try.field24_0 rfl) (want_t g16 rfl rfl rfl) ?_
           refine re rfl (qv_ldp (v := (.int .i64 A.v)) Try.plain3 rfl (inOc (k := 0) rfl) rfl) (want_t g16 rfl rfl rfl) ?_
           refine re rfl (qv_mv r27 rfl) (want_t g16 rfl rfl rfl) ?_
           refine re rfl (qv_fa (off := 0) Try.field64_0 rfl) (want_t g16 rfl rfl rfl) ?_
           refine re rfl (qv_ldp (v := (Value.int .i64 i)) Try.plain3 rfl (inOc (k := 2) rfl) rfl) (want_t g16 rfl rfl rfl) ?_
           refine rl rfl ?_
           refine ops_want (want_t g16 rfl rfl rfl) ?_
           refine ops_call (σa := []) (σr := [(Arr 24 b1 [(.int .i64 A.v), na, (.int .i64 A.r)]), (Arr 24 b2 [(.int .i64 B.v), nb, (.int .i64 B.r)]), (Arr 64 b3 [(Value.int .i64 i), (.bool (decide (b = true)))]), (Arr 24 b4 [(.int .i64 ((rsR A i b).v)), ux, (.int .i64 ((rsR A i b).r))]), (Arr 24 b5 [(.int .i64 ((cpD A B i).v)), uy, (.int .i64 ((cpD A B i).r))])]) (by have h := table_c (A := B) hB (chk_ok.1 (by omega)) (by omega); rw [tbD_v (vars := A.v) (by omega)] at h; exact h) rfl rfl (.refl _) (fun r28 V28 sg28 hV28 hp28 => ?_)
           obtain ⟨rfl, hTr28⟩ := hp28
           have hA := hA.mono hV28
           have hB := hB.mono hV28
           have hx := hx.mono hV28
           have hy := hy.mono hV28
           have hTr27 := hTr27.mono hV28
           refine ops_nil ⟨[(Arr 24 b1 [(.int .i64 A.v), na, (.int .i64 A.r)]), (Arr 24 b2 [(.int .i64 B.v), nb, (.int .i64 B.r)]), (Arr 64 b3 [(Value.int .i64 i), (.bool (decide (b = true)))]), (Arr 24 b4 [(.int .i64 ((rsR A i b).v)), ux, (.int .i64 ((rsR A i b).r))]), (Arr 24 b5 [(.int .i64 ((cpD A B i).v)), uy, (.int .i64 ((cpD A B i).r))])], [], hV28, perm_nil _, ⟨[], (.refl _)⟩, ?_⟩
           refine rl rfl ?_
           refine ops_want (want_t g16 rfl rfl rfl) ?_
           refine ops_call (σa := []) (σr := [(Arr 24 b1 [(.int .i64 A.v), na, (.int .i64 A.r)]), (Arr 24 b2 [(.int .i64 B.v), nb, (.int .i64 B.r)]), (Arr 64 b3 [(Value.int .i64 i), (.bool (decide (b = true)))]), (Arr 24 b4 [(.int .i64 ((rsR A i b).v)), ux, (.int .i64 ((rsR A i b).r))]), (Arr 24 b5 [(.int .i64 ((cpD A B i).v)), uy, (.int .i64 ((cpD A B i).r))])]) (restricted_c (vars := A.v) (i := i) (b := true) (g := gA A) hTr27 (gA_dep hokA) (by omega) (by omega) (by omega) (by omega)) rfl rfl (.refl _) (fun r29 V29 sg29 hV29 hp29 => ?_)
           obtain ⟨rfl, hTr29⟩ := hp29
           have hA := hA.mono hV29
           have hB := hB.mono hV29
           have hx := hx.mono hV29
           have hy := hy.mono hV29
           have hTr27 := hTr27.mono hV29
           have hTr28 := hTr28.mono hV29
           refine ops_nil ⟨[(Arr 24 b1 [(.int .i64 A.v), na, (.int .i64 A.r)]), (Arr 24 b2 [(.int .i64 B.v), nb, (.int .i64 B.r)]), (Arr 64 b3 [(Value.int .i64 i), (.bool (decide (b = true)))]), (Arr 24 b4 [(.int .i64 ((rsR A i b).v)), ux, (.int .i64 ((rsR A i b).r))]), (Arr 24 b5 [(.int .i64 ((cpD A B i).v)), uy, (.int .i64 ((cpD A B i).r))])], [], hV29, perm_nil _, ⟨[], (.refl _)⟩, ?_⟩
           refine rl rfl ?_
           refine ops_want (want_t g16 rfl rfl rfl) ?_
           refine ops_call (σa := []) (σr := [(Arr 24 b1 [(.int .i64 A.v), na, (.int .i64 A.r)]), (Arr 24 b2 [(.int .i64 B.v), nb, (.int .i64 B.r)]), (Arr 64 b3 [(Value.int .i64 i), (.bool (decide (b = true)))]), (Arr 24 b4 [(.int .i64 ((rsR A i b).v)), ux, (.int .i64 ((rsR A i b).r))]), (Arr 24 b5 [(.int .i64 ((cpD A B i).v)), uy, (.int .i64 ((cpD A B i).r))])]) (restricted_c (vars := A.v) (i := i) (b := false) (g := gA A) hTr27 (gA_dep hokA) (by omega) (by omega) (by omega) (by omega)) rfl rfl (.refl _) (fun r30 V30 sg30 hV30 hp30 => ?_)
           obtain ⟨rfl, hTr30⟩ := hp30
           have hA := hA.mono hV30
           have hB := hB.mono hV30
           have hx := hx.mono hV30
           have hy := hy.mono hV30
           have hTr27 := hTr27.mono hV30
           have hTr28 := hTr28.mono hV30
           have hTr29 := hTr29.mono hV30
           refine ops_nil ⟨[(Arr 24 b1 [(.int .i64 A.v), na, (.int .i64 A.r)]), (Arr 24 b2 [(.int .i64 B.v), nb, (.int .i64 B.r)]), (Arr 64 b3 [(Value.int .i64 i), (.bool (decide (b = true)))]), (Arr 24 b4 [(.int .i64 ((rsR A i b).v)), ux, (.int .i64 ((rsR A i b).r))]), (Arr 24 b5 [(.int .i64 ((cpD A B i).v)), uy, (.int .i64 ((cpD A B i).r))])], [], hV30, perm_nil _, ⟨[], (.refl _)⟩, ?_⟩
           refine rl rfl ?_
           refine ops_want (want_t g16 rfl rfl rfl) ?_
           refine ops_call (σa := []) (σr := [(Arr 24 b1 [(.int .i64 A.v), na, (.int .i64 A.r)]), (Arr 24 b2 [(.int .i64 B.v), nb, (.int .i64 B.r)]), (Arr 64 b3 [(Value.int .i64 i), (.bool (decide (b = true)))]), (Arr 24 b4 [(.int .i64 ((rsR A i b).v)), ux, (.int .i64 ((rsR A i b).r))]), (Arr 24 b5 [(.int .i64 ((cpD A B i).v)), uy, (.int .i64 ((cpD A B i).r))])]) (chosen_c hTr28 hTr29 hTr30 (by omega)) rfl rfl (.refl _) (fun r31 V31 sg31 hV31 hp31 => ?_)
           obtain ⟨rfl, hTr31⟩ := hp31
           have hA := hA.mono hV31
           have hB := hB.mono hV31
           have hx := hx.mono hV31
           have hy := hy.mono hV31
           have hTr27 := hTr27.mono hV31
           have hTr28 := hTr28.mono hV31
           have hTr29 := hTr29.mono hV31
           have hTr30 := hTr30.mono hV31
           refine ops_nil ⟨[(Arr 24 b1 [(.int .i64 A.v), na, (.int .i64 A.r)]), (Arr 24 b2 [(.int .i64 B.v), nb, (.int .i64 B.r)]), (Arr 64 b3 [(Value.int .i64 i), (.bool (decide (b = true)))]), (Arr 24 b4 [(.int .i64 ((rsR A i b).v)), ux, (.int .i64 ((rsR A i b).r))]), (Arr 24 b5 [(.int .i64 ((cpD A B i).v)), uy, (.int .i64 ((cpD A B i).r))])], [], hV31, perm_nil _, ⟨[], (.refl _)⟩, ?_⟩
           refine rl rfl ?_
           refine ops_want (want_t g16 rfl rfl rfl) ?_
           refine ops_call (σa := []) (σr := [(Arr 24 b1 [(.int .i64 A.v), na, (.int .i64 A.r)]), (Arr 24 b2 [(.int .i64 B.v), nb, (.int .i64 B.r)]), (Arr 64 b3 [(Value.int .i64 i), (.bool (decide (b = true)))]), (Arr 24 b4 [(.int .i64 ((rsR A i b).v)), ux, (.int .i64 ((rsR A i b).r))]), (Arr 24 b5 [(.int .i64 ((cpD A B i).v)), uy, (.int .i64 ((cpD A B i).r))])]) (build_c hTr31 (by omega) (by omega) (tbl_len _ _)) rfl rfl (.refl _) (fun r32 V32 sg32 hV32 hp32 => ?_)
           obtain ⟨rfl, u4, rfl, h4⟩ := hp32
           have hA := hA.mono hV32
           have hB := hB.mono hV32
           have hx := hx.mono hV32
           have hy := hy.mono hV32
           have hTr27 := hTr27.mono hV32
           have hTr28 := hTr28.mono hV32
           have hTr29 := hTr29.mono hV32
           have hTr30 := hTr30.mono hV32
           have hTr31 := hTr31.mono hV32
           refine ops_nil ⟨[(Arr 24 b1 [(.int .i64 A.v), na, (.int .i64 A.r)]), (Arr 24 b2 [(.int .i64 B.v), nb, (.int .i64 B.r)]), (Arr 64 b3 [(Value.int .i64 i), (.bool (decide (b = true)))]), (Arr 24 b4 [(.int .i64 ((rsR A i b).v)), ux, (.int .i64 ((rsR A i b).r))]), (Arr 24 b5 [(.int .i64 ((cpD A B i).v)), uy, (.int .i64 ((cpD A B i).r))])], [], hV32, perm_nil _, ⟨[], (.refl _)⟩, ?_⟩
           refine re rfl (qv_call (v := (.bool (decide (cpD A B i = (bldD A.v (tbl A.v (fun e => iteF (gA B e) (gA A (up e i true)) (gA A (up e i false))))))))) (same_c (A := (cpD A B i)) (B := (bldD A.v (tbl A.v (fun e => iteF (gA B e) (gA A (up e i true)) (gA A (up e i false)))))) hy (h4)) rfl rfl) (want_t g16 rfl rfl rfl) ?_
           refine rq rfl (qv_pick_t g16 rfl (rfl : ev _ _ = (.bool (decide (cpD A B i = (bldD A.v (tbl A.v (fun e => iteF (gA B e) (gA A (up e i true)) (gA A (up e i false)))))))))) ?_
           refine rq rfl (qv_as (.bool (decide (cpD A B i = (bldD A.v (tbl A.v (fun e => iteF (gA B e) (gA A (up e i true)) (gA A (up e i false)))))))) rfl) ?_
           refine rnil ?_
           refine vc_ret ?_
           exact rq1 (Value.bool true) (congrArg Value.bool (decide_eq_true (show (cpD A B i = (bldD A.v (tbl A.v (fun e => iteF (gA B e) (gA A (up e i true)) (gA A (up e i false)))))) from by exact hcl))) rfl
          ·
           exact absurd hcp.1 g16
     ·
      refine vc_seq ?_
      have hokA : dOk A := chk_ok.1 (by omega)
      have hz1 := vE1 hokA
      have hvz := hokA.1.1
      have hr := rsE_0 (A := A) (i := i) (b := b) hz1 (by omega)
      have hl := rs_law (A := A) (i := i) (b := b) hz1 (by omega)
      refine vc_region_order (τ := []) [(0, false), (1, false), (2, false), (3, false), (4, false), (5, false), (6, false), (7, false), (8, false), (10, false), (11, false), (12, false), (13, false), (9, true), (14, true), (15, true), (16, false), (17, false), (18, false)] [(Arr 24 b1 [(.int .i64 A.v), na, (.int .i64 A.r)]), (Arr 24 b2 [(.int .i64 B.v), nb, (.int .i64 B.r)]), (Arr 64 b3 [(Value.int .i64 i), (.bool (decide (b = true)))]), (Arr 24 b4 [(.int .i64 ((rsR A i b).v)), ux, (.int .i64 ((rsR A i b).r))]), (Arr 24 b5 [(.int .i64 ((cpD A B i).v)), uy, (.int .i64 ((cpD A B i).r))])] Try.mixed (perm_nil _) (by kernel_rfl) ?_
      refine rq rfl (qv_mv (.int .i64 (rsE A i)) rfl) ?_
      refine rq rfl (qv_neq rfl rfl) ?_
      refine rq rfl (qv_mv (.bool (decide ((rsE A i) ≠ 0))) rfl) ?_
      by_cases g17 : (rsE A i) ≠ 0
      ·
       exact absurd hr.1 g17
      ·
       refine re rfl (qv_ldm (vs := [(.int .i64 ((rsR A i b).v)), ux, (.int .i64 ((rsR A i b).r))]) Try.agg24 rfl (inOc (k := 3) rfl) rfl rfl) (want_f g17 rfl rfl rfl) ?_
       refine re rfl (qv_fa (off := 0) Try.field24_0 rfl) (want_f g17 rfl rfl rfl) ?_
       refine re rfl (qv_ldp (v := (.int .i64 A.v)) Try.plain3 rfl (inOc (k := 0) rfl) rfl) (want_f g17 rfl rfl rfl) ?_
       refine re rfl (qv_fa (off := 0) Try.field24_0 rfl) (want_f g17 rfl rfl rfl) ?_
       refine re rfl (qv_ldp (v := (.int .i64 A.v)) Try.plain3 rfl (inOc (k := 0) rfl) rfl) (want_f g17 rfl rfl rfl) ?_
       refine re rfl (qv_ldm (vs := [(.int .i64 A.v), na, (.int .i64 A.r)]) Try.agg24 rfl (inOc (k := 0) rfl) rfl rfl) (want_f g17 rfl rfl rfl) ?_
       refine re rfl (qv_fa (off := 0) Try.field64_0 rfl) (want_f g17 rfl rfl rfl) ?_
       refine re rfl (qv_ldp (v := (Value.int .i64 i)) Try.plain3 rfl (inOc (k := 2) rfl) rfl) (want_f g17 rfl rfl rfl) ?_
       refine re rfl (qv_fa (off := 0) Try.field64_1 rfl) (want_f g17 rfl rfl rfl) ?_
       refine re rfl (qv_ldp (v := (.bool (decide (b = true)))) Try.plain4 rfl (inOc (k := 2) rfl) rfl) (want_f g17 rfl rfl rfl) ?_
       refine rl rfl ?_
       refine ops_want (want_f g17 rfl rfl rfl) ?_
       refine ops_call (σa := []) (σr := [(Arr 24 b1 [(.int .i64 A.v), na, (.int .i64 A.r)]), (Arr 24 b2 [(.int .i64 B.v), nb, (.int .i64 B.r)]), (Arr 64 b3 [(Value.int .i64 i), (.bool (decide (b = true)))]), (Arr 24 b4 [(.int .i64 ((rsR A i b).v)), ux, (.int .i64 ((rsR A i b).r))]), (Arr 24 b5 [(.int .i64 ((cpD A B i).v)), uy, (.int .i64 ((cpD A B i).r))])]) (by have h := table_c (A := A) hA (chk_ok.1 (by omega)) (by omega); rw [tbD_v rfl] at h; exact h) rfl rfl (.refl _) (fun r33 V33 sg33 hV33 hp33 => ?_)
       obtain ⟨rfl, hTr33⟩ := hp33
       have hA := hA.mono hV33
       have hB := hB.mono hV33
       have hx := hx.mono hV33
       have hy := hy.mono hV33
       refine ops_nil ⟨[(Arr 24 b1 [(.int .i64 A.v), na, (.int .i64 A.r)]), (Arr 24 b2 [(.int .i64 B.v), nb, (.int .i64 B.r)]), (Arr 64 b3 [(Value.int .i64 i), (.bool (decide (b = true)))]), (Arr 24 b4 [(.int .i64 ((rsR A i b).v)), ux, (.int .i64 ((rsR A i b).r))]), (Arr 24 b5 [(.int .i64 ((cpD A B i).v)), uy, (.int .i64 ((cpD A B i).r))])], [], hV33, perm_nil _, ⟨[], (.refl _)⟩, ?_⟩
       refine rl rfl ?_
       refine ops_want (want_f g17 rfl rfl rfl) ?_
       refine ops_call (σa := []) (σr := [(Arr 24 b1 [(.int .i64 A.v), na, (.int .i64 A.r)]), (Arr 24 b2 [(.int .i64 B.v), nb, (.int .i64 B.r)]), (Arr 64 b3 [(Value.int .i64 i), (.bool (decide (b = true)))]), (Arr 24 b4 [(.int .i64 ((rsR A i b).v)), ux, (.int .i64 ((rsR A i b).r))]), (Arr 24 b5 [(.int .i64 ((cpD A B i).v)), uy, (.int .i64 ((cpD A B i).r))])]) (restricted_c (vars := A.v) (i := i) (b := b) (g := gA A) hTr33 (gA_dep hokA) (by omega) (by omega) (by omega) (by omega)) rfl rfl (.refl _) (fun r34 V34 sg34 hV34 hp34 => ?_)
       obtain ⟨rfl, hTr34⟩ := hp34
       have hA := hA.mono hV34
       have hB := hB.mono hV34
       have hx := hx.mono hV34
       have hy := hy.mono hV34
       have hTr33 := hTr33.mono hV34
       refine ops_nil ⟨[(Arr 24 b1 [(.int .i64 A.v), na, (.int .i64 A.r)]), (Arr 24 b2 [(.int .i64 B.v), nb, (.int .i64 B.r)]), (Arr 64 b3 [(Value.int .i64 i), (.bool (decide (b = true)))]), (Arr 24 b4 [(.int .i64 ((rsR A i b).v)), ux, (.int .i64 ((rsR A i b).r))]), (Arr 24 b5 [(.int .i64 ((cpD A B i).v)), uy, (.int .i64 ((cpD A B i).r))])], [], hV34, perm_nil _, ⟨[], (.refl _)⟩, ?_⟩
       refine rl rfl ?_
       refine ops_want (want_f g17 rfl rfl rfl) ?_
       refine ops_call (σa := []) (σr := [(Arr 24 b1 [(.int .i64 A.v), na, (.int .i64 A.r)]), (Arr 24 b2 [(.int .i64 B.v), nb, (.int .i64 B.r)]), (Arr 64 b3 [(Value.int .i64 i), (.bool (decide (b = true)))]), (Arr 24 b4 [(.int .i64 ((rsR A i b).v)), ux, (.int .i64 ((rsR A i b).r))]), (Arr 24 b5 [(.int .i64 ((cpD A B i).v)), uy, (.int .i64 ((cpD A B i).r))])]) (build_c hTr34 (by omega) (by omega) (tbl_len _ _)) rfl rfl (.refl _) (fun r35 V35 sg35 hV35 hp35 => ?_)
       obtain ⟨rfl, u3, rfl, h3⟩ := hp35
       have hA := hA.mono hV35
       have hB := hB.mono hV35
       have hx := hx.mono hV35
       have hy := hy.mono hV35
       have hTr33 := hTr33.mono hV35
       have hTr34 := hTr34.mono hV35
       refine ops_nil ⟨[(Arr 24 b1 [(.int .i64 A.v), na, (.int .i64 A.r)]), (Arr 24 b2 [(.int .i64 B.v), nb, (.int .i64 B.r)]), (Arr 64 b3 [(Value.int .i64 i), (.bool (decide (b = true)))]), (Arr 24 b4 [(.int .i64 ((rsR A i b).v)), ux, (.int .i64 ((rsR A i b).r))]), (Arr 24 b5 [(.int .i64 ((cpD A B i).v)), uy, (.int .i64 ((cpD A B i).r))])], [], hV35, perm_nil _, ⟨[], (.refl _)⟩, ?_⟩
       refine re rfl (qv_call (v := (.bool (decide (rsR A i b = (bldD A.v (tbl A.v (fun e => gA A (up e i b)))))))) (same_c (A := (rsR A i b)) (B := (bldD A.v (tbl A.v (fun e => gA A (up e i b))))) hx (h3)) rfl rfl) (want_f g17 rfl rfl rfl) ?_
       refine re rfl (qv_not rfl) (want_f g17 rfl rfl rfl) ?_
       refine rq rfl (qv_pick_f g17 rfl (rfl : ev _ _ = (.bool (decide (¬ (rsR A i b = (bldD A.v (tbl A.v (fun e => gA A (up e i b)))))))))) ?_
       refine rnil ?_
       refine vc_if rfl (fun c12 => ?_) (fun c12 => ?_)
       ·
        exact absurd hl c12
       ·
        refine vc_skip ?_
        refine vc_seq ?_
        refine vc_region ?_
        refine oq (qv_ldm (vs := [(.int .i64 A.v), na, (.int .i64 A.r)]) Try.agg24 rfl (inOc (k := 0) rfl) rfl rfl) ?_
        refine oq (qv_ldm (vs := [(.int .i64 B.v), nb, (.int .i64 B.r)]) Try.agg24 rfl (inOc (k := 1) rfl) rfl rfl) ?_
        refine oq (qv_call (v := (.int .i64 (vE [A, B]))) (fits_c hA hB) rfl rfl) ?_
        refine oq (qv_as (.int .i64 (vE [A, B])) rfl) ?_
        refine ops_nil ?_
        refine vc_seq ?_
        refine vc_seq ?_
        refine vc_region ?_
        refine oq (qv_mv (.int .i64 (vE [A, B])) rfl) ?_
        refine oq (qv_eql rfl rfl) ?_
        refine oq (qv_mv (.bool (decide ((vE [A, B]) = 0))) rfl) ?_
        by_cases g18 : (vE [A, B]) = 0
        ·
         refine og (qv_mv (.bool (decide (i < A.v))) rfl) (want_t g18 rfl rfl rfl) ?_
         refine og (qv_not rfl) (want_t g18 rfl rfl rfl) ?_
         refine oq (qv_pick_t g18 rfl (rfl : ev _ _ = (.bool (decide (¬ (i < A.v)))))) ?_
         refine ops_nil ?_
         refine vc_if_f rfl c8 ?_
         refine vc_skip ?_
         refine vc_seq ?_
         refine vc_seq ?_
         refine vc_region ?_
         refine oq (qv_mv (.int .i64 (vE [A, B])) rfl) ?_
         refine oq (qv_neq rfl rfl) ?_
         refine ops_nil ?_
         refine vc_if rfl (fun c13 => ?_) (fun c13 => ?_)
         ·
          refine vc_seq ?_
          have hcp := cp_v (A := A) (B := B) (i := i) (by omega)
          refine vc_region ?_
          refine oq (qv_mv (.int .i64 (cpE A B i)) rfl) ?_
          refine oq (qv_mv (.int .i64 (vE [A, B])) rfl) ?_
          refine oq (qv_eql rfl rfl) ?_
          refine oq (qv_mv (.bool (decide ((cpE A B i) = (vE [A, B])))) rfl) ?_
          by_cases g19 : (cpE A B i) = (vE [A, B])
          ·
           refine og (qv_ldm (vs := [(.int .i64 ((cpD A B i).v)), uy, (.int .i64 ((cpD A B i).r))]) Try.agg24 rfl (inOc (k := 4) rfl) rfl rfl) (want_t g19 rfl rfl rfl) ?_
           refine og (qv_build (out := [(Value.int .i64 0), (Value.slice none 0 0), (Value.int .i64 0)]) Try.build24 [] rfl rfl) (want_t g19 rfl rfl rfl) ?_
           refine og (qv_call (v := (.bool (decide (cpD A B i = dg0)))) (same_c (A := (cpD A B i)) (B := dg0) hy (Fks.nil)) rfl rfl) (want_t g19 rfl rfl rfl) ?_
           refine oq (qv_pick_t g19 rfl (rfl : ev _ _ = (.bool (decide (cpD A B i = dg0))))) ?_
           refine oq (qv_as (.bool (decide (cpD A B i = dg0))) rfl) ?_
           refine ops_nil ?_
           refine vc_ret ?_
           exact rq1 (Value.bool true) (congrArg Value.bool (decide_eq_true (show (cpD A B i = dg0) from by exact hcp.2))) rfl
          ·
           exact absurd hcp.1 g19
         ·
          refine vc_skip ?_
          refine vc_seq ?_
          have hz : vE [A, B] = 0 := by omega
          obtain ⟨hokA, hok2, hok3⟩ := ok2 hz
          have hvz := hokA.1.1
          have hck1 := chk_ok.2 hokA
          have hck2 := chk_ok.2 hok2
          have hcp := cp_0 (A := A) (B := B) (i := i) hz (by omega)
          have hcl := cp_law (A := A) (B := B) (i := i) hz (by omega)
          refine vc_region ?_
          refine oq (qv_ldm (vs := [(.int .i64 A.v), na, (.int .i64 A.r)]) Try.agg24 rfl (inOc (k := 0) rfl) rfl rfl) ?_
          refine ops_call (σa := []) (σr := [(Arr 24 b1 [(.int .i64 A.v), na, (.int .i64 A.r)]), (Arr 24 b2 [(.int .i64 B.v), nb, (.int .i64 B.r)]), (Arr 64 b3 [(Value.int .i64 i), (.bool (decide (b = true)))]), (Arr 24 b4 [(.int .i64 ((rsR A i b).v)), ux, (.int .i64 ((rsR A i b).r))]), (Arr 24 b5 [(.int .i64 ((cpD A B i).v)), uy, (.int .i64 ((cpD A B i).r))])]) (by have h := table_c (A := A) hA (chk_ok.1 (by omega)) (by omega); rw [tbD_v rfl] at h; exact h) rfl rfl (.refl _) (fun r36 V36 sg36 hV36 hp36 => ?_)
          obtain ⟨rfl, hTr36⟩ := hp36
          have hA := hA.mono hV36
          have hB := hB.mono hV36
          have hx := hx.mono hV36
          have hy := hy.mono hV36
          have hTr33 := hTr33.mono hV36
          have hTr34 := hTr34.mono hV36
          have h3 := h3.mono hV36
          refine oq (qv_as r36 rfl) ?_
          refine ops_nil ?_
          refine vc_seq ?_
          refine vc_region_order (τ := []) [(0, false), (1, false), (2, false), (3, false), (4, false), (5, false), (6, false), (8, false), (9, false), (10, false), (11, false), (12, false), (14, false), (15, false), (16, false), (17, false), (18, false), (7, true), (13, true), (19, true), (20, true), (21, true), (22, false), (23, false), (24, false)] [(Arr 24 b1 [(.int .i64 A.v), na, (.int .i64 A.r)]), (Arr 24 b2 [(.int .i64 B.v), nb, (.int .i64 B.r)]), (Arr 64 b3 [(Value.int .i64 i), (.bool (decide (b = true)))]), (Arr 24 b4 [(.int .i64 ((rsR A i b).v)), ux, (.int .i64 ((rsR A i b).r))]), (Arr 24 b5 [(.int .i64 ((cpD A B i).v)), uy, (.int .i64 ((cpD A B i).r))])] Try.mixed (perm_nil _) (by kernel_rfl) ?_
          refine rq rfl (qv_mv (.int .i64 (cpE A B i)) rfl) ?_
          refine rq rfl (qv_eql rfl rfl) ?_
          refine rq rfl (qv_mv (.bool (decide ((cpE A B i) = 0))) rfl) ?_
          by_cases g20 : (cpE A B i) = 0
          ·
           refine re rfl (qv_ldm (vs := [(.int .i64 ((cpD A B i).v)), uy, (.int .i64 ((cpD A B i).r))]) Try.agg24 rfl (inOc (k := 4) rfl) rfl rfl) (want_t g20 rfl rfl rfl) ?_
           refine re rfl (qv_fa (off := 0) Try.field24_0 rfl) (want_t g20 rfl rfl rfl) ?_
           refine re rfl (qv_ldp (v := (.int .i64 A.v)) Try.plain3 rfl (inOc (k := 0) rfl) rfl) (want_t g20 rfl rfl rfl) ?_
           refine re rfl (qv_ldm (vs := [(.int .i64 B.v), nb, (.int .i64 B.r)]) Try.agg24 rfl (inOc (k := 1) rfl) rfl rfl) (want_t g20 rfl rfl rfl) ?_
           refine re rfl (qv_fa (off := 0) Try.field24_0 rfl) (want_t g20 rfl rfl rfl) ?_
           refine re rfl (qv_ldp (v := (.int .i64 A.v)) Try.plain3 rfl (inOc (k := 0) rfl) rfl) (want_t g20 rfl rfl rfl) ?_
           refine re rfl (qv_mv r36 rfl) (want_t g20 rfl rfl rfl) ?_
           refine re rfl (qv_fa (off := 0) Try.field64_0 rfl) (want_t g20 rfl rfl rfl) ?_
           refine re rfl (qv_ldp (v := (Value.int .i64 i)) Try.plain3 rfl (inOc (k := 2) rfl) rfl) (want_t g20 rfl rfl rfl) ?_
           refine re rfl (qv_fa (off := 0) Try.field24_0 rfl) (want_t g20 rfl rfl rfl) ?_
           refine re rfl (qv_ldp (v := (.int .i64 A.v)) Try.plain3 rfl (inOc (k := 0) rfl) rfl) (want_t g20 rfl rfl rfl) ?_
           refine re rfl (qv_mv r36 rfl) (want_t g20 rfl rfl rfl) ?_
           refine re rfl (qv_fa (off := 0) Try.field64_0 rfl) (want_t g20 rfl rfl rfl) ?_
           refine re rfl (qv_ldp (v := (Value.int .i64 i)) Try.plain3 rfl (inOc (k := 2) rfl) rfl) (want_t g20 rfl rfl rfl) ?_
           refine rl rfl ?_
           refine ops_want (want_t g20 rfl rfl rfl) ?_
           refine ops_call (σa := []) (σr := [(Arr 24 b1 [(.int .i64 A.v), na, (.int .i64 A.r)]), (Arr 24 b2 [(.int .i64 B.v), nb, (.int .i64 B.r)]), (Arr 64 b3 [(Value.int .i64 i), (.bool (decide (b = true)))]), (Arr 24 b4 [(.int .i64 ((rsR A i b).v)), ux, (.int .i64 ((rsR A i b).r))]), (Arr 24 b5 [(.int .i64 ((cpD A B i).v)), uy, (.int .i64 ((cpD A B i).r))])]) (by have h := table_c (A := B) hB (chk_ok.1 (by omega)) (by omega); rw [tbD_v (vars := A.v) (by omega)] at h; exact h) rfl rfl (.refl _) (fun r37 V37 sg37 hV37 hp37 => ?_)
           obtain ⟨rfl, hTr37⟩ := hp37
           have hA := hA.mono hV37
           have hB := hB.mono hV37
           have hx := hx.mono hV37
           have hy := hy.mono hV37
           have hTr33 := hTr33.mono hV37
           have hTr34 := hTr34.mono hV37
           have h3 := h3.mono hV37
           have hTr36 := hTr36.mono hV37
           refine ops_nil ⟨[(Arr 24 b1 [(.int .i64 A.v), na, (.int .i64 A.r)]), (Arr 24 b2 [(.int .i64 B.v), nb, (.int .i64 B.r)]), (Arr 64 b3 [(Value.int .i64 i), (.bool (decide (b = true)))]), (Arr 24 b4 [(.int .i64 ((rsR A i b).v)), ux, (.int .i64 ((rsR A i b).r))]), (Arr 24 b5 [(.int .i64 ((cpD A B i).v)), uy, (.int .i64 ((cpD A B i).r))])], [], hV37, perm_nil _, ⟨[], (.refl _)⟩, ?_⟩
           refine rl rfl ?_
           refine ops_want (want_t g20 rfl rfl rfl) ?_
           refine ops_call (σa := []) (σr := [(Arr 24 b1 [(.int .i64 A.v), na, (.int .i64 A.r)]), (Arr 24 b2 [(.int .i64 B.v), nb, (.int .i64 B.r)]), (Arr 64 b3 [(Value.int .i64 i), (.bool (decide (b = true)))]), (Arr 24 b4 [(.int .i64 ((rsR A i b).v)), ux, (.int .i64 ((rsR A i b).r))]), (Arr 24 b5 [(.int .i64 ((cpD A B i).v)), uy, (.int .i64 ((cpD A B i).r))])]) (restricted_c (vars := A.v) (i := i) (b := true) (g := gA A) hTr36 (gA_dep hokA) (by omega) (by omega) (by omega) (by omega)) rfl rfl (.refl _) (fun r38 V38 sg38 hV38 hp38 => ?_)
           obtain ⟨rfl, hTr38⟩ := hp38
           have hA := hA.mono hV38
           have hB := hB.mono hV38
           have hx := hx.mono hV38
           have hy := hy.mono hV38
           have hTr33 := hTr33.mono hV38
           have hTr34 := hTr34.mono hV38
           have h3 := h3.mono hV38
           have hTr36 := hTr36.mono hV38
           have hTr37 := hTr37.mono hV38
           refine ops_nil ⟨[(Arr 24 b1 [(.int .i64 A.v), na, (.int .i64 A.r)]), (Arr 24 b2 [(.int .i64 B.v), nb, (.int .i64 B.r)]), (Arr 64 b3 [(Value.int .i64 i), (.bool (decide (b = true)))]), (Arr 24 b4 [(.int .i64 ((rsR A i b).v)), ux, (.int .i64 ((rsR A i b).r))]), (Arr 24 b5 [(.int .i64 ((cpD A B i).v)), uy, (.int .i64 ((cpD A B i).r))])], [], hV38, perm_nil _, ⟨[], (.refl _)⟩, ?_⟩
           refine rl rfl ?_
           refine ops_want (want_t g20 rfl rfl rfl) ?_
           refine ops_call (σa := []) (σr := [(Arr 24 b1 [(.int .i64 A.v), na, (.int .i64 A.r)]), (Arr 24 b2 [(.int .i64 B.v), nb, (.int .i64 B.r)]), (Arr 64 b3 [(Value.int .i64 i), (.bool (decide (b = true)))]), (Arr 24 b4 [(.int .i64 ((rsR A i b).v)), ux, (.int .i64 ((rsR A i b).r))]), (Arr 24 b5 [(.int .i64 ((cpD A B i).v)), uy, (.int .i64 ((cpD A B i).r))])]) (restricted_c (vars := A.v) (i := i) (b := false) (g := gA A) hTr36 (gA_dep hokA) (by omega) (by omega) (by omega) (by omega)) rfl rfl (.refl _) (fun r39 V39 sg39 hV39 hp39 => ?_)
           obtain ⟨rfl, hTr39⟩ := hp39
           have hA := hA.mono hV39
           have hB := hB.mono hV39
           have hx := hx.mono hV39
           have hy := hy.mono hV39
           have hTr33 := hTr33.mono hV39
           have hTr34 := hTr34.mono hV39
           have h3 := h3.mono hV39
           have hTr36 := hTr36.mono hV39
           have hTr37 := hTr37.mono hV39
           have hTr38 := hTr38.mono hV39
           refine ops_nil ⟨[(Arr 24 b1 [(.int .i64 A.v), na, (.int .i64 A.r)]), (Arr 24 b2 [(.int .i64 B.v), nb, (.int .i64 B.r)]), (Arr 64 b3 [(Value.int .i64 i), (.bool (decide (b = true)))]), (Arr 24 b4 [(.int .i64 ((rsR A i b).v)), ux, (.int .i64 ((rsR A i b).r))]), (Arr 24 b5 [(.int .i64 ((cpD A B i).v)), uy, (.int .i64 ((cpD A B i).r))])], [], hV39, perm_nil _, ⟨[], (.refl _)⟩, ?_⟩
           refine rl rfl ?_
           refine ops_want (want_t g20 rfl rfl rfl) ?_
           refine ops_call (σa := []) (σr := [(Arr 24 b1 [(.int .i64 A.v), na, (.int .i64 A.r)]), (Arr 24 b2 [(.int .i64 B.v), nb, (.int .i64 B.r)]), (Arr 64 b3 [(Value.int .i64 i), (.bool (decide (b = true)))]), (Arr 24 b4 [(.int .i64 ((rsR A i b).v)), ux, (.int .i64 ((rsR A i b).r))]), (Arr 24 b5 [(.int .i64 ((cpD A B i).v)), uy, (.int .i64 ((cpD A B i).r))])]) (chosen_c hTr37 hTr38 hTr39 (by omega)) rfl rfl (.refl _) (fun r40 V40 sg40 hV40 hp40 => ?_)
           obtain ⟨rfl, hTr40⟩ := hp40
           have hA := hA.mono hV40
           have hB := hB.mono hV40
           have hx := hx.mono hV40
           have hy := hy.mono hV40
           have hTr33 := hTr33.mono hV40
           have hTr34 := hTr34.mono hV40
           have h3 := h3.mono hV40
           have hTr36 := hTr36.mono hV40
           have hTr37 := hTr37.mono hV40
           have hTr38 := hTr38.mono hV40
           have hTr39 := hTr39.mono hV40
           refine ops_nil ⟨[(Arr 24 b1 [(.int .i64 A.v), na, (.int .i64 A.r)]), (Arr 24 b2 [(.int .i64 B.v), nb, (.int .i64 B.r)]), (Arr 64 b3 [(Value.int .i64 i), (.bool (decide (b = true)))]), (Arr 24 b4 [(.int .i64 ((rsR A i b).v)), ux, (.int .i64 ((rsR A i b).r))]), (Arr 24 b5 [(.int .i64 ((cpD A B i).v)), uy, (.int .i64 ((cpD A B i).r))])], [], hV40, perm_nil _, ⟨[], (.refl _)⟩, ?_⟩
           refine rl rfl ?_
           refine ops_want (want_t g20 rfl rfl rfl) ?_
           refine ops_call (σa := []) (σr := [(Arr 24 b1 [(.int .i64 A.v), na, (.int .i64 A.r)]), (Arr 24 b2 [(.int .i64 B.v), nb, (.int .i64 B.r)]), (Arr 64 b3 [(Value.int .i64 i), (.bool (decide (b = true)))]), (Arr 24 b4 [(.int .i64 ((rsR A i b).v)), ux, (.int .i64 ((rsR A i b).r))]), (Arr 24 b5 [(.int .i64 ((cpD A B i).v)), uy, (.int .i64 ((cpD A B i).r))])]) (build_c hTr40 (by omega) (by omega) (tbl_len _ _)) rfl rfl (.refl _) (fun r41 V41 sg41 hV41 hp41 => ?_)
           obtain ⟨rfl, u4, rfl, h4⟩ := hp41
           have hA := hA.mono hV41
           have hB := hB.mono hV41
           have hx := hx.mono hV41
           have hy := hy.mono hV41
           have hTr33 := hTr33.mono hV41
           have hTr34 := hTr34.mono hV41
           have h3 := h3.mono hV41
           have hTr36 := hTr36.mono hV41
           have hTr37 := hTr37.mono hV41
           have hTr38 := hTr38.mono hV41
           have hTr39 := hTr39.mono hV41
           have hTr40 := hTr40.mono hV41
           refine ops_nil ⟨[(Arr 24 b1 [(.int .i64 A.v), na, (.int .i64 A.r)]), (Arr 24 b2 [(.int .i64 B.v), nb, (.int .i64 B.r)]), (Arr 64 b3 [(Value.int .i64 i), (.bool (decide (b = true)))]), (Arr 24 b4 [(.int .i64 ((rsR A i b).v)), ux, (.int .i64 ((rsR A i b).r))]), (Arr 24 b5 [(.int .i64 ((cpD A B i).v)), uy, (.int .i64 ((cpD A B i).r))])], [], hV41, perm_nil _, ⟨[], (.refl _)⟩, ?_⟩
           refine re rfl (qv_call (v := (.bool (decide (cpD A B i = (bldD A.v (tbl A.v (fun e => iteF (gA B e) (gA A (up e i true)) (gA A (up e i false))))))))) (same_c (A := (cpD A B i)) (B := (bldD A.v (tbl A.v (fun e => iteF (gA B e) (gA A (up e i true)) (gA A (up e i false)))))) hy (h4)) rfl rfl) (want_t g20 rfl rfl rfl) ?_
           refine rq rfl (qv_pick_t g20 rfl (rfl : ev _ _ = (.bool (decide (cpD A B i = (bldD A.v (tbl A.v (fun e => iteF (gA B e) (gA A (up e i true)) (gA A (up e i false)))))))))) ?_
           refine rq rfl (qv_as (.bool (decide (cpD A B i = (bldD A.v (tbl A.v (fun e => iteF (gA B e) (gA A (up e i true)) (gA A (up e i false)))))))) rfl) ?_
           refine rnil ?_
           refine vc_ret ?_
           exact rq1 (Value.bool true) (congrArg Value.bool (decide_eq_true (show (cpD A B i = (bldD A.v (tbl A.v (fun e => iteF (gA B e) (gA A (up e i true)) (gA A (up e i false)))))) from by exact hcl))) rfl
          ·
           exact absurd hcp.1 g20
        ·
         refine os (want_tn g18 rfl rfl rfl) ?_
         refine os (want_tn g18 rfl rfl rfl) ?_
         refine oq (qv_pick_f g18 rfl (rfl : ev _ _ = (Value.bool false))) ?_
         refine ops_nil ?_
         refine vc_ff rfl ?_
         refine vc_skip ?_
         refine vc_seq ?_
         refine vc_seq ?_
         refine vc_region ?_
         refine oq (qv_mv (.int .i64 (vE [A, B])) rfl) ?_
         refine oq (qv_neq rfl rfl) ?_
         refine ops_nil ?_
         refine vc_if rfl (fun c14 => ?_) (fun c14 => ?_)
         ·
          refine vc_seq ?_
          have hcp := cp_v (A := A) (B := B) (i := i) (by omega)
          refine vc_region ?_
          refine oq (qv_mv (.int .i64 (cpE A B i)) rfl) ?_
          refine oq (qv_mv (.int .i64 (vE [A, B])) rfl) ?_
          refine oq (qv_eql rfl rfl) ?_
          refine oq (qv_mv (.bool (decide ((cpE A B i) = (vE [A, B])))) rfl) ?_
          by_cases g21 : (cpE A B i) = (vE [A, B])
          ·
           refine og (qv_ldm (vs := [(.int .i64 ((cpD A B i).v)), uy, (.int .i64 ((cpD A B i).r))]) Try.agg24 rfl (inOc (k := 4) rfl) rfl rfl) (want_t g21 rfl rfl rfl) ?_
           refine og (qv_build (out := [(Value.int .i64 0), (Value.slice none 0 0), (Value.int .i64 0)]) Try.build24 [] rfl rfl) (want_t g21 rfl rfl rfl) ?_
           refine og (qv_call (v := (.bool (decide (cpD A B i = dg0)))) (same_c (A := (cpD A B i)) (B := dg0) hy (Fks.nil)) rfl rfl) (want_t g21 rfl rfl rfl) ?_
           refine oq (qv_pick_t g21 rfl (rfl : ev _ _ = (.bool (decide (cpD A B i = dg0))))) ?_
           refine oq (qv_as (.bool (decide (cpD A B i = dg0))) rfl) ?_
           refine ops_nil ?_
           refine vc_ret ?_
           exact rq1 (Value.bool true) (congrArg Value.bool (decide_eq_true (show (cpD A B i = dg0) from by exact hcp.2))) rfl
          ·
           exact absurd hcp.1 g21
         ·
          refine vc_skip ?_
          refine vc_seq ?_
          have hz : vE [A, B] = 0 := by omega
          obtain ⟨hokA, hok2, hok3⟩ := ok2 hz
          have hvz := hokA.1.1
          have hck1 := chk_ok.2 hokA
          have hck2 := chk_ok.2 hok2
          have hcp := cp_0 (A := A) (B := B) (i := i) hz (by omega)
          have hcl := cp_law (A := A) (B := B) (i := i) hz (by omega)
          refine vc_region ?_
          refine oq (qv_ldm (vs := [(.int .i64 A.v), na, (.int .i64 A.r)]) Try.agg24 rfl (inOc (k := 0) rfl) rfl rfl) ?_
          refine ops_call (σa := []) (σr := [(Arr 24 b1 [(.int .i64 A.v), na, (.int .i64 A.r)]), (Arr 24 b2 [(.int .i64 B.v), nb, (.int .i64 B.r)]), (Arr 64 b3 [(Value.int .i64 i), (.bool (decide (b = true)))]), (Arr 24 b4 [(.int .i64 ((rsR A i b).v)), ux, (.int .i64 ((rsR A i b).r))]), (Arr 24 b5 [(.int .i64 ((cpD A B i).v)), uy, (.int .i64 ((cpD A B i).r))])]) (by have h := table_c (A := A) hA (chk_ok.1 (by omega)) (by omega); rw [tbD_v rfl] at h; exact h) rfl rfl (.refl _) (fun r42 V42 sg42 hV42 hp42 => ?_)
          obtain ⟨rfl, hTr42⟩ := hp42
          have hA := hA.mono hV42
          have hB := hB.mono hV42
          have hx := hx.mono hV42
          have hy := hy.mono hV42
          have hTr33 := hTr33.mono hV42
          have hTr34 := hTr34.mono hV42
          have h3 := h3.mono hV42
          refine oq (qv_as r42 rfl) ?_
          refine ops_nil ?_
          refine vc_seq ?_
          refine vc_region_order (τ := []) [(0, false), (1, false), (2, false), (3, false), (4, false), (5, false), (6, false), (8, false), (9, false), (10, false), (11, false), (12, false), (14, false), (15, false), (16, false), (17, false), (18, false), (7, true), (13, true), (19, true), (20, true), (21, true), (22, false), (23, false), (24, false)] [(Arr 24 b1 [(.int .i64 A.v), na, (.int .i64 A.r)]), (Arr 24 b2 [(.int .i64 B.v), nb, (.int .i64 B.r)]), (Arr 64 b3 [(Value.int .i64 i), (.bool (decide (b = true)))]), (Arr 24 b4 [(.int .i64 ((rsR A i b).v)), ux, (.int .i64 ((rsR A i b).r))]), (Arr 24 b5 [(.int .i64 ((cpD A B i).v)), uy, (.int .i64 ((cpD A B i).r))])] Try.mixed (perm_nil _) (by kernel_rfl) ?_
          refine rq rfl (qv_mv (.int .i64 (cpE A B i)) rfl) ?_
          refine rq rfl (qv_eql rfl rfl) ?_
          refine rq rfl (qv_mv (.bool (decide ((cpE A B i) = 0))) rfl) ?_
          by_cases g22 : (cpE A B i) = 0
          ·
           refine re rfl (qv_ldm (vs := [(.int .i64 ((cpD A B i).v)), uy, (.int .i64 ((cpD A B i).r))]) Try.agg24 rfl (inOc (k := 4) rfl) rfl rfl) (want_t g22 rfl rfl rfl) ?_
           refine re rfl (qv_fa (off := 0) Try.field24_0 rfl) (want_t g22 rfl rfl rfl) ?_
           refine re rfl (qv_ldp (v := (.int .i64 A.v)) Try.plain3 rfl (inOc (k := 0) rfl) rfl) (want_t g22 rfl rfl rfl) ?_
           refine re rfl (qv_ldm (vs := [(.int .i64 B.v), nb, (.int .i64 B.r)]) Try.agg24 rfl (inOc (k := 1) rfl) rfl rfl) (want_t g22 rfl rfl rfl) ?_
           refine re rfl (qv_fa (off := 0) Try.field24_0 rfl) (want_t g22 rfl rfl rfl) ?_
           refine re rfl (qv_ldp (v := (.int .i64 A.v)) Try.plain3 rfl (inOc (k := 0) rfl) rfl) (want_t g22 rfl rfl rfl) ?_
           refine re rfl (qv_mv r42 rfl) (want_t g22 rfl rfl rfl) ?_
           refine re rfl (qv_fa (off := 0) Try.field64_0 rfl) (want_t g22 rfl rfl rfl) ?_
           refine re rfl (qv_ldp (v := (Value.int .i64 i)) Try.plain3 rfl (inOc (k := 2) rfl) rfl) (want_t g22 rfl rfl rfl) ?_
           refine re rfl (qv_fa (off := 0) Try.field24_0 rfl) (want_t g22 rfl rfl rfl) ?_
           refine re rfl (qv_ldp (v := (.int .i64 A.v)) Try.plain3 rfl (inOc (k := 0) rfl) rfl) (want_t g22 rfl rfl rfl) ?_
           refine re rfl (qv_mv r42 rfl) (want_t g22 rfl rfl rfl) ?_
           refine re rfl (qv_fa (off := 0) Try.field64_0 rfl) (want_t g22 rfl rfl rfl) ?_
           refine re rfl (qv_ldp (v := (Value.int .i64 i)) Try.plain3 rfl (inOc (k := 2) rfl) rfl) (want_t g22 rfl rfl rfl) ?_
           refine rl rfl ?_
           refine ops_want (want_t g22 rfl rfl rfl) ?_
           refine ops_call (σa := []) (σr := [(Arr 24 b1 [(.int .i64 A.v), na, (.int .i64 A.r)]), (Arr 24 b2 [(.int .i64 B.v), nb, (.int .i64 B.r)]), (Arr 64 b3 [(Value.int .i64 i), (.bool (decide (b = true)))]), (Arr 24 b4 [(.int .i64 ((rsR A i b).v)), ux, (.int .i64 ((rsR A i b).r))]), (Arr 24 b5 [(.int .i64 ((cpD A B i).v)), uy, (.int .i64 ((cpD A B i).r))])]) (by have h := table_c (A := B) hB (chk_ok.1 (by omega)) (by omega); rw [tbD_v (vars := A.v) (by omega)] at h; exact h) rfl rfl (.refl _) (fun r43 V43 sg43 hV43 hp43 => ?_)
           obtain ⟨rfl, hTr43⟩ := hp43
           have hA := hA.mono hV43
           have hB := hB.mono hV43
           have hx := hx.mono hV43
           have hy := hy.mono hV43
           have hTr33 := hTr33.mono hV43
           have hTr34 := hTr34.mono hV43
           have h3 := h3.mono hV43
           have hTr42 := hTr42.mono hV43
           refine ops_nil ⟨[(Arr 24 b1 [(.int .i64 A.v), na, (.int .i64 A.r)]), (Arr 24 b2 [(.int .i64 B.v), nb, (.int .i64 B.r)]), (Arr 64 b3 [(Value.int .i64 i), (.bool (decide (b = true)))]), (Arr 24 b4 [(.int .i64 ((rsR A i b).v)), ux, (.int .i64 ((rsR A i b).r))]), (Arr 24 b5 [(.int .i64 ((cpD A B i).v)), uy, (.int .i64 ((cpD A B i).r))])], [], hV43, perm_nil _, ⟨[], (.refl _)⟩, ?_⟩
           refine rl rfl ?_
           refine ops_want (want_t g22 rfl rfl rfl) ?_
           refine ops_call (σa := []) (σr := [(Arr 24 b1 [(.int .i64 A.v), na, (.int .i64 A.r)]), (Arr 24 b2 [(.int .i64 B.v), nb, (.int .i64 B.r)]), (Arr 64 b3 [(Value.int .i64 i), (.bool (decide (b = true)))]), (Arr 24 b4 [(.int .i64 ((rsR A i b).v)), ux, (.int .i64 ((rsR A i b).r))]), (Arr 24 b5 [(.int .i64 ((cpD A B i).v)), uy, (.int .i64 ((cpD A B i).r))])]) (restricted_c (vars := A.v) (i := i) (b := true) (g := gA A) hTr42 (gA_dep hokA) (by omega) (by omega) (by omega) (by omega)) rfl rfl (.refl _) (fun r44 V44 sg44 hV44 hp44 => ?_)
           obtain ⟨rfl, hTr44⟩ := hp44
           have hA := hA.mono hV44
           have hB := hB.mono hV44
           have hx := hx.mono hV44
           have hy := hy.mono hV44
           have hTr33 := hTr33.mono hV44
           have hTr34 := hTr34.mono hV44
           have h3 := h3.mono hV44
           have hTr42 := hTr42.mono hV44
           have hTr43 := hTr43.mono hV44
           refine ops_nil ⟨[(Arr 24 b1 [(.int .i64 A.v), na, (.int .i64 A.r)]), (Arr 24 b2 [(.int .i64 B.v), nb, (.int .i64 B.r)]), (Arr 64 b3 [(Value.int .i64 i), (.bool (decide (b = true)))]), (Arr 24 b4 [(.int .i64 ((rsR A i b).v)), ux, (.int .i64 ((rsR A i b).r))]), (Arr 24 b5 [(.int .i64 ((cpD A B i).v)), uy, (.int .i64 ((cpD A B i).r))])], [], hV44, perm_nil _, ⟨[], (.refl _)⟩, ?_⟩
           refine rl rfl ?_
           refine ops_want (want_t g22 rfl rfl rfl) ?_
           refine ops_call (σa := []) (σr := [(Arr 24 b1 [(.int .i64 A.v), na, (.int .i64 A.r)]), (Arr 24 b2 [(.int .i64 B.v), nb, (.int .i64 B.r)]), (Arr 64 b3 [(Value.int .i64 i), (.bool (decide (b = true)))]), (Arr 24 b4 [(.int .i64 ((rsR A i b).v)), ux, (.int .i64 ((rsR A i b).r))]), (Arr 24 b5 [(.int .i64 ((cpD A B i).v)), uy, (.int .i64 ((cpD A B i).r))])]) (restricted_c (vars := A.v) (i := i) (b := false) (g := gA A) hTr42 (gA_dep hokA) (by omega) (by omega) (by omega) (by omega)) rfl rfl (.refl _) (fun r45 V45 sg45 hV45 hp45 => ?_)
           obtain ⟨rfl, hTr45⟩ := hp45
           have hA := hA.mono hV45
           have hB := hB.mono hV45
           have hx := hx.mono hV45
           have hy := hy.mono hV45
           have hTr33 := hTr33.mono hV45
           have hTr34 := hTr34.mono hV45
           have h3 := h3.mono hV45
           have hTr42 := hTr42.mono hV45
           have hTr43 := hTr43.mono hV45
           have hTr44 := hTr44.mono hV45
           refine ops_nil ⟨[(Arr 24 b1 [(.int .i64 A.v), na, (.int .i64 A.r)]), (Arr 24 b2 [(.int .i64 B.v), nb, (.int .i64 B.r)]), (Arr 64 b3 [(Value.int .i64 i), (.bool (decide (b = true)))]), (Arr 24 b4 [(.int .i64 ((rsR A i b).v)), ux, (.int .i64 ((rsR A i b).r))]), (Arr 24 b5 [(.int .i64 ((cpD A B i).v)), uy, (.int .i64 ((cpD A B i).r))])], [], hV45, perm_nil _, ⟨[], (.refl _)⟩, ?_⟩
           refine rl rfl ?_
           refine ops_want (want_t g22 rfl rfl rfl) ?_
           refine ops_call (σa := []) (σr := [(Arr 24 b1 [(.int .i64 A.v), na, (.int .i64 A.r)]), (Arr 24 b2 [(.int .i64 B.v), nb, (.int .i64 B.r)]), (Arr 64 b3 [(Value.int .i64 i), (.bool (decide (b = true)))]), (Arr 24 b4 [(.int .i64 ((rsR A i b).v)), ux, (.int .i64 ((rsR A i b).r))]), (Arr 24 b5 [(.int .i64 ((cpD A B i).v)), uy, (.int .i64 ((cpD A B i).r))])]) (chosen_c hTr43 hTr44 hTr45 (by omega)) rfl rfl (.refl _) (fun r46 V46 sg46 hV46 hp46 => ?_)
           obtain ⟨rfl, hTr46⟩ := hp46
           have hA := hA.mono hV46
           have hB := hB.mono hV46
           have hx := hx.mono hV46
           have hy := hy.mono hV46
           have hTr33 := hTr33.mono hV46
           have hTr34 := hTr34.mono hV46
           have h3 := h3.mono hV46
           have hTr42 := hTr42.mono hV46
           have hTr43 := hTr43.mono hV46
           have hTr44 := hTr44.mono hV46
           have hTr45 := hTr45.mono hV46
           refine ops_nil ⟨[(Arr 24 b1 [(.int .i64 A.v), na, (.int .i64 A.r)]), (Arr 24 b2 [(.int .i64 B.v), nb, (.int .i64 B.r)]), (Arr 64 b3 [(Value.int .i64 i), (.bool (decide (b = true)))]), (Arr 24 b4 [(.int .i64 ((rsR A i b).v)), ux, (.int .i64 ((rsR A i b).r))]), (Arr 24 b5 [(.int .i64 ((cpD A B i).v)), uy, (.int .i64 ((cpD A B i).r))])], [], hV46, perm_nil _, ⟨[], (.refl _)⟩, ?_⟩
           refine rl rfl ?_
           refine ops_want (want_t g22 rfl rfl rfl) ?_
           refine ops_call (σa := []) (σr := [(Arr 24 b1 [(.int .i64 A.v), na, (.int .i64 A.r)]), (Arr 24 b2 [(.int .i64 B.v), nb, (.int .i64 B.r)]), (Arr 64 b3 [(Value.int .i64 i), (.bool (decide (b = true)))]), (Arr 24 b4 [(.int .i64 ((rsR A i b).v)), ux, (.int .i64 ((rsR A i b).r))]), (Arr 24 b5 [(.int .i64 ((cpD A B i).v)), uy, (.int .i64 ((cpD A B i).r))])]) (build_c hTr46 (by omega) (by omega) (tbl_len _ _)) rfl rfl (.refl _) (fun r47 V47 sg47 hV47 hp47 => ?_)
           obtain ⟨rfl, u4, rfl, h4⟩ := hp47
           have hA := hA.mono hV47
           have hB := hB.mono hV47
           have hx := hx.mono hV47
           have hy := hy.mono hV47
           have hTr33 := hTr33.mono hV47
           have hTr34 := hTr34.mono hV47
           have h3 := h3.mono hV47
           have hTr42 := hTr42.mono hV47
           have hTr43 := hTr43.mono hV47
           have hTr44 := hTr44.mono hV47
           have hTr45 := hTr45.mono hV47
           have hTr46 := hTr46.mono hV47
           refine ops_nil ⟨[(Arr 24 b1 [(.int .i64 A.v), na, (.int .i64 A.r)]), (Arr 24 b2 [(.int .i64 B.v), nb, (.int .i64 B.r)]), (Arr 64 b3 [(Value.int .i64 i), (.bool (decide (b = true)))]), (Arr 24 b4 [(.int .i64 ((rsR A i b).v)), ux, (.int .i64 ((rsR A i b).r))]), (Arr 24 b5 [(.int .i64 ((cpD A B i).v)), uy, (.int .i64 ((cpD A B i).r))])], [], hV47, perm_nil _, ⟨[], (.refl _)⟩, ?_⟩
           refine re rfl (qv_call (v := (.bool (decide (cpD A B i = (bldD A.v (tbl A.v (fun e => iteF (gA B e) (gA A (up e i true)) (gA A (up e i false))))))))) (same_c (A := (cpD A B i)) (B := (bldD A.v (tbl A.v (fun e => iteF (gA B e) (gA A (up e i true)) (gA A (up e i false)))))) hy (h4)) rfl rfl) (want_t g22 rfl rfl rfl) ?_
           refine rq rfl (qv_pick_t g22 rfl (rfl : ev _ _ = (.bool (decide (cpD A B i = (bldD A.v (tbl A.v (fun e => iteF (gA B e) (gA A (up e i true)) (gA A (up e i false)))))))))) ?_
           refine rq rfl (qv_as (.bool (decide (cpD A B i = (bldD A.v (tbl A.v (fun e => iteF (gA B e) (gA A (up e i true)) (gA A (up e i false)))))))) rfl) ?_
           refine rnil ?_
           refine vc_ret ?_
           exact rq1 (Value.bool true) (congrArg Value.bool (decide_eq_true (show (cpD A B i = (bldD A.v (tbl A.v (fun e => iteF (gA B e) (gA A (up e i true)) (gA A (up e i false)))))) from by exact hcl))) rfl
          ·
           exact absurd hcp.1 g22
   ·
    refine os (want_tn g2 rfl rfl rfl) ?_
    refine os (want_tn g2 rfl rfl rfl) ?_
    refine os (want_tn g2 rfl rfl rfl) ?_
    refine os (want_tn g2 rfl rfl rfl) ?_
    refine os (want_tn g2 rfl rfl rfl) ?_
    refine oq (qv_pick_f g2 rfl (rfl : ev _ _ = (Value.bool false))) ?_
    refine oq (qv_as (Value.bool false) rfl) ?_
    refine ops_nil ?_
    refine vc_seq ?_
    refine vc_block ?_
    refine vc_seq ?_
    refine vc_region ?_
    refine oq (qv_ldm (vs := [(.int .i64 A.v), na, (.int .i64 A.r)]) Try.agg24 rfl (inOc (k := 0) rfl) rfl rfl) ?_
    refine oq (qv_call (v := (.int .i64 (chkC A.v A.N A.r))) (check_c hA) rfl rfl) ?_
    refine oq (qv_neq rfl rfl) ?_
    refine oq (qv_as (.bool (decide ((chkC A.v A.N A.r) ≠ 0))) rfl) ?_
    refine ops_nil ?_
    refine vc_if rfl (fun c15 => ?_) (fun c15 => ?_)
    ·
     refine vc_seq ?_
     have hv1 := vE1_1 (A := A) (by omega)
     have hr := rsE_v (A := A) (i := i) (b := b) (by omega)
     have hr1 : rsE A i = 1 := by omega
     refine vc_region ?_
     refine oq (qv_mv (.int .i64 (rsE A i)) rfl) ?_
     refine oq (qv_neq rfl rfl) ?_
     refine oq (qv_mv (.bool (decide ((rsE A i) ≠ 1))) rfl) ?_
     by_cases g23 : (rsE A i) ≠ 1
     ·
      exact absurd hr1 g23
     ·
      refine og (qv_ldm (vs := [(.int .i64 ((rsR A i b).v)), ux, (.int .i64 ((rsR A i b).r))]) Try.agg24 rfl (inOc (k := 3) rfl) rfl rfl) (want_f g23 rfl rfl rfl) ?_
      refine og (qv_build (out := [(Value.int .i64 0), (Value.slice none 0 0), (Value.int .i64 0)]) Try.build24 [] rfl rfl) (want_f g23 rfl rfl rfl) ?_
      refine og (qv_call (v := (.bool (decide (rsR A i b = dg0)))) (same_c (A := (rsR A i b)) (B := dg0) hx (Fks.nil)) rfl rfl) (want_f g23 rfl rfl rfl) ?_
      refine og (qv_not rfl) (want_f g23 rfl rfl rfl) ?_
      refine oq (qv_pick_f g23 rfl (rfl : ev _ _ = (.bool (decide (¬ (rsR A i b = dg0)))))) ?_
      refine ops_nil ?_
      refine vc_if rfl (fun c16 => ?_) (fun c16 => ?_)
      ·
       exact absurd hr.2 c16
      ·
       refine vc_skip ?_
       refine vc_seq ?_
       refine vc_region ?_
       refine oq (qv_ldm (vs := [(.int .i64 A.v), na, (.int .i64 A.r)]) Try.agg24 rfl (inOc (k := 0) rfl) rfl rfl) ?_
       refine oq (qv_ldm (vs := [(.int .i64 B.v), nb, (.int .i64 B.r)]) Try.agg24 rfl (inOc (k := 1) rfl) rfl rfl) ?_
       refine oq (qv_call (v := (.int .i64 (vE [A, B]))) (fits_c hA hB) rfl rfl) ?_
       refine oq (qv_as (.int .i64 (vE [A, B])) rfl) ?_
       refine ops_nil ?_
       refine vc_seq ?_
       refine vc_seq ?_
       refine vc_region ?_
       refine oq (qv_mv (.int .i64 (vE [A, B])) rfl) ?_
       refine oq (qv_eql rfl rfl) ?_
       refine oq (qv_mv (.bool (decide ((vE [A, B]) = 0))) rfl) ?_
       by_cases g24 : (vE [A, B]) = 0
       ·
        refine og (qv_mv (Value.bool false) rfl) (want_t g24 rfl rfl rfl) ?_
        refine og (qv_notc rfl) (want_t g24 rfl rfl rfl) ?_
        refine oq (qv_pick_t g24 rfl (rfl : ev _ _ = (Value.bool true))) ?_
        refine ops_nil ?_
        refine vc_tt rfl ?_
        refine vc_region ?_
        refine oq (qv_as (Value.int .i64 3) rfl) ?_
        refine ops_nil ?_
        refine vc_seq ?_
        refine vc_seq ?_
        refine vc_region ?_
        refine oq (qv_mv (Value.int .i64 3) rfl) ?_
        refine oq (qv_neq rfl rfl) ?_
        refine ops_nil ?_
        refine vc_if rfl (fun c17 => ?_) (fun c17 => ?_)
        ·
         refine vc_seq ?_
         have hcp := cp_3 (A := A) (B := B) (i := i) (by omega) (by omega)
         refine vc_region ?_
         refine oq (qv_mv (.int .i64 (cpE A B i)) rfl) ?_
         refine oq (qv_mv (Value.int .i64 3) rfl) ?_
         refine oq (qv_eql rfl rfl) ?_
         refine oq (qv_mv (.bool (decide ((cpE A B i) = 3))) rfl) ?_
         by_cases g25 : (cpE A B i) = 3
         ·
          refine og (qv_ldm (vs := [(.int .i64 ((cpD A B i).v)), uy, (.int .i64 ((cpD A B i).r))]) Try.agg24 rfl (inOc (k := 4) rfl) rfl rfl) (want_t g25 rfl rfl rfl) ?_
          refine og (qv_build (out := [(Value.int .i64 0), (Value.slice none 0 0), (Value.int .i64 0)]) Try.build24 [] rfl rfl) (want_t g25 rfl rfl rfl) ?_
          refine og (qv_call (v := (.bool (decide (cpD A B i = dg0)))) (same_c (A := (cpD A B i)) (B := dg0) hy (Fks.nil)) rfl rfl) (want_t g25 rfl rfl rfl) ?_
          refine oq (qv_pick_t g25 rfl (rfl : ev _ _ = (.bool (decide (cpD A B i = dg0))))) ?_
          refine oq (qv_as (.bool (decide (cpD A B i = dg0))) rfl) ?_
          refine ops_nil ?_
          refine vc_ret ?_
          exact rq1 (Value.bool true) (congrArg Value.bool (decide_eq_true (show (cpD A B i = dg0) from by exact hcp.2))) rfl
         ·
          exact absurd hcp.1 g25
        ·
         refine vc_skip ?_
         refine vc_seq ?_
         have hz : vE [A, B] = 0 := by omega
         obtain ⟨hokA, hok2, hok3⟩ := ok2 hz
         have hvz := hokA.1.1
         have hck1 := chk_ok.2 hokA
         have hck2 := chk_ok.2 hok2
         have hcp := cp_0 (A := A) (B := B) (i := i) hz (by omega)
         have hcl := cp_law (A := A) (B := B) (i := i) hz (by omega)
         refine vc_region ?_
         refine oq (qv_ldm (vs := [(.int .i64 A.v), na, (.int .i64 A.r)]) Try.agg24 rfl (inOc (k := 0) rfl) rfl rfl) ?_
         refine ops_call (σa := []) (σr := [(Arr 24 b1 [(.int .i64 A.v), na, (.int .i64 A.r)]), (Arr 24 b2 [(.int .i64 B.v), nb, (.int .i64 B.r)]), (Arr 64 b3 [(Value.int .i64 i), (.bool (decide (b = true)))]), (Arr 24 b4 [(.int .i64 ((rsR A i b).v)), ux, (.int .i64 ((rsR A i b).r))]), (Arr 24 b5 [(.int .i64 ((cpD A B i).v)), uy, (.int .i64 ((cpD A B i).r))])]) (by have h := table_c (A := A) hA (chk_ok.1 (by omega)) (by omega); rw [tbD_v rfl] at h; exact h) rfl rfl (.refl _) (fun r48 V48 sg48 hV48 hp48 => ?_)
         obtain ⟨rfl, hTr48⟩ := hp48
         have hA := hA.mono hV48
         have hB := hB.mono hV48
         have hx := hx.mono hV48
         have hy := hy.mono hV48
         refine oq (qv_as r48 rfl) ?_
         refine ops_nil ?_
         refine vc_seq ?_
         refine vc_region_order (τ := []) [(0, false), (1, false), (2, false), (3, false), (4, false), (5, false), (6, false), (8, false), (9, false), (10, false), (11, false), (12, false), (14, false), (15, false), (16, false), (17, false), (18, false), (7, true), (13, true), (19, true), (20, true), (21, true), (22, false), (23, false), (24, false)] [(Arr 24 b1 [(.int .i64 A.v), na, (.int .i64 A.r)]), (Arr 24 b2 [(.int .i64 B.v), nb, (.int .i64 B.r)]), (Arr 64 b3 [(Value.int .i64 i), (.bool (decide (b = true)))]), (Arr 24 b4 [(.int .i64 ((rsR A i b).v)), ux, (.int .i64 ((rsR A i b).r))]), (Arr 24 b5 [(.int .i64 ((cpD A B i).v)), uy, (.int .i64 ((cpD A B i).r))])] Try.mixed (perm_nil _) (by kernel_rfl) ?_
         refine rq rfl (qv_mv (.int .i64 (cpE A B i)) rfl) ?_
         refine rq rfl (qv_eql rfl rfl) ?_
         refine rq rfl (qv_mv (.bool (decide ((cpE A B i) = 0))) rfl) ?_
         by_cases g26 : (cpE A B i) = 0
         ·
          refine re rfl (qv_ldm (vs := [(.int .i64 ((cpD A B i).v)), uy, (.int .i64 ((cpD A B i).r))]) Try.agg24 rfl (inOc (k := 4) rfl) rfl rfl) (want_t g26 rfl rfl rfl) ?_
          refine re rfl (qv_fa (off := 0) Try.field24_0 rfl) (want_t g26 rfl rfl rfl) ?_
          refine re rfl (qv_ldp (v := (.int .i64 A.v)) Try.plain3 rfl (inOc (k := 0) rfl) rfl) (want_t g26 rfl rfl rfl) ?_
          refine re rfl (qv_ldm (vs := [(.int .i64 B.v), nb, (.int .i64 B.r)]) Try.agg24 rfl (inOc (k := 1) rfl) rfl rfl) (want_t g26 rfl rfl rfl) ?_
          refine re rfl (qv_fa (off := 0) Try.field24_0 rfl) (want_t g26 rfl rfl rfl) ?_
          refine re rfl (qv_ldp (v := (.int .i64 A.v)) Try.plain3 rfl (inOc (k := 0) rfl) rfl) (want_t g26 rfl rfl rfl) ?_
          refine re rfl (qv_mv r48 rfl) (want_t g26 rfl rfl rfl) ?_
          refine re rfl (qv_fa (off := 0) Try.field64_0 rfl) (want_t g26 rfl rfl rfl) ?_
          refine re rfl (qv_ldp (v := (Value.int .i64 i)) Try.plain3 rfl (inOc (k := 2) rfl) rfl) (want_t g26 rfl rfl rfl) ?_
          refine re rfl (qv_fa (off := 0) Try.field24_0 rfl) (want_t g26 rfl rfl rfl) ?_
          refine re rfl (qv_ldp (v := (.int .i64 A.v)) Try.plain3 rfl (inOc (k := 0) rfl) rfl) (want_t g26 rfl rfl rfl) ?_
          refine re rfl (qv_mv r48 rfl) (want_t g26 rfl rfl rfl) ?_
          refine re rfl (qv_fa (off := 0) Try.field64_0 rfl) (want_t g26 rfl rfl rfl) ?_
          refine re rfl (qv_ldp (v := (Value.int .i64 i)) Try.plain3 rfl (inOc (k := 2) rfl) rfl) (want_t g26 rfl rfl rfl) ?_
          refine rl rfl ?_
          refine ops_want (want_t g26 rfl rfl rfl) ?_
          refine ops_call (σa := []) (σr := [(Arr 24 b1 [(.int .i64 A.v), na, (.int .i64 A.r)]), (Arr 24 b2 [(.int .i64 B.v), nb, (.int .i64 B.r)]), (Arr 64 b3 [(Value.int .i64 i), (.bool (decide (b = true)))]), (Arr 24 b4 [(.int .i64 ((rsR A i b).v)), ux, (.int .i64 ((rsR A i b).r))]), (Arr 24 b5 [(.int .i64 ((cpD A B i).v)), uy, (.int .i64 ((cpD A B i).r))])]) (by have h := table_c (A := B) hB (chk_ok.1 (by omega)) (by omega); rw [tbD_v (vars := A.v) (by omega)] at h; exact h) rfl rfl (.refl _) (fun r49 V49 sg49 hV49 hp49 => ?_)
          obtain ⟨rfl, hTr49⟩ := hp49
          have hA := hA.mono hV49
          have hB := hB.mono hV49
          have hx := hx.mono hV49
          have hy := hy.mono hV49
          have hTr48 := hTr48.mono hV49
          refine ops_nil ⟨[(Arr 24 b1 [(.int .i64 A.v), na, (.int .i64 A.r)]), (Arr 24 b2 [(.int .i64 B.v), nb, (.int .i64 B.r)]), (Arr 64 b3 [(Value.int .i64 i), (.bool (decide (b = true)))]), (Arr 24 b4 [(.int .i64 ((rsR A i b).v)), ux, (.int .i64 ((rsR A i b).r))]), (Arr 24 b5 [(.int .i64 ((cpD A B i).v)), uy, (.int .i64 ((cpD A B i).r))])], [], hV49, perm_nil _, ⟨[], (.refl _)⟩, ?_⟩
          refine rl rfl ?_
          refine ops_want (want_t g26 rfl rfl rfl) ?_
          refine ops_call (σa := []) (σr := [(Arr 24 b1 [(.int .i64 A.v), na, (.int .i64 A.r)]), (Arr 24 b2 [(.int .i64 B.v), nb, (.int .i64 B.r)]), (Arr 64 b3 [(Value.int .i64 i), (.bool (decide (b = true)))]), (Arr 24 b4 [(.int .i64 ((rsR A i b).v)), ux, (.int .i64 ((rsR A i b).r))]), (Arr 24 b5 [(.int .i64 ((cpD A B i).v)), uy, (.int .i64 ((cpD A B i).r))])]) (restricted_c (vars := A.v) (i := i) (b := true) (g := gA A) hTr48 (gA_dep hokA) (by omega) (by omega) (by omega) (by omega)) rfl rfl (.refl _) (fun r50 V50 sg50 hV50 hp50 => ?_)
          obtain ⟨rfl, hTr50⟩ := hp50
          have hA := hA.mono hV50
          have hB := hB.mono hV50
          have hx := hx.mono hV50
          have hy := hy.mono hV50
          have hTr48 := hTr48.mono hV50
          have hTr49 := hTr49.mono hV50
          refine ops_nil ⟨[(Arr 24 b1 [(.int .i64 A.v), na, (.int .i64 A.r)]), (Arr 24 b2 [(.int .i64 B.v), nb, (.int .i64 B.r)]), (Arr 64 b3 [(Value.int .i64 i), (.bool (decide (b = true)))]), (Arr 24 b4 [(.int .i64 ((rsR A i b).v)), ux, (.int .i64 ((rsR A i b).r))]), (Arr 24 b5 [(.int .i64 ((cpD A B i).v)), uy, (.int .i64 ((cpD A B i).r))])], [], hV50, perm_nil _, ⟨[], (.refl _)⟩, ?_⟩
          refine rl rfl ?_
          refine ops_want (want_t g26 rfl rfl rfl) ?_
          refine ops_call (σa := []) (σr := [(Arr 24 b1 [(.int .i64 A.v), na, (.int .i64 A.r)]), (Arr 24 b2 [(.int .i64 B.v), nb, (.int .i64 B.r)]), (Arr 64 b3 [(Value.int .i64 i), (.bool (decide (b = true)))]), (Arr 24 b4 [(.int .i64 ((rsR A i b).v)), ux, (.int .i64 ((rsR A i b).r))]), (Arr 24 b5 [(.int .i64 ((cpD A B i).v)), uy, (.int .i64 ((cpD A B i).r))])]) (restricted_c (vars := A.v) (i := i) (b := false) (g := gA A) hTr48 (gA_dep hokA) (by omega) (by omega) (by omega) (by omega)) rfl rfl (.refl _) (fun r51 V51 sg51 hV51 hp51 => ?_)
          obtain ⟨rfl, hTr51⟩ := hp51
          have hA := hA.mono hV51
          have hB := hB.mono hV51
          have hx := hx.mono hV51
          have hy := hy.mono hV51
          have hTr48 := hTr48.mono hV51
          have hTr49 := hTr49.mono hV51
          have hTr50 := hTr50.mono hV51
          refine ops_nil ⟨[(Arr 24 b1 [(.int .i64 A.v), na, (.int .i64 A.r)]), (Arr 24 b2 [(.int .i64 B.v), nb, (.int .i64 B.r)]), (Arr 64 b3 [(Value.int .i64 i), (.bool (decide (b = true)))]), (Arr 24 b4 [(.int .i64 ((rsR A i b).v)), ux, (.int .i64 ((rsR A i b).r))]), (Arr 24 b5 [(.int .i64 ((cpD A B i).v)), uy, (.int .i64 ((cpD A B i).r))])], [], hV51, perm_nil _, ⟨[], (.refl _)⟩, ?_⟩
          refine rl rfl ?_
          refine ops_want (want_t g26 rfl rfl rfl) ?_
          refine ops_call (σa := []) (σr := [(Arr 24 b1 [(.int .i64 A.v), na, (.int .i64 A.r)]), (Arr 24 b2 [(.int .i64 B.v), nb, (.int .i64 B.r)]), (Arr 64 b3 [(Value.int .i64 i), (.bool (decide (b = true)))]), (Arr 24 b4 [(.int .i64 ((rsR A i b).v)), ux, (.int .i64 ((rsR A i b).r))]), (Arr 24 b5 [(.int .i64 ((cpD A B i).v)), uy, (.int .i64 ((cpD A B i).r))])]) (chosen_c hTr49 hTr50 hTr51 (by omega)) rfl rfl (.refl _) (fun r52 V52 sg52 hV52 hp52 => ?_)
          obtain ⟨rfl, hTr52⟩ := hp52
          have hA := hA.mono hV52
          have hB := hB.mono hV52
          have hx := hx.mono hV52
          have hy := hy.mono hV52
          have hTr48 := hTr48.mono hV52
          have hTr49 := hTr49.mono hV52
          have hTr50 := hTr50.mono hV52
          have hTr51 := hTr51.mono hV52
          refine ops_nil ⟨[(Arr 24 b1 [(.int .i64 A.v), na, (.int .i64 A.r)]), (Arr 24 b2 [(.int .i64 B.v), nb, (.int .i64 B.r)]), (Arr 64 b3 [(Value.int .i64 i), (.bool (decide (b = true)))]), (Arr 24 b4 [(.int .i64 ((rsR A i b).v)), ux, (.int .i64 ((rsR A i b).r))]), (Arr 24 b5 [(.int .i64 ((cpD A B i).v)), uy, (.int .i64 ((cpD A B i).r))])], [], hV52, perm_nil _, ⟨[], (.refl _)⟩, ?_⟩
          refine rl rfl ?_
          refine ops_want (want_t g26 rfl rfl rfl) ?_
          refine ops_call (σa := []) (σr := [(Arr 24 b1 [(.int .i64 A.v), na, (.int .i64 A.r)]), (Arr 24 b2 [(.int .i64 B.v), nb, (.int .i64 B.r)]), (Arr 64 b3 [(Value.int .i64 i), (.bool (decide (b = true)))]), (Arr 24 b4 [(.int .i64 ((rsR A i b).v)), ux, (.int .i64 ((rsR A i b).r))]), (Arr 24 b5 [(.int .i64 ((cpD A B i).v)), uy, (.int .i64 ((cpD A B i).r))])]) (build_c hTr52 (by omega) (by omega) (tbl_len _ _)) rfl rfl (.refl _) (fun r53 V53 sg53 hV53 hp53 => ?_)
          obtain ⟨rfl, u4, rfl, h4⟩ := hp53
          have hA := hA.mono hV53
          have hB := hB.mono hV53
          have hx := hx.mono hV53
          have hy := hy.mono hV53
          have hTr48 := hTr48.mono hV53
          have hTr49 := hTr49.mono hV53
          have hTr50 := hTr50.mono hV53
          have hTr51 := hTr51.mono hV53
          have hTr52 := hTr52.mono hV53
          refine ops_nil ⟨[(Arr 24 b1 [(.int .i64 A.v), na, (.int .i64 A.r)]), (Arr 24 b2 [(.int .i64 B.v), nb, (.int .i64 B.r)]), (Arr 64 b3 [(Value.int .i64 i), (.bool (decide (b = true)))]), (Arr 24 b4 [(.int .i64 ((rsR A i b).v)), ux, (.int .i64 ((rsR A i b).r))]), (Arr 24 b5 [(.int .i64 ((cpD A B i).v)), uy, (.int .i64 ((cpD A B i).r))])], [], hV53, perm_nil _, ⟨[], (.refl _)⟩, ?_⟩
          refine re rfl (qv_call (v := (.bool (decide (cpD A B i = (bldD A.v (tbl A.v (fun e => iteF (gA B e) (gA A (up e i true)) (gA A (up e i false))))))))) (same_c (A := (cpD A B i)) (B := (bldD A.v (tbl A.v (fun e => iteF (gA B e) (gA A (up e i true)) (gA A (up e i false)))))) hy (h4)) rfl rfl) (want_t g26 rfl rfl rfl) ?_
          refine rq rfl (qv_pick_t g26 rfl (rfl : ev _ _ = (.bool (decide (cpD A B i = (bldD A.v (tbl A.v (fun e => iteF (gA B e) (gA A (up e i true)) (gA A (up e i false)))))))))) ?_
          refine rq rfl (qv_as (.bool (decide (cpD A B i = (bldD A.v (tbl A.v (fun e => iteF (gA B e) (gA A (up e i true)) (gA A (up e i false)))))))) rfl) ?_
          refine rnil ?_
          refine vc_ret ?_
          exact rq1 (Value.bool true) (congrArg Value.bool (decide_eq_true (show (cpD A B i = (bldD A.v (tbl A.v (fun e => iteF (gA B e) (gA A (up e i true)) (gA A (up e i false)))))) from by exact hcl))) rfl
         ·
          exact absurd hcp.1 g26
       ·
        refine os (want_tn g24 rfl rfl rfl) ?_
        refine os (want_tn g24 rfl rfl rfl) ?_
        refine oq (qv_pick_f g24 rfl (rfl : ev _ _ = (Value.bool false))) ?_
        refine ops_nil ?_
        refine vc_ff rfl ?_
        refine vc_skip ?_
        refine vc_seq ?_
        refine vc_seq ?_
        refine vc_region ?_
        refine oq (qv_mv (.int .i64 (vE [A, B])) rfl) ?_
        refine oq (qv_neq rfl rfl) ?_
        refine ops_nil ?_
        refine vc_if rfl (fun c18 => ?_) (fun c18 => ?_)
        ·
         refine vc_seq ?_
         have hcp := cp_v (A := A) (B := B) (i := i) (by omega)
         refine vc_region ?_
         refine oq (qv_mv (.int .i64 (cpE A B i)) rfl) ?_
         refine oq (qv_mv (.int .i64 (vE [A, B])) rfl) ?_
         refine oq (qv_eql rfl rfl) ?_
         refine oq (qv_mv (.bool (decide ((cpE A B i) = (vE [A, B])))) rfl) ?_
         by_cases g27 : (cpE A B i) = (vE [A, B])
         ·
          refine og (qv_ldm (vs := [(.int .i64 ((cpD A B i).v)), uy, (.int .i64 ((cpD A B i).r))]) Try.agg24 rfl (inOc (k := 4) rfl) rfl rfl) (want_t g27 rfl rfl rfl) ?_
          refine og (qv_build (out := [(Value.int .i64 0), (Value.slice none 0 0), (Value.int .i64 0)]) Try.build24 [] rfl rfl) (want_t g27 rfl rfl rfl) ?_
          refine og (qv_call (v := (.bool (decide (cpD A B i = dg0)))) (same_c (A := (cpD A B i)) (B := dg0) hy (Fks.nil)) rfl rfl) (want_t g27 rfl rfl rfl) ?_
          refine oq (qv_pick_t g27 rfl (rfl : ev _ _ = (.bool (decide (cpD A B i = dg0))))) ?_
          refine oq (qv_as (.bool (decide (cpD A B i = dg0))) rfl) ?_
          refine ops_nil ?_
          refine vc_ret ?_
          exact rq1 (Value.bool true) (congrArg Value.bool (decide_eq_true (show (cpD A B i = dg0) from by exact hcp.2))) rfl
         ·
          exact absurd hcp.1 g27
        ·
         refine vc_skip ?_
         refine vc_seq ?_
         have hz : vE [A, B] = 0 := by omega
         obtain ⟨hokA, hok2, hok3⟩ := ok2 hz
         have hvz := hokA.1.1
         have hck1 := chk_ok.2 hokA
         have hck2 := chk_ok.2 hok2
         have hcp := cp_0 (A := A) (B := B) (i := i) hz (by omega)
         have hcl := cp_law (A := A) (B := B) (i := i) hz (by omega)
         refine vc_region ?_
         refine oq (qv_ldm (vs := [(.int .i64 A.v), na, (.int .i64 A.r)]) Try.agg24 rfl (inOc (k := 0) rfl) rfl rfl) ?_
         refine ops_call (σa := []) (σr := [(Arr 24 b1 [(.int .i64 A.v), na, (.int .i64 A.r)]), (Arr 24 b2 [(.int .i64 B.v), nb, (.int .i64 B.r)]), (Arr 64 b3 [(Value.int .i64 i), (.bool (decide (b = true)))]), (Arr 24 b4 [(.int .i64 ((rsR A i b).v)), ux, (.int .i64 ((rsR A i b).r))]), (Arr 24 b5 [(.int .i64 ((cpD A B i).v)), uy, (.int .i64 ((cpD A B i).r))])]) (by have h := table_c (A := A) hA (chk_ok.1 (by omega)) (by omega); rw [tbD_v rfl] at h; exact h) rfl rfl (.refl _) (fun r54 V54 sg54 hV54 hp54 => ?_)
         obtain ⟨rfl, hTr54⟩ := hp54
         have hA := hA.mono hV54
         have hB := hB.mono hV54
         have hx := hx.mono hV54
         have hy := hy.mono hV54
         refine oq (qv_as r54 rfl) ?_
         refine ops_nil ?_
         refine vc_seq ?_
         refine vc_region_order (τ := []) [(0, false), (1, false), (2, false), (3, false), (4, false), (5, false), (6, false), (8, false), (9, false), (10, false), (11, false), (12, false), (14, false), (15, false), (16, false), (17, false), (18, false), (7, true), (13, true), (19, true), (20, true), (21, true), (22, false), (23, false), (24, false)] [(Arr 24 b1 [(.int .i64 A.v), na, (.int .i64 A.r)]), (Arr 24 b2 [(.int .i64 B.v), nb, (.int .i64 B.r)]), (Arr 64 b3 [(Value.int .i64 i), (.bool (decide (b = true)))]), (Arr 24 b4 [(.int .i64 ((rsR A i b).v)), ux, (.int .i64 ((rsR A i b).r))]), (Arr 24 b5 [(.int .i64 ((cpD A B i).v)), uy, (.int .i64 ((cpD A B i).r))])] Try.mixed (perm_nil _) (by kernel_rfl) ?_
         refine rq rfl (qv_mv (.int .i64 (cpE A B i)) rfl) ?_
         refine rq rfl (qv_eql rfl rfl) ?_
         refine rq rfl (qv_mv (.bool (decide ((cpE A B i) = 0))) rfl) ?_
         by_cases g28 : (cpE A B i) = 0
         ·
          refine re rfl (qv_ldm (vs := [(.int .i64 ((cpD A B i).v)), uy, (.int .i64 ((cpD A B i).r))]) Try.agg24 rfl (inOc (k := 4) rfl) rfl rfl) (want_t g28 rfl rfl rfl) ?_
          refine re rfl (qv_fa (off := 0) Try.field24_0 rfl) (want_t g28 rfl rfl rfl) ?_
          refine re rfl (qv_ldp (v := (.int .i64 A.v)) Try.plain3 rfl (inOc (k := 0) rfl) rfl) (want_t g28 rfl rfl rfl) ?_
          refine re rfl (qv_ldm (vs := [(.int .i64 B.v), nb, (.int .i64 B.r)]) Try.agg24 rfl (inOc (k := 1) rfl) rfl rfl) (want_t g28 rfl rfl rfl) ?_
          refine re rfl (qv_fa (off := 0) Try.field24_0 rfl) (want_t g28 rfl rfl rfl) ?_
          refine re rfl (qv_ldp (v := (.int .i64 A.v)) Try.plain3 rfl (inOc (k := 0) rfl) rfl) (want_t g28 rfl rfl rfl) ?_
          refine re rfl (qv_mv r54 rfl) (want_t g28 rfl rfl rfl) ?_
          refine re rfl (qv_fa (off := 0) Try.field64_0 rfl) (want_t g28 rfl rfl rfl) ?_
          refine re rfl (qv_ldp (v := (Value.int .i64 i)) Try.plain3 rfl (inOc (k := 2) rfl) rfl) (want_t g28 rfl rfl rfl) ?_
          refine re rfl (qv_fa (off := 0) Try.field24_0 rfl) (want_t g28 rfl rfl rfl) ?_
          refine re rfl (qv_ldp (v := (.int .i64 A.v)) Try.plain3 rfl (inOc (k := 0) rfl) rfl) (want_t g28 rfl rfl rfl) ?_
          refine re rfl (qv_mv r54 rfl) (want_t g28 rfl rfl rfl) ?_
          refine re rfl (qv_fa (off := 0) Try.field64_0 rfl) (want_t g28 rfl rfl rfl) ?_
          refine re rfl (qv_ldp (v := (Value.int .i64 i)) Try.plain3 rfl (inOc (k := 2) rfl) rfl) (want_t g28 rfl rfl rfl) ?_
          refine rl rfl ?_
          refine ops_want (want_t g28 rfl rfl rfl) ?_
          refine ops_call (σa := []) (σr := [(Arr 24 b1 [(.int .i64 A.v), na, (.int .i64 A.r)]), (Arr 24 b2 [(.int .i64 B.v), nb, (.int .i64 B.r)]), (Arr 64 b3 [(Value.int .i64 i), (.bool (decide (b = true)))]), (Arr 24 b4 [(.int .i64 ((rsR A i b).v)), ux, (.int .i64 ((rsR A i b).r))]), (Arr 24 b5 [(.int .i64 ((cpD A B i).v)), uy, (.int .i64 ((cpD A B i).r))])]) (by have h := table_c (A := B) hB (chk_ok.1 (by omega)) (by omega); rw [tbD_v (vars := A.v) (by omega)] at h; exact h) rfl rfl (.refl _) (fun r55 V55 sg55 hV55 hp55 => ?_)
          obtain ⟨rfl, hTr55⟩ := hp55
          have hA := hA.mono hV55
          have hB := hB.mono hV55
          have hx := hx.mono hV55
          have hy := hy.mono hV55
          have hTr54 := hTr54.mono hV55
          refine ops_nil ⟨[(Arr 24 b1 [(.int .i64 A.v), na, (.int .i64 A.r)]), (Arr 24 b2 [(.int .i64 B.v), nb, (.int .i64 B.r)]), (Arr 64 b3 [(Value.int .i64 i), (.bool (decide (b = true)))]), (Arr 24 b4 [(.int .i64 ((rsR A i b).v)), ux, (.int .i64 ((rsR A i b).r))]), (Arr 24 b5 [(.int .i64 ((cpD A B i).v)), uy, (.int .i64 ((cpD A B i).r))])], [], hV55, perm_nil _, ⟨[], (.refl _)⟩, ?_⟩
          refine rl rfl ?_
          refine ops_want (want_t g28 rfl rfl rfl) ?_
          refine ops_call (σa := []) (σr := [(Arr 24 b1 [(.int .i64 A.v), na, (.int .i64 A.r)]), (Arr 24 b2 [(.int .i64 B.v), nb, (.int .i64 B.r)]), (Arr 64 b3 [(Value.int .i64 i), (.bool (decide (b = true)))]), (Arr 24 b4 [(.int .i64 ((rsR A i b).v)), ux, (.int .i64 ((rsR A i b).r))]), (Arr 24 b5 [(.int .i64 ((cpD A B i).v)), uy, (.int .i64 ((cpD A B i).r))])]) (restricted_c (vars := A.v) (i := i) (b := true) (g := gA A) hTr54 (gA_dep hokA) (by omega) (by omega) (by omega) (by omega)) rfl rfl (.refl _) (fun r56 V56 sg56 hV56 hp56 => ?_)
          obtain ⟨rfl, hTr56⟩ := hp56
          have hA := hA.mono hV56
          have hB := hB.mono hV56
          have hx := hx.mono hV56
          have hy := hy.mono hV56
          have hTr54 := hTr54.mono hV56
          have hTr55 := hTr55.mono hV56
          refine ops_nil ⟨[(Arr 24 b1 [(.int .i64 A.v), na, (.int .i64 A.r)]), (Arr 24 b2 [(.int .i64 B.v), nb, (.int .i64 B.r)]), (Arr 64 b3 [(Value.int .i64 i), (.bool (decide (b = true)))]), (Arr 24 b4 [(.int .i64 ((rsR A i b).v)), ux, (.int .i64 ((rsR A i b).r))]), (Arr 24 b5 [(.int .i64 ((cpD A B i).v)), uy, (.int .i64 ((cpD A B i).r))])], [], hV56, perm_nil _, ⟨[], (.refl _)⟩, ?_⟩
          refine rl rfl ?_
          refine ops_want (want_t g28 rfl rfl rfl) ?_
          refine ops_call (σa := []) (σr := [(Arr 24 b1 [(.int .i64 A.v), na, (.int .i64 A.r)]), (Arr 24 b2 [(.int .i64 B.v), nb, (.int .i64 B.r)]), (Arr 64 b3 [(Value.int .i64 i), (.bool (decide (b = true)))]), (Arr 24 b4 [(.int .i64 ((rsR A i b).v)), ux, (.int .i64 ((rsR A i b).r))]), (Arr 24 b5 [(.int .i64 ((cpD A B i).v)), uy, (.int .i64 ((cpD A B i).r))])]) (restricted_c (vars := A.v) (i := i) (b := false) (g := gA A) hTr54 (gA_dep hokA) (by omega) (by omega) (by omega) (by omega)) rfl rfl (.refl _) (fun r57 V57 sg57 hV57 hp57 => ?_)
          obtain ⟨rfl, hTr57⟩ := hp57
          have hA := hA.mono hV57
          have hB := hB.mono hV57
          have hx := hx.mono hV57
          have hy := hy.mono hV57
          have hTr54 := hTr54.mono hV57
          have hTr55 := hTr55.mono hV57
          have hTr56 := hTr56.mono hV57
          refine ops_nil ⟨[(Arr 24 b1 [(.int .i64 A.v), na, (.int .i64 A.r)]), (Arr 24 b2 [(.int .i64 B.v), nb, (.int .i64 B.r)]), (Arr 64 b3 [(Value.int .i64 i), (.bool (decide (b = true)))]), (Arr 24 b4 [(.int .i64 ((rsR A i b).v)), ux, (.int .i64 ((rsR A i b).r))]), (Arr 24 b5 [(.int .i64 ((cpD A B i).v)), uy, (.int .i64 ((cpD A B i).r))])], [], hV57, perm_nil _, ⟨[], (.refl _)⟩, ?_⟩
          refine rl rfl ?_
          refine ops_want (want_t g28 rfl rfl rfl) ?_
          refine ops_call (σa := []) (σr := [(Arr 24 b1 [(.int .i64 A.v), na, (.int .i64 A.r)]), (Arr 24 b2 [(.int .i64 B.v), nb, (.int .i64 B.r)]), (Arr 64 b3 [(Value.int .i64 i), (.bool (decide (b = true)))]), (Arr 24 b4 [(.int .i64 ((rsR A i b).v)), ux, (.int .i64 ((rsR A i b).r))]), (Arr 24 b5 [(.int .i64 ((cpD A B i).v)), uy, (.int .i64 ((cpD A B i).r))])]) (chosen_c hTr55 hTr56 hTr57 (by omega)) rfl rfl (.refl _) (fun r58 V58 sg58 hV58 hp58 => ?_)
          obtain ⟨rfl, hTr58⟩ := hp58
          have hA := hA.mono hV58
          have hB := hB.mono hV58
          have hx := hx.mono hV58
          have hy := hy.mono hV58
          have hTr54 := hTr54.mono hV58
          have hTr55 := hTr55.mono hV58
          have hTr56 := hTr56.mono hV58
          have hTr57 := hTr57.mono hV58
          refine ops_nil ⟨[(Arr 24 b1 [(.int .i64 A.v), na, (.int .i64 A.r)]), (Arr 24 b2 [(.int .i64 B.v), nb, (.int .i64 B.r)]), (Arr 64 b3 [(Value.int .i64 i), (.bool (decide (b = true)))]), (Arr 24 b4 [(.int .i64 ((rsR A i b).v)), ux, (.int .i64 ((rsR A i b).r))]), (Arr 24 b5 [(.int .i64 ((cpD A B i).v)), uy, (.int .i64 ((cpD A B i).r))])], [], hV58, perm_nil _, ⟨[], (.refl _)⟩, ?_⟩
          refine rl rfl ?_
          refine ops_want (want_t g28 rfl rfl rfl) ?_
          refine ops_call (σa := []) (σr := [(Arr 24 b1 [(.int .i64 A.v), na, (.int .i64 A.r)]), (Arr 24 b2 [(.int .i64 B.v), nb, (.int .i64 B.r)]), (Arr 64 b3 [(Value.int .i64 i), (.bool (decide (b = true)))]), (Arr 24 b4 [(.int .i64 ((rsR A i b).v)), ux, (.int .i64 ((rsR A i b).r))]), (Arr 24 b5 [(.int .i64 ((cpD A B i).v)), uy, (.int .i64 ((cpD A B i).r))])]) (build_c hTr58 (by omega) (by omega) (tbl_len _ _)) rfl rfl (.refl _) (fun r59 V59 sg59 hV59 hp59 => ?_)
          obtain ⟨rfl, u4, rfl, h4⟩ := hp59
          have hA := hA.mono hV59
          have hB := hB.mono hV59
          have hx := hx.mono hV59
          have hy := hy.mono hV59
          have hTr54 := hTr54.mono hV59
          have hTr55 := hTr55.mono hV59
          have hTr56 := hTr56.mono hV59
          have hTr57 := hTr57.mono hV59
          have hTr58 := hTr58.mono hV59
          refine ops_nil ⟨[(Arr 24 b1 [(.int .i64 A.v), na, (.int .i64 A.r)]), (Arr 24 b2 [(.int .i64 B.v), nb, (.int .i64 B.r)]), (Arr 64 b3 [(Value.int .i64 i), (.bool (decide (b = true)))]), (Arr 24 b4 [(.int .i64 ((rsR A i b).v)), ux, (.int .i64 ((rsR A i b).r))]), (Arr 24 b5 [(.int .i64 ((cpD A B i).v)), uy, (.int .i64 ((cpD A B i).r))])], [], hV59, perm_nil _, ⟨[], (.refl _)⟩, ?_⟩
          refine re rfl (qv_call (v := (.bool (decide (cpD A B i = (bldD A.v (tbl A.v (fun e => iteF (gA B e) (gA A (up e i true)) (gA A (up e i false))))))))) (same_c (A := (cpD A B i)) (B := (bldD A.v (tbl A.v (fun e => iteF (gA B e) (gA A (up e i true)) (gA A (up e i false)))))) hy (h4)) rfl rfl) (want_t g28 rfl rfl rfl) ?_
          refine rq rfl (qv_pick_t g28 rfl (rfl : ev _ _ = (.bool (decide (cpD A B i = (bldD A.v (tbl A.v (fun e => iteF (gA B e) (gA A (up e i true)) (gA A (up e i false)))))))))) ?_
          refine rq rfl (qv_as (.bool (decide (cpD A B i = (bldD A.v (tbl A.v (fun e => iteF (gA B e) (gA A (up e i true)) (gA A (up e i false)))))))) rfl) ?_
          refine rnil ?_
          refine vc_ret ?_
          exact rq1 (Value.bool true) (congrArg Value.bool (decide_eq_true (show (cpD A B i = (bldD A.v (tbl A.v (fun e => iteF (gA B e) (gA A (up e i true)) (gA A (up e i false)))))) from by exact hcl))) rfl
         ·
          exact absurd hcp.1 g28
    ·
     refine vc_seq ?_
     refine vc_region ?_
     refine oq (qv_mv (Value.bool false) rfl) ?_
     refine oq (qv_notc rfl) ?_
     refine oq (qv_as (Value.bool true) rfl) ?_
     refine ops_nil ?_
     refine vc_tt rfl ?_
     refine vc_seq ?_
     have hz1 := vE1_0 (A := A) (by omega)
     have hr := rsE_3 (A := A) (i := i) (b := b) hz1 (by omega)
     refine vc_region ?_
     refine oq (qv_mv (.int .i64 (rsE A i)) rfl) ?_
     refine oq (qv_neq rfl rfl) ?_
     refine oq (qv_mv (.bool (decide ((rsE A i) ≠ 3))) rfl) ?_
     by_cases g29 : (rsE A i) ≠ 3
     ·
      exact absurd hr.1 g29
     ·
      refine og (qv_ldm (vs := [(.int .i64 ((rsR A i b).v)), ux, (.int .i64 ((rsR A i b).r))]) Try.agg24 rfl (inOc (k := 3) rfl) rfl rfl) (want_f g29 rfl rfl rfl) ?_
      refine og (qv_build (out := [(Value.int .i64 0), (Value.slice none 0 0), (Value.int .i64 0)]) Try.build24 [] rfl rfl) (want_f g29 rfl rfl rfl) ?_
      refine og (qv_call (v := (.bool (decide (rsR A i b = dg0)))) (same_c (A := (rsR A i b)) (B := dg0) hx (Fks.nil)) rfl rfl) (want_f g29 rfl rfl rfl) ?_
      refine og (qv_not rfl) (want_f g29 rfl rfl rfl) ?_
      refine oq (qv_pick_f g29 rfl (rfl : ev _ _ = (.bool (decide (¬ (rsR A i b = dg0)))))) ?_
      refine ops_nil ?_
      refine vc_if rfl (fun c19 => ?_) (fun c19 => ?_)
      ·
       exact absurd hr.2 c19
      ·
       refine vc_skip ?_
       refine vc_seq ?_
       refine vc_region ?_
       refine oq (qv_ldm (vs := [(.int .i64 A.v), na, (.int .i64 A.r)]) Try.agg24 rfl (inOc (k := 0) rfl) rfl rfl) ?_
       refine oq (qv_ldm (vs := [(.int .i64 B.v), nb, (.int .i64 B.r)]) Try.agg24 rfl (inOc (k := 1) rfl) rfl rfl) ?_
       refine oq (qv_call (v := (.int .i64 (vE [A, B]))) (fits_c hA hB) rfl rfl) ?_
       refine oq (qv_as (.int .i64 (vE [A, B])) rfl) ?_
       refine ops_nil ?_
       refine vc_seq ?_
       refine vc_seq ?_
       refine vc_region ?_
       refine oq (qv_mv (.int .i64 (vE [A, B])) rfl) ?_
       refine oq (qv_eql rfl rfl) ?_
       refine oq (qv_mv (.bool (decide ((vE [A, B]) = 0))) rfl) ?_
       by_cases g30 : (vE [A, B]) = 0
       ·
        refine og (qv_mv (Value.bool false) rfl) (want_t g30 rfl rfl rfl) ?_
        refine og (qv_notc rfl) (want_t g30 rfl rfl rfl) ?_
        refine oq (qv_pick_t g30 rfl (rfl : ev _ _ = (Value.bool true))) ?_
        refine ops_nil ?_
        refine vc_tt rfl ?_
        refine vc_region ?_
        refine oq (qv_as (Value.int .i64 3) rfl) ?_
        refine ops_nil ?_
        refine vc_seq ?_
        refine vc_seq ?_
        refine vc_region ?_
        refine oq (qv_mv (Value.int .i64 3) rfl) ?_
        refine oq (qv_neq rfl rfl) ?_
        refine ops_nil ?_
        refine vc_if rfl (fun c20 => ?_) (fun c20 => ?_)
        ·
         refine vc_seq ?_
         have hcp := cp_3 (A := A) (B := B) (i := i) (by omega) (by omega)
         refine vc_region ?_
         refine oq (qv_mv (.int .i64 (cpE A B i)) rfl) ?_
         refine oq (qv_mv (Value.int .i64 3) rfl) ?_
         refine oq (qv_eql rfl rfl) ?_
         refine oq (qv_mv (.bool (decide ((cpE A B i) = 3))) rfl) ?_
         by_cases g31 : (cpE A B i) = 3
         ·
          refine og (qv_ldm (vs := [(.int .i64 ((cpD A B i).v)), uy, (.int .i64 ((cpD A B i).r))]) Try.agg24 rfl (inOc (k := 4) rfl) rfl rfl) (want_t g31 rfl rfl rfl) ?_
          refine og (qv_build (out := [(Value.int .i64 0), (Value.slice none 0 0), (Value.int .i64 0)]) Try.build24 [] rfl rfl) (want_t g31 rfl rfl rfl) ?_
          refine og (qv_call (v := (.bool (decide (cpD A B i = dg0)))) (same_c (A := (cpD A B i)) (B := dg0) hy (Fks.nil)) rfl rfl) (want_t g31 rfl rfl rfl) ?_
          refine oq (qv_pick_t g31 rfl (rfl : ev _ _ = (.bool (decide (cpD A B i = dg0))))) ?_
          refine oq (qv_as (.bool (decide (cpD A B i = dg0))) rfl) ?_
          refine ops_nil ?_
          refine vc_ret ?_
          exact rq1 (Value.bool true) (congrArg Value.bool (decide_eq_true (show (cpD A B i = dg0) from by exact hcp.2))) rfl
         ·
          exact absurd hcp.1 g31
        ·
         refine vc_skip ?_
         refine vc_seq ?_
         have hz : vE [A, B] = 0 := by omega
         obtain ⟨hokA, hok2, hok3⟩ := ok2 hz
         have hvz := hokA.1.1
         have hck1 := chk_ok.2 hokA
         have hck2 := chk_ok.2 hok2
         have hcp := cp_0 (A := A) (B := B) (i := i) hz (by omega)
         have hcl := cp_law (A := A) (B := B) (i := i) hz (by omega)
         refine vc_region ?_
         refine oq (qv_ldm (vs := [(.int .i64 A.v), na, (.int .i64 A.r)]) Try.agg24 rfl (inOc (k := 0) rfl) rfl rfl) ?_
         refine ops_call (σa := []) (σr := [(Arr 24 b1 [(.int .i64 A.v), na, (.int .i64 A.r)]), (Arr 24 b2 [(.int .i64 B.v), nb, (.int .i64 B.r)]), (Arr 64 b3 [(Value.int .i64 i), (.bool (decide (b = true)))]), (Arr 24 b4 [(.int .i64 ((rsR A i b).v)), ux, (.int .i64 ((rsR A i b).r))]), (Arr 24 b5 [(.int .i64 ((cpD A B i).v)), uy, (.int .i64 ((cpD A B i).r))])]) (by have h := table_c (A := A) hA (chk_ok.1 (by omega)) (by omega); rw [tbD_v rfl] at h; exact h) rfl rfl (.refl _) (fun r60 V60 sg60 hV60 hp60 => ?_)
         obtain ⟨rfl, hTr60⟩ := hp60
         have hA := hA.mono hV60
         have hB := hB.mono hV60
         have hx := hx.mono hV60
         have hy := hy.mono hV60
         refine oq (qv_as r60 rfl) ?_
         refine ops_nil ?_
         refine vc_seq ?_
         refine vc_region_order (τ := []) [(0, false), (1, false), (2, false), (3, false), (4, false), (5, false), (6, false), (8, false), (9, false), (10, false), (11, false), (12, false), (14, false), (15, false), (16, false), (17, false), (18, false), (7, true), (13, true), (19, true), (20, true), (21, true), (22, false), (23, false), (24, false)] [(Arr 24 b1 [(.int .i64 A.v), na, (.int .i64 A.r)]), (Arr 24 b2 [(.int .i64 B.v), nb, (.int .i64 B.r)]), (Arr 64 b3 [(Value.int .i64 i), (.bool (decide (b = true)))]), (Arr 24 b4 [(.int .i64 ((rsR A i b).v)), ux, (.int .i64 ((rsR A i b).r))]), (Arr 24 b5 [(.int .i64 ((cpD A B i).v)), uy, (.int .i64 ((cpD A B i).r))])] Try.mixed (perm_nil _) (by kernel_rfl) ?_
         refine rq rfl (qv_mv (.int .i64 (cpE A B i)) rfl) ?_
         refine rq rfl (qv_eql rfl rfl) ?_
         refine rq rfl (qv_mv (.bool (decide ((cpE A B i) = 0))) rfl) ?_
         by_cases g32 : (cpE A B i) = 0
         ·
          refine re rfl (qv_ldm (vs := [(.int .i64 ((cpD A B i).v)), uy, (.int .i64 ((cpD A B i).r))]) Try.agg24 rfl (inOc (k := 4) rfl) rfl rfl) (want_t g32 rfl rfl rfl) ?_
          refine re rfl (qv_fa (off := 0) Try.field24_0 rfl) (want_t g32 rfl rfl rfl) ?_
          refine re rfl (qv_ldp (v := (.int .i64 A.v)) Try.plain3 rfl (inOc (k := 0) rfl) rfl) (want_t g32 rfl rfl rfl) ?_
          refine re rfl (qv_ldm (vs := [(.int .i64 B.v), nb, (.int .i64 B.r)]) Try.agg24 rfl (inOc (k := 1) rfl) rfl rfl) (want_t g32 rfl rfl rfl) ?_
          refine re rfl (qv_fa (off := 0) Try.field24_0 rfl) (want_t g32 rfl rfl rfl) ?_
          refine re rfl (qv_ldp (v := (.int .i64 A.v)) Try.plain3 rfl (inOc (k := 0) rfl) rfl) (want_t g32 rfl rfl rfl) ?_
          refine re rfl (qv_mv r60 rfl) (want_t g32 rfl rfl rfl) ?_
          refine re rfl (qv_fa (off := 0) Try.field64_0 rfl) (want_t g32 rfl rfl rfl) ?_
          refine re rfl (qv_ldp (v := (Value.int .i64 i)) Try.plain3 rfl (inOc (k := 2) rfl) rfl) (want_t g32 rfl rfl rfl) ?_
          refine re rfl (qv_fa (off := 0) Try.field24_0 rfl) (want_t g32 rfl rfl rfl) ?_
          refine re rfl (qv_ldp (v := (.int .i64 A.v)) Try.plain3 rfl (inOc (k := 0) rfl) rfl) (want_t g32 rfl rfl rfl) ?_
          refine re rfl (qv_mv r60 rfl) (want_t g32 rfl rfl rfl) ?_
          refine re rfl (qv_fa (off := 0) Try.field64_0 rfl) (want_t g32 rfl rfl rfl) ?_
          refine re rfl (qv_ldp (v := (Value.int .i64 i)) Try.plain3 rfl (inOc (k := 2) rfl) rfl) (want_t g32 rfl rfl rfl) ?_
          refine rl rfl ?_
          refine ops_want (want_t g32 rfl rfl rfl) ?_
          refine ops_call (σa := []) (σr := [(Arr 24 b1 [(.int .i64 A.v), na, (.int .i64 A.r)]), (Arr 24 b2 [(.int .i64 B.v), nb, (.int .i64 B.r)]), (Arr 64 b3 [(Value.int .i64 i), (.bool (decide (b = true)))]), (Arr 24 b4 [(.int .i64 ((rsR A i b).v)), ux, (.int .i64 ((rsR A i b).r))]), (Arr 24 b5 [(.int .i64 ((cpD A B i).v)), uy, (.int .i64 ((cpD A B i).r))])]) (by have h := table_c (A := B) hB (chk_ok.1 (by omega)) (by omega); rw [tbD_v (vars := A.v) (by omega)] at h; exact h) rfl rfl (.refl _) (fun r61 V61 sg61 hV61 hp61 => ?_)
          obtain ⟨rfl, hTr61⟩ := hp61
          have hA := hA.mono hV61
          have hB := hB.mono hV61
          have hx := hx.mono hV61
          have hy := hy.mono hV61
          have hTr60 := hTr60.mono hV61
          refine ops_nil ⟨[(Arr 24 b1 [(.int .i64 A.v), na, (.int .i64 A.r)]), (Arr 24 b2 [(.int .i64 B.v), nb, (.int .i64 B.r)]), (Arr 64 b3 [(Value.int .i64 i), (.bool (decide (b = true)))]), (Arr 24 b4 [(.int .i64 ((rsR A i b).v)), ux, (.int .i64 ((rsR A i b).r))]), (Arr 24 b5 [(.int .i64 ((cpD A B i).v)), uy, (.int .i64 ((cpD A B i).r))])], [], hV61, perm_nil _, ⟨[], (.refl _)⟩, ?_⟩
          refine rl rfl ?_
          refine ops_want (want_t g32 rfl rfl rfl) ?_
          refine ops_call (σa := []) (σr := [(Arr 24 b1 [(.int .i64 A.v), na, (.int .i64 A.r)]), (Arr 24 b2 [(.int .i64 B.v), nb, (.int .i64 B.r)]), (Arr 64 b3 [(Value.int .i64 i), (.bool (decide (b = true)))]), (Arr 24 b4 [(.int .i64 ((rsR A i b).v)), ux, (.int .i64 ((rsR A i b).r))]), (Arr 24 b5 [(.int .i64 ((cpD A B i).v)), uy, (.int .i64 ((cpD A B i).r))])]) (restricted_c (vars := A.v) (i := i) (b := true) (g := gA A) hTr60 (gA_dep hokA) (by omega) (by omega) (by omega) (by omega)) rfl rfl (.refl _) (fun r62 V62 sg62 hV62 hp62 => ?_)
          obtain ⟨rfl, hTr62⟩ := hp62
          have hA := hA.mono hV62
          have hB := hB.mono hV62
          have hx := hx.mono hV62
          have hy := hy.mono hV62
          have hTr60 := hTr60.mono hV62
          have hTr61 := hTr61.mono hV62
          refine ops_nil ⟨[(Arr 24 b1 [(.int .i64 A.v), na, (.int .i64 A.r)]), (Arr 24 b2 [(.int .i64 B.v), nb, (.int .i64 B.r)]), (Arr 64 b3 [(Value.int .i64 i), (.bool (decide (b = true)))]), (Arr 24 b4 [(.int .i64 ((rsR A i b).v)), ux, (.int .i64 ((rsR A i b).r))]), (Arr 24 b5 [(.int .i64 ((cpD A B i).v)), uy, (.int .i64 ((cpD A B i).r))])], [], hV62, perm_nil _, ⟨[], (.refl _)⟩, ?_⟩
          refine rl rfl ?_
          refine ops_want (want_t g32 rfl rfl rfl) ?_
          refine ops_call (σa := []) (σr := [(Arr 24 b1 [(.int .i64 A.v), na, (.int .i64 A.r)]), (Arr 24 b2 [(.int .i64 B.v), nb, (.int .i64 B.r)]), (Arr 64 b3 [(Value.int .i64 i), (.bool (decide (b = true)))]), (Arr 24 b4 [(.int .i64 ((rsR A i b).v)), ux, (.int .i64 ((rsR A i b).r))]), (Arr 24 b5 [(.int .i64 ((cpD A B i).v)), uy, (.int .i64 ((cpD A B i).r))])]) (restricted_c (vars := A.v) (i := i) (b := false) (g := gA A) hTr60 (gA_dep hokA) (by omega) (by omega) (by omega) (by omega)) rfl rfl (.refl _) (fun r63 V63 sg63 hV63 hp63 => ?_)
          obtain ⟨rfl, hTr63⟩ := hp63
          have hA := hA.mono hV63
          have hB := hB.mono hV63
          have hx := hx.mono hV63
          have hy := hy.mono hV63
          have hTr60 := hTr60.mono hV63
          have hTr61 := hTr61.mono hV63
          have hTr62 := hTr62.mono hV63
          refine ops_nil ⟨[(Arr 24 b1 [(.int .i64 A.v), na, (.int .i64 A.r)]), (Arr 24 b2 [(.int .i64 B.v), nb, (.int .i64 B.r)]), (Arr 64 b3 [(Value.int .i64 i), (.bool (decide (b = true)))]), (Arr 24 b4 [(.int .i64 ((rsR A i b).v)), ux, (.int .i64 ((rsR A i b).r))]), (Arr 24 b5 [(.int .i64 ((cpD A B i).v)), uy, (.int .i64 ((cpD A B i).r))])], [], hV63, perm_nil _, ⟨[], (.refl _)⟩, ?_⟩
          refine rl rfl ?_
          refine ops_want (want_t g32 rfl rfl rfl) ?_
          refine ops_call (σa := []) (σr := [(Arr 24 b1 [(.int .i64 A.v), na, (.int .i64 A.r)]), (Arr 24 b2 [(.int .i64 B.v), nb, (.int .i64 B.r)]), (Arr 64 b3 [(Value.int .i64 i), (.bool (decide (b = true)))]), (Arr 24 b4 [(.int .i64 ((rsR A i b).v)), ux, (.int .i64 ((rsR A i b).r))]), (Arr 24 b5 [(.int .i64 ((cpD A B i).v)), uy, (.int .i64 ((cpD A B i).r))])]) (chosen_c hTr61 hTr62 hTr63 (by omega)) rfl rfl (.refl _) (fun r64 V64 sg64 hV64 hp64 => ?_)
          obtain ⟨rfl, hTr64⟩ := hp64
          have hA := hA.mono hV64
          have hB := hB.mono hV64
          have hx := hx.mono hV64
          have hy := hy.mono hV64
          have hTr60 := hTr60.mono hV64
          have hTr61 := hTr61.mono hV64
          have hTr62 := hTr62.mono hV64
          have hTr63 := hTr63.mono hV64
          refine ops_nil ⟨[(Arr 24 b1 [(.int .i64 A.v), na, (.int .i64 A.r)]), (Arr 24 b2 [(.int .i64 B.v), nb, (.int .i64 B.r)]), (Arr 64 b3 [(Value.int .i64 i), (.bool (decide (b = true)))]), (Arr 24 b4 [(.int .i64 ((rsR A i b).v)), ux, (.int .i64 ((rsR A i b).r))]), (Arr 24 b5 [(.int .i64 ((cpD A B i).v)), uy, (.int .i64 ((cpD A B i).r))])], [], hV64, perm_nil _, ⟨[], (.refl _)⟩, ?_⟩
          refine rl rfl ?_
          refine ops_want (want_t g32 rfl rfl rfl) ?_
          refine ops_call (σa := []) (σr := [(Arr 24 b1 [(.int .i64 A.v), na, (.int .i64 A.r)]), (Arr 24 b2 [(.int .i64 B.v), nb, (.int .i64 B.r)]), (Arr 64 b3 [(Value.int .i64 i), (.bool (decide (b = true)))]), (Arr 24 b4 [(.int .i64 ((rsR A i b).v)), ux, (.int .i64 ((rsR A i b).r))]), (Arr 24 b5 [(.int .i64 ((cpD A B i).v)), uy, (.int .i64 ((cpD A B i).r))])]) (build_c hTr64 (by omega) (by omega) (tbl_len _ _)) rfl rfl (.refl _) (fun r65 V65 sg65 hV65 hp65 => ?_)
          obtain ⟨rfl, u4, rfl, h4⟩ := hp65
          have hA := hA.mono hV65
          have hB := hB.mono hV65
          have hx := hx.mono hV65
          have hy := hy.mono hV65
          have hTr60 := hTr60.mono hV65
          have hTr61 := hTr61.mono hV65
          have hTr62 := hTr62.mono hV65
          have hTr63 := hTr63.mono hV65
          have hTr64 := hTr64.mono hV65
          refine ops_nil ⟨[(Arr 24 b1 [(.int .i64 A.v), na, (.int .i64 A.r)]), (Arr 24 b2 [(.int .i64 B.v), nb, (.int .i64 B.r)]), (Arr 64 b3 [(Value.int .i64 i), (.bool (decide (b = true)))]), (Arr 24 b4 [(.int .i64 ((rsR A i b).v)), ux, (.int .i64 ((rsR A i b).r))]), (Arr 24 b5 [(.int .i64 ((cpD A B i).v)), uy, (.int .i64 ((cpD A B i).r))])], [], hV65, perm_nil _, ⟨[], (.refl _)⟩, ?_⟩
          refine re rfl (qv_call (v := (.bool (decide (cpD A B i = (bldD A.v (tbl A.v (fun e => iteF (gA B e) (gA A (up e i true)) (gA A (up e i false))))))))) (same_c (A := (cpD A B i)) (B := (bldD A.v (tbl A.v (fun e => iteF (gA B e) (gA A (up e i true)) (gA A (up e i false)))))) hy (h4)) rfl rfl) (want_t g32 rfl rfl rfl) ?_
          refine rq rfl (qv_pick_t g32 rfl (rfl : ev _ _ = (.bool (decide (cpD A B i = (bldD A.v (tbl A.v (fun e => iteF (gA B e) (gA A (up e i true)) (gA A (up e i false)))))))))) ?_
          refine rq rfl (qv_as (.bool (decide (cpD A B i = (bldD A.v (tbl A.v (fun e => iteF (gA B e) (gA A (up e i true)) (gA A (up e i false)))))))) rfl) ?_
          refine rnil ?_
          refine vc_ret ?_
          exact rq1 (Value.bool true) (congrArg Value.bool (decide_eq_true (show (cpD A B i = (bldD A.v (tbl A.v (fun e => iteF (gA B e) (gA A (up e i true)) (gA A (up e i false)))))) from by exact hcl))) rfl
         ·
          exact absurd hcp.1 g32
       ·
        refine os (want_tn g30 rfl rfl rfl) ?_
        refine os (want_tn g30 rfl rfl rfl) ?_
        refine oq (qv_pick_f g30 rfl (rfl : ev _ _ = (Value.bool false))) ?_
        refine ops_nil ?_
        refine vc_ff rfl ?_
        refine vc_skip ?_
        refine vc_seq ?_
        refine vc_seq ?_
        refine vc_region ?_
        refine oq (qv_mv (.int .i64 (vE [A, B])) rfl) ?_
        refine oq (qv_neq rfl rfl) ?_
        refine ops_nil ?_
        refine vc_if rfl (fun c21 => ?_) (fun c21 => ?_)
        ·
         refine vc_seq ?_
         have hcp := cp_v (A := A) (B := B) (i := i) (by omega)
         refine vc_region ?_
         refine oq (qv_mv (.int .i64 (cpE A B i)) rfl) ?_
         refine oq (qv_mv (.int .i64 (vE [A, B])) rfl) ?_
         refine oq (qv_eql rfl rfl) ?_
         refine oq (qv_mv (.bool (decide ((cpE A B i) = (vE [A, B])))) rfl) ?_
         by_cases g33 : (cpE A B i) = (vE [A, B])
         ·
          refine og (qv_ldm (vs := [(.int .i64 ((cpD A B i).v)), uy, (.int .i64 ((cpD A B i).r))]) Try.agg24 rfl (inOc (k := 4) rfl) rfl rfl) (want_t g33 rfl rfl rfl) ?_
          refine og (qv_build (out := [(Value.int .i64 0), (Value.slice none 0 0), (Value.int .i64 0)]) Try.build24 [] rfl rfl) (want_t g33 rfl rfl rfl) ?_
          refine og (qv_call (v := (.bool (decide (cpD A B i = dg0)))) (same_c (A := (cpD A B i)) (B := dg0) hy (Fks.nil)) rfl rfl) (want_t g33 rfl rfl rfl) ?_
          refine oq (qv_pick_t g33 rfl (rfl : ev _ _ = (.bool (decide (cpD A B i = dg0))))) ?_
          refine oq (qv_as (.bool (decide (cpD A B i = dg0))) rfl) ?_
          refine ops_nil ?_
          refine vc_ret ?_
          exact rq1 (Value.bool true) (congrArg Value.bool (decide_eq_true (show (cpD A B i = dg0) from by exact hcp.2))) rfl
         ·
          exact absurd hcp.1 g33
        ·
         refine vc_skip ?_
         refine vc_seq ?_
         have hz : vE [A, B] = 0 := by omega
         obtain ⟨hokA, hok2, hok3⟩ := ok2 hz
         have hvz := hokA.1.1
         have hck1 := chk_ok.2 hokA
         have hck2 := chk_ok.2 hok2
         have hcp := cp_0 (A := A) (B := B) (i := i) hz (by omega)
         have hcl := cp_law (A := A) (B := B) (i := i) hz (by omega)
         refine vc_region ?_
         refine oq (qv_ldm (vs := [(.int .i64 A.v), na, (.int .i64 A.r)]) Try.agg24 rfl (inOc (k := 0) rfl) rfl rfl) ?_
         refine ops_call (σa := []) (σr := [(Arr 24 b1 [(.int .i64 A.v), na, (.int .i64 A.r)]), (Arr 24 b2 [(.int .i64 B.v), nb, (.int .i64 B.r)]), (Arr 64 b3 [(Value.int .i64 i), (.bool (decide (b = true)))]), (Arr 24 b4 [(.int .i64 ((rsR A i b).v)), ux, (.int .i64 ((rsR A i b).r))]), (Arr 24 b5 [(.int .i64 ((cpD A B i).v)), uy, (.int .i64 ((cpD A B i).r))])]) (by have h := table_c (A := A) hA (chk_ok.1 (by omega)) (by omega); rw [tbD_v rfl] at h; exact h) rfl rfl (.refl _) (fun r66 V66 sg66 hV66 hp66 => ?_)
         obtain ⟨rfl, hTr66⟩ := hp66
         have hA := hA.mono hV66
         have hB := hB.mono hV66
         have hx := hx.mono hV66
         have hy := hy.mono hV66
         refine oq (qv_as r66 rfl) ?_
         refine ops_nil ?_
         refine vc_seq ?_
         refine vc_region_order (τ := []) [(0, false), (1, false), (2, false), (3, false), (4, false), (5, false), (6, false), (8, false), (9, false), (10, false), (11, false), (12, false), (14, false), (15, false), (16, false), (17, false), (18, false), (7, true), (13, true), (19, true), (20, true), (21, true), (22, false), (23, false), (24, false)] [(Arr 24 b1 [(.int .i64 A.v), na, (.int .i64 A.r)]), (Arr 24 b2 [(.int .i64 B.v), nb, (.int .i64 B.r)]), (Arr 64 b3 [(Value.int .i64 i), (.bool (decide (b = true)))]), (Arr 24 b4 [(.int .i64 ((rsR A i b).v)), ux, (.int .i64 ((rsR A i b).r))]), (Arr 24 b5 [(.int .i64 ((cpD A B i).v)), uy, (.int .i64 ((cpD A B i).r))])] Try.mixed (perm_nil _) (by kernel_rfl) ?_
         refine rq rfl (qv_mv (.int .i64 (cpE A B i)) rfl) ?_
         refine rq rfl (qv_eql rfl rfl) ?_
         refine rq rfl (qv_mv (.bool (decide ((cpE A B i) = 0))) rfl) ?_
         by_cases g34 : (cpE A B i) = 0
         ·
          refine re rfl (qv_ldm (vs := [(.int .i64 ((cpD A B i).v)), uy, (.int .i64 ((cpD A B i).r))]) Try.agg24 rfl (inOc (k := 4) rfl) rfl rfl) (want_t g34 rfl rfl rfl) ?_
          refine re rfl (qv_fa (off := 0) Try.field24_0 rfl) (want_t g34 rfl rfl rfl) ?_
          refine re rfl (qv_ldp (v := (.int .i64 A.v)) Try.plain3 rfl (inOc (k := 0) rfl) rfl) (want_t g34 rfl rfl rfl) ?_
          refine re rfl (qv_ldm (vs := [(.int .i64 B.v), nb, (.int .i64 B.r)]) Try.agg24 rfl (inOc (k := 1) rfl) rfl rfl) (want_t g34 rfl rfl rfl) ?_
          refine re rfl (qv_fa (off := 0) Try.field24_0 rfl) (want_t g34 rfl rfl rfl) ?_
          refine re rfl (qv_ldp (v := (.int .i64 A.v)) Try.plain3 rfl (inOc (k := 0) rfl) rfl) (want_t g34 rfl rfl rfl) ?_
          refine re rfl (qv_mv r66 rfl) (want_t g34 rfl rfl rfl) ?_
          refine re rfl (qv_fa (off := 0) Try.field64_0 rfl) (want_t g34 rfl rfl rfl) ?_
          refine re rfl (qv_ldp (v := (Value.int .i64 i)) Try.plain3 rfl (inOc (k := 2) rfl) rfl) (want_t g34 rfl rfl rfl) ?_
          refine re rfl (qv_fa (off := 0) Try.field24_0 rfl) (want_t g34 rfl rfl rfl) ?_
          refine re rfl (qv_ldp (v := (.int .i64 A.v)) Try.plain3 rfl (inOc (k := 0) rfl) rfl) (want_t g34 rfl rfl rfl) ?_
          refine re rfl (qv_mv r66 rfl) (want_t g34 rfl rfl rfl) ?_
          refine re rfl (qv_fa (off := 0) Try.field64_0 rfl) (want_t g34 rfl rfl rfl) ?_
          refine re rfl (qv_ldp (v := (Value.int .i64 i)) Try.plain3 rfl (inOc (k := 2) rfl) rfl) (want_t g34 rfl rfl rfl) ?_
          refine rl rfl ?_
          refine ops_want (want_t g34 rfl rfl rfl) ?_
          refine ops_call (σa := []) (σr := [(Arr 24 b1 [(.int .i64 A.v), na, (.int .i64 A.r)]), (Arr 24 b2 [(.int .i64 B.v), nb, (.int .i64 B.r)]), (Arr 64 b3 [(Value.int .i64 i), (.bool (decide (b = true)))]), (Arr 24 b4 [(.int .i64 ((rsR A i b).v)), ux, (.int .i64 ((rsR A i b).r))]), (Arr 24 b5 [(.int .i64 ((cpD A B i).v)), uy, (.int .i64 ((cpD A B i).r))])]) (by have h := table_c (A := B) hB (chk_ok.1 (by omega)) (by omega); rw [tbD_v (vars := A.v) (by omega)] at h; exact h) rfl rfl (.refl _) (fun r67 V67 sg67 hV67 hp67 => ?_)
          obtain ⟨rfl, hTr67⟩ := hp67
          have hA := hA.mono hV67
          have hB := hB.mono hV67
          have hx := hx.mono hV67
          have hy := hy.mono hV67
          have hTr66 := hTr66.mono hV67
          refine ops_nil ⟨[(Arr 24 b1 [(.int .i64 A.v), na, (.int .i64 A.r)]), (Arr 24 b2 [(.int .i64 B.v), nb, (.int .i64 B.r)]), (Arr 64 b3 [(Value.int .i64 i), (.bool (decide (b = true)))]), (Arr 24 b4 [(.int .i64 ((rsR A i b).v)), ux, (.int .i64 ((rsR A i b).r))]), (Arr 24 b5 [(.int .i64 ((cpD A B i).v)), uy, (.int .i64 ((cpD A B i).r))])], [], hV67, perm_nil _, ⟨[], (.refl _)⟩, ?_⟩
          refine rl rfl ?_
          refine ops_want (want_t g34 rfl rfl rfl) ?_
          refine ops_call (σa := []) (σr := [(Arr 24 b1 [(.int .i64 A.v), na, (.int .i64 A.r)]), (Arr 24 b2 [(.int .i64 B.v), nb, (.int .i64 B.r)]), (Arr 64 b3 [(Value.int .i64 i), (.bool (decide (b = true)))]), (Arr 24 b4 [(.int .i64 ((rsR A i b).v)), ux, (.int .i64 ((rsR A i b).r))]), (Arr 24 b5 [(.int .i64 ((cpD A B i).v)), uy, (.int .i64 ((cpD A B i).r))])]) (restricted_c (vars := A.v) (i := i) (b := true) (g := gA A) hTr66 (gA_dep hokA) (by omega) (by omega) (by omega) (by omega)) rfl rfl (.refl _) (fun r68 V68 sg68 hV68 hp68 => ?_)
          obtain ⟨rfl, hTr68⟩ := hp68
          have hA := hA.mono hV68
          have hB := hB.mono hV68
          have hx := hx.mono hV68
          have hy := hy.mono hV68
          have hTr66 := hTr66.mono hV68
          have hTr67 := hTr67.mono hV68
          refine ops_nil ⟨[(Arr 24 b1 [(.int .i64 A.v), na, (.int .i64 A.r)]), (Arr 24 b2 [(.int .i64 B.v), nb, (.int .i64 B.r)]), (Arr 64 b3 [(Value.int .i64 i), (.bool (decide (b = true)))]), (Arr 24 b4 [(.int .i64 ((rsR A i b).v)), ux, (.int .i64 ((rsR A i b).r))]), (Arr 24 b5 [(.int .i64 ((cpD A B i).v)), uy, (.int .i64 ((cpD A B i).r))])], [], hV68, perm_nil _, ⟨[], (.refl _)⟩, ?_⟩
          refine rl rfl ?_
          refine ops_want (want_t g34 rfl rfl rfl) ?_
          refine ops_call (σa := []) (σr := [(Arr 24 b1 [(.int .i64 A.v), na, (.int .i64 A.r)]), (Arr 24 b2 [(.int .i64 B.v), nb, (.int .i64 B.r)]), (Arr 64 b3 [(Value.int .i64 i), (.bool (decide (b = true)))]), (Arr 24 b4 [(.int .i64 ((rsR A i b).v)), ux, (.int .i64 ((rsR A i b).r))]), (Arr 24 b5 [(.int .i64 ((cpD A B i).v)), uy, (.int .i64 ((cpD A B i).r))])]) (restricted_c (vars := A.v) (i := i) (b := false) (g := gA A) hTr66 (gA_dep hokA) (by omega) (by omega) (by omega) (by omega)) rfl rfl (.refl _) (fun r69 V69 sg69 hV69 hp69 => ?_)
          obtain ⟨rfl, hTr69⟩ := hp69
          have hA := hA.mono hV69
          have hB := hB.mono hV69
          have hx := hx.mono hV69
          have hy := hy.mono hV69
          have hTr66 := hTr66.mono hV69
          have hTr67 := hTr67.mono hV69
          have hTr68 := hTr68.mono hV69
          refine ops_nil ⟨[(Arr 24 b1 [(.int .i64 A.v), na, (.int .i64 A.r)]), (Arr 24 b2 [(.int .i64 B.v), nb, (.int .i64 B.r)]), (Arr 64 b3 [(Value.int .i64 i), (.bool (decide (b = true)))]), (Arr 24 b4 [(.int .i64 ((rsR A i b).v)), ux, (.int .i64 ((rsR A i b).r))]), (Arr 24 b5 [(.int .i64 ((cpD A B i).v)), uy, (.int .i64 ((cpD A B i).r))])], [], hV69, perm_nil _, ⟨[], (.refl _)⟩, ?_⟩
          refine rl rfl ?_
          refine ops_want (want_t g34 rfl rfl rfl) ?_
          refine ops_call (σa := []) (σr := [(Arr 24 b1 [(.int .i64 A.v), na, (.int .i64 A.r)]), (Arr 24 b2 [(.int .i64 B.v), nb, (.int .i64 B.r)]), (Arr 64 b3 [(Value.int .i64 i), (.bool (decide (b = true)))]), (Arr 24 b4 [(.int .i64 ((rsR A i b).v)), ux, (.int .i64 ((rsR A i b).r))]), (Arr 24 b5 [(.int .i64 ((cpD A B i).v)), uy, (.int .i64 ((cpD A B i).r))])]) (chosen_c hTr67 hTr68 hTr69 (by omega)) rfl rfl (.refl _) (fun r70 V70 sg70 hV70 hp70 => ?_)
          obtain ⟨rfl, hTr70⟩ := hp70
          have hA := hA.mono hV70
          have hB := hB.mono hV70
          have hx := hx.mono hV70
          have hy := hy.mono hV70
          have hTr66 := hTr66.mono hV70
          have hTr67 := hTr67.mono hV70
          have hTr68 := hTr68.mono hV70
          have hTr69 := hTr69.mono hV70
          refine ops_nil ⟨[(Arr 24 b1 [(.int .i64 A.v), na, (.int .i64 A.r)]), (Arr 24 b2 [(.int .i64 B.v), nb, (.int .i64 B.r)]), (Arr 64 b3 [(Value.int .i64 i), (.bool (decide (b = true)))]), (Arr 24 b4 [(.int .i64 ((rsR A i b).v)), ux, (.int .i64 ((rsR A i b).r))]), (Arr 24 b5 [(.int .i64 ((cpD A B i).v)), uy, (.int .i64 ((cpD A B i).r))])], [], hV70, perm_nil _, ⟨[], (.refl _)⟩, ?_⟩
          refine rl rfl ?_
          refine ops_want (want_t g34 rfl rfl rfl) ?_
          refine ops_call (σa := []) (σr := [(Arr 24 b1 [(.int .i64 A.v), na, (.int .i64 A.r)]), (Arr 24 b2 [(.int .i64 B.v), nb, (.int .i64 B.r)]), (Arr 64 b3 [(Value.int .i64 i), (.bool (decide (b = true)))]), (Arr 24 b4 [(.int .i64 ((rsR A i b).v)), ux, (.int .i64 ((rsR A i b).r))]), (Arr 24 b5 [(.int .i64 ((cpD A B i).v)), uy, (.int .i64 ((cpD A B i).r))])]) (build_c hTr70 (by omega) (by omega) (tbl_len _ _)) rfl rfl (.refl _) (fun r71 V71 sg71 hV71 hp71 => ?_)
          obtain ⟨rfl, u4, rfl, h4⟩ := hp71
          have hA := hA.mono hV71
          have hB := hB.mono hV71
          have hx := hx.mono hV71
          have hy := hy.mono hV71
          have hTr66 := hTr66.mono hV71
          have hTr67 := hTr67.mono hV71
          have hTr68 := hTr68.mono hV71
          have hTr69 := hTr69.mono hV71
          have hTr70 := hTr70.mono hV71
          refine ops_nil ⟨[(Arr 24 b1 [(.int .i64 A.v), na, (.int .i64 A.r)]), (Arr 24 b2 [(.int .i64 B.v), nb, (.int .i64 B.r)]), (Arr 64 b3 [(Value.int .i64 i), (.bool (decide (b = true)))]), (Arr 24 b4 [(.int .i64 ((rsR A i b).v)), ux, (.int .i64 ((rsR A i b).r))]), (Arr 24 b5 [(.int .i64 ((cpD A B i).v)), uy, (.int .i64 ((cpD A B i).r))])], [], hV71, perm_nil _, ⟨[], (.refl _)⟩, ?_⟩
          refine re rfl (qv_call (v := (.bool (decide (cpD A B i = (bldD A.v (tbl A.v (fun e => iteF (gA B e) (gA A (up e i true)) (gA A (up e i false))))))))) (same_c (A := (cpD A B i)) (B := (bldD A.v (tbl A.v (fun e => iteF (gA B e) (gA A (up e i true)) (gA A (up e i false)))))) hy (h4)) rfl rfl) (want_t g34 rfl rfl rfl) ?_
          refine rq rfl (qv_pick_t g34 rfl (rfl : ev _ _ = (.bool (decide (cpD A B i = (bldD A.v (tbl A.v (fun e => iteF (gA B e) (gA A (up e i true)) (gA A (up e i false)))))))))) ?_
          refine rq rfl (qv_as (.bool (decide (cpD A B i = (bldD A.v (tbl A.v (fun e => iteF (gA B e) (gA A (up e i true)) (gA A (up e i false)))))))) rfl) ?_
          refine rnil ?_
          refine vc_ret ?_
          exact rq1 (Value.bool true) (congrArg Value.bool (decide_eq_true (show (cpD A B i = (bldD A.v (tbl A.v (fun e => iteF (gA B e) (gA A (up e i true)) (gA A (up e i false)))))) from by exact hcl))) rfl
         ·
          exact absurd hcp.1 g34

theorem Restricts_b {V : HV} {i : Int} {b : Bool} {na : Value} {A : Dg} (hA : Fks V na A.N) {nb : Value} {B : Dg} (hB : Fks V nb B.N) :
    FnC Try.prog 10 [.agg #[.int .i64 A.v, na, .int .i64 A.r], .agg #[.int .i64 B.v, nb, .int .i64 B.r], .agg #[.int .i64 i, .bool b]] V [] (fun v _ _ => v = .bool true) := by
  have h := Restricts_c (i := i) (b := b) hA hB
  simp only [Bool.decide_eq_true] at h
  exact h
end Go.Proofs.Ytgehdgeiikjohaa
