/- Walks of bdd: what each function returns. Printed by a program out of notes. -/
import Derived.Test.YtgehdgeiikjohaaBv
import Derived.Test.YtgehdgeiikjohaaDq
import Derived.Test.YtgehdgeiikjohaaBdJ
namespace Go.Proofs.Ytgehdgeiikjohaa
open Go.Vc
open Classical

set_option maxRecDepth 100000 in
set_option maxHeartbeats 4000000 in
theorem Chooses_c {V : HV} {na : Value} {A : Dg} (hA : Fks V na A.N) {nb : Value} {B : Dg} (hB : Fks V nb B.N) {nc : Value} {C0 : Dg} (hC : Fks V nc C0.N) :
    FnC Try.prog 7 [(.agg #[(.int .i64 A.v), na, (.int .i64 A.r)]), (.agg #[(.int .i64 B.v), nb, (.int .i64 B.r)]), (.agg #[(.int .i64 C0.v), nc, (.int .i64 C0.r)])] V [] (fun v _ _ => v = (Value.bool true)) := by
 refine fn_intro (N := 118) Try.func7 (by kernel_rfl) rfl rfl rfl (Nat.le_of_ble_eq_true rfl) ?_
 intro w0 D
 have hb := SlS.bound hA
 have hb2 := SlS.bound hB
 have hb3 := SlS.bound hC
 refine vc_seq ?_
 refine vc_region ?_
 refine ops_box (v := (.agg #[(.int .i64 A.v), na, (.int .i64 A.r)])) (cs := [(.int .i64 A.v), na, (.int .i64 A.r)]) rfl rfl (fun b1 => ?_)
 refine ops_box (v := (.agg #[(.int .i64 B.v), nb, (.int .i64 B.r)])) (cs := [(.int .i64 B.v), nb, (.int .i64 B.r)]) rfl rfl (fun b2 => ?_)
 refine ops_box (v := (.agg #[(.int .i64 C0.v), nc, (.int .i64 C0.r)])) (cs := [(.int .i64 C0.v), nc, (.int .i64 C0.r)]) rfl rfl (fun b3 => ?_)
 refine oq (qv_as (Value.bool false) rfl) ?_
 refine ops_nil ?_
 refine vc_seq ?_
 refine vc_seq ?_
 refine vc_res (σ' := [(Arr 24 b1 [(.int .i64 A.v), na, (.int .i64 A.r)]), (Arr 24 b2 [(.int .i64 B.v), nb, (.int .i64 B.r)]), (Arr 24 b3 [(.int .i64 C0.v), nc, (.int .i64 C0.r)])]) rfl ?_
 refine vc_region ?_
 refine oq (qv_call (v := (Value.bool true)) (known_c) rfl rfl) ?_
 refine oq (qv_notc rfl) ?_
 refine ops_nil ?_
 refine vc_ff rfl ?_
 refine vc_skip ?_
 refine vc_seq ?_
 refine vc_seq ?_
 refine vc_region ?_
 refine oq (qv_ldm (vs := [(.int .i64 B.v), nb, (.int .i64 B.r)]) Try.agg24 rfl (inOc (k := 1) rfl) rfl rfl) ?_
 refine oq (qv_call (v := (.bool (decide (B.v ≤ 7 ∧ B.N.length ≤ 130)))) (few_c hB) rfl rfl) ?_
 refine oq (qv_not rfl) ?_
 refine oq (qv_mv (.bool (decide (¬ (B.v ≤ 7 ∧ B.N.length ≤ 130)))) rfl) ?_
 by_cases g1 : ¬ (B.v ≤ 7 ∧ B.N.length ≤ 130)
 ·
  refine os (want_fn g1 rfl rfl rfl) ?_
  refine os (want_fn g1 rfl rfl rfl) ?_
  refine os (want_fn g1 rfl rfl rfl) ?_
  refine oq (qv_pick_t g1 rfl (rfl : ev _ _ = (Value.bool true))) ?_
  refine oq (qv_mv (Value.bool true) rfl) ?_
  refine os (want_fnc rfl rfl rfl) ?_
  refine os (want_fnc rfl rfl rfl) ?_
  refine os (want_fnc rfl rfl rfl) ?_
  refine oq (qv_pick_tc rfl (rfl : ev _ _ = (Value.bool true))) ?_
  refine ops_nil ?_
  refine vc_tt rfl ?_
  refine vc_seq ?_
  refine vc_region ?_
  refine oq (qv_as (Value.bool true) rfl) ?_
  refine ops_nil ?_
  refine vc_ret ?_
  exact rq1 (Value.bool true) rfl rfl
 ·
  refine og (qv_ldm (vs := [(.int .i64 C0.v), nc, (.int .i64 C0.r)]) Try.agg24 rfl (inOc (k := 2) rfl) rfl rfl) (want_f g1 rfl rfl rfl) ?_
  refine og (qv_call (v := (.bool (decide (C0.v ≤ 7 ∧ C0.N.length ≤ 130)))) (few_c hC) rfl rfl) (want_f g1 rfl rfl rfl) ?_
  refine og (qv_not rfl) (want_f g1 rfl rfl rfl) ?_
  refine oq (qv_pick_f g1 rfl (rfl : ev _ _ = (.bool (decide (¬ (C0.v ≤ 7 ∧ C0.N.length ≤ 130)))))) ?_
  refine oq (qv_mv (.bool (decide (¬ (C0.v ≤ 7 ∧ C0.N.length ≤ 130)))) rfl) ?_
  by_cases g2 : ¬ (C0.v ≤ 7 ∧ C0.N.length ≤ 130)
  ·
   refine os (want_fn g2 rfl rfl rfl) ?_
   refine os (want_fn g2 rfl rfl rfl) ?_
   refine os (want_fn g2 rfl rfl rfl) ?_
   refine oq (qv_pick_t g2 rfl (rfl : ev _ _ = (Value.bool true))) ?_
   refine ops_nil ?_
   refine vc_tt rfl ?_
   refine vc_seq ?_
   refine vc_region ?_
   refine oq (qv_as (Value.bool true) rfl) ?_
   refine ops_nil ?_
   refine vc_ret ?_
   exact rq1 (Value.bool true) rfl rfl
  ·
   refine og (qv_ldm (vs := [(.int .i64 A.v), na, (.int .i64 A.r)]) Try.agg24 rfl (inOc (k := 0) rfl) rfl rfl) (want_f g2 rfl rfl rfl) ?_
   refine og (qv_call (v := (.bool (decide (A.v ≤ 7 ∧ A.N.length ≤ 130)))) (few_c hA) rfl rfl) (want_f g2 rfl rfl rfl) ?_
   refine og (qv_not rfl) (want_f g2 rfl rfl rfl) ?_
   refine oq (qv_pick_f g2 rfl (rfl : ev _ _ = (.bool (decide (¬ (A.v ≤ 7 ∧ A.N.length ≤ 130)))))) ?_
   refine ops_nil ?_
   refine vc_if rfl (fun c1 => ?_) (fun c1 => ?_)
   ·
    refine vc_seq ?_
    refine vc_region ?_
    refine oq (qv_as (Value.bool true) rfl) ?_
    refine ops_nil ?_
    refine vc_ret ?_
    exact rq1 (Value.bool true) rfl rfl
   ·
    refine vc_skip ?_
    refine vc_seq ?_
    refine vc_region ?_
    refine oq (qv_ldm (vs := [(.int .i64 A.v), na, (.int .i64 A.r)]) Try.agg24 rfl (inOc (k := 0) rfl) rfl rfl) ?_
    refine oq (qv_ldm (vs := [(.int .i64 B.v), nb, (.int .i64 B.r)]) Try.agg24 rfl (inOc (k := 1) rfl) rfl rfl) ?_
    refine oq (qv_ldm (vs := [(.int .i64 C0.v), nc, (.int .i64 C0.r)]) Try.agg24 rfl (inOc (k := 2) rfl) rfl rfl) ?_
    refine ops_call (σa := []) (σr := [(Arr 24 b1 [(.int .i64 A.v), na, (.int .i64 A.r)]), (Arr 24 b2 [(.int .i64 B.v), nb, (.int .i64 B.r)]), (Arr 24 b3 [(.int .i64 C0.v), nc, (.int .i64 C0.r)])]) (Ite_c hA hB hC (by omega)) rfl rfl (.refl _) (fun r1 V1 sg1 hV1 hp1 => ?_)
    obtain ⟨rfl, ux, rfl, hx⟩ := hp1
    have hA := hA.mono hV1
    have hB := hB.mono hV1
    have hC := hC.mono hV1
    refine oq (qv_mv (.tuple #[(.agg #[(.int .i64 ((cbD [A, B, C0] iteF).v)), ux, (.int .i64 ((cbD [A, B, C0] iteF).r))]), (.int .i64 (vE [A, B, C0]))]) rfl) ?_
    refine oq (qv_ext (.agg #[(.int .i64 ((cbD [A, B, C0] iteF).v)), ux, (.int .i64 ((cbD [A, B, C0] iteF).r))]) rfl rfl) ?_
    refine oq (qv_ext (.int .i64 (vE [A, B, C0])) rfl rfl) ?_
    refine ops_alloc Try.ti24 rfl (fun b4 => ?_)
    refine ops_stw (k := 3) (vs := [(.int .i64 ((cbD [A, B, C0] iteF).v)), ux, (.int .i64 ((cbD [A, B, C0] iteF).r))]) Try.size24 rfl rfl rfl (allc rfl (allc (SlS.one hx) (allc rfl rfl))) rfl rfl ?_
    refine oq (qv_as (.int .i64 (vE [A, B, C0])) rfl) ?_
    refine ops_nil ?_
    refine vc_seq ?_
    refine vc_res (σ' := [(Arr 24 b1 [(.int .i64 A.v), na, (.int .i64 A.r)]), (Arr 24 b2 [(.int .i64 B.v), nb, (.int .i64 B.r)]), (Arr 24 b3 [(.int .i64 C0.v), nc, (.int .i64 C0.r)]), (Arr 24 b4 [(.int .i64 ((cbD [A, B, C0] iteF).v)), ux, (.int .i64 ((cbD [A, B, C0] iteF).r))])]) rfl ?_
    refine vc_region ?_
    refine oq (qv_ldm (vs := [(.int .i64 B.v), nb, (.int .i64 B.r)]) Try.agg24 rfl (inOc (k := 1) rfl) rfl rfl) ?_
    refine oq (qv_ldm (vs := [(.int .i64 C0.v), nc, (.int .i64 C0.r)]) Try.agg24 rfl (inOc (k := 2) rfl) rfl rfl) ?_
    refine ops_call (σa := []) (σr := [(Arr 24 b1 [(.int .i64 A.v), na, (.int .i64 A.r)]), (Arr 24 b2 [(.int .i64 B.v), nb, (.int .i64 B.r)]), (Arr 24 b3 [(.int .i64 C0.v), nc, (.int .i64 C0.r)]), (Arr 24 b4 [(.int .i64 ((cbD [A, B, C0] iteF).v)), ux, (.int .i64 ((cbD [A, B, C0] iteF).r))])]) (Implies_c hB hC) rfl rfl (.refl _) (fun r2 V2 sg2 hV2 hp2 => ?_)
    obtain ⟨rfl, rfl⟩ := hp2
    have hA := hA.mono hV2
    have hB := hB.mono hV2
    have hC := hC.mono hV2
    have hx := hx.mono hV2
    refine oq (qv_mv (.tuple #[(.bool (decide (vE [B, C0] = 0 ∧ (cmb B.v [B, C0] impF).2 = 0))), (.int .i64 (vE [B, C0]))]) rfl) ?_
    refine oq (qv_ext (.bool (decide (vE [B, C0] = 0 ∧ (cmb B.v [B, C0] impF).2 = 0))) rfl rfl) ?_
    refine oq (qv_ext (.int .i64 (vE [B, C0])) rfl rfl) ?_
    refine oq (qv_as (.bool (decide (vE [B, C0] = 0 ∧ (cmb B.v [B, C0] impF).2 = 0))) rfl) ?_
    refine oq (qv_as (.int .i64 (vE [B, C0])) rfl) ?_
    refine ops_nil ?_
    refine vc_seq ?_
    refine vc_seq ?_
    refine vc_region ?_
    refine oq (qv_ldm (vs := [(.int .i64 B.v), nb, (.int .i64 B.r)]) Try.agg24 rfl (inOc (k := 1) rfl) rfl rfl) ?_
    refine oq (qv_ldm (vs := [(.int .i64 C0.v), nc, (.int .i64 C0.r)]) Try.agg24 rfl (inOc (k := 2) rfl) rfl rfl) ?_
    refine oq (qv_call (v := (.int .i64 (vE [B, C0]))) (fits_c hB hC) rfl rfl) ?_
    refine oq (qv_as (.int .i64 (vE [B, C0])) rfl) ?_
    refine ops_nil ?_
    refine vc_seq ?_
    refine vc_region ?_
    refine oq (qv_mv (.int .i64 (vE [B, C0])) rfl) ?_
    refine oq (qv_neq rfl rfl) ?_
    refine ops_nil ?_
    refine vc_if rfl (fun c2 => ?_) (fun c2 => ?_)
    ·
     refine vc_seq ?_
     refine vc_region ?_
     refine oq (qv_mv (.int .i64 (vE [B, C0])) rfl) ?_
     refine oq (qv_mv (.int .i64 (vE [B, C0])) rfl) ?_
     refine oq (qv_neq rfl rfl) ?_
     refine oq (qv_mv (.bool (decide ((vE [B, C0]) ≠ (vE [B, C0])))) rfl) ?_
     by_cases g3 : (vE [B, C0]) ≠ (vE [B, C0])
     ·
      exact absurd rfl g3
     ·
      refine og (qv_mv (.bool (decide (vE [B, C0] = 0 ∧ (cmb B.v [B, C0] impF).2 = 0))) rfl) (want_f g3 rfl rfl rfl) ?_
      refine oq (qv_pick_f g3 rfl (rfl : ev _ _ = (.bool (decide (vE [B, C0] = 0 ∧ (cmb B.v [B, C0] impF).2 = 0))))) ?_
      refine ops_nil ?_
      refine vc_if rfl (fun c3 => ?_) (fun c3 => ?_)
      ·
       exact absurd (c3).1 (by omega)
      ·
       refine vc_skip ?_
       refine vc_seq ?_
       refine vc_seq ?_
       refine vc_region ?_
       refine oq (qv_ldm (vs := [(.int .i64 B.v), nb, (.int .i64 B.r)]) Try.agg24 rfl (inOc (k := 1) rfl) rfl rfl) ?_
       refine oq (qv_call (v := (.int .i64 (chkC B.v B.N B.r))) (check_c hB) rfl rfl) ?_
       refine oq (qv_neq rfl rfl) ?_
       refine oq (qv_mv (.bool (decide ((chkC B.v B.N B.r) ≠ 0))) rfl) ?_
       by_cases g4 : (chkC B.v B.N B.r) ≠ 0
       ·
        refine os (want_fn g4 rfl rfl rfl) ?_
        refine os (want_fn g4 rfl rfl rfl) ?_
        refine os (want_fn g4 rfl rfl rfl) ?_
        refine oq (qv_pick_t g4 rfl (rfl : ev _ _ = (Value.bool true))) ?_
        refine oq (qv_mv (Value.bool true) rfl) ?_
        refine os (want_fnc rfl rfl rfl) ?_
        refine os (want_fnc rfl rfl rfl) ?_
        refine os (want_fnc rfl rfl rfl) ?_
        refine oq (qv_pick_tc rfl (rfl : ev _ _ = (Value.bool true))) ?_
        refine ops_nil ?_
        refine vc_tt rfl ?_
        refine vc_seq ?_
        have hv := vE3_1 (A := A) (B := B) (C0 := C0) (by omega)
        have hcb := cbD_n (Ds := [A, B, C0]) (F := iteF) (by omega)
        refine vc_region ?_
        refine oq (qv_mv (.int .i64 (vE [A, B, C0])) rfl) ?_
        refine oq (qv_eql rfl rfl) ?_
        refine oq (qv_mv (.bool (decide ((vE [A, B, C0]) = 1))) rfl) ?_
        by_cases g5 : (vE [A, B, C0]) = 1
        ·
         refine og (qv_ldm (vs := [(.int .i64 ((cbD [A, B, C0] iteF).v)), ux, (.int .i64 ((cbD [A, B, C0] iteF).r))]) Try.agg24 rfl (inOc (k := 3) rfl) rfl rfl) (want_t g5 rfl rfl rfl) ?_
         refine og (qv_build (out := [(Value.int .i64 0), (Value.slice none 0 0), (Value.int .i64 0)]) Try.build24 [] rfl rfl) (want_t g5 rfl rfl rfl) ?_
         refine og (qv_call (v := (.bool (decide (cbD [A, B, C0] iteF = dg0)))) (same_c (A := (cbD [A, B, C0] iteF)) (B := dg0) hx (Fks.nil)) rfl rfl) (want_t g5 rfl rfl rfl) ?_
         refine oq (qv_pick_t g5 rfl (rfl : ev _ _ = (.bool (decide (cbD [A, B, C0] iteF = dg0))))) ?_
         refine oq (qv_as (.bool (decide (cbD [A, B, C0] iteF = dg0))) rfl) ?_
         refine ops_nil ?_
         refine vc_ret ?_
         exact rq1 (Value.bool true) (congrArg Value.bool (decide_eq_true (show (cbD [A, B, C0] iteF = dg0) from by exact hcb))) rfl
        ·
         exact absurd hv g5
       ·
        refine og (qv_ldm (vs := [(.int .i64 C0.v), nc, (.int .i64 C0.r)]) Try.agg24 rfl (inOc (k := 2) rfl) rfl rfl) (want_f g4 rfl rfl rfl) ?_
        refine og (qv_call (v := (.int .i64 (chkC C0.v C0.N C0.r))) (check_c hC) rfl rfl) (want_f g4 rfl rfl rfl) ?_
        refine og (qv_neq rfl rfl) (want_f g4 rfl rfl rfl) ?_
        refine oq (qv_pick_f g4 rfl (rfl : ev _ _ = (.bool (decide ((chkC C0.v C0.N C0.r) ≠ 0))))) ?_
        refine oq (qv_mv (.bool (decide ((chkC C0.v C0.N C0.r) ≠ 0))) rfl) ?_
        by_cases g6 : (chkC C0.v C0.N C0.r) ≠ 0
        ·
         refine os (want_fn g6 rfl rfl rfl) ?_
         refine os (want_fn g6 rfl rfl rfl) ?_
         refine os (want_fn g6 rfl rfl rfl) ?_
         refine oq (qv_pick_t g6 rfl (rfl : ev _ _ = (Value.bool true))) ?_
         refine ops_nil ?_
         refine vc_tt rfl ?_
         refine vc_seq ?_
         have hv := vE3_1 (A := A) (B := B) (C0 := C0) (by omega)
         have hcb := cbD_n (Ds := [A, B, C0]) (F := iteF) (by omega)
         refine vc_region ?_
         refine oq (qv_mv (.int .i64 (vE [A, B, C0])) rfl) ?_
         refine oq (qv_eql rfl rfl) ?_
         refine oq (qv_mv (.bool (decide ((vE [A, B, C0]) = 1))) rfl) ?_
         by_cases g7 : (vE [A, B, C0]) = 1
         ·
          refine og (qv_ldm (vs := [(.int .i64 ((cbD [A, B, C0] iteF).v)), ux, (.int .i64 ((cbD [A, B, C0] iteF).r))]) Try.agg24 rfl (inOc (k := 3) rfl) rfl rfl) (want_t g7 rfl rfl rfl) ?_
          refine og (qv_build (out := [(Value.int .i64 0), (Value.slice none 0 0), (Value.int .i64 0)]) Try.build24 [] rfl rfl) (want_t g7 rfl rfl rfl) ?_
          refine og (qv_call (v := (.bool (decide (cbD [A, B, C0] iteF = dg0)))) (same_c (A := (cbD [A, B, C0] iteF)) (B := dg0) hx (Fks.nil)) rfl rfl) (want_t g7 rfl rfl rfl) ?_
          refine oq (qv_pick_t g7 rfl (rfl : ev _ _ = (.bool (decide (cbD [A, B, C0] iteF = dg0))))) ?_
          refine oq (qv_as (.bool (decide (cbD [A, B, C0] iteF = dg0))) rfl) ?_
          refine ops_nil ?_
          refine vc_ret ?_
          exact rq1 (Value.bool true) (congrArg Value.bool (decide_eq_true (show (cbD [A, B, C0] iteF = dg0) from by exact hcb))) rfl
         ·
          exact absurd hv g7
        ·
         refine og (qv_ldm (vs := [(.int .i64 A.v), na, (.int .i64 A.r)]) Try.agg24 rfl (inOc (k := 0) rfl) rfl rfl) (want_f g6 rfl rfl rfl) ?_
         refine og (qv_call (v := (.int .i64 (chkC A.v A.N A.r))) (check_c hA) rfl rfl) (want_f g6 rfl rfl rfl) ?_
         refine og (qv_neq rfl rfl) (want_f g6 rfl rfl rfl) ?_
         refine oq (qv_pick_f g6 rfl (rfl : ev _ _ = (.bool (decide ((chkC A.v A.N A.r) ≠ 0))))) ?_
         refine ops_nil ?_
         refine vc_if rfl (fun c4 => ?_) (fun c4 => ?_)
         ·
          refine vc_seq ?_
          have hv := vE3_1 (A := A) (B := B) (C0 := C0) (by omega)
          have hcb := cbD_n (Ds := [A, B, C0]) (F := iteF) (by omega)
          refine vc_region ?_
          refine oq (qv_mv (.int .i64 (vE [A, B, C0])) rfl) ?_
          refine oq (qv_eql rfl rfl) ?_
          refine oq (qv_mv (.bool (decide ((vE [A, B, C0]) = 1))) rfl) ?_
          by_cases g8 : (vE [A, B, C0]) = 1
          ·
           refine og (qv_ldm (vs := [(.int .i64 ((cbD [A, B, C0] iteF).v)), ux, (.int .i64 ((cbD [A, B, C0] iteF).r))]) Try.agg24 rfl (inOc (k := 3) rfl) rfl rfl) (want_t g8 rfl rfl rfl) ?_
           refine og (qv_build (out := [(Value.int .i64 0), (Value.slice none 0 0), (Value.int .i64 0)]) Try.build24 [] rfl rfl) (want_t g8 rfl rfl rfl) ?_
           refine og (qv_call (v := (.bool (decide (cbD [A, B, C0] iteF = dg0)))) (same_c (A := (cbD [A, B, C0] iteF)) (B := dg0) hx (Fks.nil)) rfl rfl) (want_t g8 rfl rfl rfl) ?_
           refine oq (qv_pick_t g8 rfl (rfl : ev _ _ = (.bool (decide (cbD [A, B, C0] iteF = dg0))))) ?_
           refine oq (qv_as (.bool (decide (cbD [A, B, C0] iteF = dg0))) rfl) ?_
           refine ops_nil ?_
           refine vc_ret ?_
           exact rq1 (Value.bool true) (congrArg Value.bool (decide_eq_true (show (cbD [A, B, C0] iteF = dg0) from by exact hcb))) rfl
          ·
           exact absurd hv g8
         ·
          refine vc_skip ?_
          refine vc_seq ?_
          refine vc_seq ?_
          refine vc_region ?_
          refine oq (qv_fa (off := 0) Try.field24_0 rfl) ?_
          refine oq (qv_ldp (v := (.int .i64 B.v)) Try.plain3 rfl (inOc (k := 1) rfl) rfl) ?_
          refine oq (qv_fa (off := 0) Try.field24_0 rfl) ?_
          refine oq (qv_ldp (v := (.int .i64 C0.v)) Try.plain3 rfl (inOc (k := 2) rfl) rfl) ?_
          refine oq (qv_neq rfl rfl) ?_
          refine oq (qv_mv (.bool (decide (B.v ≠ C0.v))) rfl) ?_
          by_cases g9 : B.v ≠ C0.v
          ·
           refine os (want_fn g9 rfl rfl rfl) ?_
           refine os (want_fn g9 rfl rfl rfl) ?_
           refine os (want_fn g9 rfl rfl rfl) ?_
           refine os (want_fn g9 rfl rfl rfl) ?_
           refine os (want_fn g9 rfl rfl rfl) ?_
           refine oq (qv_pick_t g9 rfl (rfl : ev _ _ = (Value.bool true))) ?_
           refine ops_nil ?_
           refine vc_tt rfl ?_
           refine vc_seq ?_
           have hv := vE3_2 (A := A) (B := B) (C0 := C0) (by omega) (by omega) (by omega) (by omega)
           have hcb := cbD_n (Ds := [A, B, C0]) (F := iteF) (by omega)
           refine vc_region ?_
           refine oq (qv_mv (.int .i64 (vE [A, B, C0])) rfl) ?_
           refine oq (qv_eql rfl rfl) ?_
           refine oq (qv_mv (.bool (decide ((vE [A, B, C0]) = 2))) rfl) ?_
           by_cases g10 : (vE [A, B, C0]) = 2
           ·
            refine og (qv_ldm (vs := [(.int .i64 ((cbD [A, B, C0] iteF).v)), ux, (.int .i64 ((cbD [A, B, C0] iteF).r))]) Try.agg24 rfl (inOc (k := 3) rfl) rfl rfl) (want_t g10 rfl rfl rfl) ?_
            refine og (qv_build (out := [(Value.int .i64 0), (Value.slice none 0 0), (Value.int .i64 0)]) Try.build24 [] rfl rfl) (want_t g10 rfl rfl rfl) ?_
            refine og (qv_call (v := (.bool (decide (cbD [A, B, C0] iteF = dg0)))) (same_c (A := (cbD [A, B, C0] iteF)) (B := dg0) hx (Fks.nil)) rfl rfl) (want_t g10 rfl rfl rfl) ?_
            refine oq (qv_pick_t g10 rfl (rfl : ev _ _ = (.bool (decide (cbD [A, B, C0] iteF = dg0))))) ?_
            refine oq (qv_as (.bool (decide (cbD [A, B, C0] iteF = dg0))) rfl) ?_
            refine ops_nil ?_
            refine vc_ret ?_
            exact rq1 (Value.bool true) (congrArg Value.bool (decide_eq_true (show (cbD [A, B, C0] iteF = dg0) from by exact hcb))) rfl
           ·
            exact absurd hv g10
          ·
           refine og (qv_fa (off := 0) Try.field24_0 rfl) (want_f g9 rfl rfl rfl) ?_
           refine og (qv_ldp (v := (.int .i64 B.v)) Try.plain3 rfl (inOc (k := 1) rfl) rfl) (want_f g9 rfl rfl rfl) ?_
           refine og (qv_fa (off := 0) Try.field24_0 rfl) (want_f g9 rfl rfl rfl) ?_
           refine og (qv_ldp (v := (.int .i64 A.v)) Try.plain3 rfl (inOc (k := 0) rfl) rfl) (want_f g9 rfl rfl rfl) ?_
           refine og (qv_neq rfl rfl) (want_f g9 rfl rfl rfl) ?_
           refine oq (qv_pick_f g9 rfl (rfl : ev _ _ = (.bool (decide (B.v ≠ A.v))))) ?_
           refine ops_nil ?_
           refine vc_if rfl (fun c5 => ?_) (fun c5 => ?_)
           ·
            refine vc_seq ?_
            have hv := vE3_2 (A := A) (B := B) (C0 := C0) (by omega) (by omega) (by omega) (by omega)
            have hcb := cbD_n (Ds := [A, B, C0]) (F := iteF) (by omega)
            refine vc_region ?_
            refine oq (qv_mv (.int .i64 (vE [A, B, C0])) rfl) ?_
            refine oq (qv_eql rfl rfl) ?_
            refine oq (qv_mv (.bool (decide ((vE [A, B, C0]) = 2))) rfl) ?_
            by_cases g11 : (vE [A, B, C0]) = 2
            ·
             refine og (qv_ldm (vs := [(.int .i64 ((cbD [A, B, C0] iteF).v)), ux, (.int .i64 ((cbD [A, B, C0] iteF).r))]) Try.agg24 rfl (inOc (k := 3) rfl) rfl rfl) (want_t g11 rfl rfl rfl) ?_
             refine og (qv_build (out := [(Value.int .i64 0), (Value.slice none 0 0), (Value.int .i64 0)]) Try.build24 [] rfl rfl) (want_t g11 rfl rfl rfl) ?_
             refine og (qv_call (v := (.bool (decide (cbD [A, B, C0] iteF = dg0)))) (same_c (A := (cbD [A, B, C0] iteF)) (B := dg0) hx (Fks.nil)) rfl rfl) (want_t g11 rfl rfl rfl) ?_
             refine oq (qv_pick_t g11 rfl (rfl : ev _ _ = (.bool (decide (cbD [A, B, C0] iteF = dg0))))) ?_
             refine oq (qv_as (.bool (decide (cbD [A, B, C0] iteF = dg0))) rfl) ?_
             refine ops_nil ?_
             refine vc_ret ?_
             exact rq1 (Value.bool true) (congrArg Value.bool (decide_eq_true (show (cbD [A, B, C0] iteF = dg0) from by exact hcb))) rfl
            ·
             exact absurd hv g11
           ·
            refine vc_skip ?_
            refine vc_seq ?_
            have hv := vE3_0 (A := A) (B := B) (C0 := C0) (by omega) (by omega) (by omega) (by omega) (by omega)
            have hil := ite_law hv
            have hvz : 0 ≤ B.v := (chk_ok.1 (show chkC B.v B.N B.r = 0 by omega)).1.1
            refine vc_region_order (τ := []) [(0, false), (1, false), (2, false), (3, false), (4, false), (5, false), (6, false), (8, false), (10, false), (7, true), (9, true), (11, true), (12, true), (13, true), (14, false), (15, false), (16, false)] [(Arr 24 b1 [(.int .i64 A.v), na, (.int .i64 A.r)]), (Arr 24 b2 [(.int .i64 B.v), nb, (.int .i64 B.r)]), (Arr 24 b3 [(.int .i64 C0.v), nc, (.int .i64 C0.r)]), (Arr 24 b4 [(.int .i64 ((cbD [A, B, C0] iteF).v)), ux, (.int .i64 ((cbD [A, B, C0] iteF).r))])] Try.mixed (perm_nil _) (by kernel_rfl) ?_
            refine rq rfl (qv_mv (.int .i64 (vE [A, B, C0])) rfl) ?_
            refine rq rfl (qv_eql rfl rfl) ?_
            refine rq rfl (qv_mv (.bool (decide ((vE [A, B, C0]) = 0))) rfl) ?_
            by_cases g12 : (vE [A, B, C0]) = 0
            ·
             refine re rfl (qv_ldm (vs := [(.int .i64 ((cbD [A, B, C0] iteF).v)), ux, (.int .i64 ((cbD [A, B, C0] iteF).r))]) Try.agg24 rfl (inOc (k := 3) rfl) rfl rfl) (want_t g12 rfl rfl rfl) ?_
             refine re rfl (qv_fa (off := 0) Try.field24_0 rfl) (want_t g12 rfl rfl rfl) ?_
             refine re rfl (qv_ldp (v := (.int .i64 B.v)) Try.plain3 rfl (inOc (k := 1) rfl) rfl) (want_t g12 rfl rfl rfl) ?_
             refine re rfl (qv_ldm (vs := [(.int .i64 A.v), na, (.int .i64 A.r)]) Try.agg24 rfl (inOc (k := 0) rfl) rfl rfl) (want_t g12 rfl rfl rfl) ?_
             refine re rfl (qv_ldm (vs := [(.int .i64 B.v), nb, (.int .i64 B.r)]) Try.agg24 rfl (inOc (k := 1) rfl) rfl rfl) (want_t g12 rfl rfl rfl) ?_
             refine re rfl (qv_ldm (vs := [(.int .i64 C0.v), nc, (.int .i64 C0.r)]) Try.agg24 rfl (inOc (k := 2) rfl) rfl rfl) (want_t g12 rfl rfl rfl) ?_
             refine rl rfl ?_
             refine ops_want (want_t g12 rfl rfl rfl) ?_
             refine ops_call (σa := []) (σr := [(Arr 24 b1 [(.int .i64 A.v), na, (.int .i64 A.r)]), (Arr 24 b2 [(.int .i64 B.v), nb, (.int .i64 B.r)]), (Arr 24 b3 [(.int .i64 C0.v), nc, (.int .i64 C0.r)]), (Arr 24 b4 [(.int .i64 ((cbD [A, B, C0] iteF).v)), ux, (.int .i64 ((cbD [A, B, C0] iteF).r))])]) (by have h := table_c (A := A) hA (chk_ok.1 (by omega)) (by omega); rw [tbD_v (vars := B.v) (by omega)] at h; exact h) rfl rfl (.refl _) (fun r3 V3 sg3 hV3 hp3 => ?_)
             obtain ⟨rfl, hTr3⟩ := hp3
             have hA := hA.mono hV3
             have hB := hB.mono hV3
             have hC := hC.mono hV3
             have hx := hx.mono hV3
             refine ops_nil ⟨[(Arr 24 b1 [(.int .i64 A.v), na, (.int .i64 A.r)]), (Arr 24 b2 [(.int .i64 B.v), nb, (.int .i64 B.r)]), (Arr 24 b3 [(.int .i64 C0.v), nc, (.int .i64 C0.r)]), (Arr 24 b4 [(.int .i64 ((cbD [A, B, C0] iteF).v)), ux, (.int .i64 ((cbD [A, B, C0] iteF).r))])], [], hV3, perm_nil _, ⟨[], (.refl _)⟩, ?_⟩
             refine rl rfl ?_
             refine ops_want (want_t g12 rfl rfl rfl) ?_
             refine ops_call (σa := []) (σr := [(Arr 24 b1 [(.int .i64 A.v), na, (.int .i64 A.r)]), (Arr 24 b2 [(.int .i64 B.v), nb, (.int .i64 B.r)]), (Arr 24 b3 [(.int .i64 C0.v), nc, (.int .i64 C0.r)]), (Arr 24 b4 [(.int .i64 ((cbD [A, B, C0] iteF).v)), ux, (.int .i64 ((cbD [A, B, C0] iteF).r))])]) (by have h := table_c (A := B) hB (chk_ok.1 (by omega)) (by omega); rw [tbD_v rfl] at h; exact h) rfl rfl (.refl _) (fun r4 V4 sg4 hV4 hp4 => ?_)
             obtain ⟨rfl, hTr4⟩ := hp4
             have hA := hA.mono hV4
             have hB := hB.mono hV4
             have hC := hC.mono hV4
             have hx := hx.mono hV4
             have hTr3 := hTr3.mono hV4
             refine ops_nil ⟨[(Arr 24 b1 [(.int .i64 A.v), na, (.int .i64 A.r)]), (Arr 24 b2 [(.int .i64 B.v), nb, (.int .i64 B.r)]), (Arr 24 b3 [(.int .i64 C0.v), nc, (.int .i64 C0.r)]), (Arr 24 b4 [(.int .i64 ((cbD [A, B, C0] iteF).v)), ux, (.int .i64 ((cbD [A, B, C0] iteF).r))])], [], hV4, perm_nil _, ⟨[], (.refl _)⟩, ?_⟩
             refine rl rfl ?_
             refine ops_want (want_t g12 rfl rfl rfl) ?_
             refine ops_call (σa := []) (σr := [(Arr 24 b1 [(.int .i64 A.v), na, (.int .i64 A.r)]), (Arr 24 b2 [(.int .i64 B.v), nb, (.int .i64 B.r)]), (Arr 24 b3 [(.int .i64 C0.v), nc, (.int .i64 C0.r)]), (Arr 24 b4 [(.int .i64 ((cbD [A, B, C0] iteF).v)), ux, (.int .i64 ((cbD [A, B, C0] iteF).r))])]) (by have h := table_c (A := C0) hC (chk_ok.1 (by omega)) (by omega); rw [tbD_v (vars := B.v) (by omega)] at h; exact h) rfl rfl (.refl _) (fun r5 V5 sg5 hV5 hp5 => ?_)
             obtain ⟨rfl, hTr5⟩ := hp5
             have hA := hA.mono hV5
             have hB := hB.mono hV5
             have hC := hC.mono hV5
             have hx := hx.mono hV5
             have hTr3 := hTr3.mono hV5
             have hTr4 := hTr4.mono hV5
             refine ops_nil ⟨[(Arr 24 b1 [(.int .i64 A.v), na, (.int .i64 A.r)]), (Arr 24 b2 [(.int .i64 B.v), nb, (.int .i64 B.r)]), (Arr 24 b3 [(.int .i64 C0.v), nc, (.int .i64 C0.r)]), (Arr 24 b4 [(.int .i64 ((cbD [A, B, C0] iteF).v)), ux, (.int .i64 ((cbD [A, B, C0] iteF).r))])], [], hV5, perm_nil _, ⟨[], (.refl _)⟩, ?_⟩
             refine rl rfl ?_
             refine ops_want (want_t g12 rfl rfl rfl) ?_
             refine ops_call (σa := []) (σr := [(Arr 24 b1 [(.int .i64 A.v), na, (.int .i64 A.r)]), (Arr 24 b2 [(.int .i64 B.v), nb, (.int .i64 B.r)]), (Arr 24 b3 [(.int .i64 C0.v), nc, (.int .i64 C0.r)]), (Arr 24 b4 [(.int .i64 ((cbD [A, B, C0] iteF).v)), ux, (.int .i64 ((cbD [A, B, C0] iteF).r))])]) (chosen_c hTr3 hTr4 hTr5 (by omega)) rfl rfl (.refl _) (fun r6 V6 sg6 hV6 hp6 => ?_)
             obtain ⟨rfl, hTr6⟩ := hp6
             have hA := hA.mono hV6
             have hB := hB.mono hV6
             have hC := hC.mono hV6
             have hx := hx.mono hV6
             have hTr3 := hTr3.mono hV6
             have hTr4 := hTr4.mono hV6
             have hTr5 := hTr5.mono hV6
             refine ops_nil ⟨[(Arr 24 b1 [(.int .i64 A.v), na, (.int .i64 A.r)]), (Arr 24 b2 [(.int .i64 B.v), nb, (.int .i64 B.r)]), (Arr 24 b3 [(.int .i64 C0.v), nc, (.int .i64 C0.r)]), (Arr 24 b4 [(.int .i64 ((cbD [A, B, C0] iteF).v)), ux, (.int .i64 ((cbD [A, B, C0] iteF).r))])], [], hV6, perm_nil _, ⟨[], (.refl _)⟩, ?_⟩
             refine rl rfl ?_
             refine ops_want (want_t g12 rfl rfl rfl) ?_
             refine ops_call (σa := []) (σr := [(Arr 24 b1 [(.int .i64 A.v), na, (.int .i64 A.r)]), (Arr 24 b2 [(.int .i64 B.v), nb, (.int .i64 B.r)]), (Arr 24 b3 [(.int .i64 C0.v), nc, (.int .i64 C0.r)]), (Arr 24 b4 [(.int .i64 ((cbD [A, B, C0] iteF).v)), ux, (.int .i64 ((cbD [A, B, C0] iteF).r))])]) (build_c hTr6 (by omega) (by omega) (tbl_len _ _)) rfl rfl (.refl _) (fun r7 V7 sg7 hV7 hp7 => ?_)
             obtain ⟨rfl, u3, rfl, h3⟩ := hp7
             have hA := hA.mono hV7
             have hB := hB.mono hV7
             have hC := hC.mono hV7
             have hx := hx.mono hV7
             have hTr3 := hTr3.mono hV7
             have hTr4 := hTr4.mono hV7
             have hTr5 := hTr5.mono hV7
             have hTr6 := hTr6.mono hV7
             refine ops_nil ⟨[(Arr 24 b1 [(.int .i64 A.v), na, (.int .i64 A.r)]), (Arr 24 b2 [(.int .i64 B.v), nb, (.int .i64 B.r)]), (Arr 24 b3 [(.int .i64 C0.v), nc, (.int .i64 C0.r)]), (Arr 24 b4 [(.int .i64 ((cbD [A, B, C0] iteF).v)), ux, (.int .i64 ((cbD [A, B, C0] iteF).r))])], [], hV7, perm_nil _, ⟨[], (.refl _)⟩, ?_⟩
             refine re rfl (qv_call (v := (.bool (decide (cbD [A, B, C0] iteF = (bldD B.v (tbl B.v (fun e => iteF (gA A e) (gA B e) (gA C0 e)))))))) (same_c (A := (cbD [A, B, C0] iteF)) (B := (bldD B.v (tbl B.v (fun e => iteF (gA A e) (gA B e) (gA C0 e))))) hx (h3)) rfl rfl) (want_t g12 rfl rfl rfl) ?_
             refine rq rfl (qv_pick_t g12 rfl (rfl : ev _ _ = (.bool (decide (cbD [A, B, C0] iteF = (bldD B.v (tbl B.v (fun e => iteF (gA A e) (gA B e) (gA C0 e))))))))) ?_
             refine rq rfl (qv_as (.bool (decide (cbD [A, B, C0] iteF = (bldD B.v (tbl B.v (fun e => iteF (gA A e) (gA B e) (gA C0 e))))))) rfl) ?_
             refine rnil ?_
             refine vc_ret ?_
             exact rq1 (Value.bool true) (congrArg Value.bool (decide_eq_true (show (cbD [A, B, C0] iteF = (bldD B.v (tbl B.v (fun e => iteF (gA A e) (gA B e) (gA C0 e))))) from by exact hil))) rfl
            ·
             exact absurd hv g12
    ·
     refine vc_seq ?_
     have hz2 : vE [B, C0] = 0 := by omega
     obtain ⟨hok1, hok2, hok3⟩ := ok2 hz2
     have hck1 := chk_ok.2 hok1
     have hck2 := chk_ok.2 hok2
     have hil := imp_law hz2
     refine vc_region_order (τ := []) [(0, false), (1, false), (2, false), (3, false), (4, false), (6, false), (5, true), (7, true), (8, true), (9, false), (10, false), (11, false)] [(Arr 24 b1 [(.int .i64 A.v), na, (.int .i64 A.r)]), (Arr 24 b2 [(.int .i64 B.v), nb, (.int .i64 B.r)]), (Arr 24 b3 [(.int .i64 C0.v), nc, (.int .i64 C0.r)]), (Arr 24 b4 [(.int .i64 ((cbD [A, B, C0] iteF).v)), ux, (.int .i64 ((cbD [A, B, C0] iteF).r))])] Try.mixed (perm_nil _) (by kernel_rfl) ?_
     refine rq rfl (qv_mv (.int .i64 (vE [B, C0])) rfl) ?_
     refine rq rfl (qv_neq rfl rfl) ?_
     refine rq rfl (qv_mv (.bool (decide ((vE [B, C0]) ≠ 0))) rfl) ?_
     refine re rfl (qv_mv (.bool (decide (vE [B, C0] = 0 ∧ (cmb B.v [B, C0] impF).2 = 0))) rfl) (want_f c2 rfl rfl rfl) ?_
     refine re rfl (qv_ldm (vs := [(.int .i64 B.v), nb, (.int .i64 B.r)]) Try.agg24 rfl (inOc (k := 1) rfl) rfl rfl) (want_f c2 rfl rfl rfl) ?_
     refine re rfl (qv_ldm (vs := [(.int .i64 C0.v), nc, (.int .i64 C0.r)]) Try.agg24 rfl (inOc (k := 2) rfl) rfl rfl) (want_f c2 rfl rfl rfl) ?_
     refine rl rfl ?_
     refine ops_want (want_f c2 rfl rfl rfl) ?_
     refine ops_call (σa := []) (σr := [(Arr 24 b1 [(.int .i64 A.v), na, (.int .i64 A.r)]), (Arr 24 b2 [(.int .i64 B.v), nb, (.int .i64 B.r)]), (Arr 24 b3 [(.int .i64 C0.v), nc, (.int .i64 C0.r)]), (Arr 24 b4 [(.int .i64 ((cbD [A, B, C0] iteF).v)), ux, (.int .i64 ((cbD [A, B, C0] iteF).r))])]) (by have h := table_c (A := B) hB (chk_ok.1 (by omega)) (by omega); rw [tbD_v rfl] at h; exact h) rfl rfl (.refl _) (fun r8 V8 sg8 hV8 hp8 => ?_)
     obtain ⟨rfl, hTr8⟩ := hp8
     have hA := hA.mono hV8
     have hB := hB.mono hV8
     have hC := hC.mono hV8
     have hx := hx.mono hV8
     refine ops_nil ⟨[(Arr 24 b1 [(.int .i64 A.v), na, (.int .i64 A.r)]), (Arr 24 b2 [(.int .i64 B.v), nb, (.int .i64 B.r)]), (Arr 24 b3 [(.int .i64 C0.v), nc, (.int .i64 C0.r)]), (Arr 24 b4 [(.int .i64 ((cbD [A, B, C0] iteF).v)), ux, (.int .i64 ((cbD [A, B, C0] iteF).r))])], [], hV8, perm_nil _, ⟨[], (.refl _)⟩, ?_⟩
     refine rl rfl ?_
     refine ops_want (want_f c2 rfl rfl rfl) ?_
     refine ops_call (σa := []) (σr := [(Arr 24 b1 [(.int .i64 A.v), na, (.int .i64 A.r)]), (Arr 24 b2 [(.int .i64 B.v), nb, (.int .i64 B.r)]), (Arr 24 b3 [(.int .i64 C0.v), nc, (.int .i64 C0.r)]), (Arr 24 b4 [(.int .i64 ((cbD [A, B, C0] iteF).v)), ux, (.int .i64 ((cbD [A, B, C0] iteF).r))])]) (by have h := table_c (A := C0) hC (chk_ok.1 (by omega)) (by omega); rw [tbD_v (vars := B.v) (by omega)] at h; exact h) rfl rfl (.refl _) (fun r9 V9 sg9 hV9 hp9 => ?_)
     obtain ⟨rfl, hTr9⟩ := hp9
     have hA := hA.mono hV9
     have hB := hB.mono hV9
     have hC := hC.mono hV9
     have hx := hx.mono hV9
     have hTr8 := hTr8.mono hV9
     refine ops_nil ⟨[(Arr 24 b1 [(.int .i64 A.v), na, (.int .i64 A.r)]), (Arr 24 b2 [(.int .i64 B.v), nb, (.int .i64 B.r)]), (Arr 24 b3 [(.int .i64 C0.v), nc, (.int .i64 C0.r)]), (Arr 24 b4 [(.int .i64 ((cbD [A, B, C0] iteF).v)), ux, (.int .i64 ((cbD [A, B, C0] iteF).r))])], [], hV9, perm_nil _, ⟨[], (.refl _)⟩, ?_⟩
     refine rl rfl ?_
     refine ops_want (want_f c2 rfl rfl rfl) ?_
     refine ops_call (σa := []) (σr := [(Arr 24 b1 [(.int .i64 A.v), na, (.int .i64 A.r)]), (Arr 24 b2 [(.int .i64 B.v), nb, (.int .i64 B.r)]), (Arr 24 b3 [(.int .i64 C0.v), nc, (.int .i64 C0.r)]), (Arr 24 b4 [(.int .i64 ((cbD [A, B, C0] iteF).v)), ux, (.int .i64 ((cbD [A, B, C0] iteF).r))])]) (applied_c (op := 4) hTr8 hTr9 (by omega) (by omega) (by omega)) rfl rfl (.refl _) (fun r10 V10 sg10 hV10 hp10 => ?_)
     obtain ⟨rfl, hTr10⟩ := hp10
     have hA := hA.mono hV10
     have hB := hB.mono hV10
     have hC := hC.mono hV10
     have hx := hx.mono hV10
     have hTr8 := hTr8.mono hV10
     have hTr9 := hTr9.mono hV10
     refine ops_nil ⟨[(Arr 24 b1 [(.int .i64 A.v), na, (.int .i64 A.r)]), (Arr 24 b2 [(.int .i64 B.v), nb, (.int .i64 B.r)]), (Arr 24 b3 [(.int .i64 C0.v), nc, (.int .i64 C0.r)]), (Arr 24 b4 [(.int .i64 ((cbD [A, B, C0] iteF).v)), ux, (.int .i64 ((cbD [A, B, C0] iteF).r))])], [], hV10, perm_nil _, ⟨[], (.refl _)⟩, ?_⟩
     refine re rfl (qv_call (v := (.bool (decide (∃ i : Int, 0 ≤ i ∧ i < (tbl B.v (fun e => opF 4 (gA B e) (gA C0 e) false)).length ∧ gb (tbl B.v (fun e => opF 4 (gA B e) (gA C0 e) false)) i = true)))) (ContainsB_c hTr10) rfl rfl) (want_f c2 rfl rfl rfl) ?_
     refine re rfl (qv_iffb Try.underlying4 rfl rfl) (want_f c2 rfl rfl rfl) ?_
     refine rq rfl (qv_pick_f c2 rfl (rfl : ev _ _ = (.bool (decide ((vE [B, C0] = 0 ∧ (cmb B.v [B, C0] impF).2 = 0) ↔ (∃ i : Int, 0 ≤ i ∧ i < (tbl B.v (fun e => opF 4 (gA B e) (gA C0 e) false)).length ∧ gb (tbl B.v (fun e => opF 4 (gA B e) (gA C0 e) false)) i = true)))))) ?_
     refine rnil ?_
     refine vc_if rfl (fun c6 => ?_) (fun c6 => ?_)
     ·
      exact absurd (hil.symm.trans c6) (by intro q; by_cases z : (∃ i : Int, 0 ≤ i ∧ i < (tbl B.v (fun e => opF 4 (gA B e) (gA C0 e) false)).length ∧ gb (tbl B.v (fun e => opF 4 (gA B e) (gA C0 e) false)) i = true); exact (q.2 z) z; exact z (q.1 z))
     ·
      refine vc_skip ?_
      refine vc_seq ?_
      refine vc_seq ?_
      refine vc_region ?_
      refine oq (qv_ldm (vs := [(.int .i64 B.v), nb, (.int .i64 B.r)]) Try.agg24 rfl (inOc (k := 1) rfl) rfl rfl) ?_
      refine oq (qv_call (v := (.int .i64 (chkC B.v B.N B.r))) (check_c hB) rfl rfl) ?_
      refine oq (qv_neq rfl rfl) ?_
      refine oq (qv_mv (.bool (decide ((chkC B.v B.N B.r) ≠ 0))) rfl) ?_
      by_cases g13 : (chkC B.v B.N B.r) ≠ 0
      ·
       refine os (want_fn g13 rfl rfl rfl) ?_
       refine os (want_fn g13 rfl rfl rfl) ?_
       refine os (want_fn g13 rfl rfl rfl) ?_
       refine oq (qv_pick_t g13 rfl (rfl : ev _ _ = (Value.bool true))) ?_
       refine oq (qv_mv (Value.bool true) rfl) ?_
       refine os (want_fnc rfl rfl rfl) ?_
       refine os (want_fnc rfl rfl rfl) ?_
       refine os (want_fnc rfl rfl rfl) ?_
       refine oq (qv_pick_tc rfl (rfl : ev _ _ = (Value.bool true))) ?_
       refine ops_nil ?_
       refine vc_tt rfl ?_
       refine vc_seq ?_
       have hv := vE3_1 (A := A) (B := B) (C0 := C0) (by omega)
       have hcb := cbD_n (Ds := [A, B, C0]) (F := iteF) (by omega)
       refine vc_region ?_
       refine oq (qv_mv (.int .i64 (vE [A, B, C0])) rfl) ?_
       refine oq (qv_eql rfl rfl) ?_
       refine oq (qv_mv (.bool (decide ((vE [A, B, C0]) = 1))) rfl) ?_
       by_cases g14 : (vE [A, B, C0]) = 1
       ·
        refine og (qv_ldm (vs := [(.int .i64 ((cbD [A, B, C0] iteF).v)), ux, (.int .i64 ((cbD [A, B, C0] iteF).r))]) Try.agg24 rfl (inOc (k := 3) rfl) rfl rfl) (want_t g14 rfl rfl rfl) ?_
        refine og (qv_build (out := [(Value.int .i64 0), (Value.slice none 0 0), (Value.int .i64 0)]) Try.build24 [] rfl rfl) (want_t g14 rfl rfl rfl) ?_
        refine og (qv_call (v := (.bool (decide (cbD [A, B, C0] iteF = dg0)))) (same_c (A := (cbD [A, B, C0] iteF)) (B := dg0) hx (Fks.nil)) rfl rfl) (want_t g14 rfl rfl rfl) ?_
        refine oq (qv_pick_t g14 rfl (rfl : ev _ _ = (.bool (decide (cbD [A, B, C0] iteF = dg0))))) ?_
        refine oq (qv_as (.bool (decide (cbD [A, B, C0] iteF = dg0))) rfl) ?_
        refine ops_nil ?_
        refine vc_ret ?_
        exact rq1 (Value.bool true) (congrArg Value.bool (decide_eq_true (show (cbD [A, B, C0] iteF = dg0) from by exact hcb))) rfl
       ·
        exact absurd hv g14
      ·
       refine og (qv_ldm (vs := [(.int .i64 C0.v), nc, (.int .i64 C0.r)]) Try.agg24 rfl (inOc (k := 2) rfl) rfl rfl) (want_f g13 rfl rfl rfl) ?_
       refine og (qv_call (v := (.int .i64 (chkC C0.v C0.N C0.r))) (check_c hC) rfl rfl) (want_f g13 rfl rfl rfl) ?_
       refine og (qv_neq rfl rfl) (want_f g13 rfl rfl rfl) ?_
       refine oq (qv_pick_f g13 rfl (rfl : ev _ _ = (.bool (decide ((chkC C0.v C0.N C0.r) ≠ 0))))) ?_
       refine oq (qv_mv (.bool (decide ((chkC C0.v C0.N C0.r) ≠ 0))) rfl) ?_
       by_cases g15 : (chkC C0.v C0.N C0.r) ≠ 0
       ·
        refine os (want_fn g15 rfl rfl rfl) ?_
        refine os (want_fn g15 rfl rfl rfl) ?_
        refine os (want_fn g15 rfl rfl rfl) ?_
        refine oq (qv_pick_t g15 rfl (rfl : ev _ _ = (Value.bool true))) ?_
        refine ops_nil ?_
        refine vc_tt rfl ?_
        refine vc_seq ?_
        have hv := vE3_1 (A := A) (B := B) (C0 := C0) (by omega)
        have hcb := cbD_n (Ds := [A, B, C0]) (F := iteF) (by omega)
        refine vc_region ?_
        refine oq (qv_mv (.int .i64 (vE [A, B, C0])) rfl) ?_
        refine oq (qv_eql rfl rfl) ?_
        refine oq (qv_mv (.bool (decide ((vE [A, B, C0]) = 1))) rfl) ?_
        by_cases g16 : (vE [A, B, C0]) = 1
        ·
         refine og (qv_ldm (vs := [(.int .i64 ((cbD [A, B, C0] iteF).v)), ux, (.int .i64 ((cbD [A, B, C0] iteF).r))]) Try.agg24 rfl (inOc (k := 3) rfl) rfl rfl) (want_t g16 rfl rfl rfl) ?_
         refine og (qv_build (out := [(Value.int .i64 0), (Value.slice none 0 0), (Value.int .i64 0)]) Try.build24 [] rfl rfl) (want_t g16 rfl rfl rfl) ?_
         refine og (qv_call (v := (.bool (decide (cbD [A, B, C0] iteF = dg0)))) (same_c (A := (cbD [A, B, C0] iteF)) (B := dg0) hx (Fks.nil)) rfl rfl) (want_t g16 rfl rfl rfl) ?_
         refine oq (qv_pick_t g16 rfl (rfl : ev _ _ = (.bool (decide (cbD [A, B, C0] iteF = dg0))))) ?_
         refine oq (qv_as (.bool (decide (cbD [A, B, C0] iteF = dg0))) rfl) ?_
         refine ops_nil ?_
         refine vc_ret ?_
         exact rq1 (Value.bool true) (congrArg Value.bool (decide_eq_true (show (cbD [A, B, C0] iteF = dg0) from by exact hcb))) rfl
        ·
         exact absurd hv g16
       ·
        refine og (qv_ldm (vs := [(.int .i64 A.v), na, (.int .i64 A.r)]) Try.agg24 rfl (inOc (k := 0) rfl) rfl rfl) (want_f g15 rfl rfl rfl) ?_
        refine og (qv_call (v := (.int .i64 (chkC A.v A.N A.r))) (check_c hA) rfl rfl) (want_f g15 rfl rfl rfl) ?_
        refine og (qv_neq rfl rfl) (want_f g15 rfl rfl rfl) ?_
        refine oq (qv_pick_f g15 rfl (rfl : ev _ _ = (.bool (decide ((chkC A.v A.N A.r) ≠ 0))))) ?_
        refine ops_nil ?_
        refine vc_if rfl (fun c7 => ?_) (fun c7 => ?_)
        ·
         refine vc_seq ?_
         have hv := vE3_1 (A := A) (B := B) (C0 := C0) (by omega)
         have hcb := cbD_n (Ds := [A, B, C0]) (F := iteF) (by omega)
         refine vc_region ?_
         refine oq (qv_mv (.int .i64 (vE [A, B, C0])) rfl) ?_
         refine oq (qv_eql rfl rfl) ?_
         refine oq (qv_mv (.bool (decide ((vE [A, B, C0]) = 1))) rfl) ?_
         by_cases g17 : (vE [A, B, C0]) = 1
         ·
          refine og (qv_ldm (vs := [(.int .i64 ((cbD [A, B, C0] iteF).v)), ux, (.int .i64 ((cbD [A, B, C0] iteF).r))]) Try.agg24 rfl (inOc (k := 3) rfl) rfl rfl) (want_t g17 rfl rfl rfl) ?_
          refine og (qv_build (out := [(Value.int .i64 0), (Value.slice none 0 0), (Value.int .i64 0)]) Try.build24 [] rfl rfl) (want_t g17 rfl rfl rfl) ?_
          refine og (qv_call (v := (.bool (decide (cbD [A, B, C0] iteF = dg0)))) (same_c (A := (cbD [A, B, C0] iteF)) (B := dg0) hx (Fks.nil)) rfl rfl) (want_t g17 rfl rfl rfl) ?_
          refine oq (qv_pick_t g17 rfl (rfl : ev _ _ = (.bool (decide (cbD [A, B, C0] iteF = dg0))))) ?_
          refine oq (qv_as (.bool (decide (cbD [A, B, C0] iteF = dg0))) rfl) ?_
          refine ops_nil ?_
          refine vc_ret ?_
          exact rq1 (Value.bool true) (congrArg Value.bool (decide_eq_true (show (cbD [A, B, C0] iteF = dg0) from by exact hcb))) rfl
         ·
          exact absurd hv g17
        ·
         refine vc_skip ?_
         refine vc_seq ?_
         refine vc_seq ?_
         refine vc_region ?_
         refine oq (qv_fa (off := 0) Try.field24_0 rfl) ?_
         refine oq (qv_ldp (v := (.int .i64 B.v)) Try.plain3 rfl (inOc (k := 1) rfl) rfl) ?_
         refine oq (qv_fa (off := 0) Try.field24_0 rfl) ?_
         refine oq (qv_ldp (v := (.int .i64 C0.v)) Try.plain3 rfl (inOc (k := 2) rfl) rfl) ?_
         refine oq (qv_neq rfl rfl) ?_
         refine oq (qv_mv (.bool (decide (B.v ≠ C0.v))) rfl) ?_
         by_cases g18 : B.v ≠ C0.v
         ·
          refine os (want_fn g18 rfl rfl rfl) ?_
          refine os (want_fn g18 rfl rfl rfl) ?_
          refine os (want_fn g18 rfl rfl rfl) ?_
          refine os (want_fn g18 rfl rfl rfl) ?_
          refine os (want_fn g18 rfl rfl rfl) ?_
          refine oq (qv_pick_t g18 rfl (rfl : ev _ _ = (Value.bool true))) ?_
          refine ops_nil ?_
          refine vc_tt rfl ?_
          refine vc_seq ?_
          have hv := vE3_2 (A := A) (B := B) (C0 := C0) (by omega) (by omega) (by omega) (by omega)
          have hcb := cbD_n (Ds := [A, B, C0]) (F := iteF) (by omega)
          refine vc_region ?_
          refine oq (qv_mv (.int .i64 (vE [A, B, C0])) rfl) ?_
          refine oq (qv_eql rfl rfl) ?_
          refine oq (qv_mv (.bool (decide ((vE [A, B, C0]) = 2))) rfl) ?_
          by_cases g19 : (vE [A, B, C0]) = 2
          ·
           refine og (qv_ldm (vs := [(.int .i64 ((cbD [A, B, C0] iteF).v)), ux, (.int .i64 ((cbD [A, B, C0] iteF).r))]) Try.agg24 rfl (inOc (k := 3) rfl) rfl rfl) (want_t g19 rfl rfl rfl) ?_
           refine og (qv_build (out := [(Value.int .i64 0), (Value.slice none 0 0), (Value.int .i64 0)]) Try.build24 [] rfl rfl) (want_t g19 rfl rfl rfl) ?_
           refine og (qv_call (v := (.bool (decide (cbD [A, B, C0] iteF = dg0)))) (same_c (A := (cbD [A, B, C0] iteF)) (B := dg0) hx (Fks.nil)) rfl rfl) (want_t g19 rfl rfl rfl) ?_
           refine oq (qv_pick_t g19 rfl (rfl : ev _ _ = (.bool (decide (cbD [A, B, C0] iteF = dg0))))) ?_
           refine oq (qv_as (.bool (decide (cbD [A, B, C0] iteF = dg0))) rfl) ?_
           refine ops_nil ?_
           refine vc_ret ?_
           exact rq1 (Value.bool true) (congrArg Value.bool (decide_eq_true (show (cbD [A, B, C0] iteF = dg0) from by exact hcb))) rfl
          ·
           exact absurd hv g19
         ·
          refine og (qv_fa (off := 0) Try.field24_0 rfl) (want_f g18 rfl rfl rfl) ?_
          refine og (qv_ldp (v := (.int .i64 B.v)) Try.plain3 rfl (inOc (k := 1) rfl) rfl) (want_f g18 rfl rfl rfl) ?_
          refine og (qv_fa (off := 0) Try.field24_0 rfl) (want_f g18 rfl rfl rfl) ?_
          refine og (qv_ldp (v := (.int .i64 A.v)) Try.plain3 rfl (inOc (k := 0) rfl) rfl) (want_f g18 rfl rfl rfl) ?_
          refine og (qv_neq rfl rfl) (want_f g18 rfl rfl rfl) ?_
          refine oq (qv_pick_f g18 rfl (rfl : ev _ _ = (.bool (decide (B.v ≠ A.v))))) ?_
          refine ops_nil ?_
          refine vc_if rfl (fun c8 => ?_) (fun c8 => ?_)
          ·
           refine vc_seq ?_
           have hv := vE3_2 (A := A) (B := B) (C0 := C0) (by omega) (by omega) (by omega) (by omega)
           have hcb := cbD_n (Ds := [A, B, C0]) (F := iteF) (by omega)
           refine vc_region ?_
           refine oq (qv_mv (.int .i64 (vE [A, B, C0])) rfl) ?_
           refine oq (qv_eql rfl rfl) ?_
           refine oq (qv_mv (.bool (decide ((vE [A, B, C0]) = 2))) rfl) ?_
           by_cases g20 : (vE [A, B, C0]) = 2
           ·
            refine og (qv_ldm (vs := [(.int .i64 ((cbD [A, B, C0] iteF).v)), ux, (.int .i64 ((cbD [A, B, C0] iteF).r))]) Try.agg24 rfl (inOc (k := 3) rfl) rfl rfl) (want_t g20 rfl rfl rfl) ?_
            refine og (qv_build (out := [(Value.int .i64 0), (Value.slice none 0 0), (Value.int .i64 0)]) Try.build24 [] rfl rfl) (want_t g20 rfl rfl rfl) ?_
            refine og (qv_call (v := (.bool (decide (cbD [A, B, C0] iteF = dg0)))) (same_c (A := (cbD [A, B, C0] iteF)) (B := dg0) hx (Fks.nil)) rfl rfl) (want_t g20 rfl rfl rfl) ?_
            refine oq (qv_pick_t g20 rfl (rfl : ev _ _ = (.bool (decide (cbD [A, B, C0] iteF = dg0))))) ?_
            refine oq (qv_as (.bool (decide (cbD [A, B, C0] iteF = dg0))) rfl) ?_
            refine ops_nil ?_
            refine vc_ret ?_
            exact rq1 (Value.bool true) (congrArg Value.bool (decide_eq_true (show (cbD [A, B, C0] iteF = dg0) from by exact hcb))) rfl
           ·
            exact absurd hv g20
          ·
           refine vc_skip ?_
           refine vc_seq ?_
           have hv := vE3_0 (A := A) (B := B) (C0 := C0) (by omega) (by omega) (by omega) (by omega) (by omega)
           have hil := ite_law hv
           have hvz : 0 ≤ B.v := (chk_ok.1 (show chkC B.v B.N B.r = 0 by omega)).1.1
           refine vc_region_order (τ := []) [(0, false), (1, false), (2, false), (3, false), (4, false), (5, false), (6, false), (8, false), (10, false), (7, true), (9, true), (11, true), (12, true), (13, true), (14, false), (15, false), (16, false)] [(Arr 24 b1 [(.int .i64 A.v), na, (.int .i64 A.r)]), (Arr 24 b2 [(.int .i64 B.v), nb, (.int .i64 B.r)]), (Arr 24 b3 [(.int .i64 C0.v), nc, (.int .i64 C0.r)]), (Arr 24 b4 [(.int .i64 ((cbD [A, B, C0] iteF).v)), ux, (.int .i64 ((cbD [A, B, C0] iteF).r))])] Try.mixed (perm_nil _) (by kernel_rfl) ?_
           refine rq rfl (qv_mv (.int .i64 (vE [A, B, C0])) rfl) ?_
           refine rq rfl (qv_eql rfl rfl) ?_
           refine rq rfl (qv_mv (.bool (decide ((vE [A, B, C0]) = 0))) rfl) ?_
           by_cases g21 : (vE [A, B, C0]) = 0
           ·
            refine re rfl (qv_ldm (vs := [(.int .i64 ((cbD [A, B, C0] iteF).v)), ux, (.int .i64 ((cbD [A, B, C0] iteF).r))]) Try.agg24 rfl (inOc (k := 3) rfl) rfl rfl) (want_t g21 rfl rfl rfl) ?_
            refine re rfl (qv_fa (off := 0) Try.field24_0 rfl) (want_t g21 rfl rfl rfl) ?_
            refine re rfl (qv_ldp (v := (.int .i64 B.v)) Try.plain3 rfl (inOc (k := 1) rfl) rfl) (want_t g21 rfl rfl rfl) ?_
            refine re rfl (qv_ldm (vs := [(.int .i64 A.v), na, (.int .i64 A.r)]) Try.agg24 rfl (inOc (k := 0) rfl) rfl rfl) (want_t g21 rfl rfl rfl) ?_
            refine re rfl (qv_ldm (vs := [(.int .i64 B.v), nb, (.int .i64 B.r)]) Try.agg24 rfl (inOc (k := 1) rfl) rfl rfl) (want_t g21 rfl rfl rfl) ?_
            refine re rfl (qv_ldm (vs := [(.int .i64 C0.v), nc, (.int .i64 C0.r)]) Try.agg24 rfl (inOc (k := 2) rfl) rfl rfl) (want_t g21 rfl rfl rfl) ?_
            refine rl rfl ?_
            refine ops_want (want_t g21 rfl rfl rfl) ?_
            refine ops_call (σa := []) (σr := [(Arr 24 b1 [(.int .i64 A.v), na, (.int .i64 A.r)]), (Arr 24 b2 [(.int .i64 B.v), nb, (.int .i64 B.r)]), (Arr 24 b3 [(.int .i64 C0.v), nc, (.int .i64 C0.r)]), (Arr 24 b4 [(.int .i64 ((cbD [A, B, C0] iteF).v)), ux, (.int .i64 ((cbD [A, B, C0] iteF).r))])]) (by have h := table_c (A := A) hA (chk_ok.1 (by omega)) (by omega); rw [tbD_v (vars := B.v) (by omega)] at h; exact h) rfl rfl (.refl _) (fun r11 V11 sg11 hV11 hp11 => ?_)
            obtain ⟨rfl, hTr11⟩ := hp11
            have hA := hA.mono hV11
            have hB := hB.mono hV11
            have hC := hC.mono hV11
            have hx := hx.mono hV11
            have hTr8 := hTr8.mono hV11
            have hTr9 := hTr9.mono hV11
            have hTr10 := hTr10.mono hV11
            refine ops_nil ⟨[(Arr 24 b1 [(.int .i64 A.v), na, (.int .i64 A.r)]), (Arr 24 b2 [(.int .i64 B.v), nb, (.int .i64 B.r)]), (Arr 24 b3 [(.int .i64 C0.v), nc, (.int .i64 C0.r)]), (Arr 24 b4 [(.int .i64 ((cbD [A, B, C0] iteF).v)), ux, (.int .i64 ((cbD [A, B, C0] iteF).r))])], [], hV11, perm_nil _, ⟨[], (.refl _)⟩, ?_⟩
            refine rl rfl ?_
            refine ops_want (want_t g21 rfl rfl rfl) ?_
            refine ops_call (σa := []) (σr := [(Arr 24 b1 [(.int .i64 A.v), na, (.int .i64 A.r)]), (Arr 24 b2 [(.int .i64 B.v), nb, (.int .i64 B.r)]), (Arr 24 b3 [(.int .i64 C0.v), nc, (.int .i64 C0.r)]), (Arr 24 b4 [(.int .i64 ((cbD [A, B, C0] iteF).v)), ux, (.int .i64 ((cbD [A, B, C0] iteF).r))])]) (by have h := table_c (A := B) hB (chk_ok.1 (by omega)) (by omega); rw [tbD_v rfl] at h; exact h) rfl rfl (.refl _) (fun r12 V12 sg12 hV12 hp12 => ?_)
            obtain ⟨rfl, hTr12⟩ := hp12
            have hA := hA.mono hV12
            have hB := hB.mono hV12
            have hC := hC.mono hV12
            have hx := hx.mono hV12
            have hTr8 := hTr8.mono hV12
            have hTr9 := hTr9.mono hV12
            have hTr10 := hTr10.mono hV12
            have hTr11 := hTr11.mono hV12
            refine ops_nil ⟨[(Arr 24 b1 [(.int .i64 A.v), na, (.int .i64 A.r)]), (Arr 24 b2 [(.int .i64 B.v), nb, (.int .i64 B.r)]), (Arr 24 b3 [(.int .i64 C0.v), nc, (.int .i64 C0.r)]), (Arr 24 b4 [(.int .i64 ((cbD [A, B, C0] iteF).v)), ux, (.int .i64 ((cbD [A, B, C0] iteF).r))])], [], hV12, perm_nil _, ⟨[], (.refl _)⟩, ?_⟩
            refine rl rfl ?_
            refine ops_want (want_t g21 rfl rfl rfl) ?_
            refine ops_call (σa := []) (σr := [(Arr 24 b1 [(.int .i64 A.v), na, (.int .i64 A.r)]), (Arr 24 b2 [(.int .i64 B.v), nb, (.int .i64 B.r)]), (Arr 24 b3 [(.int .i64 C0.v), nc, (.int .i64 C0.r)]), (Arr 24 b4 [(.int .i64 ((cbD [A, B, C0] iteF).v)), ux, (.int .i64 ((cbD [A, B, C0] iteF).r))])]) (by have h := table_c (A := C0) hC (chk_ok.1 (by omega)) (by omega); rw [tbD_v (vars := B.v) (by omega)] at h; exact h) rfl rfl (.refl _) (fun r13 V13 sg13 hV13 hp13 => ?_)
            obtain ⟨rfl, hTr13⟩ := hp13
            have hA := hA.mono hV13
            have hB := hB.mono hV13
            have hC := hC.mono hV13
            have hx := hx.mono hV13
            have hTr8 := hTr8.mono hV13
            have hTr9 := hTr9.mono hV13
            have hTr10 := hTr10.mono hV13
            have hTr11 := hTr11.mono hV13
            have hTr12 := hTr12.mono hV13
            refine ops_nil ⟨[(Arr 24 b1 [(.int .i64 A.v), na, (.int .i64 A.r)]), (Arr 24 b2 [(.int .i64 B.v), nb, (.int .i64 B.r)]), (Arr 24 b3 [(.int .i64 C0.v), nc, (.int .i64 C0.r)]), (Arr 24 b4 [(.int .i64 ((cbD [A, B, C0] iteF).v)), ux, (.int .i64 ((cbD [A, B, C0] iteF).r))])], [], hV13, perm_nil _, ⟨[], (.refl _)⟩, ?_⟩
            refine rl rfl ?_
            refine ops_want (want_t g21 rfl rfl rfl) ?_
            refine ops_call (σa := []) (σr := [(Arr 24 b1 [(.int .i64 A.v), na, (.int .i64 A.r)]), (Arr 24 b2 [(.int .i64 B.v), nb, (.int .i64 B.r)]), (Arr 24 b3 [(.int .i64 C0.v), nc, (.int .i64 C0.r)]), (Arr 24 b4 [(.int .i64 ((cbD [A, B, C0] iteF).v)), ux, (.int .i64 ((cbD [A, B, C0] iteF).r))])]) (chosen_c hTr11 hTr12 hTr13 (by omega)) rfl rfl (.refl _) (fun r14 V14 sg14 hV14 hp14 => ?_)
            obtain ⟨rfl, hTr14⟩ := hp14
            have hA := hA.mono hV14
            have hB := hB.mono hV14
            have hC := hC.mono hV14
            have hx := hx.mono hV14
            have hTr8 := hTr8.mono hV14
            have hTr9 := hTr9.mono hV14
            have hTr10 := hTr10.mono hV14
            have hTr11 := hTr11.mono hV14
            have hTr12 := hTr12.mono hV14
            have hTr13 := hTr13.mono hV14
            refine ops_nil ⟨[(Arr 24 b1 [(.int .i64 A.v), na, (.int .i64 A.r)]), (Arr 24 b2 [(.int .i64 B.v), nb, (.int .i64 B.r)]), (Arr 24 b3 [(.int .i64 C0.v), nc, (.int .i64 C0.r)]), (Arr 24 b4 [(.int .i64 ((cbD [A, B, C0] iteF).v)), ux, (.int .i64 ((cbD [A, B, C0] iteF).r))])], [], hV14, perm_nil _, ⟨[], (.refl _)⟩, ?_⟩
            refine rl rfl ?_
            refine ops_want (want_t g21 rfl rfl rfl) ?_
            refine ops_call (σa := []) (σr := [(Arr 24 b1 [(.int .i64 A.v), na, (.int .i64 A.r)]), (Arr 24 b2 [(.int .i64 B.v), nb, (.int .i64 B.r)]), (Arr 24 b3 [(.int .i64 C0.v), nc, (.int .i64 C0.r)]), (Arr 24 b4 [(.int .i64 ((cbD [A, B, C0] iteF).v)), ux, (.int .i64 ((cbD [A, B, C0] iteF).r))])]) (build_c hTr14 (by omega) (by omega) (tbl_len _ _)) rfl rfl (.refl _) (fun r15 V15 sg15 hV15 hp15 => ?_)
            obtain ⟨rfl, u3, rfl, h3⟩ := hp15
            have hA := hA.mono hV15
            have hB := hB.mono hV15
            have hC := hC.mono hV15
            have hx := hx.mono hV15
            have hTr8 := hTr8.mono hV15
            have hTr9 := hTr9.mono hV15
            have hTr10 := hTr10.mono hV15
            have hTr11 := hTr11.mono hV15
            have hTr12 := hTr12.mono hV15
            have hTr13 := hTr13.mono hV15
            have hTr14 := hTr14.mono hV15
            refine ops_nil ⟨[(Arr 24 b1 [(.int .i64 A.v), na, (.int .i64 A.r)]), (Arr 24 b2 [(.int .i64 B.v), nb, (.int .i64 B.r)]), (Arr 24 b3 [(.int .i64 C0.v), nc, (.int .i64 C0.r)]), (Arr 24 b4 [(.int .i64 ((cbD [A, B, C0] iteF).v)), ux, (.int .i64 ((cbD [A, B, C0] iteF).r))])], [], hV15, perm_nil _, ⟨[], (.refl _)⟩, ?_⟩
            refine re rfl (qv_call (v := (.bool (decide (cbD [A, B, C0] iteF = (bldD B.v (tbl B.v (fun e => iteF (gA A e) (gA B e) (gA C0 e)))))))) (same_c (A := (cbD [A, B, C0] iteF)) (B := (bldD B.v (tbl B.v (fun e => iteF (gA A e) (gA B e) (gA C0 e))))) hx (h3)) rfl rfl) (want_t g21 rfl rfl rfl) ?_
            refine rq rfl (qv_pick_t g21 rfl (rfl : ev _ _ = (.bool (decide (cbD [A, B, C0] iteF = (bldD B.v (tbl B.v (fun e => iteF (gA A e) (gA B e) (gA C0 e))))))))) ?_
            refine rq rfl (qv_as (.bool (decide (cbD [A, B, C0] iteF = (bldD B.v (tbl B.v (fun e => iteF (gA A e) (gA B e) (gA C0 e))))))) rfl) ?_
            refine rnil ?_
            refine vc_ret ?_
            exact rq1 (Value.bool true) (congrArg Value.bool (decide_eq_true (show (cbD [A, B, C0] iteF = (bldD B.v (tbl B.v (fun e => iteF (gA A e) (gA B e) (gA C0 e))))) from by exact hil))) rfl
           ·
            exact absurd hv g21

end Go.Proofs.Ytgehdgeiikjohaa
