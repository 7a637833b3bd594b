/- Walks of bdd: what each function returns. Printed by a program out of notes. -/
import Derived.Test.YtgehdgeiikjohaaBv
import Derived.Test.YtgehdgeiikjohaaBz
import Derived.Test.YtgehdgeiikjohaaBdJ
namespace Go.Proofs.Ytgehdgeiikjohaa
open Go.Vc
open Classical

set_option maxRecDepth 100000 in
set_option maxHeartbeats 4000000 in
theorem Quantifies_c {V : HV} {l : List Int} {lv : Value} {na : Value} {A : Dg} (hA : Fks V na A.N) (hl : Ints .i64 V lv l) :
    FnC Try.prog 9 [(.agg #[(.int .i64 A.v), na, (.int .i64 A.r)]), lv] V [] (fun v _ _ => v = (Value.bool true)) := by
 refine fn_intro (N := 96) Try.func9 (by kernel_rfl) rfl rfl rfl (Nat.le_of_ble_eq_true rfl) ?_
 intro w0 D
 have hb := SlS.bound hA
 have hbl := hl.bound
 refine vc_seq ?_
 refine vc_region ?_
 refine ops_box (v := (.agg #[(.int .i64 A.v), na, (.int .i64 A.r)])) (cs := [(.int .i64 A.v), na, (.int .i64 A.r)]) rfl rfl (fun b1 => ?_)
 refine oq (qv_as (Value.bool false) rfl) ?_
 refine ops_nil ?_
 refine vc_seq ?_
 refine vc_seq ?_
 refine vc_res (σ' := [(Arr 24 b1 [(.int .i64 A.v), na, (.int .i64 A.r)])]) rfl ?_
 refine vc_region ?_
 refine oq (qv_call (v := (Value.bool true)) (known_c) rfl rfl) ?_
 refine oq (qv_notc rfl) ?_
 refine ops_nil ?_
 refine vc_ff rfl ?_
 refine vc_skip ?_
 refine vc_seq ?_
 refine vc_seq ?_
 refine vc_region ?_
 refine oq (qv_ldm (vs := [(.int .i64 A.v), na, (.int .i64 A.r)]) Try.agg24 rfl (inOc (k := 0) rfl) rfl rfl) ?_
 refine oq (qv_call (v := (.bool (decide (A.v ≤ 7 ∧ A.N.length ≤ 130)))) (few_c hA) rfl rfl) ?_
 refine oq (qv_not rfl) ?_
 refine oq (qv_mv (.bool (decide (¬ (A.v ≤ 7 ∧ A.N.length ≤ 130)))) rfl) ?_
 by_cases g1 : ¬ (A.v ≤ 7 ∧ A.N.length ≤ 130)
 ·
  refine os (want_fn g1 rfl rfl rfl) ?_
  refine os (want_fn g1 rfl rfl rfl) ?_
  refine os (want_fn g1 rfl rfl rfl) ?_
  refine oq (qv_pick_t g1 rfl (rfl : ev _ _ = (Value.bool true))) ?_
  refine ops_nil ?_
  refine vc_tt rfl ?_
  refine vc_seq ?_
  refine vc_region ?_
  refine oq (qv_as (Value.bool true) rfl) ?_
  refine ops_nil ?_
  refine vc_ret ?_
  exact rq1 (Value.bool true) rfl rfl
 ·
  refine og (qv_mv lv rfl) (want_f g1 rfl rfl rfl) ?_
  refine og (qv_lenI Try.underlying58 rfl hl) (want_f g1 rfl rfl rfl) ?_
  refine og (qv_gtr rfl rfl) (want_f g1 rfl rfl rfl) ?_
  refine oq (qv_pick_f g1 rfl (rfl : ev _ _ = (.bool (decide (12 < ((l.length : Int))))))) ?_
  refine ops_nil ?_
  refine vc_if rfl (fun c1 => ?_) (fun c1 => ?_)
  ·
   refine vc_seq ?_
   refine vc_region ?_
   refine oq (qv_as (Value.bool true) rfl) ?_
   refine ops_nil ?_
   refine vc_ret ?_
   exact rq1 (Value.bool true) rfl rfl
  ·
   refine vc_skip ?_
   refine vc_seq ?_
   refine vc_region ?_
   refine oq (qv_ldm (vs := [(.int .i64 A.v), na, (.int .i64 A.r)]) Try.agg24 rfl (inOc (k := 0) rfl) rfl rfl) ?_
   refine oq (qv_mv lv rfl) ?_
   refine ops_call (σa := []) (σr := [(Arr 24 b1 [(.int .i64 A.v), na, (.int .i64 A.r)])]) (Exists_c hA hl (by omega)) rfl rfl (.refl _) (fun r1 V1 sg1 hV1 hp1 => ?_)
   obtain ⟨rfl, ux, rfl, hx⟩ := hp1
   have hA := hA.mono hV1
   have hl := hl.mono hV1
   refine oq (qv_mv (.tuple #[(.agg #[(.int .i64 ((qtD A l false).v)), ux, (.int .i64 ((qtD A l false).r))]), (.int .i64 (qtE A l))]) rfl) ?_
   refine oq (qv_ext (.agg #[(.int .i64 ((qtD A l false).v)), ux, (.int .i64 ((qtD A l false).r))]) rfl rfl) ?_
   refine oq (qv_ext (.int .i64 (qtE A l)) rfl rfl) ?_
   refine ops_alloc Try.ti24 rfl (fun b2 => ?_)
   refine ops_stw (k := 1) (vs := [(.int .i64 ((qtD A l false).v)), ux, (.int .i64 ((qtD A l false).r))]) Try.size24 rfl rfl rfl (allc rfl (allc (SlS.one hx) (allc rfl rfl))) rfl rfl ?_
   refine oq (qv_as (.int .i64 (qtE A l)) rfl) ?_
   refine ops_nil ?_
   refine vc_seq ?_
   refine vc_res (σ' := [(Arr 24 b1 [(.int .i64 A.v), na, (.int .i64 A.r)]), (Arr 24 b2 [(.int .i64 ((qtD A l false).v)), ux, (.int .i64 ((qtD A l false).r))])]) rfl ?_
   refine vc_region ?_
   refine oq (qv_ldm (vs := [(.int .i64 A.v), na, (.int .i64 A.r)]) Try.agg24 rfl (inOc (k := 0) rfl) rfl rfl) ?_
   refine oq (qv_mv lv rfl) ?_
   refine ops_call (σa := []) (σr := [(Arr 24 b1 [(.int .i64 A.v), na, (.int .i64 A.r)]), (Arr 24 b2 [(.int .i64 ((qtD A l false).v)), ux, (.int .i64 ((qtD A l false).r))])]) (Forall_c hA hl (by omega)) rfl rfl (.refl _) (fun r2 V2 sg2 hV2 hp2 => ?_)
   obtain ⟨rfl, uy, rfl, hy⟩ := hp2
   have hA := hA.mono hV2
   have hl := hl.mono hV2
   have hx := hx.mono hV2
   refine oq (qv_mv (.tuple #[(.agg #[(.int .i64 ((qtD A l true).v)), uy, (.int .i64 ((qtD A l true).r))]), (.int .i64 (qtE A l))]) rfl) ?_
   refine oq (qv_ext (.agg #[(.int .i64 ((qtD A l true).v)), uy, (.int .i64 ((qtD A l true).r))]) rfl rfl) ?_
   refine oq (qv_ext (.int .i64 (qtE A l)) rfl rfl) ?_
   refine ops_alloc Try.ti24 rfl (fun b3 => ?_)
   refine ops_stw (k := 2) (vs := [(.int .i64 ((qtD A l true).v)), uy, (.int .i64 ((qtD A l true).r))]) Try.size24 rfl rfl rfl (allc rfl (allc (SlS.one hy) (allc rfl rfl))) rfl rfl ?_
   refine oq (qv_as (.int .i64 (qtE A l)) rfl) ?_
   refine ops_nil ?_
   refine vc_seq ?_
   refine vc_res (σ' := [(Arr 24 b1 [(.int .i64 A.v), na, (.int .i64 A.r)]), (Arr 24 b2 [(.int .i64 ((qtD A l false).v)), ux, (.int .i64 ((qtD A l false).r))]), (Arr 24 b3 [(.int .i64 ((qtD A l true).v)), uy, (.int .i64 ((qtD A l true).r))])]) rfl ?_
   refine vc_region ?_
   refine oq (qv_ldm (vs := [(.int .i64 A.v), na, (.int .i64 A.r)]) Try.agg24 rfl (inOc (k := 0) rfl) rfl rfl) ?_
   refine oq (qv_call (v := (.int .i64 (chkC A.v A.N A.r))) (check_c hA) rfl rfl) ?_
   refine oq (qv_as (.int .i64 (chkC A.v A.N A.r)) rfl) ?_
   refine ops_nil ?_
   refine vc_seq ?_
   refine vc_block ?_
   refine vc_seq ?_
   refine vc_region ?_
   refine oq (qv_mv (.int .i64 (chkC A.v A.N A.r)) rfl) ?_
   refine oq (qv_neq rfl rfl) ?_
   refine oq (qv_as (.bool (decide ((chkC A.v A.N A.r) ≠ 0))) rfl) ?_
   refine ops_nil ?_
   refine vc_if rfl (fun c2 => ?_) (fun c2 => ?_)
   ·
    refine vc_region ?_
    refine oq (qv_as (Value.int .i64 1) rfl) ?_
    refine ops_nil ?_
    refine vc_seq ?_
    refine vc_seq ?_
    refine vc_region ?_
    refine oq (qv_mv (Value.int .i64 1) rfl) ?_
    refine oq (qv_neq rfl rfl) ?_
    refine ops_nil ?_
    refine vc_if rfl (fun c3 => ?_) (fun c3 => ?_)
    ·
     refine vc_seq ?_
     have hv1 := vE1_1 (A := A) (by omega)
     have hq1 := qt_v (A := A) (l := l) (al := false) (by omega)
     have hq2 := qt_v (A := A) (l := l) (al := true) (by omega)
     have hqe : qtE A l = 1 := by omega
     refine vc_region ?_
     refine oq (qv_mv (.int .i64 (qtE A l)) rfl) ?_
     refine oq (qv_mv (Value.int .i64 1) rfl) ?_
     refine oq (qv_eql rfl rfl) ?_
     refine oq (qv_mv (.bool (decide ((qtE A l) = 1))) rfl) ?_
     by_cases g2 : (qtE A l) = 1
     ·
      refine og (qv_mv (.int .i64 (qtE A l)) rfl) (want_t g2 rfl rfl rfl) ?_
      refine og (qv_mv (Value.int .i64 1) rfl) (want_t g2 rfl rfl rfl) ?_
      refine og (qv_eql rfl rfl) (want_t g2 rfl rfl rfl) ?_
      refine oq (qv_pick_t g2 rfl (rfl : ev _ _ = (.bool (decide ((qtE A l) = 1))))) ?_
      refine oq (qv_mv (.bool (decide ((qtE A l) = 1))) rfl) ?_
      refine og (qv_ldm (vs := [(.int .i64 ((qtD A l false).v)), ux, (.int .i64 ((qtD A l false).r))]) Try.agg24 rfl (inOc (k := 1) rfl) rfl rfl) (want_t g2 rfl rfl rfl) ?_
      refine og (qv_build (out := [(Value.int .i64 0), (Value.slice none 0 0), (Value.int .i64 0)]) Try.build24 [] rfl rfl) (want_t g2 rfl rfl rfl) ?_
      refine og (qv_call (v := (.bool (decide (qtD A l false = dg0)))) (same_c (A := (qtD A l false)) (B := dg0) hx (Fks.nil)) rfl rfl) (want_t g2 rfl rfl rfl) ?_
      refine oq (qv_pick_t g2 rfl (rfl : ev _ _ = (.bool (decide (qtD A l false = dg0))))) ?_
      refine oq (qv_mv (.bool (decide (qtD A l false = dg0))) rfl) ?_
      by_cases g3 : qtD A l false = dg0
      ·
       refine og (qv_ldm (vs := [(.int .i64 ((qtD A l true).v)), uy, (.int .i64 ((qtD A l true).r))]) Try.agg24 rfl (inOc (k := 2) rfl) rfl rfl) (want_t g3 rfl rfl rfl) ?_
       refine og (qv_build (out := [(Value.int .i64 0), (Value.slice none 0 0), (Value.int .i64 0)]) Try.build24 [] rfl rfl) (want_t g3 rfl rfl rfl) ?_
       refine og (qv_call (v := (.bool (decide (qtD A l true = dg0)))) (same_c (A := (qtD A l true)) (B := dg0) hy (Fks.nil)) rfl rfl) (want_t g3 rfl rfl rfl) ?_
       refine oq (qv_pick_t g3 rfl (rfl : ev _ _ = (.bool (decide (qtD A l true = dg0))))) ?_
       refine oq (qv_as (.bool (decide (qtD A l true = dg0))) rfl) ?_
       refine ops_nil ?_
       refine vc_ret ?_
       exact rq1 (Value.bool true) (congrArg Value.bool (decide_eq_true (show (qtD A l true = dg0) from by exact hq2.2))) rfl
      ·
       exact absurd hq1.2 g3
     ·
      exact absurd hqe g2
    ·
     omega
   ·
    refine vc_seq ?_
    refine vc_region ?_
    refine oq (qv_fa (off := 0) Try.field24_0 rfl) ?_
    refine oq (qv_ldp (v := (.int .i64 A.v)) Try.plain3 rfl (inOc (k := 0) rfl) rfl) ?_
    refine oq (qv_mv lv rfl) ?_
    refine oq (qv_call (v := (.bool (decide (Wth A.v l)))) (within_c hl) rfl rfl) ?_
    refine oq (qv_not rfl) ?_
    refine oq (qv_as (.bool (decide (¬ (Wth A.v l)))) rfl) ?_
    refine ops_nil ?_
    refine vc_if rfl (fun c4 => ?_) (fun c4 => ?_)
    ·
     refine vc_region ?_
     refine oq (qv_as (Value.int .i64 3) rfl) ?_
     refine ops_nil ?_
     refine vc_seq ?_
     refine vc_seq ?_
     refine vc_region ?_
     refine oq (qv_mv (Value.int .i64 3) rfl) ?_
     refine oq (qv_neq rfl rfl) ?_
     refine ops_nil ?_
     refine vc_if rfl (fun c5 => ?_) (fun c5 => ?_)
     ·
      refine vc_seq ?_
      have hz1 := vE1_0 (A := A) (by omega)
      have hq1 := qt_3 (A := A) (l := l) (al := false) hz1 (by assumption)
      have hq2 := qt_3 (A := A) (l := l) (al := true) hz1 (by assumption)
      have hqe := hq1.1
      refine vc_region ?_
      refine oq (qv_mv (.int .i64 (qtE A l)) rfl) ?_
      refine oq (qv_mv (Value.int .i64 3) rfl) ?_
      refine oq (qv_eql rfl rfl) ?_
      refine oq (qv_mv (.bool (decide ((qtE A l) = 3))) rfl) ?_
      by_cases g4 : (qtE A l) = 3
      ·
       refine og (qv_mv (.int .i64 (qtE A l)) rfl) (want_t g4 rfl rfl rfl) ?_
       refine og (qv_mv (Value.int .i64 3) rfl) (want_t g4 rfl rfl rfl) ?_
       refine og (qv_eql rfl rfl) (want_t g4 rfl rfl rfl) ?_
       refine oq (qv_pick_t g4 rfl (rfl : ev _ _ = (.bool (decide ((qtE A l) = 3))))) ?_
       refine oq (qv_mv (.bool (decide ((qtE A l) = 3))) rfl) ?_
       refine og (qv_ldm (vs := [(.int .i64 ((qtD A l false).v)), ux, (.int .i64 ((qtD A l false).r))]) Try.agg24 rfl (inOc (k := 1) rfl) rfl rfl) (want_t g4 rfl rfl rfl) ?_
       refine og (qv_build (out := [(Value.int .i64 0), (Value.slice none 0 0), (Value.int .i64 0)]) Try.build24 [] rfl rfl) (want_t g4 rfl rfl rfl) ?_
       refine og (qv_call (v := (.bool (decide (qtD A l false = dg0)))) (same_c (A := (qtD A l false)) (B := dg0) hx (Fks.nil)) rfl rfl) (want_t g4 rfl rfl rfl) ?_
       refine oq (qv_pick_t g4 rfl (rfl : ev _ _ = (.bool (decide (qtD A l false = dg0))))) ?_
       refine oq (qv_mv (.bool (decide (qtD A l false = dg0))) rfl) ?_
       by_cases g5 : qtD A l false = dg0
       ·
        refine og (qv_ldm (vs := [(.int .i64 ((qtD A l true).v)), uy, (.int .i64 ((qtD A l true).r))]) Try.agg24 rfl (inOc (k := 2) rfl) rfl rfl) (want_t g5 rfl rfl rfl) ?_
        refine og (qv_build (out := [(Value.int .i64 0), (Value.slice none 0 0), (Value.int .i64 0)]) Try.build24 [] rfl rfl) (want_t g5 rfl rfl rfl) ?_
        refine og (qv_call (v := (.bool (decide (qtD A l true = dg0)))) (same_c (A := (qtD A l true)) (B := dg0) hy (Fks.nil)) rfl rfl) (want_t g5 rfl rfl rfl) ?_
        refine oq (qv_pick_t g5 rfl (rfl : ev _ _ = (.bool (decide (qtD A l true = dg0))))) ?_
        refine oq (qv_as (.bool (decide (qtD A l true = dg0))) rfl) ?_
        refine ops_nil ?_
        refine vc_ret ?_
        exact rq1 (Value.bool true) (congrArg Value.bool (decide_eq_true (show (qtD A l true = dg0) from by exact hq2.2))) rfl
       ·
        exact absurd hq1.2 g5
      ·
       exact absurd hqe g4
     ·
      omega
    ·
     refine vc_skip ?_
     refine vc_seq ?_
     refine vc_seq ?_
     refine vc_region ?_
     refine oq (qv_mv (.int .i64 (chkC A.v A.N A.r)) rfl) ?_
     refine oq (qv_neq rfl rfl) ?_
     refine ops_nil ?_
     refine vc_if_f rfl c2 ?_
     refine vc_skip ?_
     refine vc_seq ?_
     have hokA : dOk A := chk_ok.1 (by omega)
     have hz1 := vE1 hokA
     have hvz := hokA.1.1
     have hwt : Wth A.v l := Decidable.not_not.1 (by assumption)
     have hq1 := qt_0 (A := A) (l := l) (al := false) hz1 hwt
     have hl1 := qt_law (A := A) (l := l) (al := false) hz1 hwt
     have hl2 := qt_law (A := A) (l := l) (al := true) hz1 hwt
     refine vc_region ?_
     refine oq (qv_ldm (vs := [(.int .i64 A.v), na, (.int .i64 A.r)]) Try.agg24 rfl (inOc (k := 0) rfl) rfl rfl) ?_
     refine ops_call (σa := []) (σr := [(Arr 24 b1 [(.int .i64 A.v), na, (.int .i64 A.r)]), (Arr 24 b2 [(.int .i64 ((qtD A l false).v)), ux, (.int .i64 ((qtD A l false).r))]), (Arr 24 b3 [(.int .i64 ((qtD A l true).v)), uy, (.int .i64 ((qtD A l true).r))])]) (by have h := table_c (A := A) hA (chk_ok.1 (by omega)) (by omega); rw [tbD_v rfl] at h; exact h) rfl rfl (.refl _) (fun r3 V3 sg3 hV3 hp3 => ?_)
     obtain ⟨rfl, hTr3⟩ := hp3
     have hA := hA.mono hV3
     have hl := hl.mono hV3
     have hx := hx.mono hV3
     have hy := hy.mono hV3
     refine oq (qv_as r3 rfl) ?_
     refine ops_nil ?_
     refine vc_seq ?_
     refine vc_region_order (τ := []) [(0, false), (1, false), (2, false), (3, false), (4, false), (5, false), (6, false), (7, false), (8, false), (9, false), (10, false), (11, false), (12, false), (13, false), (14, true), (15, true), (16, false), (17, false), (18, false), (19, false), (20, false), (21, false), (22, false), (23, false), (24, false), (25, false), (26, true), (27, true), (28, false), (29, false), (30, false)] [(Arr 24 b1 [(.int .i64 A.v), na, (.int .i64 A.r)]), (Arr 24 b2 [(.int .i64 ((qtD A l false).v)), ux, (.int .i64 ((qtD A l false).r))]), (Arr 24 b3 [(.int .i64 ((qtD A l true).v)), uy, (.int .i64 ((qtD A l true).r))])] Try.mixed (perm_nil _) (by kernel_rfl) ?_
     refine rq rfl (qv_mv (.int .i64 (qtE A l)) rfl) ?_
     refine rq rfl (qv_eql rfl rfl) ?_
     refine rq rfl (qv_mv (.bool (decide ((qtE A l) = 0))) rfl) ?_
     by_cases g6 : (qtE A l) = 0
     ·
      refine re rfl (qv_mv (.int .i64 (qtE A l)) rfl) (want_t g6 rfl rfl rfl) ?_
      refine re rfl (qv_eql rfl rfl) (want_t g6 rfl rfl rfl) ?_
      refine rq rfl (qv_pick_t g6 rfl (rfl : ev _ _ = (.bool (decide ((qtE A l) = 0))))) ?_
      refine rq rfl (qv_mv (.bool (decide ((qtE A l) = 0))) rfl) ?_
      refine re rfl (qv_ldm (vs := [(.int .i64 ((qtD A l false).v)), ux, (.int .i64 ((qtD A l false).r))]) Try.agg24 rfl (inOc (k := 1) rfl) rfl rfl) (want_t g6 rfl rfl rfl) ?_
      refine re rfl (qv_fa (off := 0) Try.field24_0 rfl) (want_t g6 rfl rfl rfl) ?_
      refine re rfl (qv_ldp (v := (.int .i64 A.v)) Try.plain3 rfl (inOc (k := 0) rfl) rfl) (want_t g6 rfl rfl rfl) ?_
      refine re rfl (qv_fa (off := 0) Try.field24_0 rfl) (want_t g6 rfl rfl rfl) ?_
      refine re rfl (qv_ldp (v := (.int .i64 A.v)) Try.plain3 rfl (inOc (k := 0) rfl) rfl) (want_t g6 rfl rfl rfl) ?_
      refine re rfl (qv_mv r3 rfl) (want_t g6 rfl rfl rfl) ?_
      refine re rfl (qv_mv lv rfl) (want_t g6 rfl rfl rfl) ?_
      refine rl rfl ?_
      refine ops_want (want_t g6 rfl rfl rfl) ?_
      refine ops_call (σa := []) (σr := [(Arr 24 b1 [(.int .i64 A.v), na, (.int .i64 A.r)]), (Arr 24 b2 [(.int .i64 ((qtD A l false).v)), ux, (.int .i64 ((qtD A l false).r))]), (Arr 24 b3 [(.int .i64 ((qtD A l true).v)), uy, (.int .i64 ((qtD A l true).r))])]) (quantified_c (vars := A.v) (al := false) (g := gA A) hTr3 hl (gA_dep hokA) (by omega) (by omega) hwt) rfl rfl (.refl _) (fun r4 V4 sg4 hV4 hp4 => ?_)
      obtain ⟨rfl, hTr4⟩ := hp4
      have hA := hA.mono hV4
      have hl := hl.mono hV4
      have hx := hx.mono hV4
      have hy := hy.mono hV4
      have hTr3 := hTr3.mono hV4
      refine ops_nil ⟨[(Arr 24 b1 [(.int .i64 A.v), na, (.int .i64 A.r)]), (Arr 24 b2 [(.int .i64 ((qtD A l false).v)), ux, (.int .i64 ((qtD A l false).r))]), (Arr 24 b3 [(.int .i64 ((qtD A l true).v)), uy, (.int .i64 ((qtD A l true).r))])], [], hV4, perm_nil _, ⟨[], (.refl _)⟩, ?_⟩
      refine rl rfl ?_
      refine ops_want (want_t g6 rfl rfl rfl) ?_
      refine ops_call (σa := []) (σr := [(Arr 24 b1 [(.int .i64 A.v), na, (.int .i64 A.r)]), (Arr 24 b2 [(.int .i64 ((qtD A l false).v)), ux, (.int .i64 ((qtD A l false).r))]), (Arr 24 b3 [(.int .i64 ((qtD A l true).v)), uy, (.int .i64 ((qtD A l true).r))])]) (build_c hTr4 (by omega) (by omega) (tbl_len _ _)) rfl rfl (.refl _) (fun r5 V5 sg5 hV5 hp5 => ?_)
      obtain ⟨rfl, u3, rfl, h3⟩ := hp5
      have hA := hA.mono hV5
      have hl := hl.mono hV5
      have hx := hx.mono hV5
      have hy := hy.mono hV5
      have hTr3 := hTr3.mono hV5
      have hTr4 := hTr4.mono hV5
      refine ops_nil ⟨[(Arr 24 b1 [(.int .i64 A.v), na, (.int .i64 A.r)]), (Arr 24 b2 [(.int .i64 ((qtD A l false).v)), ux, (.int .i64 ((qtD A l false).r))]), (Arr 24 b3 [(.int .i64 ((qtD A l true).v)), uy, (.int .i64 ((qtD A l true).r))])], [], hV5, perm_nil _, ⟨[], (.refl _)⟩, ?_⟩
      refine re rfl (qv_call (v := (.bool (decide (qtD A l false = (bldD A.v (tbl A.v (qgs (gA A) l false l.length))))))) (same_c (A := (qtD A l false)) (B := (bldD A.v (tbl A.v (qgs (gA A) l false l.length)))) hx (h3)) rfl rfl) (want_t g6 rfl rfl rfl) ?_
      refine rq rfl (qv_pick_t g6 rfl (rfl : ev _ _ = (.bool (decide (qtD A l false = (bldD A.v (tbl A.v (qgs (gA A) l false l.length)))))))) ?_
      refine rq rfl (qv_mv (.bool (decide (qtD A l false = (bldD A.v (tbl A.v (qgs (gA A) l false l.length)))))) rfl) ?_
      by_cases g7 : qtD A l false = (bldD A.v (tbl A.v (qgs (gA A) l false l.length)))
      ·
       refine re rfl (qv_ldm (vs := [(.int .i64 ((qtD A l true).v)), uy, (.int .i64 ((qtD A l true).r))]) Try.agg24 rfl (inOc (k := 2) rfl) rfl rfl) (want_t g7 rfl rfl rfl) ?_
       refine re rfl (qv_fa (off := 0) Try.field24_0 rfl) (want_t g7 rfl rfl rfl) ?_
       refine re rfl (qv_ldp (v := (.int .i64 A.v)) Try.plain3 rfl (inOc (k := 0) rfl) rfl) (want_t g7 rfl rfl rfl) ?_
       refine re rfl (qv_fa (off := 0) Try.field24_0 rfl) (want_t g7 rfl rfl rfl) ?_
       refine re rfl (qv_ldp (v := (.int .i64 A.v)) Try.plain3 rfl (inOc (k := 0) rfl) rfl) (want_t g7 rfl rfl rfl) ?_
       refine re rfl (qv_mv r3 rfl) (want_t g7 rfl rfl rfl) ?_
       refine re rfl (qv_mv lv rfl) (want_t g7 rfl rfl rfl) ?_
       refine rl rfl ?_
       refine ops_want (want_t g7 rfl rfl rfl) ?_
       refine ops_call (σa := []) (σr := [(Arr 24 b1 [(.int .i64 A.v), na, (.int .i64 A.r)]), (Arr 24 b2 [(.int .i64 ((qtD A l false).v)), ux, (.int .i64 ((qtD A l false).r))]), (Arr 24 b3 [(.int .i64 ((qtD A l true).v)), uy, (.int .i64 ((qtD A l true).r))])]) (quantified_c (vars := A.v) (al := true) (g := gA A) hTr3 hl (gA_dep hokA) (by omega) (by omega) hwt) rfl rfl (.refl _) (fun r6 V6 sg6 hV6 hp6 => ?_)
       obtain ⟨rfl, hTr6⟩ := hp6
       have hA := hA.mono hV6
       have hl := hl.mono hV6
       have hx := hx.mono hV6
       have hy := hy.mono hV6
       have hTr3 := hTr3.mono hV6
       have hTr4 := hTr4.mono hV6
       have h3 := h3.mono hV6
       refine ops_nil ⟨[(Arr 24 b1 [(.int .i64 A.v), na, (.int .i64 A.r)]), (Arr 24 b2 [(.int .i64 ((qtD A l false).v)), ux, (.int .i64 ((qtD A l false).r))]), (Arr 24 b3 [(.int .i64 ((qtD A l true).v)), uy, (.int .i64 ((qtD A l true).r))])], [], hV6, perm_nil _, ⟨[], (.refl _)⟩, ?_⟩
       refine rl rfl ?_
       refine ops_want (want_t g7 rfl rfl rfl) ?_
       refine ops_call (σa := []) (σr := [(Arr 24 b1 [(.int .i64 A.v), na, (.int .i64 A.r)]), (Arr 24 b2 [(.int .i64 ((qtD A l false).v)), ux, (.int .i64 ((qtD A l false).r))]), (Arr 24 b3 [(.int .i64 ((qtD A l true).v)), uy, (.int .i64 ((qtD A l true).r))])]) (build_c hTr6 (by omega) (by omega) (tbl_len _ _)) rfl rfl (.refl _) (fun r7 V7 sg7 hV7 hp7 => ?_)
       obtain ⟨rfl, u4, rfl, h4⟩ := hp7
       have hA := hA.mono hV7
       have hl := hl.mono hV7
       have hx := hx.mono hV7
       have hy := hy.mono hV7
       have hTr3 := hTr3.mono hV7
       have hTr4 := hTr4.mono hV7
       have h3 := h3.mono hV7
       have hTr6 := hTr6.mono hV7
       refine ops_nil ⟨[(Arr 24 b1 [(.int .i64 A.v), na, (.int .i64 A.r)]), (Arr 24 b2 [(.int .i64 ((qtD A l false).v)), ux, (.int .i64 ((qtD A l false).r))]), (Arr 24 b3 [(.int .i64 ((qtD A l true).v)), uy, (.int .i64 ((qtD A l true).r))])], [], hV7, perm_nil _, ⟨[], (.refl _)⟩, ?_⟩
       refine re rfl (qv_call (v := (.bool (decide (qtD A l true = (bldD A.v (tbl A.v (qgs (gA A) l true l.length))))))) (same_c (A := (qtD A l true)) (B := (bldD A.v (tbl A.v (qgs (gA A) l true l.length)))) hy (h4)) rfl rfl) (want_t g7 rfl rfl rfl) ?_
       refine rq rfl (qv_pick_t g7 rfl (rfl : ev _ _ = (.bool (decide (qtD A l true = (bldD A.v (tbl A.v (qgs (gA A) l true l.length)))))))) ?_
       refine rq rfl (qv_as (.bool (decide (qtD A l true = (bldD A.v (tbl A.v (qgs (gA A) l true l.length)))))) rfl) ?_
       refine rnil ?_
       refine vc_ret ?_
       exact rq1 (Value.bool true) (congrArg Value.bool (decide_eq_true (show (qtD A l true = (bldD A.v (tbl A.v (qgs (gA A) l true l.length)))) from by exact hl2))) rfl
      ·
       exact absurd hl1 g7
     ·
      exact absurd hq1.1 g6

end Go.Proofs.Ytgehdgeiikjohaa
