/- Walks of bdd: what each function returns. Printed by a program out of notes. -/
import Derived.Test.YtgehdgeiikjohaaBp
namespace Go.Proofs.Ytgehdgeiikjohaa
open Go.Vc
open Classical

set_option maxRecDepth 100000 in
set_option maxHeartbeats 4000000 in
theorem Leaves_c {V : HV} {vars i : Int} {q : Prop} [Decidable q] :
    FnC Try.prog 5 [(Value.int .i64 vars), (Value.int .i64 i), (.bool (decide (q)))] V [] (fun v _ _ => v = (Value.bool true)) := by
 refine fn_intro (N := 84) Try.func5 (by kernel_rfl) rfl rfl rfl (Nat.le_of_ble_eq_true rfl) ?_
 intro w0 D
 refine vc_seq ?_
 refine vc_region ?_
 refine oq (qv_as (Value.bool false) rfl) ?_
 refine ops_nil ?_
 refine vc_seq ?_
 refine vc_seq ?_
 refine vc_region ?_
 refine oq (qv_call (v := (Value.bool true)) (known_c) rfl rfl) ?_
 refine oq (qv_notc rfl) ?_
 refine ops_nil ?_
 refine vc_ff rfl ?_
 refine vc_skip ?_
 refine vc_seq ?_
 refine vc_region ?_
 refine oq (qv_mv (Value.int .i64 vars) rfl) ?_
 refine oq (qv_mv (.bool (decide (q))) rfl) ?_
 refine ops_call (σa := []) (σr := []) (Const_c (vars := vars) (p := q)) rfl rfl (.refl _) (fun r1 V1 sg1 hV1 hp1 => ?_)
 obtain ⟨rfl, uc, rfl, hc⟩ := hp1
 refine oq (qv_mv (.tuple #[(.agg #[(.int .i64 ((cnD vars q).v)), uc, (.int .i64 ((cnD vars q).r))]), (.int .i64 (cnE vars))]) rfl) ?_
 refine oq (qv_ext (.agg #[(.int .i64 ((cnD vars q).v)), uc, (.int .i64 ((cnD vars q).r))]) rfl rfl) ?_
 refine oq (qv_ext (.int .i64 (cnE vars)) rfl rfl) ?_
 refine ops_alloc Try.ti24 rfl (fun b1 => ?_)
 refine ops_stw (k := 0) (vs := [(.int .i64 ((cnD vars q).v)), uc, (.int .i64 ((cnD vars q).r))]) Try.size24 rfl rfl rfl (allc rfl (allc (SlS.one hc) (allc rfl rfl))) rfl rfl ?_
 refine oq (qv_as (.int .i64 (cnE vars)) rfl) ?_
 refine ops_nil ?_
 refine vc_seq ?_
 refine vc_res (σ' := [(Arr 24 b1 [(.int .i64 ((cnD vars q).v)), uc, (.int .i64 ((cnD vars q).r))])]) rfl ?_
 refine vc_region ?_
 refine oq (qv_mv (Value.int .i64 vars) rfl) ?_
 refine oq (qv_mv (Value.int .i64 i) rfl) ?_
 refine ops_call (σa := []) (σr := [(Arr 24 b1 [(.int .i64 ((cnD vars q).v)), uc, (.int .i64 ((cnD vars q).r))])]) (Variable_c (vars := vars) (i := i)) rfl rfl (.refl _) (fun r2 V2 sg2 hV2 hp2 => ?_)
 obtain ⟨rfl, uv, rfl, hv⟩ := hp2
 have hc := hc.mono hV2
 refine oq (qv_mv (.tuple #[(.agg #[(.int .i64 ((vaD vars i).v)), uv, (.int .i64 ((vaD vars i).r))]), (.int .i64 (vaE vars i))]) rfl) ?_
 refine oq (qv_ext (.agg #[(.int .i64 ((vaD vars i).v)), uv, (.int .i64 ((vaD vars i).r))]) rfl rfl) ?_
 refine oq (qv_ext (.int .i64 (vaE vars i)) rfl rfl) ?_
 refine ops_alloc Try.ti24 rfl (fun b2 => ?_)
 refine ops_stw (k := 1) (vs := [(.int .i64 ((vaD vars i).v)), uv, (.int .i64 ((vaD vars i).r))]) Try.size24 rfl rfl rfl (allc rfl (allc (SlS.one hv) (allc rfl rfl))) rfl rfl ?_
 refine oq (qv_as (.int .i64 (vaE vars i)) rfl) ?_
 refine ops_nil ?_
 refine vc_seq ?_
 refine vc_seq ?_
 refine vc_res (σ' := [(Arr 24 b1 [(.int .i64 ((cnD vars q).v)), uc, (.int .i64 ((cnD vars q).r))]), (Arr 24 b2 [(.int .i64 ((vaD vars i).v)), uv, (.int .i64 ((vaD vars i).r))])]) rfl ?_
 refine vc_region ?_
 refine oq (qv_mv (Value.int .i64 vars) rfl) ?_
 refine oq (qv_lss rfl rfl) ?_
 refine oq (qv_mv (.bool (decide (vars < 0))) rfl) ?_
 by_cases g1 : vars < 0
 ·
  refine os (want_fn g1 rfl rfl rfl) ?_
  refine os (want_fn g1 rfl rfl rfl) ?_
  refine oq (qv_pick_t g1 rfl (rfl : ev _ _ = (Value.bool true))) ?_
  refine ops_nil ?_
  refine vc_tt rfl ?_
  refine vc_seq ?_
  have hcn := cn_n (vars := vars) (p := q) (by omega)
  have hvn := va_n (vars := vars) (i := i) (by omega)
  refine vc_region ?_
  refine oq (qv_mv (.int .i64 (cnE vars)) rfl) ?_
  refine oq (qv_eql rfl rfl) ?_
  refine oq (qv_mv (.bool (decide ((cnE vars) = 3))) rfl) ?_
  by_cases g2 : (cnE vars) = 3
  ·
   refine og (qv_mv (.int .i64 (vaE vars i)) rfl) (want_t g2 rfl rfl rfl) ?_
   refine og (qv_eql rfl rfl) (want_t g2 rfl rfl rfl) ?_
   refine oq (qv_pick_t g2 rfl (rfl : ev _ _ = (.bool (decide ((vaE vars i) = 3))))) ?_
   refine oq (qv_mv (.bool (decide ((vaE vars i) = 3))) rfl) ?_
   by_cases g3 : (vaE vars i) = 3
   ·
    refine og (qv_ldm (vs := [(.int .i64 ((cnD vars q).v)), uc, (.int .i64 ((cnD vars q).r))]) Try.agg24 rfl (inOc (k := 0) rfl) rfl rfl) (want_t g3 rfl rfl rfl) ?_
    refine og (qv_build (out := [(Value.int .i64 0), (Value.slice none 0 0), (Value.int .i64 0)]) Try.build24 [] rfl rfl) (want_t g3 rfl rfl rfl) ?_
    refine og (qv_call (v := (.bool (decide (cnD vars q = dg0)))) (same_c (A := (cnD vars q)) (B := dg0) hc (Fks.nil)) rfl rfl) (want_t g3 rfl rfl rfl) ?_
    refine oq (qv_pick_t g3 rfl (rfl : ev _ _ = (.bool (decide (cnD vars q = dg0))))) ?_
    refine oq (qv_mv (.bool (decide (cnD vars q = dg0))) rfl) ?_
    by_cases g4 : cnD vars q = dg0
    ·
     refine og (qv_ldm (vs := [(.int .i64 ((vaD vars i).v)), uv, (.int .i64 ((vaD vars i).r))]) Try.agg24 rfl (inOc (k := 1) rfl) rfl rfl) (want_t g4 rfl rfl rfl) ?_
     refine og (qv_build (out := [(Value.int .i64 0), (Value.slice none 0 0), (Value.int .i64 0)]) Try.build24 [] rfl rfl) (want_t g4 rfl rfl rfl) ?_
     refine og (qv_call (v := (.bool (decide (vaD vars i = dg0)))) (same_c (A := (vaD vars i)) (B := dg0) hv (Fks.nil)) rfl rfl) (want_t g4 rfl rfl rfl) ?_
     refine oq (qv_pick_t g4 rfl (rfl : ev _ _ = (.bool (decide (vaD vars i = dg0))))) ?_
     refine oq (qv_as (.bool (decide (vaD vars i = dg0))) rfl) ?_
     refine ops_nil ?_
     refine vc_ret ?_
     exact rq1 (Value.bool true) (congrArg Value.bool (decide_eq_true (show (vaD vars i = dg0) from by first | exact hvn.2 | exact hv0.2))) rfl
    ·
     exact absurd (hcn.2) g4
   ·
    exact absurd (hvn.1) g3
  ·
   exact absurd (hcn.1) g2
 ·
  refine og (qv_mv (Value.int .i64 vars) rfl) (want_f g1 rfl rfl rfl) ?_
  refine og (qv_gtr rfl rfl) (want_f g1 rfl rfl rfl) ?_
  refine oq (qv_pick_f g1 rfl (rfl : ev _ _ = (.bool (decide (40 < vars))))) ?_
  refine ops_nil ?_
  refine vc_if rfl (fun c1 => ?_) (fun c1 => ?_)
  ·
   refine vc_seq ?_
   have hcn := cn_n (vars := vars) (p := q) (by omega)
   have hvn := va_n (vars := vars) (i := i) (by omega)
   refine vc_region ?_
   refine oq (qv_mv (.int .i64 (cnE vars)) rfl) ?_
   refine oq (qv_eql rfl rfl) ?_
   refine oq (qv_mv (.bool (decide ((cnE vars) = 3))) rfl) ?_
   by_cases g5 : (cnE vars) = 3
   ·
    refine og (qv_mv (.int .i64 (vaE vars i)) rfl) (want_t g5 rfl rfl rfl) ?_
    refine og (qv_eql rfl rfl) (want_t g5 rfl rfl rfl) ?_
    refine oq (qv_pick_t g5 rfl (rfl : ev _ _ = (.bool (decide ((vaE vars i) = 3))))) ?_
    refine oq (qv_mv (.bool (decide ((vaE vars i) = 3))) rfl) ?_
    by_cases g6 : (vaE vars i) = 3
    ·
     refine og (qv_ldm (vs := [(.int .i64 ((cnD vars q).v)), uc, (.int .i64 ((cnD vars q).r))]) Try.agg24 rfl (inOc (k := 0) rfl) rfl rfl) (want_t g6 rfl rfl rfl) ?_
     refine og (qv_build (out := [(Value.int .i64 0), (Value.slice none 0 0), (Value.int .i64 0)]) Try.build24 [] rfl rfl) (want_t g6 rfl rfl rfl) ?_
     refine og (qv_call (v := (.bool (decide (cnD vars q = dg0)))) (same_c (A := (cnD vars q)) (B := dg0) hc (Fks.nil)) rfl rfl) (want_t g6 rfl rfl rfl) ?_
     refine oq (qv_pick_t g6 rfl (rfl : ev _ _ = (.bool (decide (cnD vars q = dg0))))) ?_
     refine oq (qv_mv (.bool (decide (cnD vars q = dg0))) rfl) ?_
     by_cases g7 : cnD vars q = dg0
     ·
      refine og (qv_ldm (vs := [(.int .i64 ((vaD vars i).v)), uv, (.int .i64 ((vaD vars i).r))]) Try.agg24 rfl (inOc (k := 1) rfl) rfl rfl) (want_t g7 rfl rfl rfl) ?_
      refine og (qv_build (out := [(Value.int .i64 0), (Value.slice none 0 0), (Value.int .i64 0)]) Try.build24 [] rfl rfl) (want_t g7 rfl rfl rfl) ?_
      refine og (qv_call (v := (.bool (decide (vaD vars i = dg0)))) (same_c (A := (vaD vars i)) (B := dg0) hv (Fks.nil)) rfl rfl) (want_t g7 rfl rfl rfl) ?_
      refine oq (qv_pick_t g7 rfl (rfl : ev _ _ = (.bool (decide (vaD vars i = dg0))))) ?_
      refine oq (qv_as (.bool (decide (vaD vars i = dg0))) rfl) ?_
      refine ops_nil ?_
      refine vc_ret ?_
      exact rq1 (Value.bool true) (congrArg Value.bool (decide_eq_true (show (vaD vars i = dg0) from by first | exact hvn.2 | exact hv0.2))) rfl
     ·
      exact absurd (hcn.2) g7
    ·
     exact absurd (hvn.1) g6
   ·
    exact absurd (hcn.1) g5
  ·
   refine vc_skip ?_
   refine vc_seq ?_
   refine vc_region ?_
   refine oq (qv_as (Value.int .i64 0) rfl) ?_
   refine ops_nil ?_
   refine vc_seq ?_
   refine vc_seq ?_
   refine vc_region ?_
   refine oq (qv_mv (.bool (decide (q))) rfl) ?_
   refine ops_nil ?_
   refine vc_if rfl (fun c2 => ?_) (fun c2 => ?_)
   ·
    refine vc_region ?_
    refine oq (qv_as (Value.int .i64 1) rfl) ?_
    refine ops_nil ?_
    refine vc_seq ?_
    refine vc_seq ?_
    have hc0 := cn_0 (vars := vars) (p := q) (by omega)
    rw [if_pos c2] at hc0
    refine vc_region ?_
    refine oq (qv_mv (.int .i64 (cnE vars)) rfl) ?_
    refine oq (qv_neq rfl rfl) ?_
    refine oq (qv_mv (.bool (decide ((cnE vars) ≠ 0))) rfl) ?_
    by_cases g8 : (cnE vars) ≠ 0
    ·
     exact absurd hc0.1 g8
    ·
     refine og (qv_ldm (vs := [(.int .i64 ((cnD vars q).v)), uc, (.int .i64 ((cnD vars q).r))]) Try.agg24 rfl (inOc (k := 0) rfl) rfl rfl) (want_f g8 rfl rfl rfl) ?_
     refine og (qv_mv (Value.int .i64 vars) rfl) (want_f g8 rfl rfl rfl) ?_
     refine og (qv_mv (Value.int .i64 1) rfl) (want_f g8 rfl rfl rfl) ?_
     refine og (qv_build (out := [(Value.int .i64 vars), (Value.slice none 0 0), (Value.int .i64 1)]) Try.build24 [(0, [(Value.int .i64 vars)]), (2, [(Value.int .i64 1)])] rfl rfl) (want_f g8 rfl rfl rfl) ?_
     refine og (qv_call (v := (.bool (decide (cnD vars q = (⟨vars, [], 1⟩ : Dg))))) (same_c (A := (cnD vars q)) (B := (⟨vars, [], 1⟩ : Dg)) hc (Fks.nil)) rfl rfl) (want_f g8 rfl rfl rfl) ?_
     refine og (qv_not rfl) (want_f g8 rfl rfl rfl) ?_
     refine oq (qv_pick_f g8 rfl (rfl : ev _ _ = (.bool (decide (¬ (cnD vars q = (⟨vars, [], 1⟩ : Dg))))))) ?_
     refine ops_nil ?_
     refine vc_if rfl (fun c3 => ?_) (fun c3 => ?_)
     ·
      exact absurd hc0.2 c3
     ·
      refine vc_skip ?_
      refine vc_seq ?_
      refine vc_seq ?_
      refine vc_region ?_
      refine oq (qv_mv (Value.int .i64 i) rfl) ?_
      refine oq (qv_lss rfl rfl) ?_
      refine oq (qv_mv (.bool (decide (i < 0))) rfl) ?_
      by_cases g9 : i < 0
      ·
       refine os (want_fn g9 rfl rfl rfl) ?_
       refine os (want_fn g9 rfl rfl rfl) ?_
       refine os (want_fn g9 rfl rfl rfl) ?_
       refine oq (qv_pick_t g9 rfl (rfl : ev _ _ = (Value.bool true))) ?_
       refine ops_nil ?_
       refine vc_tt rfl ?_
       refine vc_seq ?_
       have hvn := va_n (vars := vars) (i := i) (by omega)
       refine vc_region ?_
       refine oq (qv_mv (.int .i64 (vaE vars i)) rfl) ?_
       refine oq (qv_eql rfl rfl) ?_
       refine oq (qv_mv (.bool (decide ((vaE vars i) = 3))) rfl) ?_
       by_cases g10 : (vaE vars i) = 3
       ·
        refine og (qv_ldm (vs := [(.int .i64 ((vaD vars i).v)), uv, (.int .i64 ((vaD vars i).r))]) Try.agg24 rfl (inOc (k := 1) rfl) rfl rfl) (want_t g10 rfl rfl rfl) ?_
        refine og (qv_build (out := [(Value.int .i64 0), (Value.slice none 0 0), (Value.int .i64 0)]) Try.build24 [] rfl rfl) (want_t g10 rfl rfl rfl) ?_
        refine og (qv_call (v := (.bool (decide (vaD vars i = dg0)))) (same_c (A := (vaD vars i)) (B := dg0) hv (Fks.nil)) rfl rfl) (want_t g10 rfl rfl rfl) ?_
        refine oq (qv_pick_t g10 rfl (rfl : ev _ _ = (.bool (decide (vaD vars i = dg0))))) ?_
        refine oq (qv_as (.bool (decide (vaD vars i = dg0))) rfl) ?_
        refine ops_nil ?_
        refine vc_ret ?_
        exact rq1 (Value.bool true) (congrArg Value.bool (decide_eq_true (show (vaD vars i = dg0) from by first | exact hvn.2 | exact hv0.2))) rfl
       ·
        exact absurd (hvn.1) g10
      ·
       refine og (qv_mv (Value.int .i64 i) rfl) (want_f g9 rfl rfl rfl) ?_
       refine og (qv_mv (Value.int .i64 vars) rfl) (want_f g9 rfl rfl rfl) ?_
       refine og (qv_geq rfl rfl) (want_f g9 rfl rfl rfl) ?_
       refine oq (qv_pick_f g9 rfl (rfl : ev _ _ = (.bool (decide (vars ≤ i))))) ?_
       refine ops_nil ?_
       refine vc_if rfl (fun c4 => ?_) (fun c4 => ?_)
       ·
        refine vc_seq ?_
        have hvn := va_n (vars := vars) (i := i) (by omega)
        refine vc_region ?_
        refine oq (qv_mv (.int .i64 (vaE vars i)) rfl) ?_
        refine oq (qv_eql rfl rfl) ?_
        refine oq (qv_mv (.bool (decide ((vaE vars i) = 3))) rfl) ?_
        by_cases g11 : (vaE vars i) = 3
        ·
         refine og (qv_ldm (vs := [(.int .i64 ((vaD vars i).v)), uv, (.int .i64 ((vaD vars i).r))]) Try.agg24 rfl (inOc (k := 1) rfl) rfl rfl) (want_t g11 rfl rfl rfl) ?_
         refine og (qv_build (out := [(Value.int .i64 0), (Value.slice none 0 0), (Value.int .i64 0)]) Try.build24 [] rfl rfl) (want_t g11 rfl rfl rfl) ?_
         refine og (qv_call (v := (.bool (decide (vaD vars i = dg0)))) (same_c (A := (vaD vars i)) (B := dg0) hv (Fks.nil)) rfl rfl) (want_t g11 rfl rfl rfl) ?_
         refine oq (qv_pick_t g11 rfl (rfl : ev _ _ = (.bool (decide (vaD vars i = dg0))))) ?_
         refine oq (qv_as (.bool (decide (vaD vars i = dg0))) rfl) ?_
         refine ops_nil ?_
         refine vc_ret ?_
         exact rq1 (Value.bool true) (congrArg Value.bool (decide_eq_true (show (vaD vars i = dg0) from by first | exact hvn.2 | exact hv0.2))) rfl
        ·
         exact absurd (hvn.1) g11
       ·
        refine vc_skip ?_
        refine vc_seq ?_
        have hv0 := va_0 (vars := vars) (i := i) (by omega)
        refine vc_region ?_
        refine oq (qv_mv (.int .i64 (vaE vars i)) rfl) ?_
        refine oq (qv_eql rfl rfl) ?_
        refine oq (qv_mv (.bool (decide ((vaE vars i) = 0))) rfl) ?_
        by_cases g12 : (vaE vars i) = 0
        ·
         refine og (qv_ldm (vs := [(.int .i64 ((vaD vars i).v)), uv, (.int .i64 ((vaD vars i).r))]) Try.agg24 rfl (inOc (k := 1) rfl) rfl rfl) (want_t g12 rfl rfl rfl) ?_
         refine og (qv_mv (Value.int .i64 vars) rfl) (want_t g12 rfl rfl rfl) ?_
         refine og (qv_mv (Value.int .i64 i) rfl) (want_t g12 rfl rfl rfl) ?_
         refine og (qv_build (out := [(Value.int .i64 i), (Value.int .i64 0), (Value.int .i64 1)]) Try.build42 [(0, [(Value.int .i64 i)]), (1, [(Value.int .i64 0)]), (2, [(Value.int .i64 1)])] rfl rfl) (want_t g12 rfl rfl rfl) ?_
         refine ops_want (want_t g12 rfl rfl rfl) ?_
         refine ops_lit (n := 1) (s := 3) (cs := [(Value.int .i64 i), (Value.int .i64 0), (Value.int .i64 1)]) Try.underlying22 Try.ti42 (Nat.le_of_ble_eq_true rfl) rfl rfl rfl (Nat.le_of_ble_eq_true rfl) rfl (fun b3 => ?_)
         refine ops_freeze (b := b3) (o := .cells ([(Value.int .i64 i), (Value.int .i64 0), (Value.int .i64 1)] : List Value).toArray 42 (0, 0)) (σr := [(Arr 24 b1 [(Value.int .i64 ((cnD vars q).v)), uc, (Value.int .i64 ((cnD vars q).r))]), (Arr 24 b2 [(Value.int .i64 ((vaD vars i).v)), uv, (Value.int .i64 ((vaD vars i).r))])]) (List.perm_middle (l₁ := [(Arr 24 b1 [(Value.int .i64 ((cnD vars q).v)), uc, (Value.int .i64 ((cnD vars q).r))]), (Arr 24 b2 [(Value.int .i64 ((vaD vars i).v)), uv, (Value.int .i64 ((vaD vars i).r))])]) (l₂ := [])) (fun Vf1 hVf1 hb1 => ?_)
         have hc1 : Cells Vf1 b3 [(Value.int .i64 i), (Value.int .i64 0), (Value.int .i64 1)] := ⟨_, _, hb1⟩
         have hc := hc.mono hVf1
         have hv := hv.mono hVf1
         refine og (qv_build (out := [(Value.int .i64 vars), (.slice (some ⟨b3, 0, none⟩) 1 1), (Value.int .i64 2)]) Try.build24 [(0, [(Value.int .i64 vars)]), (1, [(.slice (some ⟨b3, 0, none⟩) 1 1)]), (2, [(Value.int .i64 2)])] rfl rfl) (want_t g12 rfl rfl rfl) ?_
         refine og (qv_call (v := (.bool (decide (vaD vars i = (⟨vars, [⟨i, 0, 1⟩], 2⟩ : Dg))))) (same_c (A := (vaD vars i)) (B := (⟨vars, [⟨i, 0, 1⟩], 2⟩ : Dg)) hv (cells_sls (n := 1) (c := 1) hc1 rfl (Nat.le_refl _) (by omega))) rfl rfl) (want_t g12 rfl rfl rfl) ?_
         refine oq (qv_pick_t g12 rfl (rfl : ev _ _ = (.bool (decide (vaD vars i = (⟨vars, [⟨i, 0, 1⟩], 2⟩ : Dg)))))) ?_
         refine oq (qv_as (.bool (decide (vaD vars i = (⟨vars, [⟨i, 0, 1⟩], 2⟩ : Dg)))) rfl) ?_
         refine ops_nil ?_
         refine vc_ret ?_
         exact rq1 (Value.bool true) (congrArg Value.bool (decide_eq_true (show (vaD vars i = (⟨vars, [⟨i, 0, 1⟩], 2⟩ : Dg)) from by first | exact hvn.2 | exact hv0.2))) rfl
        ·
         exact absurd (hv0.1) g12
   ·
    refine vc_skip ?_
    refine vc_seq ?_
    refine vc_seq ?_
    have hc0 := cn_0 (vars := vars) (p := q) (by omega)
    rw [if_neg c2] at hc0
    refine vc_region ?_
    refine oq (qv_mv (.int .i64 (cnE vars)) rfl) ?_
    refine oq (qv_neq rfl rfl) ?_
    refine oq (qv_mv (.bool (decide ((cnE vars) ≠ 0))) rfl) ?_
    by_cases g13 : (cnE vars) ≠ 0
    ·
     exact absurd hc0.1 g13
    ·
     refine og (qv_ldm (vs := [(.int .i64 ((cnD vars q).v)), uc, (.int .i64 ((cnD vars q).r))]) Try.agg24 rfl (inOc (k := 0) rfl) rfl rfl) (want_f g13 rfl rfl rfl) ?_
     refine og (qv_mv (Value.int .i64 vars) rfl) (want_f g13 rfl rfl rfl) ?_
     refine og (qv_mv (Value.int .i64 0) rfl) (want_f g13 rfl rfl rfl) ?_
     refine og (qv_build (out := [(Value.int .i64 vars), (Value.slice none 0 0), (Value.int .i64 0)]) Try.build24 [(0, [(Value.int .i64 vars)]), (2, [(Value.int .i64 0)])] rfl rfl) (want_f g13 rfl rfl rfl) ?_
     refine og (qv_call (v := (.bool (decide (cnD vars q = (⟨vars, [], 0⟩ : Dg))))) (same_c (A := (cnD vars q)) (B := (⟨vars, [], 0⟩ : Dg)) hc (Fks.nil)) rfl rfl) (want_f g13 rfl rfl rfl) ?_
     refine og (qv_not rfl) (want_f g13 rfl rfl rfl) ?_
     refine oq (qv_pick_f g13 rfl (rfl : ev _ _ = (.bool (decide (¬ (cnD vars q = (⟨vars, [], 0⟩ : Dg))))))) ?_
     refine ops_nil ?_
     refine vc_if rfl (fun c5 => ?_) (fun c5 => ?_)
     ·
      exact absurd hc0.2 c5
     ·
      refine vc_skip ?_
      refine vc_seq ?_
      refine vc_seq ?_
      refine vc_region ?_
      refine oq (qv_mv (Value.int .i64 i) rfl) ?_
      refine oq (qv_lss rfl rfl) ?_
      refine oq (qv_mv (.bool (decide (i < 0))) rfl) ?_
      by_cases g14 : i < 0
      ·
       refine os (want_fn g14 rfl rfl rfl) ?_
       refine os (want_fn g14 rfl rfl rfl) ?_
       refine os (want_fn g14 rfl rfl rfl) ?_
       refine oq (qv_pick_t g14 rfl (rfl : ev _ _ = (Value.bool true))) ?_
       refine ops_nil ?_
       refine vc_tt rfl ?_
       refine vc_seq ?_
       have hvn := va_n (vars := vars) (i := i) (by omega)
       refine vc_region ?_
       refine oq (qv_mv (.int .i64 (vaE vars i)) rfl) ?_
       refine oq (qv_eql rfl rfl) ?_
       refine oq (qv_mv (.bool (decide ((vaE vars i) = 3))) rfl) ?_
       by_cases g15 : (vaE vars i) = 3
       ·
        refine og (qv_ldm (vs := [(.int .i64 ((vaD vars i).v)), uv, (.int .i64 ((vaD vars i).r))]) Try.agg24 rfl (inOc (k := 1) rfl) rfl rfl) (want_t g15 rfl rfl rfl) ?_
        refine og (qv_build (out := [(Value.int .i64 0), (Value.slice none 0 0), (Value.int .i64 0)]) Try.build24 [] rfl rfl) (want_t g15 rfl rfl rfl) ?_
        refine og (qv_call (v := (.bool (decide (vaD vars i = dg0)))) (same_c (A := (vaD vars i)) (B := dg0) hv (Fks.nil)) rfl rfl) (want_t g15 rfl rfl rfl) ?_
        refine oq (qv_pick_t g15 rfl (rfl : ev _ _ = (.bool (decide (vaD vars i = dg0))))) ?_
        refine oq (qv_as (.bool (decide (vaD vars i = dg0))) rfl) ?_
        refine ops_nil ?_
        refine vc_ret ?_
        exact rq1 (Value.bool true) (congrArg Value.bool (decide_eq_true (show (vaD vars i = dg0) from by first | exact hvn.2 | exact hv0.2))) rfl
       ·
        exact absurd (hvn.1) g15
      ·
       refine og (qv_mv (Value.int .i64 i) rfl) (want_f g14 rfl rfl rfl) ?_
       refine og (qv_mv (Value.int .i64 vars) rfl) (want_f g14 rfl rfl rfl) ?_
       refine og (qv_geq rfl rfl) (want_f g14 rfl rfl rfl) ?_
       refine oq (qv_pick_f g14 rfl (rfl : ev _ _ = (.bool (decide (vars ≤ i))))) ?_
       refine ops_nil ?_
       refine vc_if rfl (fun c6 => ?_) (fun c6 => ?_)
       ·
        refine vc_seq ?_
        have hvn := va_n (vars := vars) (i := i) (by omega)
        refine vc_region ?_
        refine oq (qv_mv (.int .i64 (vaE vars i)) rfl) ?_
        refine oq (qv_eql rfl rfl) ?_
        refine oq (qv_mv (.bool (decide ((vaE vars i) = 3))) rfl) ?_
        by_cases g16 : (vaE vars i) = 3
        ·
         refine og (qv_ldm (vs := [(.int .i64 ((vaD vars i).v)), uv, (.int .i64 ((vaD vars i).r))]) Try.agg24 rfl (inOc (k := 1) rfl) rfl rfl) (want_t g16 rfl rfl rfl) ?_
         refine og (qv_build (out := [(Value.int .i64 0), (Value.slice none 0 0), (Value.int .i64 0)]) Try.build24 [] rfl rfl) (want_t g16 rfl rfl rfl) ?_
         refine og (qv_call (v := (.bool (decide (vaD vars i = dg0)))) (same_c (A := (vaD vars i)) (B := dg0) hv (Fks.nil)) rfl rfl) (want_t g16 rfl rfl rfl) ?_
         refine oq (qv_pick_t g16 rfl (rfl : ev _ _ = (.bool (decide (vaD vars i = dg0))))) ?_
         refine oq (qv_as (.bool (decide (vaD vars i = dg0))) rfl) ?_
         refine ops_nil ?_
         refine vc_ret ?_
         exact rq1 (Value.bool true) (congrArg Value.bool (decide_eq_true (show (vaD vars i = dg0) from by first | exact hvn.2 | exact hv0.2))) rfl
        ·
         exact absurd (hvn.1) g16
       ·
        refine vc_skip ?_
        refine vc_seq ?_
        have hv0 := va_0 (vars := vars) (i := i) (by omega)
        refine vc_region ?_
        refine oq (qv_mv (.int .i64 (vaE vars i)) rfl) ?_
        refine oq (qv_eql rfl rfl) ?_
        refine oq (qv_mv (.bool (decide ((vaE vars i) = 0))) rfl) ?_
        by_cases g17 : (vaE vars i) = 0
        ·
         refine og (qv_ldm (vs := [(.int .i64 ((vaD vars i).v)), uv, (.int .i64 ((vaD vars i).r))]) Try.agg24 rfl (inOc (k := 1) rfl) rfl rfl) (want_t g17 rfl rfl rfl) ?_
         refine og (qv_mv (Value.int .i64 vars) rfl) (want_t g17 rfl rfl rfl) ?_
         refine og (qv_mv (Value.int .i64 i) rfl) (want_t g17 rfl rfl rfl) ?_
         refine og (qv_build (out := [(Value.int .i64 i), (Value.int .i64 0), (Value.int .i64 1)]) Try.build42 [(0, [(Value.int .i64 i)]), (1, [(Value.int .i64 0)]), (2, [(Value.int .i64 1)])] rfl rfl) (want_t g17 rfl rfl rfl) ?_
         refine ops_want (want_t g17 rfl rfl rfl) ?_
         refine ops_lit (n := 1) (s := 3) (cs := [(Value.int .i64 i), (Value.int .i64 0), (Value.int .i64 1)]) Try.underlying22 Try.ti42 (Nat.le_of_ble_eq_true rfl) rfl rfl rfl (Nat.le_of_ble_eq_true rfl) rfl (fun b4 => ?_)
         refine ops_freeze (b := b4) (o := .cells ([(Value.int .i64 i), (Value.int .i64 0), (Value.int .i64 1)] : List Value).toArray 42 (0, 0)) (σr := [(Arr 24 b1 [(Value.int .i64 ((cnD vars q).v)), uc, (Value.int .i64 ((cnD vars q).r))]), (Arr 24 b2 [(Value.int .i64 ((vaD vars i).v)), uv, (Value.int .i64 ((vaD vars i).r))])]) (List.perm_middle (l₁ := [(Arr 24 b1 [(Value.int .i64 ((cnD vars q).v)), uc, (Value.int .i64 ((cnD vars q).r))]), (Arr 24 b2 [(Value.int .i64 ((vaD vars i).v)), uv, (Value.int .i64 ((vaD vars i).r))])]) (l₂ := [])) (fun Vf2 hVf2 hb2 => ?_)
         have hc2 : Cells Vf2 b4 [(Value.int .i64 i), (Value.int .i64 0), (Value.int .i64 1)] := ⟨_, _, hb2⟩
         have hc := hc.mono hVf2
         have hv := hv.mono hVf2
         refine og (qv_build (out := [(Value.int .i64 vars), (.slice (some ⟨b4, 0, none⟩) 1 1), (Value.int .i64 2)]) Try.build24 [(0, [(Value.int .i64 vars)]), (1, [(.slice (some ⟨b4, 0, none⟩) 1 1)]), (2, [(Value.int .i64 2)])] rfl rfl) (want_t g17 rfl rfl rfl) ?_
         refine og (qv_call (v := (.bool (decide (vaD vars i = (⟨vars, [⟨i, 0, 1⟩], 2⟩ : Dg))))) (same_c (A := (vaD vars i)) (B := (⟨vars, [⟨i, 0, 1⟩], 2⟩ : Dg)) hv (cells_sls (n := 1) (c := 1) hc2 rfl (Nat.le_refl _) (by omega))) rfl rfl) (want_t g17 rfl rfl rfl) ?_
         refine oq (qv_pick_t g17 rfl (rfl : ev _ _ = (.bool (decide (vaD vars i = (⟨vars, [⟨i, 0, 1⟩], 2⟩ : Dg)))))) ?_
         refine oq (qv_as (.bool (decide (vaD vars i = (⟨vars, [⟨i, 0, 1⟩], 2⟩ : Dg)))) rfl) ?_
         refine ops_nil ?_
         refine vc_ret ?_
         exact rq1 (Value.bool true) (congrArg Value.bool (decide_eq_true (show (vaD vars i = (⟨vars, [⟨i, 0, 1⟩], 2⟩ : Dg)) from by first | exact hvn.2 | exact hv0.2))) rfl
        ·
         exact absurd (hv0.1) g17

theorem Leaves_b {V : HV} {vars i : Int} {b : Bool} : FnC Try.prog 5 [.int .i64 vars, .int .i64 i, .bool b] V [] (fun v _ _ => v = .bool true) := by
  have h := Leaves_c (V := V) (vars := vars) (i := i) (q := b = true)
  simp only [Bool.decide_eq_true] at h
  exact h
end Go.Proofs.Ytgehdgeiikjohaa
