/- Walks of bdd: what each function returns. Printed by a program out of notes. -/
import Derived.Test.YtgehdgeiikjohaaBz
import Derived.Test.YtgehdgeiikjohaaBn
import Derived.Test.YtgehdgeiikjohaaBo
import Derived.Test.YtgehdgeiikjohaaBt
import Derived.Test.YtgehdgeiikjohaaBdJ
import Derived.Test.YtgehdgeiikjohaaVcI
import Derived.Test.YtgehdgeiikjohaaBr
namespace Go.Proofs.Ytgehdgeiikjohaa
open Go.Vc
open Classical

set_option maxRecDepth 100000 in
set_option maxHeartbeats 4000000 in
theorem Expands_c {V : HV} {i : Int} {na : Value} {A : Dg} (hA : Fks V na A.N) :
    FnC Try.prog 11 [(.agg #[(.int .i64 A.v), na, (.int .i64 A.r)]), (Value.int .i64 i)] V [] (fun v _ _ => v = (Value.bool true)) := by
 refine fn_intro (N := 144) Try.func11 (by kernel_rfl) rfl rfl rfl (Nat.le_of_ble_eq_true rfl) ?_
 intro w0 D
 have hb := SlS.bound hA
 refine vc_seq ?_
 refine vc_region ?_
 refine ops_box (v := (.agg #[(.int .i64 A.v), na, (.int .i64 A.r)])) (cs := [(.int .i64 A.v), na, (.int .i64 A.r)]) rfl rfl (fun b1 => ?_)
 refine oq (qv_as (Value.bool false) rfl) ?_
 refine ops_nil ?_
 refine vc_seq ?_
 refine vc_seq ?_
 refine vc_res (σ' := [(Arr 24 b1 [(.int .i64 A.v), na, (.int .i64 A.r)])]) rfl ?_
 refine vc_region ?_
 refine oq (qv_call (v := (Value.bool true)) (known_c) rfl rfl) ?_
 refine oq (qv_notc rfl) ?_
 refine ops_nil ?_
 refine vc_ff rfl ?_
 refine vc_skip ?_
 refine vc_seq ?_
 refine vc_seq ?_
 refine vc_region ?_
 refine oq (qv_fa (off := 0) Try.field24_0 rfl) ?_
 refine oq (qv_ldp (v := (.int .i64 A.v)) Try.plain3 rfl (inOc (k := 0) rfl) rfl) ?_
 refine oq (qv_gtr rfl rfl) ?_
 refine oq (qv_mv (.bool (decide (12 < A.v))) rfl) ?_
 by_cases g1 : 12 < A.v
 ·
  refine os (want_fn g1 rfl rfl rfl) ?_
  refine os (want_fn g1 rfl rfl rfl) ?_
  refine os (want_fn g1 rfl rfl rfl) ?_
  refine os (want_fn g1 rfl rfl rfl) ?_
  refine oq (qv_pick_t g1 rfl (rfl : ev _ _ = (Value.bool true))) ?_
  refine oq (qv_mv (Value.bool true) rfl) ?_
  refine os (want_fnc rfl rfl rfl) ?_
  refine os (want_fnc rfl rfl rfl) ?_
  refine os (want_fnc rfl rfl rfl) ?_
  refine oq (qv_pick_tc rfl (rfl : ev _ _ = (Value.bool true))) ?_
  refine oq (qv_mv (Value.bool true) rfl) ?_
  refine os (want_fnc rfl rfl rfl) ?_
  refine os (want_fnc rfl rfl rfl) ?_
  refine oq (qv_pick_tc rfl (rfl : ev _ _ = (Value.bool true))) ?_
  refine oq (qv_mv (Value.bool true) rfl) ?_
  refine os (want_fnc rfl rfl rfl) ?_
  refine os (want_fnc rfl rfl rfl) ?_
  refine os (want_fnc rfl rfl rfl) ?_
  refine os (want_fnc rfl rfl rfl) ?_
  refine oq (qv_pick_tc rfl (rfl : ev _ _ = (Value.bool true))) ?_
  refine ops_nil ?_
  refine vc_tt rfl ?_
  refine vc_seq ?_
  refine vc_region ?_
  refine oq (qv_as (Value.bool true) rfl) ?_
  refine ops_nil ?_
  refine vc_ret ?_
  exact rq1 (Value.bool true) rfl rfl
 ·
  refine og (qv_fa (off := 0) Try.field24_1 rfl) (want_f g1 rfl rfl rfl) ?_
  refine og (qv_ldp (v := na) Try.plain22 rfl (inOc (k := 0) rfl) rfl) (want_f g1 rfl rfl rfl) ?_
  refine og (qv_lenSS Try.underlying22 rfl hA) (want_f g1 rfl rfl rfl) ?_
  refine og (qv_gtr rfl rfl) (want_f g1 rfl rfl rfl) ?_
  refine oq (qv_pick_f g1 rfl (rfl : ev _ _ = (.bool (decide (200 < ((A.N.length : Int))))))) ?_
  refine oq (qv_mv (.bool (decide (200 < ((A.N.length : Int))))) rfl) ?_
  by_cases g2 : 200 < ((A.N.length : Int))
  ·
   refine os (want_fn g2 rfl rfl rfl) ?_
   refine os (want_fn g2 rfl rfl rfl) ?_
   refine os (want_fn g2 rfl rfl rfl) ?_
   refine oq (qv_pick_t g2 rfl (rfl : ev _ _ = (Value.bool true))) ?_
   refine oq (qv_mv (Value.bool true) rfl) ?_
   refine os (want_fnc rfl rfl rfl) ?_
   refine os (want_fnc rfl rfl rfl) ?_
   refine oq (qv_pick_tc rfl (rfl : ev _ _ = (Value.bool true))) ?_
   refine oq (qv_mv (Value.bool true) rfl) ?_
   refine os (want_fnc rfl rfl rfl) ?_
   refine os (want_fnc rfl rfl rfl) ?_
   refine os (want_fnc rfl rfl rfl) ?_
   refine os (want_fnc rfl rfl rfl) ?_
   refine oq (qv_pick_tc rfl (rfl : ev _ _ = (Value.bool true))) ?_
   refine ops_nil ?_
   refine vc_tt rfl ?_
   refine vc_seq ?_
   refine vc_region ?_
   refine oq (qv_as (Value.bool true) rfl) ?_
   refine ops_nil ?_
   refine vc_ret ?_
   exact rq1 (Value.bool true) rfl rfl
  ·
   refine og (qv_ldm (vs := [(.int .i64 A.v), na, (.int .i64 A.r)]) Try.agg24 rfl (inOc (k := 0) rfl) rfl rfl) (want_f g2 rfl rfl rfl) ?_
   refine og (qv_call (v := (.int .i64 (chkC A.v A.N A.r))) (check_c hA) rfl rfl) (want_f g2 rfl rfl rfl) ?_
   refine og (qv_neq rfl rfl) (want_f g2 rfl rfl rfl) ?_
   refine oq (qv_pick_f g2 rfl (rfl : ev _ _ = (.bool (decide ((chkC A.v A.N A.r) ≠ 0))))) ?_
   refine oq (qv_mv (.bool (decide ((chkC A.v A.N A.r) ≠ 0))) rfl) ?_
   by_cases g3 : (chkC A.v A.N A.r) ≠ 0
   ·
    refine os (want_fn g3 rfl rfl rfl) ?_
    refine os (want_fn g3 rfl rfl rfl) ?_
    refine oq (qv_pick_t g3 rfl (rfl : ev _ _ = (Value.bool true))) ?_
    refine oq (qv_mv (Value.bool true) rfl) ?_
    refine os (want_fnc rfl rfl rfl) ?_
    refine os (want_fnc rfl rfl rfl) ?_
    refine os (want_fnc rfl rfl rfl) ?_
    refine os (want_fnc rfl rfl rfl) ?_
    refine oq (qv_pick_tc rfl (rfl : ev _ _ = (Value.bool true))) ?_
    refine ops_nil ?_
    refine vc_tt rfl ?_
    refine vc_seq ?_
    refine vc_region ?_
    refine oq (qv_as (Value.bool true) rfl) ?_
    refine ops_nil ?_
    refine vc_ret ?_
    exact rq1 (Value.bool true) rfl rfl
   ·
    refine og (qv_mv (Value.int .i64 i) rfl) (want_f g3 rfl rfl rfl) ?_
    refine og (qv_lss rfl rfl) (want_f g3 rfl rfl rfl) ?_
    refine oq (qv_pick_f g3 rfl (rfl : ev _ _ = (.bool (decide (i < 0))))) ?_
    refine oq (qv_mv (.bool (decide (i < 0))) rfl) ?_
    by_cases g4 : i < 0
    ·
     refine os (want_fn g4 rfl rfl rfl) ?_
     refine os (want_fn g4 rfl rfl rfl) ?_
     refine os (want_fn g4 rfl rfl rfl) ?_
     refine os (want_fn g4 rfl rfl rfl) ?_
     refine oq (qv_pick_t g4 rfl (rfl : ev _ _ = (Value.bool true))) ?_
     refine ops_nil ?_
     refine vc_tt rfl ?_
     refine vc_seq ?_
     refine vc_region ?_
     refine oq (qv_as (Value.bool true) rfl) ?_
     refine ops_nil ?_
     refine vc_ret ?_
     exact rq1 (Value.bool true) rfl rfl
    ·
     refine og (qv_mv (Value.int .i64 i) rfl) (want_f g4 rfl rfl rfl) ?_
     refine og (qv_fa (off := 0) Try.field24_0 rfl) (want_f g4 rfl rfl rfl) ?_
     refine og (qv_ldp (v := (.int .i64 A.v)) Try.plain3 rfl (inOc (k := 0) rfl) rfl) (want_f g4 rfl rfl rfl) ?_
     refine og (qv_geq rfl rfl) (want_f g4 rfl rfl rfl) ?_
     refine oq (qv_pick_f g4 rfl (rfl : ev _ _ = (.bool (decide (A.v ≤ i))))) ?_
     refine ops_nil ?_
     refine vc_if rfl (fun c1 => ?_) (fun c1 => ?_)
     ·
      refine vc_seq ?_
      refine vc_region ?_
      refine oq (qv_as (Value.bool true) rfl) ?_
      refine ops_nil ?_
      refine vc_ret ?_
      exact rq1 (Value.bool true) rfl rfl
     ·
      refine vc_skip ?_
      refine vc_seq ?_
      have hokA : dOk A := chk_ok.1 (by omega)
      have h12 : A.v ≤ 12 := by omega
      have hi0 : 0 ≤ i := by omega
      have hi1 : i < A.v := by omega
      have hcnt := ex_cnt hokA h12 hi0 hi1
      have hn1 := cnN_nn hokA
      have hn2 := cnN_nn (exN_ok hokA h12 hi0 hi1)
      have hpw := pow2_12 (n := A.v.toNat) (by omega)
      refine vc_region ?_
      refine oq (qv_fa (off := 0) Try.field24_0 rfl) ?_
      refine oq (qv_ldp (v := (.int .i64 A.v)) Try.plain3 rfl (inOc (k := 0) rfl) rfl) ?_
      refine oq (qv_mv (Value.int .i64 i) rfl) ?_
      refine ops_call (σa := []) (σr := [(Arr 24 b1 [(.int .i64 A.v), na, (.int .i64 A.r)])]) (by have h := Variable_c (V := V) (vars := A.v) (i := i); rw [(ex_va hokA h12 hi0 hi1).1, (ex_va hokA h12 hi0 hi1).2] at h; exact h) rfl rfl (.refl _) (fun r1 V1 sg1 hV1 hp1 => ?_)
      obtain ⟨rfl, u1, rfl, h1⟩ := hp1
      have hA := hA.mono hV1
      refine oq (qv_mv (.tuple #[(.agg #[(.int .i64 ((exX A i).v)), u1, (.int .i64 ((exX A i).r))]), (Value.int .i64 0)]) rfl) ?_
      refine oq (qv_ext (.agg #[(.int .i64 ((exX A i).v)), u1, (.int .i64 ((exX A i).r))]) rfl rfl) ?_
      refine oq (qv_ext (Value.int .i64 0) rfl rfl) ?_
      refine ops_alloc Try.ti24 rfl (fun b2 => ?_)
      refine ops_stw (k := 1) (vs := [(.int .i64 ((exX A i).v)), u1, (.int .i64 ((exX A i).r))]) Try.size24 rfl rfl rfl (allc rfl (allc (SlS.one h1) (allc rfl rfl))) rfl rfl ?_
      refine oq (qv_as (Value.int .i64 0) rfl) ?_
      refine ops_nil ?_
      refine vc_seq ?_
      refine vc_res (σ' := [(Arr 24 b1 [(.int .i64 A.v), na, (.int .i64 A.r)]), (Arr 24 b2 [(.int .i64 ((exX A i).v)), u1, (.int .i64 ((exX A i).r))])]) rfl ?_
      refine vc_region ?_
      refine oq (qv_ldm (vs := [(.int .i64 A.v), na, (.int .i64 A.r)]) Try.agg24 rfl (inOc (k := 0) rfl) rfl rfl) ?_
      refine oq (qv_mv (Value.int .i64 i) rfl) ?_
      refine ops_call (σa := []) (σr := [(Arr 24 b1 [(.int .i64 A.v), na, (.int .i64 A.r)]), (Arr 24 b2 [(.int .i64 ((exX A i).v)), u1, (.int .i64 ((exX A i).r))])]) (by have h := Restrict_c (i := i) (b := true) hA; rw [(ex_rs hokA h12 hi0 hi1 true).1, (ex_rs hokA h12 hi0 hi1 true).2] at h; exact h) rfl rfl (.refl _) (fun r2 V2 sg2 hV2 hp2 => ?_)
      obtain ⟨rfl, u2, rfl, h2⟩ := hp2
      have hA := hA.mono hV2
      have h1 := h1.mono hV2
      refine oq (qv_mv (.tuple #[(.agg #[(.int .i64 ((rsD A i true).v)), u2, (.int .i64 ((rsD A i true).r))]), (Value.int .i64 0)]) rfl) ?_
      refine oq (qv_ext (.agg #[(.int .i64 ((rsD A i true).v)), u2, (.int .i64 ((rsD A i true).r))]) rfl rfl) ?_
      refine oq (qv_ext (Value.int .i64 0) rfl rfl) ?_
      refine ops_alloc Try.ti24 rfl (fun b3 => ?_)
      refine ops_stw (k := 2) (vs := [(.int .i64 ((rsD A i true).v)), u2, (.int .i64 ((rsD A i true).r))]) Try.size24 rfl rfl rfl (allc rfl (allc (SlS.one h2) (allc rfl rfl))) rfl rfl ?_
      refine oq (qv_as (Value.int .i64 0) rfl) ?_
      refine ops_nil ?_
      refine vc_seq ?_
      refine vc_res (σ' := [(Arr 24 b1 [(.int .i64 A.v), na, (.int .i64 A.r)]), (Arr 24 b2 [(.int .i64 ((exX A i).v)), u1, (.int .i64 ((exX A i).r))]), (Arr 24 b3 [(.int .i64 ((rsD A i true).v)), u2, (.int .i64 ((rsD A i true).r))])]) rfl ?_
      refine vc_region ?_
      refine oq (qv_ldm (vs := [(.int .i64 A.v), na, (.int .i64 A.r)]) Try.agg24 rfl (inOc (k := 0) rfl) rfl rfl) ?_
      refine oq (qv_mv (Value.int .i64 i) rfl) ?_
      refine ops_call (σa := []) (σr := [(Arr 24 b1 [(.int .i64 A.v), na, (.int .i64 A.r)]), (Arr 24 b2 [(.int .i64 ((exX A i).v)), u1, (.int .i64 ((exX A i).r))]), (Arr 24 b3 [(.int .i64 ((rsD A i true).v)), u2, (.int .i64 ((rsD A i true).r))])]) (by have h := Restrict_c (i := i) (b := false) hA; rw [(ex_rs hokA h12 hi0 hi1 false).1, (ex_rs hokA h12 hi0 hi1 false).2] at h; exact h) rfl rfl (.refl _) (fun r3 V3 sg3 hV3 hp3 => ?_)
      obtain ⟨rfl, u3, rfl, h3⟩ := hp3
      have hA := hA.mono hV3
      have h1 := h1.mono hV3
      have h2 := h2.mono hV3
      refine oq (qv_mv (.tuple #[(.agg #[(.int .i64 ((rsD A i false).v)), u3, (.int .i64 ((rsD A i false).r))]), (Value.int .i64 0)]) rfl) ?_
      refine oq (qv_ext (.agg #[(.int .i64 ((rsD A i false).v)), u3, (.int .i64 ((rsD A i false).r))]) rfl rfl) ?_
      refine oq (qv_ext (Value.int .i64 0) rfl rfl) ?_
      refine ops_alloc Try.ti24 rfl (fun b4 => ?_)
      refine ops_stw (k := 3) (vs := [(.int .i64 ((rsD A i false).v)), u3, (.int .i64 ((rsD A i false).r))]) Try.size24 rfl rfl rfl (allc rfl (allc (SlS.one h3) (allc rfl rfl))) rfl rfl ?_
      refine oq (qv_as (Value.int .i64 0) rfl) ?_
      refine ops_nil ?_
      refine vc_seq ?_
      refine vc_res (σ' := [(Arr 24 b1 [(.int .i64 A.v), na, (.int .i64 A.r)]), (Arr 24 b2 [(.int .i64 ((exX A i).v)), u1, (.int .i64 ((exX A i).r))]), (Arr 24 b3 [(.int .i64 ((rsD A i true).v)), u2, (.int .i64 ((rsD A i true).r))]), (Arr 24 b4 [(.int .i64 ((rsD A i false).v)), u3, (.int .i64 ((rsD A i false).r))])]) rfl ?_
      refine vc_region ?_
      refine oq (qv_ldm (vs := [(.int .i64 ((exX A i).v)), u1, (.int .i64 ((exX A i).r))]) Try.agg24 rfl (inOc (k := 1) rfl) rfl rfl) ?_
      refine oq (qv_ldm (vs := [(.int .i64 ((rsD A i true).v)), u2, (.int .i64 ((rsD A i true).r))]) Try.agg24 rfl (inOc (k := 2) rfl) rfl rfl) ?_
      refine oq (qv_ldm (vs := [(.int .i64 ((rsD A i false).v)), u3, (.int .i64 ((rsD A i false).r))]) Try.agg24 rfl (inOc (k := 3) rfl) rfl rfl) ?_
      refine ops_call (σa := []) (σr := [(Arr 24 b1 [(.int .i64 A.v), na, (.int .i64 A.r)]), (Arr 24 b2 [(.int .i64 ((exX A i).v)), u1, (.int .i64 ((exX A i).r))]), (Arr 24 b3 [(.int .i64 ((rsD A i true).v)), u2, (.int .i64 ((rsD A i true).r))]), (Arr 24 b4 [(.int .i64 ((rsD A i false).v)), u3, (.int .i64 ((rsD A i false).r))])]) (by have h := Ite_c (A := exX A i) (B := rsD A i true) (C0 := rsD A i false) h1 h2 h3 h12; rw [(ex_it hokA h12 hi0 hi1).1, (ex_it hokA h12 hi0 hi1).2] at h; exact h) rfl rfl (.refl _) (fun r4 V4 sg4 hV4 hp4 => ?_)
      obtain ⟨rfl, u4, rfl, h4⟩ := hp4
      have hA := hA.mono hV4
      have h1 := h1.mono hV4
      have h2 := h2.mono hV4
      have h3 := h3.mono hV4
      refine oq (qv_mv (.tuple #[(.agg #[(.int .i64 A.v), u4, (.int .i64 A.r)]), (Value.int .i64 0)]) rfl) ?_
      refine oq (qv_ext (.agg #[(.int .i64 A.v), u4, (.int .i64 A.r)]) rfl rfl) ?_
      refine oq (qv_ext (Value.int .i64 0) rfl rfl) ?_
      refine ops_alloc Try.ti24 rfl (fun b5 => ?_)
      refine ops_stw (k := 4) (vs := [(.int .i64 A.v), u4, (.int .i64 A.r)]) Try.size24 rfl rfl rfl (allc rfl (allc (SlS.one h4) (allc rfl rfl))) rfl rfl ?_
      refine oq (qv_as (Value.int .i64 0) rfl) ?_
      refine ops_nil ?_
      refine vc_seq ?_
      refine vc_res (σ' := [(Arr 24 b1 [(.int .i64 A.v), na, (.int .i64 A.r)]), (Arr 24 b2 [(.int .i64 ((exX A i).v)), u1, (.int .i64 ((exX A i).r))]), (Arr 24 b3 [(.int .i64 ((rsD A i true).v)), u2, (.int .i64 ((rsD A i true).r))]), (Arr 24 b4 [(.int .i64 ((rsD A i false).v)), u3, (.int .i64 ((rsD A i false).r))]), (Arr 24 b5 [(.int .i64 A.v), u4, (.int .i64 A.r)])]) rfl ?_
      refine vc_region ?_
      refine oq (qv_ldm (vs := [(.int .i64 A.v), na, (.int .i64 A.r)]) Try.agg24 rfl (inOc (k := 0) rfl) rfl rfl) ?_
      refine ops_call (σa := []) (σr := [(Arr 24 b1 [(.int .i64 A.v), na, (.int .i64 A.r)]), (Arr 24 b2 [(.int .i64 ((exX A i).v)), u1, (.int .i64 ((exX A i).r))]), (Arr 24 b3 [(.int .i64 ((rsD A i true).v)), u2, (.int .i64 ((rsD A i true).r))]), (Arr 24 b4 [(.int .i64 ((rsD A i false).v)), u3, (.int .i64 ((rsD A i false).r))]), (Arr 24 b5 [(.int .i64 A.v), u4, (.int .i64 A.r)])]) (by have h := Not_c hA h12; rw [(ex_not hokA h12 hi0 hi1).1, (ex_not hokA h12 hi0 hi1).2] at h; exact h) rfl rfl (.refl _) (fun r5 V5 sg5 hV5 hp5 => ?_)
      obtain ⟨rfl, u5, rfl, h5⟩ := hp5
      have hA := hA.mono hV5
      have h1 := h1.mono hV5
      have h2 := h2.mono hV5
      have h3 := h3.mono hV5
      have h4 := h4.mono hV5
      refine oq (qv_mv (.tuple #[(.agg #[(.int .i64 ((exN A).v)), u5, (.int .i64 ((exN A).r))]), (Value.int .i64 0)]) rfl) ?_
      refine oq (qv_ext (.agg #[(.int .i64 ((exN A).v)), u5, (.int .i64 ((exN A).r))]) rfl rfl) ?_
      refine oq (qv_ext (Value.int .i64 0) rfl rfl) ?_
      refine ops_alloc Try.ti24 rfl (fun b6 => ?_)
      refine ops_stw (k := 5) (vs := [(.int .i64 ((exN A).v)), u5, (.int .i64 ((exN A).r))]) Try.size24 rfl rfl rfl (allc rfl (allc (SlS.one h5) (allc rfl rfl))) rfl rfl ?_
      refine oq (qv_as (Value.int .i64 0) rfl) ?_
      refine ops_nil ?_
      refine vc_seq ?_
      refine vc_res (σ' := [(Arr 24 b1 [(.int .i64 A.v), na, (.int .i64 A.r)]), (Arr 24 b2 [(.int .i64 ((exX A i).v)), u1, (.int .i64 ((exX A i).r))]), (Arr 24 b3 [(.int .i64 ((rsD A i true).v)), u2, (.int .i64 ((rsD A i true).r))]), (Arr 24 b4 [(.int .i64 ((rsD A i false).v)), u3, (.int .i64 ((rsD A i false).r))]), (Arr 24 b5 [(.int .i64 A.v), u4, (.int .i64 A.r)]), (Arr 24 b6 [(.int .i64 ((exN A).v)), u5, (.int .i64 ((exN A).r))])]) rfl ?_
      refine vc_region ?_
      refine oq (qv_ldm (vs := [(.int .i64 ((exN A).v)), u5, (.int .i64 ((exN A).r))]) Try.agg24 rfl (inOc (k := 5) rfl) rfl rfl) ?_
      refine oq (qv_mv (Value.int .i64 i) rfl) ?_
      refine ops_lit (n := 1) (s := 1) (cs := [(Value.int .i64 i)]) Try.underlying58 Try.ti3 (Nat.le_of_ble_eq_true rfl) rfl rfl rfl (Nat.le_of_ble_eq_true rfl) rfl (fun b7 => ?_)
      refine ops_freeze (b := b7) (o := .cells ([(Value.int .i64 i)] : List Value).toArray 3 (0, 0)) (σr := [(Arr 24 b1 [(Value.int .i64 (A.v)), na, (Value.int .i64 (A.r))]), (Arr 24 b2 [(Value.int .i64 ((exX A i).v)), u1, (Value.int .i64 ((exX A i).r))]), (Arr 24 b3 [(Value.int .i64 ((rsD A i true).v)), u2, (Value.int .i64 ((rsD A i true).r))]), (Arr 24 b4 [(Value.int .i64 ((rsD A i false).v)), u3, (Value.int .i64 ((rsD A i false).r))]), (Arr 24 b5 [(Value.int .i64 (A.v)), u4, (Value.int .i64 (A.r))]), (Arr 24 b6 [(Value.int .i64 ((exN A).v)), u5, (Value.int .i64 ((exN A).r))])]) (List.perm_middle (l₁ := [(Arr 24 b1 [(Value.int .i64 (A.v)), na, (Value.int .i64 (A.r))]), (Arr 24 b2 [(Value.int .i64 ((exX A i).v)), u1, (Value.int .i64 ((exX A i).r))]), (Arr 24 b3 [(Value.int .i64 ((rsD A i true).v)), u2, (Value.int .i64 ((rsD A i true).r))]), (Arr 24 b4 [(Value.int .i64 ((rsD A i false).v)), u3, (Value.int .i64 ((rsD A i false).r))]), (Arr 24 b5 [(Value.int .i64 (A.v)), u4, (Value.int .i64 (A.r))]), (Arr 24 b6 [(Value.int .i64 ((exN A).v)), u5, (Value.int .i64 ((exN A).r))])]) (l₂ := [])) (fun Vf1 hVf1 hb1 => ?_)
      have hc1 : Cells Vf1 b7 [(Value.int .i64 i)] := ⟨_, _, hb1⟩
      have hA := hA.mono hVf1
      have h1 := h1.mono hVf1
      have h2 := h2.mono hVf1
      have h3 := h3.mono hVf1
      have h4 := h4.mono hVf1
      have h5 := h5.mono hVf1
      refine ops_call (σa := []) (σr := [(Arr 24 b1 [(.int .i64 A.v), na, (.int .i64 A.r)]), (Arr 24 b2 [(.int .i64 ((exX A i).v)), u1, (.int .i64 ((exX A i).r))]), (Arr 24 b3 [(.int .i64 ((rsD A i true).v)), u2, (.int .i64 ((rsD A i true).r))]), (Arr 24 b4 [(.int .i64 ((rsD A i false).v)), u3, (.int .i64 ((rsD A i false).r))]), (Arr 24 b5 [(.int .i64 A.v), u4, (.int .i64 A.r)]), (Arr 24 b6 [(.int .i64 ((exN A).v)), u5, (.int .i64 ((exN A).r))])]) (by have h := Exists_c (A := exN A) h5 (ints_cells (xs := [i]) (n := 1) (c := 1) hc1 rfl (Nat.le_refl _) (by omega)) h12; rw [(ex_ex hokA h12 hi0 hi1).1, (ex_ex hokA h12 hi0 hi1).2] at h; exact h) rfl rfl (.refl _) (fun r6 V6 sg6 hV6 hp6 => ?_)
      obtain ⟨rfl, u6, rfl, h6⟩ := hp6
      have hA := hA.mono hV6
      have h1 := h1.mono hV6
      have h2 := h2.mono hV6
      have h3 := h3.mono hV6
      have h4 := h4.mono hV6
      have h5 := h5.mono hV6
      have hc1 := hc1.mono hV6
      refine oq (qv_mv (.tuple #[(.agg #[(.int .i64 ((exS A i).v)), u6, (.int .i64 ((exS A i).r))]), (Value.int .i64 0)]) rfl) ?_
      refine oq (qv_ext (.agg #[(.int .i64 ((exS A i).v)), u6, (.int .i64 ((exS A i).r))]) rfl rfl) ?_
      refine oq (qv_ext (Value.int .i64 0) rfl rfl) ?_
      refine ops_alloc Try.ti24 rfl (fun b8 => ?_)
      refine ops_stw (k := 6) (vs := [(.int .i64 ((exS A i).v)), u6, (.int .i64 ((exS A i).r))]) Try.size24 rfl rfl rfl (allc rfl (allc (SlS.one h6) (allc rfl rfl))) rfl rfl ?_
      refine oq (qv_as (Value.int .i64 0) rfl) ?_
      refine ops_nil ?_
      refine vc_seq ?_
      refine vc_res (σ' := [(Arr 24 b1 [(.int .i64 A.v), na, (.int .i64 A.r)]), (Arr 24 b2 [(.int .i64 ((exX A i).v)), u1, (.int .i64 ((exX A i).r))]), (Arr 24 b3 [(.int .i64 ((rsD A i true).v)), u2, (.int .i64 ((rsD A i true).r))]), (Arr 24 b4 [(.int .i64 ((rsD A i false).v)), u3, (.int .i64 ((rsD A i false).r))]), (Arr 24 b5 [(.int .i64 A.v), u4, (.int .i64 A.r)]), (Arr 24 b6 [(.int .i64 ((exN A).v)), u5, (.int .i64 ((exN A).r))]), (Arr 24 b8 [(.int .i64 ((exS A i).v)), u6, (.int .i64 ((exS A i).r))])]) rfl ?_
      refine vc_region ?_
      refine oq (qv_ldm (vs := [(.int .i64 ((exS A i).v)), u6, (.int .i64 ((exS A i).r))]) Try.agg24 rfl (inOc (k := 6) rfl) rfl rfl) ?_
      refine ops_call (σa := []) (σr := [(Arr 24 b1 [(.int .i64 A.v), na, (.int .i64 A.r)]), (Arr 24 b2 [(.int .i64 ((exX A i).v)), u1, (.int .i64 ((exX A i).r))]), (Arr 24 b3 [(.int .i64 ((rsD A i true).v)), u2, (.int .i64 ((rsD A i true).r))]), (Arr 24 b4 [(.int .i64 ((rsD A i false).v)), u3, (.int .i64 ((rsD A i false).r))]), (Arr 24 b5 [(.int .i64 A.v), u4, (.int .i64 A.r)]), (Arr 24 b6 [(.int .i64 ((exN A).v)), u5, (.int .i64 ((exN A).r))]), (Arr 24 b8 [(.int .i64 ((exS A i).v)), u6, (.int .i64 ((exS A i).r))])]) (by have h := Not_c (A := exS A i) h6 h12; rw [(ex_n2 hokA h12 hi0 hi1).1, (ex_n2 hokA h12 hi0 hi1).2] at h; exact h) rfl rfl (.refl _) (fun r7 V7 sg7 hV7 hp7 => ?_)
      obtain ⟨rfl, u7, rfl, h7⟩ := hp7
      have hA := hA.mono hV7
      have h1 := h1.mono hV7
      have h2 := h2.mono hV7
      have h3 := h3.mono hV7
      have h4 := h4.mono hV7
      have h5 := h5.mono hV7
      have hc1 := hc1.mono hV7
      have h6 := h6.mono hV7
      refine oq (qv_mv (.tuple #[(.agg #[(.int .i64 ((exF A i).v)), u7, (.int .i64 ((exF A i).r))]), (Value.int .i64 0)]) rfl) ?_
      refine oq (qv_ext (.agg #[(.int .i64 ((exF A i).v)), u7, (.int .i64 ((exF A i).r))]) rfl rfl) ?_
      refine oq (qv_ext (Value.int .i64 0) rfl rfl) ?_
      refine ops_alloc Try.ti24 rfl (fun b9 => ?_)
      refine ops_stw (k := 7) (vs := [(.int .i64 ((exF A i).v)), u7, (.int .i64 ((exF A i).r))]) Try.size24 rfl rfl rfl (allc rfl (allc (SlS.one h7) (allc rfl rfl))) rfl rfl ?_
      refine oq (qv_as (Value.int .i64 0) rfl) ?_
      refine ops_nil ?_
      refine vc_seq ?_
      refine vc_res (σ' := [(Arr 24 b1 [(.int .i64 A.v), na, (.int .i64 A.r)]), (Arr 24 b2 [(.int .i64 ((exX A i).v)), u1, (.int .i64 ((exX A i).r))]), (Arr 24 b3 [(.int .i64 ((rsD A i true).v)), u2, (.int .i64 ((rsD A i true).r))]), (Arr 24 b4 [(.int .i64 ((rsD A i false).v)), u3, (.int .i64 ((rsD A i false).r))]), (Arr 24 b5 [(.int .i64 A.v), u4, (.int .i64 A.r)]), (Arr 24 b6 [(.int .i64 ((exN A).v)), u5, (.int .i64 ((exN A).r))]), (Arr 24 b8 [(.int .i64 ((exS A i).v)), u6, (.int .i64 ((exS A i).r))]), (Arr 24 b9 [(.int .i64 ((exF A i).v)), u7, (.int .i64 ((exF A i).r))])]) rfl ?_
      refine vc_region ?_
      refine oq (qv_ldm (vs := [(.int .i64 A.v), na, (.int .i64 A.r)]) Try.agg24 rfl (inOc (k := 0) rfl) rfl rfl) ?_
      refine oq (qv_mv (Value.int .i64 i) rfl) ?_
      refine ops_lit (n := 1) (s := 1) (cs := [(Value.int .i64 i)]) Try.underlying58 Try.ti3 (Nat.le_of_ble_eq_true rfl) rfl rfl rfl (Nat.le_of_ble_eq_true rfl) rfl (fun b10 => ?_)
      refine ops_freeze (b := b10) (o := .cells ([(Value.int .i64 i)] : List Value).toArray 3 (0, 0)) (σr := [(Arr 24 b1 [(Value.int .i64 (A.v)), na, (Value.int .i64 (A.r))]), (Arr 24 b2 [(Value.int .i64 ((exX A i).v)), u1, (Value.int .i64 ((exX A i).r))]), (Arr 24 b3 [(Value.int .i64 ((rsD A i true).v)), u2, (Value.int .i64 ((rsD A i true).r))]), (Arr 24 b4 [(Value.int .i64 ((rsD A i false).v)), u3, (Value.int .i64 ((rsD A i false).r))]), (Arr 24 b5 [(Value.int .i64 (A.v)), u4, (Value.int .i64 (A.r))]), (Arr 24 b6 [(Value.int .i64 ((exN A).v)), u5, (Value.int .i64 ((exN A).r))]), (Arr 24 b8 [(Value.int .i64 ((exS A i).v)), u6, (Value.int .i64 ((exS A i).r))]), (Arr 24 b9 [(Value.int .i64 ((exF A i).v)), u7, (Value.int .i64 ((exF A i).r))])]) (List.perm_middle (l₁ := [(Arr 24 b1 [(Value.int .i64 (A.v)), na, (Value.int .i64 (A.r))]), (Arr 24 b2 [(Value.int .i64 ((exX A i).v)), u1, (Value.int .i64 ((exX A i).r))]), (Arr 24 b3 [(Value.int .i64 ((rsD A i true).v)), u2, (Value.int .i64 ((rsD A i true).r))]), (Arr 24 b4 [(Value.int .i64 ((rsD A i false).v)), u3, (Value.int .i64 ((rsD A i false).r))]), (Arr 24 b5 [(Value.int .i64 (A.v)), u4, (Value.int .i64 (A.r))]), (Arr 24 b6 [(Value.int .i64 ((exN A).v)), u5, (Value.int .i64 ((exN A).r))]), (Arr 24 b8 [(Value.int .i64 ((exS A i).v)), u6, (Value.int .i64 ((exS A i).r))]), (Arr 24 b9 [(Value.int .i64 ((exF A i).v)), u7, (Value.int .i64 ((exF A i).r))])]) (l₂ := [])) (fun Vf2 hVf2 hb2 => ?_)
      have hc2 : Cells Vf2 b10 [(Value.int .i64 i)] := ⟨_, _, hb2⟩
      have hA := hA.mono hVf2
      have h1 := h1.mono hVf2
      have h2 := h2.mono hVf2
      have h3 := h3.mono hVf2
      have h4 := h4.mono hVf2
      have h5 := h5.mono hVf2
      have hc1 := hc1.mono hVf2
      have h6 := h6.mono hVf2
      have h7 := h7.mono hVf2
      refine ops_call (σa := []) (σr := [(Arr 24 b1 [(.int .i64 A.v), na, (.int .i64 A.r)]), (Arr 24 b2 [(.int .i64 ((exX A i).v)), u1, (.int .i64 ((exX A i).r))]), (Arr 24 b3 [(.int .i64 ((rsD A i true).v)), u2, (.int .i64 ((rsD A i true).r))]), (Arr 24 b4 [(.int .i64 ((rsD A i false).v)), u3, (.int .i64 ((rsD A i false).r))]), (Arr 24 b5 [(.int .i64 A.v), u4, (.int .i64 A.r)]), (Arr 24 b6 [(.int .i64 ((exN A).v)), u5, (.int .i64 ((exN A).r))]), (Arr 24 b8 [(.int .i64 ((exS A i).v)), u6, (.int .i64 ((exS A i).r))]), (Arr 24 b9 [(.int .i64 ((exF A i).v)), u7, (.int .i64 ((exF A i).r))])]) (by have h := Forall_c hA (ints_cells (xs := [i]) (n := 1) (c := 1) hc2 rfl (Nat.le_refl _) (by omega)) h12; rw [(ex_fa hokA h12 hi0 hi1).1, (ex_fa hokA h12 hi0 hi1).2] at h; exact h) rfl rfl (.refl _) (fun r8 V8 sg8 hV8 hp8 => ?_)
      obtain ⟨rfl, u8, rfl, h8⟩ := hp8
      have hA := hA.mono hV8
      have h1 := h1.mono hV8
      have h2 := h2.mono hV8
      have h3 := h3.mono hV8
      have h4 := h4.mono hV8
      have h5 := h5.mono hV8
      have hc1 := hc1.mono hV8
      have h6 := h6.mono hV8
      have h7 := h7.mono hV8
      have hc2 := hc2.mono hV8
      refine oq (qv_mv (.tuple #[(.agg #[(.int .i64 ((exF A i).v)), u8, (.int .i64 ((exF A i).r))]), (Value.int .i64 0)]) rfl) ?_
      refine oq (qv_ext (.agg #[(.int .i64 ((exF A i).v)), u8, (.int .i64 ((exF A i).r))]) rfl rfl) ?_
      refine oq (qv_ext (Value.int .i64 0) rfl rfl) ?_
      refine ops_alloc Try.ti24 rfl (fun b11 => ?_)
      refine ops_stw (k := 8) (vs := [(.int .i64 ((exF A i).v)), u8, (.int .i64 ((exF A i).r))]) Try.size24 rfl rfl rfl (allc rfl (allc (SlS.one h8) (allc rfl rfl))) rfl rfl ?_
      refine oq (qv_as (Value.int .i64 0) rfl) ?_
      refine ops_nil ?_
      refine vc_seq ?_
      refine vc_res (σ' := [(Arr 24 b1 [(.int .i64 A.v), na, (.int .i64 A.r)]), (Arr 24 b2 [(.int .i64 ((exX A i).v)), u1, (.int .i64 ((exX A i).r))]), (Arr 24 b3 [(.int .i64 ((rsD A i true).v)), u2, (.int .i64 ((rsD A i true).r))]), (Arr 24 b4 [(.int .i64 ((rsD A i false).v)), u3, (.int .i64 ((rsD A i false).r))]), (Arr 24 b5 [(.int .i64 A.v), u4, (.int .i64 A.r)]), (Arr 24 b6 [(.int .i64 ((exN A).v)), u5, (.int .i64 ((exN A).r))]), (Arr 24 b8 [(.int .i64 ((exS A i).v)), u6, (.int .i64 ((exS A i).r))]), (Arr 24 b9 [(.int .i64 ((exF A i).v)), u7, (.int .i64 ((exF A i).r))]), (Arr 24 b11 [(.int .i64 ((exF A i).v)), u8, (.int .i64 ((exF A i).r))])]) rfl ?_
      refine vc_region ?_
      refine oq (qv_ldm (vs := [(.int .i64 A.v), na, (.int .i64 A.r)]) Try.agg24 rfl (inOc (k := 0) rfl) rfl rfl) ?_
      refine ops_call (σa := []) (σr := [(Arr 24 b1 [(.int .i64 A.v), na, (.int .i64 A.r)]), (Arr 24 b2 [(.int .i64 ((exX A i).v)), u1, (.int .i64 ((exX A i).r))]), (Arr 24 b3 [(.int .i64 ((rsD A i true).v)), u2, (.int .i64 ((rsD A i true).r))]), (Arr 24 b4 [(.int .i64 ((rsD A i false).v)), u3, (.int .i64 ((rsD A i false).r))]), (Arr 24 b5 [(.int .i64 A.v), u4, (.int .i64 A.r)]), (Arr 24 b6 [(.int .i64 ((exN A).v)), u5, (.int .i64 ((exN A).r))]), (Arr 24 b8 [(.int .i64 ((exS A i).v)), u6, (.int .i64 ((exS A i).r))]), (Arr 24 b9 [(.int .i64 ((exF A i).v)), u7, (.int .i64 ((exF A i).r))]), (Arr 24 b11 [(.int .i64 ((exF A i).v)), u8, (.int .i64 ((exF A i).r))])]) (by have h := Count_c hA; rw [vE1 hokA] at h; exact h) rfl rfl (.refl _) (fun r9 V9 sg9 hV9 hp9 => ?_)
      obtain ⟨rfl, rfl⟩ := hp9
      have hA := hA.mono hV9
      have h1 := h1.mono hV9
      have h2 := h2.mono hV9
      have h3 := h3.mono hV9
      have h4 := h4.mono hV9
      have h5 := h5.mono hV9
      have hc1 := hc1.mono hV9
      have h6 := h6.mono hV9
      have h7 := h7.mono hV9
      have hc2 := hc2.mono hV9
      have h8 := h8.mono hV9
      refine oq (qv_mv (.tuple #[(.int .i64 (cnN A)), (Value.int .i64 0)]) rfl) ?_
      refine oq (qv_ext (.int .i64 (cnN A)) rfl rfl) ?_
      refine oq (qv_ext (Value.int .i64 0) rfl rfl) ?_
      refine oq (qv_as (.int .i64 (cnN A)) rfl) ?_
      refine oq (qv_as (Value.int .i64 0) rfl) ?_
      refine ops_nil ?_
      refine vc_seq ?_
      refine vc_region ?_
      refine oq (qv_ldm (vs := [(.int .i64 ((exN A).v)), u5, (.int .i64 ((exN A).r))]) Try.agg24 rfl (inOc (k := 5) rfl) rfl rfl) ?_
      refine ops_call (σa := []) (σr := [(Arr 24 b1 [(.int .i64 A.v), na, (.int .i64 A.r)]), (Arr 24 b2 [(.int .i64 ((exX A i).v)), u1, (.int .i64 ((exX A i).r))]), (Arr 24 b3 [(.int .i64 ((rsD A i true).v)), u2, (.int .i64 ((rsD A i true).r))]), (Arr 24 b4 [(.int .i64 ((rsD A i false).v)), u3, (.int .i64 ((rsD A i false).r))]), (Arr 24 b5 [(.int .i64 A.v), u4, (.int .i64 A.r)]), (Arr 24 b6 [(.int .i64 ((exN A).v)), u5, (.int .i64 ((exN A).r))]), (Arr 24 b8 [(.int .i64 ((exS A i).v)), u6, (.int .i64 ((exS A i).r))]), (Arr 24 b9 [(.int .i64 ((exF A i).v)), u7, (.int .i64 ((exF A i).r))]), (Arr 24 b11 [(.int .i64 ((exF A i).v)), u8, (.int .i64 ((exF A i).r))])]) (by have h := Count_c (A := exN A) h5; rw [vE1 (exN_ok hokA h12 hi0 hi1)] at h; exact h) rfl rfl (.refl _) (fun r10 V10 sg10 hV10 hp10 => ?_)
      obtain ⟨rfl, rfl⟩ := hp10
      have hA := hA.mono hV10
      have h1 := h1.mono hV10
      have h2 := h2.mono hV10
      have h3 := h3.mono hV10
      have h4 := h4.mono hV10
      have h5 := h5.mono hV10
      have hc1 := hc1.mono hV10
      have h6 := h6.mono hV10
      have h7 := h7.mono hV10
      have hc2 := hc2.mono hV10
      have h8 := h8.mono hV10
      refine oq (qv_mv (.tuple #[(.int .i64 (cnN (exN A))), (Value.int .i64 0)]) rfl) ?_
      refine oq (qv_ext (.int .i64 (cnN (exN A))) rfl rfl) ?_
      refine oq (qv_ext (Value.int .i64 0) rfl rfl) ?_
      refine oq (qv_as (.int .i64 (cnN (exN A))) rfl) ?_
      refine oq (qv_as (Value.int .i64 0) rfl) ?_
      refine ops_nil ?_
      refine vc_seq ?_
      refine vc_region ?_
      refine oq (qv_mv (Value.int .i64 0) rfl) ?_
      refine oq (qv_eql rfl rfl) ?_
      refine oq (qv_mv (.bool (decide (0 = 0))) rfl) ?_
      by_cases g5 : 0 = 0
      ·
       refine og (qv_mv (Value.int .i64 0) rfl) (want_t g5 rfl rfl rfl) ?_
       refine og (qv_eql rfl rfl) (want_t g5 rfl rfl rfl) ?_
       refine oq (qv_pick_t g5 rfl (rfl : ev _ _ = (.bool (decide (0 = 0))))) ?_
       refine oq (qv_mv (.bool (decide (0 = 0))) rfl) ?_
       refine og (qv_mv (Value.int .i64 0) rfl) (want_t g5 rfl rfl rfl) ?_
       refine og (qv_eql rfl rfl) (want_t g5 rfl rfl rfl) ?_
       refine oq (qv_pick_t g5 rfl (rfl : ev _ _ = (.bool (decide (0 = 0))))) ?_
       refine oq (qv_mv (.bool (decide (0 = 0))) rfl) ?_
       refine og (qv_mv (Value.int .i64 0) rfl) (want_t g5 rfl rfl rfl) ?_
       refine og (qv_eql rfl rfl) (want_t g5 rfl rfl rfl) ?_
       refine oq (qv_pick_t g5 rfl (rfl : ev _ _ = (.bool (decide (0 = 0))))) ?_
       refine oq (qv_mv (.bool (decide (0 = 0))) rfl) ?_
       refine og (qv_ldm (vs := [(.int .i64 A.v), u4, (.int .i64 A.r)]) Try.agg24 rfl (inOc (k := 4) rfl) rfl rfl) (want_t g5 rfl rfl rfl) ?_
       refine og (qv_ldm (vs := [(.int .i64 A.v), na, (.int .i64 A.r)]) Try.agg24 rfl (inOc (k := 0) rfl) rfl rfl) (want_t g5 rfl rfl rfl) ?_
       refine og (qv_call (v := (.bool (decide (A = A)))) (same_c (A := (A)) (B := A) h4 (hA)) rfl rfl) (want_t g5 rfl rfl rfl) ?_
       refine oq (qv_pick_t g5 rfl (rfl : ev _ _ = (.bool (decide (A = A))))) ?_
       refine oq (qv_mv (.bool (decide (A = A))) rfl) ?_
       by_cases g6 : A = A
       ·
        refine og (qv_ldm (vs := [(.int .i64 ((exF A i).v)), u7, (.int .i64 ((exF A i).r))]) Try.agg24 rfl (inOc (k := 7) rfl) rfl rfl) (want_t g6 rfl rfl rfl) ?_
        refine og (qv_ldm (vs := [(.int .i64 ((exF A i).v)), u8, (.int .i64 ((exF A i).r))]) Try.agg24 rfl (inOc (k := 8) rfl) rfl rfl) (want_t g6 rfl rfl rfl) ?_
        refine og (qv_call (v := (.bool (decide (exF A i = exF A i)))) (same_c (A := (exF A i)) (B := exF A i) h7 (h8)) rfl rfl) (want_t g6 rfl rfl rfl) ?_
        refine oq (qv_pick_t g6 rfl (rfl : ev _ _ = (.bool (decide (exF A i = exF A i))))) ?_
        refine oq (qv_mv (.bool (decide (exF A i = exF A i))) rfl) ?_
        by_cases g7 : exF A i = exF A i
        ·
         refine og (qv_mv (.int .i64 (cnN A)) rfl) (want_t g7 rfl rfl rfl) ?_
         refine og (qv_mv (.int .i64 (cnN (exN A))) rfl) (want_t g7 rfl rfl rfl) ?_
         refine og (qv_add rfl rfl (by omega)) (want_t g7 rfl rfl rfl) ?_
         refine og (qv_fa (off := 0) Try.field24_0 rfl) (want_t g7 rfl rfl rfl) ?_
         refine og (qv_ldp (v := (.int .i64 A.v)) Try.plain3 rfl (inOc (k := 0) rfl) rfl) (want_t g7 rfl rfl rfl) ?_
         refine og (qv_call (v := (.int .i64 ((2 : Int) ^ A.v.toNat))) (power_c (by omega)) rfl rfl) (want_t g7 rfl rfl rfl) ?_
         refine og (qv_eql rfl rfl) (want_t g7 rfl rfl rfl) ?_
         refine oq (qv_pick_t g7 rfl (rfl : ev _ _ = (.bool (decide (((cnN A) + (cnN (exN A))) = ((2 : Int) ^ A.v.toNat)))))) ?_
         refine oq (qv_as (.bool (decide (((cnN A) + (cnN (exN A))) = ((2 : Int) ^ A.v.toNat)))) rfl) ?_
         refine ops_nil ?_
         refine vc_ret ?_
         exact rq1 (Value.bool true) (congrArg Value.bool (decide_eq_true (show (((cnN A) + (cnN (exN A))) = ((2 : Int) ^ A.v.toNat)) from by exact hcnt))) rfl
        ·
         exact absurd (rfl) g7
       ·
        exact absurd (rfl) g6
      ·
       exact absurd (rfl) g5

end Go.Proofs.Ytgehdgeiikjohaa
