/- Walks of bdd: what each function returns. Printed by a program out of notes. -/
import Derived.Test.YtgehdgeiikjohaaBo
import Derived.Test.YtgehdgeiikjohaaWd
namespace Go.Proofs.Ytgehdgeiikjohaa
open Go.Vc
open Classical

set_option maxRecDepth 100000 in
set_option maxHeartbeats 4000000 in
theorem known_c {V : HV} :
    FnC Try.prog 13 [] V [] (fun v _ _ => v = (Value.bool true)) := by
 refine fn_intro (N := 54) Try.func13 (by kernel_rfl) rfl rfl rfl (Nat.le_of_ble_eq_true rfl) ?_
 intro w0 D
 refine vc_seq ?_
 refine vc_region ?_
 refine oq (qv_as (Value.bool false) rfl) ?_
 refine ops_nil ?_
 refine vc_seq ?_
 refine vc_region ?_
 refine ops_call (σa := []) (σr := []) (by have h := Variable_c (V := V) (vars := 2) (i := 0); rw [va_x.1, va_x.2] at h; exact h) rfl rfl (.refl _) (fun r1 V1 sg1 hV1 hp1 => ?_)
 obtain ⟨rfl, ux, rfl, hX⟩ := hp1
 refine oq (qv_mv (.tuple #[(.agg #[(Value.int .i64 2), ux, (Value.int .i64 2)]), (Value.int .i64 0)]) rfl) ?_
 refine oq (qv_ext (.agg #[(Value.int .i64 2), ux, (Value.int .i64 2)]) rfl rfl) ?_
 refine oq (qv_ext (Value.int .i64 0) rfl rfl) ?_
 refine ops_alloc Try.ti24 rfl (fun b1 => ?_)
 refine ops_stw (k := 0) (vs := [(Value.int .i64 2), ux, (Value.int .i64 2)]) Try.size24 rfl rfl rfl (allc rfl (allc (SlS.one hX) (allc rfl rfl))) rfl rfl ?_
 refine oq (qv_as (Value.int .i64 0) rfl) ?_
 refine ops_nil ?_
 refine vc_seq ?_
 refine vc_res (σ' := [(Arr 24 b1 [(Value.int .i64 2), ux, (Value.int .i64 2)])]) rfl ?_
 refine vc_region ?_
 refine ops_call (σa := []) (σr := [(Arr 24 b1 [(Value.int .i64 2), ux, (Value.int .i64 2)])]) (by have h := Variable_c (V := V1) (vars := 2) (i := 1); rw [va_y.1, va_y.2] at h; exact h) rfl rfl (.refl _) (fun r2 V2 sg2 hV2 hp2 => ?_)
 obtain ⟨rfl, uy, rfl, hY⟩ := hp2
 have hX := hX.mono hV2
 refine oq (qv_mv (.tuple #[(.agg #[(Value.int .i64 2), uy, (Value.int .i64 2)]), (Value.int .i64 0)]) rfl) ?_
 refine oq (qv_ext (.agg #[(Value.int .i64 2), uy, (Value.int .i64 2)]) rfl rfl) ?_
 refine oq (qv_ext (Value.int .i64 0) rfl rfl) ?_
 refine ops_alloc Try.ti24 rfl (fun b2 => ?_)
 refine ops_stw (k := 1) (vs := [(Value.int .i64 2), uy, (Value.int .i64 2)]) Try.size24 rfl rfl rfl (allc rfl (allc (SlS.one hY) (allc rfl rfl))) rfl rfl ?_
 refine oq (qv_as (Value.int .i64 0) rfl) ?_
 refine ops_nil ?_
 refine vc_seq ?_
 refine vc_res (σ' := [(Arr 24 b1 [(Value.int .i64 2), ux, (Value.int .i64 2)]), (Arr 24 b2 [(Value.int .i64 2), uy, (Value.int .i64 2)])]) rfl ?_
 refine vc_region ?_
 refine oq (qv_ldm (vs := [(Value.int .i64 2), ux, (Value.int .i64 2)]) Try.agg24 rfl (inOc (k := 0) rfl) rfl rfl) ?_
 refine oq (qv_ldm (vs := [(Value.int .i64 2), uy, (Value.int .i64 2)]) Try.agg24 rfl (inOc (k := 1) rfl) rfl rfl) ?_
 refine ops_call (σa := []) (σr := [(Arr 24 b1 [(Value.int .i64 2), ux, (Value.int .i64 2)]), (Arr 24 b2 [(Value.int .i64 2), uy, (Value.int .i64 2)])]) (by have h := Apply_c (op := 8) (A := X0) (B := Y0) hX hY (by show (2 : Int) ≤ 12; omega); rw [and_ans.1, and_ans.2] at h; exact h) rfl rfl (.refl _) (fun r3 V3 sg3 hV3 hp3 => ?_)
 obtain ⟨rfl, ua, rfl, hA⟩ := hp3
 have hX := hX.mono hV3
 have hY := hY.mono hV3
 refine oq (qv_mv (.tuple #[(.agg #[(Value.int .i64 2), ua, (Value.int .i64 3)]), (Value.int .i64 0)]) rfl) ?_
 refine oq (qv_ext (.agg #[(Value.int .i64 2), ua, (Value.int .i64 3)]) rfl rfl) ?_
 refine oq (qv_ext (Value.int .i64 0) rfl rfl) ?_
 refine ops_alloc Try.ti24 rfl (fun b3 => ?_)
 refine ops_stw (k := 2) (vs := [(Value.int .i64 2), ua, (Value.int .i64 3)]) Try.size24 rfl rfl rfl (allc rfl (allc (SlS.one hA) (allc rfl rfl))) rfl rfl ?_
 refine oq (qv_as (Value.int .i64 0) rfl) ?_
 refine ops_nil ?_
 refine vc_seq ?_
 refine vc_res (σ' := [(Arr 24 b1 [(Value.int .i64 2), ux, (Value.int .i64 2)]), (Arr 24 b2 [(Value.int .i64 2), uy, (Value.int .i64 2)]), (Arr 24 b3 [(Value.int .i64 2), ua, (Value.int .i64 3)])]) rfl ?_
 refine vc_region ?_
 refine oq (qv_ldm (vs := [(Value.int .i64 2), ua, (Value.int .i64 3)]) Try.agg24 rfl (inOc (k := 2) rfl) rfl rfl) ?_
 refine ops_call (σa := []) (σr := [(Arr 24 b1 [(Value.int .i64 2), ux, (Value.int .i64 2)]), (Arr 24 b2 [(Value.int .i64 2), uy, (Value.int .i64 2)]), (Arr 24 b3 [(Value.int .i64 2), ua, (Value.int .i64 3)])]) (by have h := Count_c (A := A0) hA; rw [a_cnt, a_vE] at h; exact h) rfl rfl (.refl _) (fun r4 V4 sg4 hV4 hp4 => ?_)
 obtain ⟨rfl, rfl⟩ := hp4
 have hX := hX.mono hV4
 have hY := hY.mono hV4
 have hA := hA.mono hV4
 refine oq (qv_mv (.tuple #[(Value.int .i64 1), (Value.int .i64 0)]) rfl) ?_
 refine oq (qv_ext (Value.int .i64 1) rfl rfl) ?_
 refine oq (qv_ext (Value.int .i64 0) rfl rfl) ?_
 refine oq (qv_as (Value.int .i64 1) rfl) ?_
 refine oq (qv_as (Value.int .i64 0) rfl) ?_
 refine ops_nil ?_
 refine vc_seq ?_
 refine vc_region ?_
 refine oq (qv_mv (Value.int .i64 0) rfl) ?_
 refine oq (qv_eql rfl rfl) ?_
 refine oq (qv_mv (.bool (decide (0 = 0))) rfl) ?_
 by_cases g1 : 0 = 0
 ·
  refine og (qv_mv (Value.int .i64 0) rfl) (want_t g1 rfl rfl rfl) ?_
  refine og (qv_eql rfl rfl) (want_t g1 rfl rfl rfl) ?_
  refine oq (qv_pick_t g1 rfl (rfl : ev _ _ = (.bool (decide (0 = 0))))) ?_
  refine oq (qv_mv (.bool (decide (0 = 0))) rfl) ?_
  refine og (qv_mv (Value.int .i64 0) rfl) (want_t g1 rfl rfl rfl) ?_
  refine og (qv_eql rfl rfl) (want_t g1 rfl rfl rfl) ?_
  refine oq (qv_pick_t g1 rfl (rfl : ev _ _ = (.bool (decide (0 = 0))))) ?_
  refine oq (qv_mv (.bool (decide (0 = 0))) rfl) ?_
  refine og (qv_mv (Value.int .i64 0) rfl) (want_t g1 rfl rfl rfl) ?_
  refine og (qv_eql rfl rfl) (want_t g1 rfl rfl rfl) ?_
  refine oq (qv_pick_t g1 rfl (rfl : ev _ _ = (.bool (decide (0 = 0))))) ?_
  refine oq (qv_mv (.bool (decide (0 = 0))) rfl) ?_
  refine og (qv_mv (Value.int .i64 1) rfl) (want_t g1 rfl rfl rfl) ?_
  refine og (qv_eql rfl rfl) (want_t g1 rfl rfl rfl) ?_
  refine oq (qv_pick_t g1 rfl (rfl : ev _ _ = (.bool (decide (1 = 1))))) ?_
  refine oq (qv_mv (.bool (decide (1 = 1))) rfl) ?_
  by_cases g2 : 1 = 1
  ·
   refine og (qv_ldm (vs := [(Value.int .i64 2), ua, (Value.int .i64 3)]) Try.agg24 rfl (inOc (k := 2) rfl) rfl rfl) (want_t g2 rfl rfl rfl) ?_
   refine og (qv_build (out := [(Value.int .i64 1), (Value.int .i64 0), (Value.int .i64 1)]) Try.build42 [(0, [(Value.int .i64 1)]), (1, [(Value.int .i64 0)]), (2, [(Value.int .i64 1)])] rfl rfl) (want_t g2 rfl rfl rfl) ?_
   refine og (qv_build (out := [(Value.int .i64 0), (Value.int .i64 0), (Value.int .i64 2)]) Try.build42 [(0, [(Value.int .i64 0)]), (1, [(Value.int .i64 0)]), (2, [(Value.int .i64 2)])] rfl rfl) (want_t g2 rfl rfl rfl) ?_
   refine ops_want (want_t g2 rfl rfl rfl) ?_
   refine ops_lit (n := 2) (s := 3) (cs := [(Value.int .i64 1), (Value.int .i64 0), (Value.int .i64 1), (Value.int .i64 0), (Value.int .i64 0), (Value.int .i64 2)]) Try.underlying22 Try.ti42 (Nat.le_of_ble_eq_true rfl) rfl rfl rfl (Nat.le_of_ble_eq_true rfl) rfl (fun b4 => ?_)
   refine ops_freeze (b := b4) (o := .cells ([(Value.int .i64 1), (Value.int .i64 0), (Value.int .i64 1), (Value.int .i64 0), (Value.int .i64 0), (Value.int .i64 2)] : List Value).toArray 42 (0, 0)) (σr := [(Arr 24 b1 [(Value.int .i64 2), ux, (Value.int .i64 2)]), (Arr 24 b2 [(Value.int .i64 2), uy, (Value.int .i64 2)]), (Arr 24 b3 [(Value.int .i64 2), ua, (Value.int .i64 3)])]) (List.perm_middle (l₁ := [(Arr 24 b1 [(Value.int .i64 2), ux, (Value.int .i64 2)]), (Arr 24 b2 [(Value.int .i64 2), uy, (Value.int .i64 2)]), (Arr 24 b3 [(Value.int .i64 2), ua, (Value.int .i64 3)])]) (l₂ := [])) (fun Vf1 hVf1 hb1 => ?_)
   have hc1 : Cells Vf1 b4 [(Value.int .i64 1), (Value.int .i64 0), (Value.int .i64 1), (Value.int .i64 0), (Value.int .i64 0), (Value.int .i64 2)] := ⟨_, _, hb1⟩
   have hX := hX.mono hVf1
   have hY := hY.mono hVf1
   have hA := hA.mono hVf1
   refine og (qv_build (out := [(Value.int .i64 2), (.slice (some ⟨b4, 0, none⟩) 2 2), (Value.int .i64 3)]) Try.build24 [(0, [(Value.int .i64 2)]), (1, [(.slice (some ⟨b4, 0, none⟩) 2 2)]), (2, [(Value.int .i64 3)])] rfl rfl) (want_t g2 rfl rfl rfl) ?_
   refine og (qv_call (v := (.bool (decide (A0 = A0)))) (same_c (A := A0) (B := A0) hA (cells_sls (n := 2) (c := 2) hc1 rfl (Nat.le_refl _) (by omega))) rfl rfl) (want_t g2 rfl rfl rfl) ?_
   refine oq (qv_pick_t g2 rfl (rfl : ev _ _ = (.bool (decide (A0 = A0))))) ?_
   refine oq (qv_as (.bool (decide (A0 = A0))) rfl) ?_
   refine ops_nil ?_
   refine vc_ret ?_
   exact rq1 (Value.bool true) (congrArg Value.bool (decide_eq_true (show (A0 = A0) from by rfl))) rfl
  ·
   exact absurd (rfl) g2
 ·
  exact absurd (rfl) g1

end Go.Proofs.Ytgehdgeiikjohaa
