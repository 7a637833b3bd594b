/- Walks of numeric: what each function returns. Printed by a program out of notes. -/
import Derived.Test.YtapkilaikcihgaaNn
import Derived.Test.YtapkilaikcihgaaNmQ
namespace Go.Proofs.Ytapkilaikcihgaa
open Go.Vc
open Classical

set_option maxRecDepth 100000 in
set_option maxHeartbeats 4000000 in
theorem flags_c {V : HV} {p q : Prop} {ip : Decidable p} {iq : Decidable q} :
    FnC Try.prog 59 [(.bool (@decide p ip)), (.bool (@decide q iq))] V [] (fun v _ _ => v = (.agg #[(.int .i64 ((fgF p q).l)), (.int .i64 ((fgF p q).h)), (.int .i64 ((fgF p q).s))])) := by
 refine fn_intro (N := 16) Try.func59 (by kernel_rfl) rfl rfl rfl (Nat.le_of_ble_eq_true rfl) ?_
 intro w0 D
 refine vc_seq ?_
 refine vc_region ?_
 refine ops_alloc Try.ti23 rfl (fun b1 => ?_)
 refine ops_nil ?_
 refine vc_seq ?_
 refine vc_res (σ' := [(Arr 23 b1 [(Value.int .i64 0), (Value.int .i64 0), (Value.int .i64 0)])]) rfl ?_
 refine vc_region ?_
 refine oq (qv_call (v := (.agg #[(.int .i64 nE.l), (.int .i64 nE.h), (.int .i64 nE.s)])) (none_c) rfl rfl) ?_
 refine ops_alloc Try.ti23 rfl (fun b2 => ?_)
 refine ops_stw (k := 1) (vs := [(.int .i64 nE.l), (.int .i64 nE.h), (.int .i64 nE.s)]) Try.size23 rfl rfl rfl rfl rfl rfl ?_
 refine ops_nil ?_
 refine vc_seq ?_
 refine vc_seq ?_
 refine vc_res (σ' := [(Arr 23 b1 [(Value.int .i64 0), (Value.int .i64 0), (Value.int .i64 0)]), (Arr 23 b2 [(.int .i64 nE.l), (.int .i64 nE.h), (.int .i64 nE.s)])]) rfl ?_
 refine vc_region ?_
 refine oq (qv_mv (.bool (@decide p ip)) rfl) ?_
 refine ops_nil ?_
 refine vc_if rfl (fun c1 => ?_) (fun c1 => ?_)
 ·
  refine vc_region_order (τ := []) [(0, false), (1, false), (2, false), (3, true)] [(Arr 23 b1 [(Value.int .i64 0), (Value.int .i64 0), (Value.int .i64 0)]), (Arr 23 b2 [(.int .i64 nE.l), (.int .i64 nE.h), (.int .i64 nE.s)])] Try.mixed (perm_nil _) (by kernel_rfl) ?_
  refine rq rfl (qv_ldm (vs := [(.int .i64 nE.l), (.int .i64 nE.h), (.int .i64 nE.s)]) Try.agg23 rfl (inOc (k := 1) rfl) rfl rfl) ?_
  refine rq rfl (qv_call (v := (.agg #[(.int .i64 ((sgl 0).l)), (.int .i64 ((sgl 0).h)), (.int .i64 ((sgl 0).s))])) (single_c) rfl rfl) ?_
  refine rq rfl (qv_call (v := (.agg #[(.int .i64 ((joinF nE (sgl 0)).l)), (.int .i64 ((joinF nE (sgl 0)).h)), (.int .i64 ((joinF nE (sgl 0)).s))])) (join_c (a := nE) (b := sgl 0) (by first | exact vld_nE | (rw [j0]; exact vld_sgl fits0)) (by first | exact vld_sgl fits0 | exact vld_sgl fits1)) rfl rfl) ?_
  refine rl1 (by kernel_rfl) rfl ?_
  refine ops_stw (k := 1) (vs := [(.int .i64 ((joinF nE (sgl 0)).l)), (.int .i64 ((joinF nE (sgl 0)).h)), (.int .i64 ((joinF nE (sgl 0)).s))]) Try.size23 rfl rfl rfl rfl rfl rfl ?_
  refine ops_nil ⟨[(Arr 23 b1 [(Value.int .i64 0), (Value.int .i64 0), (Value.int .i64 0)]), (Arr 23 b2 [(.int .i64 ((joinF nE (sgl 0)).l)), (.int .i64 ((joinF nE (sgl 0)).h)), (.int .i64 ((joinF nE (sgl 0)).s))])], [], perm_nil _, ?_⟩
  refine rnil ?_
  refine vc_seq ?_
  refine vc_seq ?_
  refine vc_res (σ' := [(Arr 23 b1 [(Value.int .i64 0), (Value.int .i64 0), (Value.int .i64 0)]), (Arr 23 b2 [(.int .i64 ((joinF nE (sgl 0)).l)), (.int .i64 ((joinF nE (sgl 0)).h)), (.int .i64 ((joinF nE (sgl 0)).s))])]) rfl ?_
  refine vc_region ?_
  refine oq (qv_mv (.bool (@decide q iq)) rfl) ?_
  refine ops_nil ?_
  refine vc_if rfl (fun c2 => ?_) (fun c2 => ?_)
  ·
   refine vc_region_order (τ := []) [(0, false), (1, false), (2, false), (3, true)] [(Arr 23 b1 [(Value.int .i64 0), (Value.int .i64 0), (Value.int .i64 0)]), (Arr 23 b2 [(.int .i64 ((joinF nE (sgl 0)).l)), (.int .i64 ((joinF nE (sgl 0)).h)), (.int .i64 ((joinF nE (sgl 0)).s))])] Try.mixed (perm_nil _) (by kernel_rfl) ?_
   refine rq rfl (qv_ldm (vs := [(.int .i64 ((joinF nE (sgl 0)).l)), (.int .i64 ((joinF nE (sgl 0)).h)), (.int .i64 ((joinF nE (sgl 0)).s))]) Try.agg23 rfl (inOc (k := 1) rfl) rfl rfl) ?_
   refine rq rfl (qv_call (v := (.agg #[(.int .i64 ((sgl 1).l)), (.int .i64 ((sgl 1).h)), (.int .i64 ((sgl 1).s))])) (single_c) rfl rfl) ?_
   refine rq rfl (qv_call (v := (.agg #[(.int .i64 ((joinF (joinF nE (sgl 0)) (sgl 1)).l)), (.int .i64 ((joinF (joinF nE (sgl 0)) (sgl 1)).h)), (.int .i64 ((joinF (joinF nE (sgl 0)) (sgl 1)).s))])) (join_c (a := joinF nE (sgl 0)) (b := sgl 1) (by first | exact vld_nE | (rw [j0]; exact vld_sgl fits0)) (by first | exact vld_sgl fits0 | exact vld_sgl fits1)) rfl rfl) ?_
   refine rl1 (by kernel_rfl) rfl ?_
   refine ops_stw (k := 1) (vs := [(.int .i64 ((joinF (joinF nE (sgl 0)) (sgl 1)).l)), (.int .i64 ((joinF (joinF nE (sgl 0)) (sgl 1)).h)), (.int .i64 ((joinF (joinF nE (sgl 0)) (sgl 1)).s))]) Try.size23 rfl rfl rfl rfl rfl rfl ?_
   refine ops_nil ⟨[(Arr 23 b1 [(Value.int .i64 0), (Value.int .i64 0), (Value.int .i64 0)]), (Arr 23 b2 [(.int .i64 ((joinF (joinF nE (sgl 0)) (sgl 1)).l)), (.int .i64 ((joinF (joinF nE (sgl 0)) (sgl 1)).h)), (.int .i64 ((joinF (joinF nE (sgl 0)) (sgl 1)).s))])], [], perm_nil _, ?_⟩
   refine rnil ?_
   refine vc_seq ?_
   refine vc_res (σ' := [(Arr 23 b1 [(Value.int .i64 0), (Value.int .i64 0), (Value.int .i64 0)]), (Arr 23 b2 [(.int .i64 ((joinF (joinF nE (sgl 0)) (sgl 1)).l)), (.int .i64 ((joinF (joinF nE (sgl 0)) (sgl 1)).h)), (.int .i64 ((joinF (joinF nE (sgl 0)) (sgl 1)).s))])]) rfl ?_
   refine vc_region ?_
   refine oq (qv_ldm (vs := [(.int .i64 ((joinF (joinF nE (sgl 0)) (sgl 1)).l)), (.int .i64 ((joinF (joinF nE (sgl 0)) (sgl 1)).h)), (.int .i64 ((joinF (joinF nE (sgl 0)) (sgl 1)).s))]) Try.agg23 rfl (inOc (k := 1) rfl) rfl rfl) ?_
   refine ops_stw (k := 0) (vs := [(.int .i64 ((joinF (joinF nE (sgl 0)) (sgl 1)).l)), (.int .i64 ((joinF (joinF nE (sgl 0)) (sgl 1)).h)), (.int .i64 ((joinF (joinF nE (sgl 0)) (sgl 1)).s))]) Try.size23 rfl rfl rfl rfl rfl rfl ?_
   refine ops_nil ?_
   refine vc_ret ?_
   refine rs1 _ (rv_c (vs := [(.int .i64 ((joinF (joinF nE (sgl 0)) (sgl 1)).l)), (.int .i64 ((joinF (joinF nE (sgl 0)) (sgl 1)).h)), (.int .i64 ((joinF (joinF nE (sgl 0)) (sgl 1)).s))]) Try.agg23 rfl (inOc (k := 0) rfl) rfl rfl) ?_
   exact (agg3 (show joinF (joinF nE (sgl 0)) (sgl 1) = fgF p q from by first | (rw [j0, j01, fg_11 (by assumption) (by assumption)]; done) | (rw [j0, fg_10 (by assumption) (by assumption)]; done) | (rw [j1, fg_01 (by assumption) (by assumption)]; done) | (rw [fg_00 (by assumption) (by assumption)]; done)))
  ·
   refine vc_skip ?_
   refine vc_seq ?_
   refine vc_region ?_
   refine oq (qv_ldm (vs := [(.int .i64 ((joinF nE (sgl 0)).l)), (.int .i64 ((joinF nE (sgl 0)).h)), (.int .i64 ((joinF nE (sgl 0)).s))]) Try.agg23 rfl (inOc (k := 1) rfl) rfl rfl) ?_
   refine ops_stw (k := 0) (vs := [(.int .i64 ((joinF nE (sgl 0)).l)), (.int .i64 ((joinF nE (sgl 0)).h)), (.int .i64 ((joinF nE (sgl 0)).s))]) Try.size23 rfl rfl rfl rfl rfl rfl ?_
   refine ops_nil ?_
   refine vc_ret ?_
   refine rs1 _ (rv_c (vs := [(.int .i64 ((joinF nE (sgl 0)).l)), (.int .i64 ((joinF nE (sgl 0)).h)), (.int .i64 ((joinF nE (sgl 0)).s))]) Try.agg23 rfl (inOc (k := 0) rfl) rfl rfl) ?_
   exact (agg3 (show joinF nE (sgl 0) = fgF p q from by first | (rw [j0, j01, fg_11 (by assumption) (by assumption)]; done) | (rw [j0, fg_10 (by assumption) (by assumption)]; done) | (rw [j1, fg_01 (by assumption) (by assumption)]; done) | (rw [fg_00 (by assumption) (by assumption)]; done)))
 ·
  refine vc_skip ?_
  refine vc_seq ?_
  refine vc_seq ?_
  refine vc_region ?_
  refine oq (qv_mv (.bool (@decide q iq)) rfl) ?_
  refine ops_nil ?_
  refine vc_if rfl (fun c3 => ?_) (fun c3 => ?_)
  ·
   refine vc_region_order (τ := []) [(0, false), (1, false), (2, false), (3, true)] [(Arr 23 b1 [(Value.int .i64 0), (Value.int .i64 0), (Value.int .i64 0)]), (Arr 23 b2 [(.int .i64 nE.l), (.int .i64 nE.h), (.int .i64 nE.s)])] Try.mixed (perm_nil _) (by kernel_rfl) ?_
   refine rq rfl (qv_ldm (vs := [(.int .i64 nE.l), (.int .i64 nE.h), (.int .i64 nE.s)]) Try.agg23 rfl (inOc (k := 1) rfl) rfl rfl) ?_
   refine rq rfl (qv_call (v := (.agg #[(.int .i64 ((sgl 1).l)), (.int .i64 ((sgl 1).h)), (.int .i64 ((sgl 1).s))])) (single_c) rfl rfl) ?_
   refine rq rfl (qv_call (v := (.agg #[(.int .i64 ((joinF nE (sgl 1)).l)), (.int .i64 ((joinF nE (sgl 1)).h)), (.int .i64 ((joinF nE (sgl 1)).s))])) (join_c (a := nE) (b := sgl 1) (by first | exact vld_nE | (rw [j0]; exact vld_sgl fits0)) (by first | exact vld_sgl fits0 | exact vld_sgl fits1)) rfl rfl) ?_
   refine rl1 (by kernel_rfl) rfl ?_
   refine ops_stw (k := 1) (vs := [(.int .i64 ((joinF nE (sgl 1)).l)), (.int .i64 ((joinF nE (sgl 1)).h)), (.int .i64 ((joinF nE (sgl 1)).s))]) Try.size23 rfl rfl rfl rfl rfl rfl ?_
   refine ops_nil ⟨[(Arr 23 b1 [(Value.int .i64 0), (Value.int .i64 0), (Value.int .i64 0)]), (Arr 23 b2 [(.int .i64 ((joinF nE (sgl 1)).l)), (.int .i64 ((joinF nE (sgl 1)).h)), (.int .i64 ((joinF nE (sgl 1)).s))])], [], perm_nil _, ?_⟩
   refine rnil ?_
   refine vc_seq ?_
   refine vc_res (σ' := [(Arr 23 b1 [(Value.int .i64 0), (Value.int .i64 0), (Value.int .i64 0)]), (Arr 23 b2 [(.int .i64 ((joinF nE (sgl 1)).l)), (.int .i64 ((joinF nE (sgl 1)).h)), (.int .i64 ((joinF nE (sgl 1)).s))])]) rfl ?_
   refine vc_region ?_
   refine oq (qv_ldm (vs := [(.int .i64 ((joinF nE (sgl 1)).l)), (.int .i64 ((joinF nE (sgl 1)).h)), (.int .i64 ((joinF nE (sgl 1)).s))]) Try.agg23 rfl (inOc (k := 1) rfl) rfl rfl) ?_
   refine ops_stw (k := 0) (vs := [(.int .i64 ((joinF nE (sgl 1)).l)), (.int .i64 ((joinF nE (sgl 1)).h)), (.int .i64 ((joinF nE (sgl 1)).s))]) Try.size23 rfl rfl rfl rfl rfl rfl ?_
   refine ops_nil ?_
   refine vc_ret ?_
   refine rs1 _ (rv_c (vs := [(.int .i64 ((joinF nE (sgl 1)).l)), (.int .i64 ((joinF nE (sgl 1)).h)), (.int .i64 ((joinF nE (sgl 1)).s))]) Try.agg23 rfl (inOc (k := 0) rfl) rfl rfl) ?_
   exact (agg3 (show joinF nE (sgl 1) = fgF p q from by first | (rw [j0, j01, fg_11 (by assumption) (by assumption)]; done) | (rw [j0, fg_10 (by assumption) (by assumption)]; done) | (rw [j1, fg_01 (by assumption) (by assumption)]; done) | (rw [fg_00 (by assumption) (by assumption)]; done)))
  ·
   refine vc_skip ?_
   refine vc_seq ?_
   refine vc_region ?_
   refine oq (qv_ldm (vs := [(.int .i64 nE.l), (.int .i64 nE.h), (.int .i64 nE.s)]) Try.agg23 rfl (inOc (k := 1) rfl) rfl rfl) ?_
   refine ops_stw (k := 0) (vs := [(.int .i64 nE.l), (.int .i64 nE.h), (.int .i64 nE.s)]) Try.size23 rfl rfl rfl rfl rfl rfl ?_
   refine ops_nil ?_
   refine vc_ret ?_
   refine rs1 _ (rv_c (vs := [(.int .i64 nE.l), (.int .i64 nE.h), (.int .i64 nE.s)]) Try.agg23 rfl (inOc (k := 0) rfl) rfl rfl) ?_
   exact (agg3 (show nE = fgF p q from by first | (rw [j0, j01, fg_11 (by assumption) (by assumption)]; done) | (rw [j0, fg_10 (by assumption) (by assumption)]; done) | (rw [j1, fg_01 (by assumption) (by assumption)]; done) | (rw [fg_00 (by assumption) (by assumption)]; done)))

set_option maxRecDepth 100000 in
set_option maxHeartbeats 4000000 in
theorem rFlags_c {V : HV} {p q : Prop} {ip : Decidable p} {iq : Decidable q} (h : p ∨ q) :
    FnC Try.prog 60 [(.bool (@decide p ip)), (.bool (@decide q iq))] V [] (fun v _ _ => v = (.agg #[(.int .i64 ((fgF p q).l)), (.int .i64 ((fgF p q).h)), (.int .i64 ((fgF p q).s))])) := by
 refine fn_intro (N := 13) Try.func60 (by kernel_rfl) rfl rfl rfl (Nat.le_of_ble_eq_true rfl) ?_
 intro w0 D
 refine vc_seq ?_
 refine vc_region ?_
 refine ops_alloc Try.ti23 rfl (fun b1 => ?_)
 refine ops_nil ?_
 refine vc_seq ?_
 refine vc_seq ?_
 refine vc_res (σ' := [(Arr 23 b1 [(Value.int .i64 0), (Value.int .i64 0), (Value.int .i64 0)])]) rfl ?_
 refine vc_region ?_
 refine oq (qv_mv (.bool (@decide p ip)) rfl) ?_
 refine oq (qv_mv (.bool (@decide p ip)) rfl) ?_
 by_cases g1 : p
 ·
  refine og (qv_mv (.bool (@decide q iq)) rfl) (want_t g1 rfl rfl rfl) ?_
  refine oq (qv_pick_t g1 rfl (rfl : ev _ _ = (.bool (@decide q iq)))) ?_
  refine ops_nil ?_
  refine vc_if rfl (fun c1 => ?_) (fun c1 => ?_)
  ·
   refine vc_seq ?_
   refine vc_region ?_
   refine oq (qv_build (out := [(Value.int .i64 0), (Value.int .i64 1), (Value.int .i64 1)]) Try.build23 [(1, [(Value.int .i64 1)]), (2, [(Value.int .i64 1)])] rfl rfl) ?_
   refine ops_stw (k := 0) (vs := [(Value.int .i64 0), (Value.int .i64 1), (Value.int .i64 1)]) Try.size23 rfl rfl rfl rfl rfl rfl ?_
   refine ops_nil ?_
   refine vc_ret ?_
   refine rs1 _ (rv_c (vs := [(Value.int .i64 0), (Value.int .i64 1), (Value.int .i64 1)]) Try.agg23 rfl (inOc (k := 0) rfl) rfl rfl) ?_
   exact (agg3 (show (⟨0, 1, 1⟩ : Nm) = fgF p q from by first | (rw [fg_11 (by assumption) (by assumption)]; done) | (rw [fg_01 (by assumption) (by assumption)]; done) | (rw [fg_01 (fun z => absurd (show p ∧ q from ⟨z, by assumption⟩) (by assumption)) (by assumption)]; done) | (rw [fg_10 (h.resolve_right (by assumption)) (by assumption)]; done)))
  ·
   refine vc_skip ?_
   refine vc_seq ?_
   refine vc_seq ?_
   refine vc_region ?_
   refine oq (qv_mv (.bool (@decide q iq)) rfl) ?_
   refine ops_nil ?_
   refine vc_if_f rfl c1 ?_
   refine vc_skip ?_
   refine vc_seq ?_
   refine vc_region ?_
   refine oq (qv_build (out := [(Value.int .i64 0), (Value.int .i64 0), (Value.int .i64 0)]) Try.build23 [] rfl rfl) ?_
   refine ops_stw (k := 0) (vs := [(Value.int .i64 0), (Value.int .i64 0), (Value.int .i64 0)]) Try.size23 rfl rfl rfl rfl rfl rfl ?_
   refine ops_nil ?_
   refine vc_ret ?_
   refine rs1 _ (rv_c (vs := [(Value.int .i64 0), (Value.int .i64 0), (Value.int .i64 0)]) Try.agg23 rfl (inOc (k := 0) rfl) rfl rfl) ?_
   exact (agg3 (show (⟨0, 0, 0⟩ : Nm) = fgF p q from by first | (rw [fg_11 (by assumption) (by assumption)]; done) | (rw [fg_01 (by assumption) (by assumption)]; done) | (rw [fg_01 (fun z => absurd (show p ∧ q from ⟨z, by assumption⟩) (by assumption)) (by assumption)]; done) | (rw [fg_10 (h.resolve_right (by assumption)) (by assumption)]; done)))
 ·
  refine os (want_tn g1 rfl rfl rfl) ?_
  refine oq (qv_pick_f g1 rfl (rfl : ev _ _ = (Value.bool false))) ?_
  refine ops_nil ?_
  refine vc_ff rfl ?_
  refine vc_skip ?_
  refine vc_seq ?_
  refine vc_seq ?_
  refine vc_region ?_
  refine oq (qv_mv (.bool (@decide q iq)) rfl) ?_
  refine ops_nil ?_
  refine vc_if rfl (fun c2 => ?_) (fun c2 => ?_)
  ·
   refine vc_seq ?_
   refine vc_region ?_
   refine oq (qv_build (out := [(Value.int .i64 1), (Value.int .i64 1), (Value.int .i64 0)]) Try.build23 [(0, [(Value.int .i64 1)]), (1, [(Value.int .i64 1)])] rfl rfl) ?_
   refine ops_stw (k := 0) (vs := [(Value.int .i64 1), (Value.int .i64 1), (Value.int .i64 0)]) Try.size23 rfl rfl rfl rfl rfl rfl ?_
   refine ops_nil ?_
   refine vc_ret ?_
   refine rs1 _ (rv_c (vs := [(Value.int .i64 1), (Value.int .i64 1), (Value.int .i64 0)]) Try.agg23 rfl (inOc (k := 0) rfl) rfl rfl) ?_
   exact (agg3 (show (⟨1, 1, 0⟩ : Nm) = fgF p q from by first | (rw [fg_11 (by assumption) (by assumption)]; done) | (rw [fg_01 (by assumption) (by assumption)]; done) | (rw [fg_01 (fun z => absurd (show p ∧ q from ⟨z, by assumption⟩) (by assumption)) (by assumption)]; done) | (rw [fg_10 (h.resolve_right (by assumption)) (by assumption)]; done)))
  ·
   refine vc_skip ?_
   refine vc_seq ?_
   refine vc_region ?_
   refine oq (qv_build (out := [(Value.int .i64 0), (Value.int .i64 0), (Value.int .i64 0)]) Try.build23 [] rfl rfl) ?_
   refine ops_stw (k := 0) (vs := [(Value.int .i64 0), (Value.int .i64 0), (Value.int .i64 0)]) Try.size23 rfl rfl rfl rfl rfl rfl ?_
   refine ops_nil ?_
   refine vc_ret ?_
   refine rs1 _ (rv_c (vs := [(Value.int .i64 0), (Value.int .i64 0), (Value.int .i64 0)]) Try.agg23 rfl (inOc (k := 0) rfl) rfl rfl) ?_
   exact (agg3 (show (⟨0, 0, 0⟩ : Nm) = fgF p q from by first | (rw [fg_11 (by assumption) (by assumption)]; done) | (rw [fg_01 (by assumption) (by assumption)]; done) | (rw [fg_01 (fun z => absurd (show p ∧ q from ⟨z, by assumption⟩) (by assumption)) (by assumption)]; done) | (rw [fg_10 (h.resolve_right (by assumption)) (by assumption)]; done)))

set_option maxRecDepth 100000 in
set_option maxHeartbeats 4000000 in
theorem Unary_c {V : HV} {op : Int} {a : Nm} :
    FnC Try.prog 21 [(Value.int .i64 op), (.agg #[(.int .i64 a.l), (.int .i64 a.h), (.int .i64 a.s)])] V [] (fun v _ _ => v = .tuple #[(.agg #[(.int .i64 ((unN op a).l)), (.int .i64 ((unN op a).h)), (.int .i64 ((unN op a).s))]), (.int .i64 (unE op a))]) := by
 refine fn_intro (N := 42) Try.func21 (by kernel_rfl) rfl rfl rfl (Nat.le_of_ble_eq_true rfl) ?_
 intro w0 D
 refine vc_seq ?_
 refine vc_region ?_
 refine ops_box (v := (.agg #[(.int .i64 a.l), (.int .i64 a.h), (.int .i64 a.s)])) (cs := [(.int .i64 a.l), (.int .i64 a.h), (.int .i64 a.s)]) rfl rfl (fun b1 => ?_)
 refine ops_alloc Try.ti23 rfl (fun b2 => ?_)
 refine oq (qv_as (Value.int .i64 0) rfl) ?_
 refine ops_nil ?_
 refine vc_seq ?_
 refine vc_seq ?_
 refine vc_res (σ' := [(Arr 23 b1 [(.int .i64 a.l), (.int .i64 a.h), (.int .i64 a.s)]), (Arr 23 b2 [(Value.int .i64 0), (Value.int .i64 0), (Value.int .i64 0)])]) rfl ?_
 refine vc_region ?_
 refine oq (qv_ldm (vs := [(.int .i64 a.l), (.int .i64 a.h), (.int .i64 a.s)]) Try.agg23 rfl (inOc (k := 0) rfl) rfl rfl) ?_
 refine oq (qv_call (v := (.bool (decide (vld a)))) (Valid_c (a := a)) rfl rfl) ?_
 refine oq (qv_not rfl) ?_
 refine oq (qv_mv (.bool (decide (¬ (vld a)))) rfl) ?_
 by_cases g1 : ¬ (vld a)
 ·
  refine os (want_fn g1 rfl rfl rfl) ?_
  refine os (want_fn g1 rfl rfl rfl) ?_
  refine os (want_fn g1 rfl rfl rfl) ?_
  refine os (want_u rfl rfl rfl) ?_
  refine os (want_u rfl rfl rfl) ?_
  refine os (want_fn g1 rfl rfl rfl) ?_
  refine oq (qv_pick_t g1 rfl (rfl : ev _ _ = (Value.bool true))) ?_
  refine ops_nil ?_
  refine vc_tt rfl ?_
  refine vc_seq ?_
  have hno : ¬ (vld a ∧ (op = 6 ∨ op = 7)) := fun h => by first | exact absurd h.1 (by assumption) | (have := h.2; omega)
  refine vc_region ?_
  refine oq (qv_build (out := [(Value.int .i64 0), (Value.int .i64 0), (Value.int .i64 0)]) Try.build23 [] rfl rfl) ?_
  refine ops_stw (k := 1) (vs := [(Value.int .i64 0), (Value.int .i64 0), (Value.int .i64 0)]) Try.size23 rfl rfl rfl rfl rfl rfl ?_
  refine oq (qv_as (Value.int .i64 1) rfl) ?_
  refine ops_nil ?_
  refine vc_ret ?_
  refine rs2 _ (Value.int .i64 1) (rv_c (vs := [(Value.int .i64 0), (Value.int .i64 0), (Value.int .i64 0)]) Try.agg23 rfl (inOc (k := 1) rfl) rfl rfl) (rv_t rfl) ?_
  exact tup2 (agg3 (show (⟨0, 0, 0⟩ : Nm) = unN op a from by rw [unN_1 hno])) (congrArg (Value.int .i64) (show 1 = (unE op a) from by first | (rw [unE_1 hno]; done) | (rw [unE_0 hu]; done)))
 ·
  refine og (qv_mv (Value.int .i64 op) rfl) (want_f g1 rfl rfl rfl) ?_
  refine og (qv_neq rfl rfl) (want_f g1 rfl rfl rfl) ?_
  refine og (qv_mv (.bool (decide (op ≠ 6))) rfl) (want_f g1 rfl rfl rfl) ?_
  by_cases g2 : op ≠ 6
  ·
   refine og (qv_mv (Value.int .i64 op) rfl) (want_t g2 rfl rfl rfl) ?_
   refine og (qv_neq rfl rfl) (want_t g2 rfl rfl rfl) ?_
   refine og (qv_pick_t g2 rfl (rfl : ev _ _ = (.bool (decide (op ≠ 7))))) (want_f g1 rfl rfl rfl) ?_
   refine oq (qv_pick_f g1 rfl (rfl : ev _ _ = (.bool (decide (op ≠ 7))))) ?_
   refine ops_nil ?_
   refine vc_if rfl (fun c1 => ?_) (fun c1 => ?_)
   ·
    refine vc_seq ?_
    have hno : ¬ (vld a ∧ (op = 6 ∨ op = 7)) := fun h => by first | exact absurd h.1 (by assumption) | (have := h.2; omega)
    refine vc_region ?_
    refine oq (qv_build (out := [(Value.int .i64 0), (Value.int .i64 0), (Value.int .i64 0)]) Try.build23 [] rfl rfl) ?_
    refine ops_stw (k := 1) (vs := [(Value.int .i64 0), (Value.int .i64 0), (Value.int .i64 0)]) Try.size23 rfl rfl rfl rfl rfl rfl ?_
    refine oq (qv_as (Value.int .i64 1) rfl) ?_
    refine ops_nil ?_
    refine vc_ret ?_
    refine rs2 _ (Value.int .i64 1) (rv_c (vs := [(Value.int .i64 0), (Value.int .i64 0), (Value.int .i64 0)]) Try.agg23 rfl (inOc (k := 1) rfl) rfl rfl) (rv_t rfl) ?_
    exact tup2 (agg3 (show (⟨0, 0, 0⟩ : Nm) = unN op a from by rw [unN_1 hno])) (congrArg (Value.int .i64) (show 1 = (unE op a) from by first | (rw [unE_1 hno]; done) | (rw [unE_0 hu]; done)))
   ·
    refine vc_skip ?_
    refine vc_seq ?_
    refine vc_seq ?_
    have hv : vld a := Decidable.not_not.1 (by assumption)
    have hu : vld a ∧ (op = 6 ∨ op = 7) := ⟨hv, by omega⟩
    have bv := vld_bd hv
    unfold fits at bv
    refine vc_region ?_
    refine oq (qv_ldm (vs := [(.int .i64 a.l), (.int .i64 a.h), (.int .i64 a.s)]) Try.agg23 rfl (inOc (k := 0) rfl) rfl rfl) ?_
    refine oq (qv_call (v := (.bool (decide (a = nE)))) (isEmpty_c (a := a)) rfl rfl) ?_
    refine ops_nil ?_
    refine vc_if rfl (fun c2 => ?_) (fun c2 => ?_)
    ·
     refine vc_seq ?_
     refine vc_region ?_
     refine oq (qv_ldm (vs := [(.int .i64 a.l), (.int .i64 a.h), (.int .i64 a.s)]) Try.agg23 rfl (inOc (k := 0) rfl) rfl rfl) ?_
     refine ops_stw (k := 1) (vs := [(.int .i64 a.l), (.int .i64 a.h), (.int .i64 a.s)]) Try.size23 rfl rfl rfl rfl rfl rfl ?_
     refine oq (qv_as (Value.int .i64 0) rfl) ?_
     refine ops_nil ?_
     refine vc_ret ?_
     refine rs2 _ (Value.int .i64 0) (rv_c (vs := [(.int .i64 a.l), (.int .i64 a.h), (.int .i64 a.s)]) Try.agg23 rfl (inOc (k := 1) rfl) rfl rfl) (rv_t rfl) ?_
     exact tup2 (agg3 (show a = unN op a from by first | exact (show a = nE by assumption).trans (unN_e hu (by assumption)).symm | (rw [unN_e hu (by first | assumption | exact (vld_lt hv).1 (by assumption))]; done) | (rw [unN_7 hu (by assumption) (by omega)]; done) | (rw [unN_6 hu (by assumption) (by omega)]; rfl) | (rw [unN_7 hu hne (by omega)]; exact fg_congr (and_iff_right hv) (and_iff_right hv)) | (rw [unN_6 hu hne (by omega)]; rfl))) (congrArg (Value.int .i64) (show 0 = (unE op a) from by first | (rw [unE_1 hno]; done) | (rw [unE_0 hu]; done)))
    ·
     refine vc_skip ?_
     refine vc_seq ?_
     refine vc_seq ?_
     refine vc_region ?_
     refine oq (qv_mv (Value.int .i64 op) rfl) ?_
     refine oq (qv_eql rfl rfl) ?_
     refine ops_nil ?_
     refine vc_if rfl (fun c3 => ?_) (fun c3 => ?_)
     ·
      refine vc_seq ?_
      refine vc_region ?_
      refine oq (qv_ldm (vs := [(.int .i64 a.l), (.int .i64 a.h), (.int .i64 a.s)]) Try.agg23 rfl (inOc (k := 0) rfl) rfl rfl) ?_
      refine oq (qv_call (v := (.tuple #[(.bool (decide (mem a 0))), (.bool (decide (oth a)))])) (truth_c (a := a) (by assumption)) rfl rfl) ?_
      refine oq (qv_mv (.tuple #[(.bool (decide (mem a 0))), (.bool (decide (oth a)))]) rfl) ?_
      refine oq (qv_ext (.bool (decide (mem a 0))) rfl rfl) ?_
      refine oq (qv_ext (.bool (decide (oth a))) rfl rfl) ?_
      refine oq (qv_as (.bool (decide (mem a 0))) rfl) ?_
      refine oq (qv_as (.bool (decide (oth a))) rfl) ?_
      refine ops_nil ?_
      refine vc_seq ?_
      refine vc_region ?_
      refine oq (qv_mv (.bool (decide (oth a))) rfl) ?_
      refine oq (qv_mv (.bool (decide (mem a 0))) rfl) ?_
      refine oq (qv_call (v := (.agg #[(.int .i64 ((fgF (oth a) (mem a 0)).l)), (.int .i64 ((fgF (oth a) (mem a 0)).h)), (.int .i64 ((fgF (oth a) (mem a 0)).s))])) (flags_c (p := oth a) (q := mem a 0) ) rfl rfl) ?_
      refine ops_stw (k := 1) (vs := [(.int .i64 ((fgF (oth a) (mem a 0)).l)), (.int .i64 ((fgF (oth a) (mem a 0)).h)), (.int .i64 ((fgF (oth a) (mem a 0)).s))]) Try.size23 rfl rfl rfl rfl rfl rfl ?_
      refine oq (qv_as (Value.int .i64 0) rfl) ?_
      refine ops_nil ?_
      refine vc_ret ?_
      refine rs2 _ (Value.int .i64 0) (rv_c (vs := [(.int .i64 ((fgF (oth a) (mem a 0)).l)), (.int .i64 ((fgF (oth a) (mem a 0)).h)), (.int .i64 ((fgF (oth a) (mem a 0)).s))]) Try.agg23 rfl (inOc (k := 1) rfl) rfl rfl) (rv_t rfl) ?_
      exact tup2 (agg3 (show fgF (oth a) (mem a 0) = unN op a from by first | exact (show a = nE by assumption).trans (unN_e hu (by assumption)).symm | (rw [unN_e hu (by first | assumption | exact (vld_lt hv).1 (by assumption))]; done) | (rw [unN_7 hu (by assumption) (by omega)]; done) | (rw [unN_6 hu (by assumption) (by omega)]; rfl) | (rw [unN_7 hu hne (by omega)]; exact fg_congr (and_iff_right hv) (and_iff_right hv)) | (rw [unN_6 hu hne (by omega)]; rfl))) (congrArg (Value.int .i64) (show 0 = (unE op a) from by first | (rw [unE_1 hno]; done) | (rw [unE_0 hu]; done)))
     ·
      refine vc_skip ?_
      refine vc_seq ?_
      refine vc_region ?_
      refine oq (qv_fa (off := 0) Try.field23_1 rfl) ?_
      refine oq (qv_ldp (v := (.int .i64 a.h)) Try.plain3 rfl (inOc (k := 0) rfl) rfl) ?_
      refine oq (qv_neg rfl (by omega)) ?_
      refine oq (qv_fa (off := 0) Try.field23_0 rfl) ?_
      refine oq (qv_ldp (v := (.int .i64 a.l)) Try.plain3 rfl (inOc (k := 0) rfl) rfl) ?_
      refine oq (qv_neg rfl (by omega)) ?_
      refine oq (qv_fa (off := 0) Try.field23_2 rfl) ?_
      refine oq (qv_ldp (v := (.int .i64 a.s)) Try.plain3 rfl (inOc (k := 0) rfl) rfl) ?_
      refine oq (qv_build (out := [(.int .i64 (-a.h)), (.int .i64 (-a.l)), (.int .i64 a.s)]) Try.build23 [(0, [(.int .i64 (-a.h))]), (1, [(.int .i64 (-a.l))]), (2, [(.int .i64 a.s)])] rfl rfl) ?_
      refine ops_stw (k := 1) (vs := [(.int .i64 (-a.h)), (.int .i64 (-a.l)), (.int .i64 a.s)]) Try.size23 rfl rfl rfl rfl rfl rfl ?_
      refine oq (qv_as (Value.int .i64 0) rfl) ?_
      refine ops_nil ?_
      refine vc_ret ?_
      refine rs2 _ (Value.int .i64 0) (rv_c (vs := [(.int .i64 (-a.h)), (.int .i64 (-a.l)), (.int .i64 a.s)]) Try.agg23 rfl (inOc (k := 1) rfl) rfl rfl) (rv_t rfl) ?_
      exact tup2 (agg3 (show (⟨-a.h, -a.l, a.s⟩ : Nm) = unN op a from by first | exact (show a = nE by assumption).trans (unN_e hu (by assumption)).symm | (rw [unN_e hu (by first | assumption | exact (vld_lt hv).1 (by assumption))]; done) | (rw [unN_7 hu (by assumption) (by omega)]; done) | (rw [unN_6 hu (by assumption) (by omega)]; rfl) | (rw [unN_7 hu hne (by omega)]; exact fg_congr (and_iff_right hv) (and_iff_right hv)) | (rw [unN_6 hu hne (by omega)]; rfl))) (congrArg (Value.int .i64) (show 0 = (unE op a) from by first | (rw [unE_1 hno]; done) | (rw [unE_0 hu]; done)))
  ·
   refine os (want_tn g2 rfl rfl rfl) ?_
   refine os (want_tn g2 rfl rfl rfl) ?_
   refine og (qv_pick_f g2 rfl (rfl : ev _ _ = (Value.bool false))) (want_f g1 rfl rfl rfl) ?_
   refine oq (qv_pick_f g1 rfl (rfl : ev _ _ = (Value.bool false))) ?_
   refine ops_nil ?_
   refine vc_ff rfl ?_
   refine vc_skip ?_
   refine vc_seq ?_
   refine vc_seq ?_
   have hv : vld a := Decidable.not_not.1 (by assumption)
   have hu : vld a ∧ (op = 6 ∨ op = 7) := ⟨hv, by omega⟩
   have bv := vld_bd hv
   unfold fits at bv
   refine vc_region ?_
   refine oq (qv_ldm (vs := [(.int .i64 a.l), (.int .i64 a.h), (.int .i64 a.s)]) Try.agg23 rfl (inOc (k := 0) rfl) rfl rfl) ?_
   refine oq (qv_call (v := (.bool (decide (a = nE)))) (isEmpty_c (a := a)) rfl rfl) ?_
   refine ops_nil ?_
   refine vc_if rfl (fun c4 => ?_) (fun c4 => ?_)
   ·
    refine vc_seq ?_
    refine vc_region ?_
    refine oq (qv_ldm (vs := [(.int .i64 a.l), (.int .i64 a.h), (.int .i64 a.s)]) Try.agg23 rfl (inOc (k := 0) rfl) rfl rfl) ?_
    refine ops_stw (k := 1) (vs := [(.int .i64 a.l), (.int .i64 a.h), (.int .i64 a.s)]) Try.size23 rfl rfl rfl rfl rfl rfl ?_
    refine oq (qv_as (Value.int .i64 0) rfl) ?_
    refine ops_nil ?_
    refine vc_ret ?_
    refine rs2 _ (Value.int .i64 0) (rv_c (vs := [(.int .i64 a.l), (.int .i64 a.h), (.int .i64 a.s)]) Try.agg23 rfl (inOc (k := 1) rfl) rfl rfl) (rv_t rfl) ?_
    exact tup2 (agg3 (show a = unN op a from by first | exact (show a = nE by assumption).trans (unN_e hu (by assumption)).symm | (rw [unN_e hu (by first | assumption | exact (vld_lt hv).1 (by assumption))]; done) | (rw [unN_7 hu (by assumption) (by omega)]; done) | (rw [unN_6 hu (by assumption) (by omega)]; rfl) | (rw [unN_7 hu hne (by omega)]; exact fg_congr (and_iff_right hv) (and_iff_right hv)) | (rw [unN_6 hu hne (by omega)]; rfl))) (congrArg (Value.int .i64) (show 0 = (unE op a) from by first | (rw [unE_1 hno]; done) | (rw [unE_0 hu]; done)))
   ·
    refine vc_skip ?_
    refine vc_seq ?_
    refine vc_seq ?_
    refine vc_region ?_
    refine oq (qv_mv (Value.int .i64 op) rfl) ?_
    refine oq (qv_eql rfl rfl) ?_
    refine ops_nil ?_
    refine vc_if rfl (fun c5 => ?_) (fun c5 => ?_)
    ·
     refine vc_seq ?_
     refine vc_region ?_
     refine oq (qv_ldm (vs := [(.int .i64 a.l), (.int .i64 a.h), (.int .i64 a.s)]) Try.agg23 rfl (inOc (k := 0) rfl) rfl rfl) ?_
     refine oq (qv_call (v := (.tuple #[(.bool (decide (mem a 0))), (.bool (decide (oth a)))])) (truth_c (a := a) (by assumption)) rfl rfl) ?_
     refine oq (qv_mv (.tuple #[(.bool (decide (mem a 0))), (.bool (decide (oth a)))]) rfl) ?_
     refine oq (qv_ext (.bool (decide (mem a 0))) rfl rfl) ?_
     refine oq (qv_ext (.bool (decide (oth a))) rfl rfl) ?_
     refine oq (qv_as (.bool (decide (mem a 0))) rfl) ?_
     refine oq (qv_as (.bool (decide (oth a))) rfl) ?_
     refine ops_nil ?_
     refine vc_seq ?_
     refine vc_region ?_
     refine oq (qv_mv (.bool (decide (oth a))) rfl) ?_
     refine oq (qv_mv (.bool (decide (mem a 0))) rfl) ?_
     refine oq (qv_call (v := (.agg #[(.int .i64 ((fgF (oth a) (mem a 0)).l)), (.int .i64 ((fgF (oth a) (mem a 0)).h)), (.int .i64 ((fgF (oth a) (mem a 0)).s))])) (flags_c (p := oth a) (q := mem a 0) ) rfl rfl) ?_
     refine ops_stw (k := 1) (vs := [(.int .i64 ((fgF (oth a) (mem a 0)).l)), (.int .i64 ((fgF (oth a) (mem a 0)).h)), (.int .i64 ((fgF (oth a) (mem a 0)).s))]) Try.size23 rfl rfl rfl rfl rfl rfl ?_
     refine oq (qv_as (Value.int .i64 0) rfl) ?_
     refine ops_nil ?_
     refine vc_ret ?_
     refine rs2 _ (Value.int .i64 0) (rv_c (vs := [(.int .i64 ((fgF (oth a) (mem a 0)).l)), (.int .i64 ((fgF (oth a) (mem a 0)).h)), (.int .i64 ((fgF (oth a) (mem a 0)).s))]) Try.agg23 rfl (inOc (k := 1) rfl) rfl rfl) (rv_t rfl) ?_
     exact tup2 (agg3 (show fgF (oth a) (mem a 0) = unN op a from by first | exact (show a = nE by assumption).trans (unN_e hu (by assumption)).symm | (rw [unN_e hu (by first | assumption | exact (vld_lt hv).1 (by assumption))]; done) | (rw [unN_7 hu (by assumption) (by omega)]; done) | (rw [unN_6 hu (by assumption) (by omega)]; rfl) | (rw [unN_7 hu hne (by omega)]; exact fg_congr (and_iff_right hv) (and_iff_right hv)) | (rw [unN_6 hu hne (by omega)]; rfl))) (congrArg (Value.int .i64) (show 0 = (unE op a) from by first | (rw [unE_1 hno]; done) | (rw [unE_0 hu]; done)))
    ·
     refine vc_skip ?_
     refine vc_seq ?_
     refine vc_region ?_
     refine oq (qv_fa (off := 0) Try.field23_1 rfl) ?_
     refine oq (qv_ldp (v := (.int .i64 a.h)) Try.plain3 rfl (inOc (k := 0) rfl) rfl) ?_
     refine oq (qv_neg rfl (by omega)) ?_
     refine oq (qv_fa (off := 0) Try.field23_0 rfl) ?_
     refine oq (qv_ldp (v := (.int .i64 a.l)) Try.plain3 rfl (inOc (k := 0) rfl) rfl) ?_
     refine oq (qv_neg rfl (by omega)) ?_
     refine oq (qv_fa (off := 0) Try.field23_2 rfl) ?_
     refine oq (qv_ldp (v := (.int .i64 a.s)) Try.plain3 rfl (inOc (k := 0) rfl) rfl) ?_
     refine oq (qv_build (out := [(.int .i64 (-a.h)), (.int .i64 (-a.l)), (.int .i64 a.s)]) Try.build23 [(0, [(.int .i64 (-a.h))]), (1, [(.int .i64 (-a.l))]), (2, [(.int .i64 a.s)])] rfl rfl) ?_
     refine ops_stw (k := 1) (vs := [(.int .i64 (-a.h)), (.int .i64 (-a.l)), (.int .i64 a.s)]) Try.size23 rfl rfl rfl rfl rfl rfl ?_
     refine oq (qv_as (Value.int .i64 0) rfl) ?_
     refine ops_nil ?_
     refine vc_ret ?_
     refine rs2 _ (Value.int .i64 0) (rv_c (vs := [(.int .i64 (-a.h)), (.int .i64 (-a.l)), (.int .i64 a.s)]) Try.agg23 rfl (inOc (k := 1) rfl) rfl rfl) (rv_t rfl) ?_
     exact tup2 (agg3 (show (⟨-a.h, -a.l, a.s⟩ : Nm) = unN op a from by first | exact (show a = nE by assumption).trans (unN_e hu (by assumption)).symm | (rw [unN_e hu (by first | assumption | exact (vld_lt hv).1 (by assumption))]; done) | (rw [unN_7 hu (by assumption) (by omega)]; done) | (rw [unN_6 hu (by assumption) (by omega)]; rfl) | (rw [unN_7 hu hne (by omega)]; exact fg_congr (and_iff_right hv) (and_iff_right hv)) | (rw [unN_6 hu hne (by omega)]; rfl))) (congrArg (Value.int .i64) (show 0 = (unE op a) from by first | (rw [unE_1 hno]; done) | (rw [unE_0 hu]; done)))

set_option maxRecDepth 100000 in
set_option maxHeartbeats 4000000 in
theorem rUnary_c {V : HV} {op : Int} {a : Nm} :
    FnC Try.prog 22 [(Value.int .i64 op), (.agg #[(.int .i64 a.l), (.int .i64 a.h), (.int .i64 a.s)])] V [] (fun v _ _ => v = .tuple #[(.agg #[(.int .i64 ((unN op a).l)), (.int .i64 ((unN op a).h)), (.int .i64 ((unN op a).s))]), (.int .i64 (unE op a))]) := by
 refine fn_intro (N := 42) Try.func22 (by kernel_rfl) rfl rfl rfl (Nat.le_of_ble_eq_true rfl) ?_
 intro w0 D
 refine vc_seq ?_
 refine vc_region ?_
 refine ops_box (v := (.agg #[(.int .i64 a.l), (.int .i64 a.h), (.int .i64 a.s)])) (cs := [(.int .i64 a.l), (.int .i64 a.h), (.int .i64 a.s)]) rfl rfl (fun b1 => ?_)
 refine ops_alloc Try.ti23 rfl (fun b2 => ?_)
 refine oq (qv_as (Value.int .i64 0) rfl) ?_
 refine ops_nil ?_
 refine vc_seq ?_
 refine vc_seq ?_
 refine vc_res (σ' := [(Arr 23 b1 [(.int .i64 a.l), (.int .i64 a.h), (.int .i64 a.s)]), (Arr 23 b2 [(Value.int .i64 0), (Value.int .i64 0), (Value.int .i64 0)])]) rfl ?_
 refine vc_region ?_
 refine oq (qv_ldm (vs := [(.int .i64 a.l), (.int .i64 a.h), (.int .i64 a.s)]) Try.agg23 rfl (inOc (k := 0) rfl) rfl rfl) ?_
 refine oq (qv_call (v := (.bool (decide (vld a)))) (rValid_c (a := a)) rfl rfl) ?_
 refine oq (qv_not rfl) ?_
 refine oq (qv_mv (.bool (decide (¬ (vld a)))) rfl) ?_
 by_cases g1 : ¬ (vld a)
 ·
  refine os (want_fn g1 rfl rfl rfl) ?_
  refine os (want_fn g1 rfl rfl rfl) ?_
  refine os (want_fn g1 rfl rfl rfl) ?_
  refine os (want_u rfl rfl rfl) ?_
  refine os (want_u rfl rfl rfl) ?_
  refine os (want_fn g1 rfl rfl rfl) ?_
  refine oq (qv_pick_t g1 rfl (rfl : ev _ _ = (Value.bool true))) ?_
  refine ops_nil ?_
  refine vc_tt rfl ?_
  refine vc_seq ?_
  have hno : ¬ (vld a ∧ (op = 6 ∨ op = 7)) := fun h => by first | exact absurd h.1 (by assumption) | (have := h.2; omega)
  refine vc_region ?_
  refine oq (qv_build (out := [(Value.int .i64 0), (Value.int .i64 0), (Value.int .i64 0)]) Try.build23 [] rfl rfl) ?_
  refine ops_stw (k := 1) (vs := [(Value.int .i64 0), (Value.int .i64 0), (Value.int .i64 0)]) Try.size23 rfl rfl rfl rfl rfl rfl ?_
  refine oq (qv_as (Value.int .i64 1) rfl) ?_
  refine ops_nil ?_
  refine vc_ret ?_
  refine rs2 _ (Value.int .i64 1) (rv_c (vs := [(Value.int .i64 0), (Value.int .i64 0), (Value.int .i64 0)]) Try.agg23 rfl (inOc (k := 1) rfl) rfl rfl) (rv_t rfl) ?_
  exact tup2 (agg3 (show (⟨0, 0, 0⟩ : Nm) = unN op a from by rw [unN_1 hno])) (congrArg (Value.int .i64) (show 1 = (unE op a) from by first | (rw [unE_1 hno]; done) | (rw [unE_0 hu]; done)))
 ·
  refine og (qv_mv (Value.int .i64 op) rfl) (want_f g1 rfl rfl rfl) ?_
  refine og (qv_neq rfl rfl) (want_f g1 rfl rfl rfl) ?_
  refine og (qv_mv (.bool (decide (op ≠ 6))) rfl) (want_f g1 rfl rfl rfl) ?_
  by_cases g2 : op ≠ 6
  ·
   refine og (qv_mv (Value.int .i64 op) rfl) (want_t g2 rfl rfl rfl) ?_
   refine og (qv_neq rfl rfl) (want_t g2 rfl rfl rfl) ?_
   refine og (qv_pick_t g2 rfl (rfl : ev _ _ = (.bool (decide (op ≠ 7))))) (want_f g1 rfl rfl rfl) ?_
   refine oq (qv_pick_f g1 rfl (rfl : ev _ _ = (.bool (decide (op ≠ 7))))) ?_
   refine ops_nil ?_
   refine vc_if rfl (fun c1 => ?_) (fun c1 => ?_)
   ·
    refine vc_seq ?_
    have hno : ¬ (vld a ∧ (op = 6 ∨ op = 7)) := fun h => by first | exact absurd h.1 (by assumption) | (have := h.2; omega)
    refine vc_region ?_
    refine oq (qv_build (out := [(Value.int .i64 0), (Value.int .i64 0), (Value.int .i64 0)]) Try.build23 [] rfl rfl) ?_
    refine ops_stw (k := 1) (vs := [(Value.int .i64 0), (Value.int .i64 0), (Value.int .i64 0)]) Try.size23 rfl rfl rfl rfl rfl rfl ?_
    refine oq (qv_as (Value.int .i64 1) rfl) ?_
    refine ops_nil ?_
    refine vc_ret ?_
    refine rs2 _ (Value.int .i64 1) (rv_c (vs := [(Value.int .i64 0), (Value.int .i64 0), (Value.int .i64 0)]) Try.agg23 rfl (inOc (k := 1) rfl) rfl rfl) (rv_t rfl) ?_
    exact tup2 (agg3 (show (⟨0, 0, 0⟩ : Nm) = unN op a from by rw [unN_1 hno])) (congrArg (Value.int .i64) (show 1 = (unE op a) from by first | (rw [unE_1 hno]; done) | (rw [unE_0 hu]; done)))
   ·
    refine vc_skip ?_
    refine vc_seq ?_
    refine vc_seq ?_
    have hv : vld a := Decidable.not_not.1 (by assumption)
    have hu : vld a ∧ (op = 6 ∨ op = 7) := ⟨hv, by omega⟩
    have bv := vld_bd hv
    unfold fits at bv
    refine vc_region ?_
    refine oq (qv_ldm (vs := [(.int .i64 a.l), (.int .i64 a.h), (.int .i64 a.s)]) Try.agg23 rfl (inOc (k := 0) rfl) rfl rfl) ?_
    refine oq (qv_call (v := (.bool (decide (a.h < a.l)))) (rempty_c (a := a)) rfl rfl) ?_
    refine ops_nil ?_
    refine vc_if rfl (fun c2 => ?_) (fun c2 => ?_)
    ·
     refine vc_seq ?_
     refine vc_region ?_
     refine oq (qv_call (v := (.agg #[(.int .i64 nE.l), (.int .i64 nE.h), (.int .i64 nE.s)])) (rNone_c) rfl rfl) ?_
     refine ops_stw (k := 1) (vs := [(.int .i64 nE.l), (.int .i64 nE.h), (.int .i64 nE.s)]) Try.size23 rfl rfl rfl rfl rfl rfl ?_
     refine oq (qv_as (Value.int .i64 0) rfl) ?_
     refine ops_nil ?_
     refine vc_ret ?_
     refine rs2 _ (Value.int .i64 0) (rv_c (vs := [(.int .i64 nE.l), (.int .i64 nE.h), (.int .i64 nE.s)]) Try.agg23 rfl (inOc (k := 1) rfl) rfl rfl) (rv_t rfl) ?_
     exact tup2 (agg3 (show nE = unN op a from by first | exact (show a = nE by assumption).trans (unN_e hu (by assumption)).symm | (rw [unN_e hu (by first | assumption | exact (vld_lt hv).1 (by assumption))]; done) | (rw [unN_7 hu (by assumption) (by omega)]; done) | (rw [unN_6 hu (by assumption) (by omega)]; rfl) | (rw [unN_7 hu hne (by omega)]; exact fg_congr (and_iff_right hv) (and_iff_right hv)) | (rw [unN_6 hu hne (by omega)]; rfl))) (congrArg (Value.int .i64) (show 0 = (unE op a) from by first | (rw [unE_1 hno]; done) | (rw [unE_0 hu]; done)))
    ·
     refine vc_skip ?_
     refine vc_seq ?_
     refine vc_seq ?_
     have hne : ¬ a = nE := fun e => absurd ((vld_lt hv).2 e) (by assumption)
     refine vc_region ?_
     refine oq (qv_mv (Value.int .i64 op) rfl) ?_
     refine oq (qv_eql rfl rfl) ?_
     refine ops_nil ?_
     refine vc_if rfl (fun c3 => ?_) (fun c3 => ?_)
     ·
      refine vc_seq ?_
      refine vc_region ?_
      refine oq (qv_fa (off := 0) Try.field23_1 rfl) ?_
      refine oq (qv_ldp (v := (.int .i64 a.h)) Try.plain3 rfl (inOc (k := 0) rfl) rfl) ?_
      refine oq (qv_neg rfl (by omega)) ?_
      refine oq (qv_fa (off := 0) Try.field23_0 rfl) ?_
      refine oq (qv_ldp (v := (.int .i64 a.l)) Try.plain3 rfl (inOc (k := 0) rfl) rfl) ?_
      refine oq (qv_neg rfl (by omega)) ?_
      refine oq (qv_fa (off := 0) Try.field23_2 rfl) ?_
      refine oq (qv_ldp (v := (.int .i64 a.s)) Try.plain3 rfl (inOc (k := 0) rfl) rfl) ?_
      refine oq (qv_build (out := [(.int .i64 (-a.h)), (.int .i64 (-a.l)), (.int .i64 a.s)]) Try.build23 [(0, [(.int .i64 (-a.h))]), (1, [(.int .i64 (-a.l))]), (2, [(.int .i64 a.s)])] rfl rfl) ?_
      refine ops_stw (k := 1) (vs := [(.int .i64 (-a.h)), (.int .i64 (-a.l)), (.int .i64 a.s)]) Try.size23 rfl rfl rfl rfl rfl rfl ?_
      refine oq (qv_as (Value.int .i64 0) rfl) ?_
      refine ops_nil ?_
      refine vc_ret ?_
      refine rs2 _ (Value.int .i64 0) (rv_c (vs := [(.int .i64 (-a.h)), (.int .i64 (-a.l)), (.int .i64 a.s)]) Try.agg23 rfl (inOc (k := 1) rfl) rfl rfl) (rv_t rfl) ?_
      exact tup2 (agg3 (show (⟨-a.h, -a.l, a.s⟩ : Nm) = unN op a from by first | exact (show a = nE by assumption).trans (unN_e hu (by assumption)).symm | (rw [unN_e hu (by first | assumption | exact (vld_lt hv).1 (by assumption))]; done) | (rw [unN_7 hu (by assumption) (by omega)]; done) | (rw [unN_6 hu (by assumption) (by omega)]; rfl) | (rw [unN_7 hu hne (by omega)]; exact fg_congr (and_iff_right hv) (and_iff_right hv)) | (rw [unN_6 hu hne (by omega)]; rfl))) (congrArg (Value.int .i64) (show 0 = (unE op a) from by first | (rw [unE_1 hno]; done) | (rw [unE_0 hu]; done)))
     ·
      refine vc_skip ?_
      refine vc_seq ?_
      refine vc_region ?_
      refine oq (qv_ldm (vs := [(.int .i64 a.l), (.int .i64 a.h), (.int .i64 a.s)]) Try.agg23 rfl (inOc (k := 0) rfl) rfl rfl) ?_
      refine oq (qv_call (v := (.tuple #[(.bool (decide (vld a ∧ mem a 0))), (.bool (decide (vld a ∧ oth a)))])) (rTruth_c (a := a)) rfl rfl) ?_
      refine oq (qv_mv (.tuple #[(.bool (decide (vld a ∧ mem a 0))), (.bool (decide (vld a ∧ oth a)))]) rfl) ?_
      refine oq (qv_ext (.bool (decide (vld a ∧ mem a 0))) rfl rfl) ?_
      refine oq (qv_ext (.bool (decide (vld a ∧ oth a))) rfl rfl) ?_
      refine oq (qv_as (.bool (decide (vld a ∧ mem a 0))) rfl) ?_
      refine oq (qv_as (.bool (decide (vld a ∧ oth a))) rfl) ?_
      refine ops_nil ?_
      refine vc_seq ?_
      refine vc_region ?_
      refine oq (qv_mv (.bool (decide (vld a ∧ oth a))) rfl) ?_
      refine oq (qv_mv (.bool (decide (vld a ∧ mem a 0))) rfl) ?_
      refine oq (qv_call (v := (.agg #[(.int .i64 ((fgF (vld a ∧ oth a) (vld a ∧ mem a 0)).l)), (.int .i64 ((fgF (vld a ∧ oth a) (vld a ∧ mem a 0)).h)), (.int .i64 ((fgF (vld a ∧ oth a) (vld a ∧ mem a 0)).s))])) (rFlags_c (p := vld a ∧ oth a) (q := vld a ∧ mem a 0) (by rw [and_iff_right hv, and_iff_right hv]; exact two_kinds hv hne)) rfl rfl) ?_
      refine ops_stw (k := 1) (vs := [(.int .i64 ((fgF (vld a ∧ oth a) (vld a ∧ mem a 0)).l)), (.int .i64 ((fgF (vld a ∧ oth a) (vld a ∧ mem a 0)).h)), (.int .i64 ((fgF (vld a ∧ oth a) (vld a ∧ mem a 0)).s))]) Try.size23 rfl rfl rfl rfl rfl rfl ?_
      refine oq (qv_as (Value.int .i64 0) rfl) ?_
      refine ops_nil ?_
      refine vc_ret ?_
      refine rs2 _ (Value.int .i64 0) (rv_c (vs := [(.int .i64 ((fgF (vld a ∧ oth a) (vld a ∧ mem a 0)).l)), (.int .i64 ((fgF (vld a ∧ oth a) (vld a ∧ mem a 0)).h)), (.int .i64 ((fgF (vld a ∧ oth a) (vld a ∧ mem a 0)).s))]) Try.agg23 rfl (inOc (k := 1) rfl) rfl rfl) (rv_t rfl) ?_
      exact tup2 (agg3 (show fgF (vld a ∧ oth a) (vld a ∧ mem a 0) = unN op a from by first | exact (show a = nE by assumption).trans (unN_e hu (by assumption)).symm | (rw [unN_e hu (by first | assumption | exact (vld_lt hv).1 (by assumption))]; done) | (rw [unN_7 hu (by assumption) (by omega)]; done) | (rw [unN_6 hu (by assumption) (by omega)]; rfl) | (rw [unN_7 hu hne (by omega)]; exact fg_congr (and_iff_right hv) (and_iff_right hv)) | (rw [unN_6 hu hne (by omega)]; rfl))) (congrArg (Value.int .i64) (show 0 = (unE op a) from by first | (rw [unE_1 hno]; done) | (rw [unE_0 hu]; done)))
  ·
   refine os (want_tn g2 rfl rfl rfl) ?_
   refine os (want_tn g2 rfl rfl rfl) ?_
   refine og (qv_pick_f g2 rfl (rfl : ev _ _ = (Value.bool false))) (want_f g1 rfl rfl rfl) ?_
   refine oq (qv_pick_f g1 rfl (rfl : ev _ _ = (Value.bool false))) ?_
   refine ops_nil ?_
   refine vc_ff rfl ?_
   refine vc_skip ?_
   refine vc_seq ?_
   refine vc_seq ?_
   have hv : vld a := Decidable.not_not.1 (by assumption)
   have hu : vld a ∧ (op = 6 ∨ op = 7) := ⟨hv, by omega⟩
   have bv := vld_bd hv
   unfold fits at bv
   refine vc_region ?_
   refine oq (qv_ldm (vs := [(.int .i64 a.l), (.int .i64 a.h), (.int .i64 a.s)]) Try.agg23 rfl (inOc (k := 0) rfl) rfl rfl) ?_
   refine oq (qv_call (v := (.bool (decide (a.h < a.l)))) (rempty_c (a := a)) rfl rfl) ?_
   refine ops_nil ?_
   refine vc_if rfl (fun c4 => ?_) (fun c4 => ?_)
   ·
    refine vc_seq ?_
    refine vc_region ?_
    refine oq (qv_call (v := (.agg #[(.int .i64 nE.l), (.int .i64 nE.h), (.int .i64 nE.s)])) (rNone_c) rfl rfl) ?_
    refine ops_stw (k := 1) (vs := [(.int .i64 nE.l), (.int .i64 nE.h), (.int .i64 nE.s)]) Try.size23 rfl rfl rfl rfl rfl rfl ?_
    refine oq (qv_as (Value.int .i64 0) rfl) ?_
    refine ops_nil ?_
    refine vc_ret ?_
    refine rs2 _ (Value.int .i64 0) (rv_c (vs := [(.int .i64 nE.l), (.int .i64 nE.h), (.int .i64 nE.s)]) Try.agg23 rfl (inOc (k := 1) rfl) rfl rfl) (rv_t rfl) ?_
    exact tup2 (agg3 (show nE = unN op a from by first | exact (show a = nE by assumption).trans (unN_e hu (by assumption)).symm | (rw [unN_e hu (by first | assumption | exact (vld_lt hv).1 (by assumption))]; done) | (rw [unN_7 hu (by assumption) (by omega)]; done) | (rw [unN_6 hu (by assumption) (by omega)]; rfl) | (rw [unN_7 hu hne (by omega)]; exact fg_congr (and_iff_right hv) (and_iff_right hv)) | (rw [unN_6 hu hne (by omega)]; rfl))) (congrArg (Value.int .i64) (show 0 = (unE op a) from by first | (rw [unE_1 hno]; done) | (rw [unE_0 hu]; done)))
   ·
    refine vc_skip ?_
    refine vc_seq ?_
    refine vc_seq ?_
    have hne : ¬ a = nE := fun e => absurd ((vld_lt hv).2 e) (by assumption)
    refine vc_region ?_
    refine oq (qv_mv (Value.int .i64 op) rfl) ?_
    refine oq (qv_eql rfl rfl) ?_
    refine ops_nil ?_
    refine vc_if rfl (fun c5 => ?_) (fun c5 => ?_)
    ·
     refine vc_seq ?_
     refine vc_region ?_
     refine oq (qv_fa (off := 0) Try.field23_1 rfl) ?_
     refine oq (qv_ldp (v := (.int .i64 a.h)) Try.plain3 rfl (inOc (k := 0) rfl) rfl) ?_
     refine oq (qv_neg rfl (by omega)) ?_
     refine oq (qv_fa (off := 0) Try.field23_0 rfl) ?_
     refine oq (qv_ldp (v := (.int .i64 a.l)) Try.plain3 rfl (inOc (k := 0) rfl) rfl) ?_
     refine oq (qv_neg rfl (by omega)) ?_
     refine oq (qv_fa (off := 0) Try.field23_2 rfl) ?_
     refine oq (qv_ldp (v := (.int .i64 a.s)) Try.plain3 rfl (inOc (k := 0) rfl) rfl) ?_
     refine oq (qv_build (out := [(.int .i64 (-a.h)), (.int .i64 (-a.l)), (.int .i64 a.s)]) Try.build23 [(0, [(.int .i64 (-a.h))]), (1, [(.int .i64 (-a.l))]), (2, [(.int .i64 a.s)])] rfl rfl) ?_
     refine ops_stw (k := 1) (vs := [(.int .i64 (-a.h)), (.int .i64 (-a.l)), (.int .i64 a.s)]) Try.size23 rfl rfl rfl rfl rfl rfl ?_
     refine oq (qv_as (Value.int .i64 0) rfl) ?_
     refine ops_nil ?_
     refine vc_ret ?_
     refine rs2 _ (Value.int .i64 0) (rv_c (vs := [(.int .i64 (-a.h)), (.int .i64 (-a.l)), (.int .i64 a.s)]) Try.agg23 rfl (inOc (k := 1) rfl) rfl rfl) (rv_t rfl) ?_
     exact tup2 (agg3 (show (⟨-a.h, -a.l, a.s⟩ : Nm) = unN op a from by first | exact (show a = nE by assumption).trans (unN_e hu (by assumption)).symm | (rw [unN_e hu (by first | assumption | exact (vld_lt hv).1 (by assumption))]; done) | (rw [unN_7 hu (by assumption) (by omega)]; done) | (rw [unN_6 hu (by assumption) (by omega)]; rfl) | (rw [unN_7 hu hne (by omega)]; exact fg_congr (and_iff_right hv) (and_iff_right hv)) | (rw [unN_6 hu hne (by omega)]; rfl))) (congrArg (Value.int .i64) (show 0 = (unE op a) from by first | (rw [unE_1 hno]; done) | (rw [unE_0 hu]; done)))
    ·
     refine vc_skip ?_
     refine vc_seq ?_
     refine vc_region ?_
     refine oq (qv_ldm (vs := [(.int .i64 a.l), (.int .i64 a.h), (.int .i64 a.s)]) Try.agg23 rfl (inOc (k := 0) rfl) rfl rfl) ?_
     refine oq (qv_call (v := (.tuple #[(.bool (decide (vld a ∧ mem a 0))), (.bool (decide (vld a ∧ oth a)))])) (rTruth_c (a := a)) rfl rfl) ?_
     refine oq (qv_mv (.tuple #[(.bool (decide (vld a ∧ mem a 0))), (.bool (decide (vld a ∧ oth a)))]) rfl) ?_
     refine oq (qv_ext (.bool (decide (vld a ∧ mem a 0))) rfl rfl) ?_
     refine oq (qv_ext (.bool (decide (vld a ∧ oth a))) rfl rfl) ?_
     refine oq (qv_as (.bool (decide (vld a ∧ mem a 0))) rfl) ?_
     refine oq (qv_as (.bool (decide (vld a ∧ oth a))) rfl) ?_
     refine ops_nil ?_
     refine vc_seq ?_
     refine vc_region ?_
     refine oq (qv_mv (.bool (decide (vld a ∧ oth a))) rfl) ?_
     refine oq (qv_mv (.bool (decide (vld a ∧ mem a 0))) rfl) ?_
     refine oq (qv_call (v := (.agg #[(.int .i64 ((fgF (vld a ∧ oth a) (vld a ∧ mem a 0)).l)), (.int .i64 ((fgF (vld a ∧ oth a) (vld a ∧ mem a 0)).h)), (.int .i64 ((fgF (vld a ∧ oth a) (vld a ∧ mem a 0)).s))])) (rFlags_c (p := vld a ∧ oth a) (q := vld a ∧ mem a 0) (by rw [and_iff_right hv, and_iff_right hv]; exact two_kinds hv hne)) rfl rfl) ?_
     refine ops_stw (k := 1) (vs := [(.int .i64 ((fgF (vld a ∧ oth a) (vld a ∧ mem a 0)).l)), (.int .i64 ((fgF (vld a ∧ oth a) (vld a ∧ mem a 0)).h)), (.int .i64 ((fgF (vld a ∧ oth a) (vld a ∧ mem a 0)).s))]) Try.size23 rfl rfl rfl rfl rfl rfl ?_
     refine oq (qv_as (Value.int .i64 0) rfl) ?_
     refine ops_nil ?_
     refine vc_ret ?_
     refine rs2 _ (Value.int .i64 0) (rv_c (vs := [(.int .i64 ((fgF (vld a ∧ oth a) (vld a ∧ mem a 0)).l)), (.int .i64 ((fgF (vld a ∧ oth a) (vld a ∧ mem a 0)).h)), (.int .i64 ((fgF (vld a ∧ oth a) (vld a ∧ mem a 0)).s))]) Try.agg23 rfl (inOc (k := 1) rfl) rfl rfl) (rv_t rfl) ?_
     exact tup2 (agg3 (show fgF (vld a ∧ oth a) (vld a ∧ mem a 0) = unN op a from by first | exact (show a = nE by assumption).trans (unN_e hu (by assumption)).symm | (rw [unN_e hu (by first | assumption | exact (vld_lt hv).1 (by assumption))]; done) | (rw [unN_7 hu (by assumption) (by omega)]; done) | (rw [unN_6 hu (by assumption) (by omega)]; rfl) | (rw [unN_7 hu hne (by omega)]; exact fg_congr (and_iff_right hv) (and_iff_right hv)) | (rw [unN_6 hu hne (by omega)]; rfl))) (congrArg (Value.int .i64) (show 0 = (unE op a) from by first | (rw [unE_1 hno]; done) | (rw [unE_0 hu]; done)))

set_option maxRecDepth 100000 in
set_option maxHeartbeats 4000000 in
theorem wide_c {V : HV} {op : Int} {a b : Nm} (ha : vld a) (hb : vld b) :
    FnC Try.prog 88 [(Value.int .i64 op), (.agg #[(.int .i64 a.l), (.int .i64 a.h), (.int .i64 a.s)]), (.agg #[(.int .i64 b.l), (.int .i64 b.h), (.int .i64 b.s)])] V [] (fun v _ _ => v = (.agg #[(.int .i64 ((wdF op a b).l)), (.int .i64 ((wdF op a b).h)), (.int .i64 ((wdF op a b).s))])) := by
 refine fn_intro (N := 76) Try.func88 (by kernel_rfl) rfl rfl rfl (Nat.le_of_ble_eq_true rfl) ?_
 intro w0 D
 have ba := vld_bd ha
 have bb := vld_bd hb
 have m1 := mag_bd ba.1
 have m2 := mag_bd ba.2.1
 have m3 := mx_or (mag a.l) (mag a.h)
 unfold fits at ba bb
 refine vc_seq ?_
 refine vc_region ?_
 refine ops_box (v := (.agg #[(.int .i64 a.l), (.int .i64 a.h), (.int .i64 a.s)])) (cs := [(.int .i64 a.l), (.int .i64 a.h), (.int .i64 a.s)]) rfl rfl (fun b1 => ?_)
 refine ops_box (v := (.agg #[(.int .i64 b.l), (.int .i64 b.h), (.int .i64 b.s)])) (cs := [(.int .i64 b.l), (.int .i64 b.h), (.int .i64 b.s)]) rfl rfl (fun b2 => ?_)
 refine ops_alloc Try.ti23 rfl (fun b3 => ?_)
 refine ops_nil ?_
 refine vc_seq ?_
 refine vc_seq ?_
 refine vc_res (σ' := [(Arr 23 b1 [(.int .i64 a.l), (.int .i64 a.h), (.int .i64 a.s)]), (Arr 23 b2 [(.int .i64 b.l), (.int .i64 b.h), (.int .i64 b.s)]), (Arr 23 b3 [(Value.int .i64 0), (Value.int .i64 0), (Value.int .i64 0)])]) rfl ?_
 refine vc_region ?_
 refine oq (qv_mv (Value.int .i64 op) rfl) ?_
 refine ops_nil ?_
 refine vc_block ?_
 refine vc_seq ?_
 refine vc_region ?_
 refine oq (qv_eql rfl rfl) ?_
 refine oq (qv_as (.bool (decide (op = 11))) rfl) ?_
 refine ops_nil ?_
 refine vc_if rfl (fun c1 => ?_) (fun c1 => ?_)
 ·
  refine vc_seq ?_
  refine vc_region_any Try.mixed (by kernel_rfl) ?_
  refine qq (qv_fa (off := 0) Try.field23_0 rfl) ?_
  refine qq (qv_ldp (v := (.int .i64 a.l)) Try.plain3 rfl (inOc (k := 0) rfl) rfl) ?_
  refine qq (qv_call (v := (.int .i64 (mag a.l))) (mag_c (by unfold fits; omega)) rfl rfl) ?_
  refine qq (qv_fa (off := 0) Try.field23_1 rfl) ?_
  refine qq (qv_ldp (v := (.int .i64 a.h)) Try.plain3 rfl (inOc (k := 0) rfl) rfl) ?_
  refine qq (qv_call (v := (.int .i64 (mag a.h))) (mag_c (by unfold fits; omega)) rfl rfl) ?_
  refine qq (qv_max rfl rfl) ?_
  obtain ⟨m, hm⟩ : ∃ z : Int, z = mx (mag a.l) (mag a.h) := ⟨_, rfl⟩
  refine qq (qv_as (Value.int .i64 m) (show _ = _ from congrArg (Value.int .i64) ((show (if (mag a.l) < (mag a.h) then mag a.h else mag a.l) = mx (mag a.l) (mag a.h) from by rfl).trans hm.symm))) ?_
  refine qops_nil ?_
  refine vc_seq ?_
  refine vc_seq ?_
  refine vc_region ?_
  refine oq (qv_fa (off := 0) Try.field23_0 rfl) ?_
  refine oq (qv_ldp (v := (.int .i64 a.l)) Try.plain3 rfl (inOc (k := 0) rfl) rfl) ?_
  refine oq (qv_geq rfl rfl) ?_
  refine oq (qv_mv (.bool (decide (0 ≤ a.l))) rfl) ?_
  by_cases g1 : 0 ≤ a.l
  ·
   refine og (qv_fa (off := 0) Try.field23_0 rfl) (want_t g1 rfl rfl rfl) ?_
   refine og (qv_ldp (v := (.int .i64 b.l)) Try.plain3 rfl (inOc (k := 1) rfl) rfl) (want_t g1 rfl rfl rfl) ?_
   refine og (qv_geq rfl rfl) (want_t g1 rfl rfl rfl) ?_
   refine oq (qv_pick_t g1 rfl (rfl : ev _ _ = (.bool (decide (0 ≤ b.l))))) ?_
   refine ops_nil ?_
   refine vc_if rfl (fun c2 => ?_) (fun c2 => ?_)
   ·
    refine vc_seq ?_
    refine vc_region ?_
    refine oq (qv_mv (Value.int .i64 m) rfl) ?_
    refine oq (qv_call (v := (.agg #[(.int .i64 ((spanF 0 m 1).l)), (.int .i64 ((spanF 0 m 1).h)), (.int .i64 ((spanF 0 m 1).s))])) (span_c (by unfold fits; first | omega | (split <;> omega)) (by unfold fits; first | omega | (split <;> omega)) (by omega)) rfl rfl) ?_
    refine ops_stw (k := 2) (vs := [(.int .i64 ((spanF 0 m 1).l)), (.int .i64 ((spanF 0 m 1).h)), (.int .i64 ((spanF 0 m 1).s))]) Try.size23 rfl rfl rfl rfl rfl rfl ?_
    refine ops_nil ?_
    refine vc_ret ?_
    refine blockQ_ret ?_
    refine rs1 _ (rv_c (vs := [(.int .i64 ((spanF 0 m 1).l)), (.int .i64 ((spanF 0 m 1).h)), (.int .i64 ((spanF 0 m 1).s))]) Try.agg23 rfl (inOc (k := 2) rfl) rfl rfl) ?_
    exact (agg3 (show spanF 0 m 1 = wdF op a b from by first | (rw [wd_1 (by omega) (by omega), ← hm]; done) | (rw [wd_2 (by omega) (by omega), ← hm]; done) | (rw [wd_3 (by omega)]; rfl) | (rw [wd_4 (by omega)]; rfl) | (rw [wd_5 (by omega)]; rfl)))
   ·
    refine vc_skip ?_
    refine vc_seq ?_
    refine vc_region ?_
    refine oq (qv_mv (Value.int .i64 m) rfl) ?_
    refine oq (qv_neg rfl (by omega)) ?_
    refine oq (qv_mv (Value.int .i64 m) rfl) ?_
    refine oq (qv_call (v := (.agg #[(.int .i64 ((spanF (-m) m 1).l)), (.int .i64 ((spanF (-m) m 1).h)), (.int .i64 ((spanF (-m) m 1).s))])) (span_c (by unfold fits; first | omega | (split <;> omega)) (by unfold fits; first | omega | (split <;> omega)) (by omega)) rfl rfl) ?_
    refine ops_stw (k := 2) (vs := [(.int .i64 ((spanF (-m) m 1).l)), (.int .i64 ((spanF (-m) m 1).h)), (.int .i64 ((spanF (-m) m 1).s))]) Try.size23 rfl rfl rfl rfl rfl rfl ?_
    refine ops_nil ?_
    refine vc_ret ?_
    refine blockQ_ret ?_
    refine rs1 _ (rv_c (vs := [(.int .i64 ((spanF (-m) m 1).l)), (.int .i64 ((spanF (-m) m 1).h)), (.int .i64 ((spanF (-m) m 1).s))]) Try.agg23 rfl (inOc (k := 2) rfl) rfl rfl) ?_
    exact (agg3 (show spanF (-m) m 1 = wdF op a b from by first | (rw [wd_1 (by omega) (by omega), ← hm]; done) | (rw [wd_2 (by omega) (by omega), ← hm]; done) | (rw [wd_3 (by omega)]; rfl) | (rw [wd_4 (by omega)]; rfl) | (rw [wd_5 (by omega)]; rfl)))
  ·
   refine os (want_tn g1 rfl rfl rfl) ?_
   refine os (want_tn g1 rfl rfl rfl) ?_
   refine os (want_tn g1 rfl rfl rfl) ?_
   refine oq (qv_pick_f g1 rfl (rfl : ev _ _ = (Value.bool false))) ?_
   refine ops_nil ?_
   refine vc_ff rfl ?_
   refine vc_skip ?_
   refine vc_seq ?_
   refine vc_region ?_
   refine oq (qv_mv (Value.int .i64 m) rfl) ?_
   refine oq (qv_neg rfl (by omega)) ?_
   refine oq (qv_mv (Value.int .i64 m) rfl) ?_
   refine oq (qv_call (v := (.agg #[(.int .i64 ((spanF (-m) m 1).l)), (.int .i64 ((spanF (-m) m 1).h)), (.int .i64 ((spanF (-m) m 1).s))])) (span_c (by unfold fits; first | omega | (split <;> omega)) (by unfold fits; first | omega | (split <;> omega)) (by omega)) rfl rfl) ?_
   refine ops_stw (k := 2) (vs := [(.int .i64 ((spanF (-m) m 1).l)), (.int .i64 ((spanF (-m) m 1).h)), (.int .i64 ((spanF (-m) m 1).s))]) Try.size23 rfl rfl rfl rfl rfl rfl ?_
   refine ops_nil ?_
   refine vc_ret ?_
   refine blockQ_ret ?_
   refine rs1 _ (rv_c (vs := [(.int .i64 ((spanF (-m) m 1).l)), (.int .i64 ((spanF (-m) m 1).h)), (.int .i64 ((spanF (-m) m 1).s))]) Try.agg23 rfl (inOc (k := 2) rfl) rfl rfl) ?_
   exact (agg3 (show spanF (-m) m 1 = wdF op a b from by first | (rw [wd_1 (by omega) (by omega), ← hm]; done) | (rw [wd_2 (by omega) (by omega), ← hm]; done) | (rw [wd_3 (by omega)]; rfl) | (rw [wd_4 (by omega)]; rfl) | (rw [wd_5 (by omega)]; rfl)))
 ·
  refine vc_seq ?_
  refine vc_region ?_
  refine oq (qv_eql rfl rfl) ?_
  refine oq (qv_as (.bool (decide (op = 12))) rfl) ?_
  refine ops_nil ?_
  refine vc_if rfl (fun c3 => ?_) (fun c3 => ?_)
  ·
   refine vc_seq ?_
   refine vc_region ?_
   refine oq (qv_fa (off := 0) Try.field23_0 rfl) ?_
   refine oq (qv_ldp (v := (.int .i64 b.l)) Try.plain3 rfl (inOc (k := 1) rfl) rfl) ?_
   refine oq (qv_add rfl rfl (by omega)) ?_
   refine oq (qv_min rfl rfl) ?_
   refine oq (qv_fa (off := 0) Try.field23_1 rfl) ?_
   refine oq (qv_ldp (v := (.int .i64 b.h)) Try.plain3 rfl (inOc (k := 1) rfl) rfl) ?_
   refine oq (qv_sub rfl rfl (by omega)) ?_
   refine oq (qv_max rfl rfl) ?_
   refine oq (qv_call (v := (.agg #[(.int .i64 ((spanF (if 0 < (b.l + 1) then 0 else b.l + 1) (if (b.h - 1) < 0 then 0 else b.h - 1) 1).l)), (.int .i64 ((spanF (if 0 < (b.l + 1) then 0 else b.l + 1) (if (b.h - 1) < 0 then 0 else b.h - 1) 1).h)), (.int .i64 ((spanF (if 0 < (b.l + 1) then 0 else b.l + 1) (if (b.h - 1) < 0 then 0 else b.h - 1) 1).s))])) (span_c (by unfold fits; first | omega | (split <;> omega)) (by unfold fits; first | omega | (split <;> omega)) (by omega)) rfl rfl) ?_
   refine ops_stw (k := 2) (vs := [(.int .i64 ((spanF (if 0 < (b.l + 1) then 0 else b.l + 1) (if (b.h - 1) < 0 then 0 else b.h - 1) 1).l)), (.int .i64 ((spanF (if 0 < (b.l + 1) then 0 else b.l + 1) (if (b.h - 1) < 0 then 0 else b.h - 1) 1).h)), (.int .i64 ((spanF (if 0 < (b.l + 1) then 0 else b.l + 1) (if (b.h - 1) < 0 then 0 else b.h - 1) 1).s))]) Try.size23 rfl rfl rfl rfl rfl rfl ?_
   refine ops_nil ?_
   refine vc_ret ?_
   refine blockQ_ret ?_
   refine rs1 _ (rv_c (vs := [(.int .i64 ((spanF (if 0 < (b.l + 1) then 0 else b.l + 1) (if (b.h - 1) < 0 then 0 else b.h - 1) 1).l)), (.int .i64 ((spanF (if 0 < (b.l + 1) then 0 else b.l + 1) (if (b.h - 1) < 0 then 0 else b.h - 1) 1).h)), (.int .i64 ((spanF (if 0 < (b.l + 1) then 0 else b.l + 1) (if (b.h - 1) < 0 then 0 else b.h - 1) 1).s))]) Try.agg23 rfl (inOc (k := 2) rfl) rfl rfl) ?_
   exact (agg3 (show spanF (if 0 < (b.l + 1) then 0 else b.l + 1) (if (b.h - 1) < 0 then 0 else b.h - 1) 1 = wdF op a b from by first | (rw [wd_1 (by omega) (by omega), ← hm]; done) | (rw [wd_2 (by omega) (by omega), ← hm]; done) | (rw [wd_3 (by omega)]; rfl) | (rw [wd_4 (by omega)]; rfl) | (rw [wd_5 (by omega)]; rfl)))
  ·
   refine vc_seq ?_
   refine vc_region ?_
   refine oq (qv_eql rfl rfl) ?_
   refine oq (qv_as (.bool (decide (op = 21))) rfl) ?_
   refine ops_nil ?_
   refine vc_if rfl (fun c4 => ?_) (fun c4 => ?_)
   ·
    refine vc_seq ?_
    refine vc_join (α := Nat × Nat) (fun xx => [(0, (Value.int .i64 op)), (1, (.agg #[(.int .i64 a.l), (.int .i64 a.h), (.int .i64 a.s)])), (2, (.agg #[(.int .i64 b.l), (.int .i64 b.h), (.int .i64 b.s)])), (4, (Value.pointer (some ⟨b1, 0, none⟩))), (5, (Value.pointer (some ⟨b2, 0, none⟩))), (6, (Value.pointer (some ⟨b3, 0, none⟩))), (8, (Value.pointer (some ⟨xx.1, 0, none⟩))), (12, (Value.int .i64 op)), (13, (.bool (decide (op = 11)))), (36, (.bool (decide (op = 12)))), (47, (.bool (decide (op = 21))))]) (fun xx V' σ' => V = V' ∧ [(Arr 23 b1 [(.int .i64 a.l), (.int .i64 a.h), (.int .i64 a.s)]), (Arr 23 b2 [(.int .i64 b.l), (.int .i64 b.h), (.int .i64 b.s)]), (Arr 23 b3 [(Value.int .i64 0), (Value.int .i64 0), (Value.int .i64 0)]), (Arr 23 xx.1 [(.int .i64 ((upF (joinF a b) (if b.h < a.h then b.h else a.h)).l)), (.int .i64 ((upF (joinF a b) (if b.h < a.h then b.h else a.h)).h)), (.int .i64 ((upF (joinF a b) (if b.h < a.h then b.h else a.h)).s))]), (Arr 23 xx.2 [(.int .i64 ((abF (joinF a b) (if b.h < a.h then b.h else a.h)).l)), (.int .i64 ((abF (joinF a b) (if b.h < a.h then b.h else a.h)).h)), (.int .i64 ((abF (joinF a b) (if b.h < a.h then b.h else a.h)).s))])] = σ') ?_ ?_
    ·
     refine vc_region_E (τ := []) (n := 16) [(Arr 23 b1 [(.int .i64 a.l), (.int .i64 a.h), (.int .i64 a.s)]), (Arr 23 b2 [(.int .i64 b.l), (.int .i64 b.h), (.int .i64 b.s)]), (Arr 23 b3 [(Value.int .i64 0), (Value.int .i64 0), (Value.int .i64 0)])] Try.mixed (perm_nil _) rfl ?_
     refine eq_ (i := 0) (by kernel_rfl) rfl (qv_ldm (vs := [(.int .i64 a.l), (.int .i64 a.h), (.int .i64 a.s)]) Try.agg23 rfl (inOc (k := 0) rfl) rfl rfl) ?_
     refine eq_ (i := 1) (by kernel_rfl) rfl (qv_ldm (vs := [(.int .i64 b.l), (.int .i64 b.h), (.int .i64 b.s)]) Try.agg23 rfl (inOc (k := 1) rfl) rfl rfl) ?_
     refine eq_ (i := 2) (by kernel_rfl) rfl (qv_call (v := (.agg #[(.int .i64 ((joinF a b).l)), (.int .i64 ((joinF a b).h)), (.int .i64 ((joinF a b).s))])) (join_c (a := a) (b := b) (ha) (hb)) rfl rfl) ?_
     refine eq_ (i := 3) (by kernel_rfl) rfl (qv_fa (off := 0) Try.field23_1 rfl) ?_
     refine eq_ (i := 4) (by kernel_rfl) rfl (qv_ldp (v := (.int .i64 a.h)) Try.plain3 rfl (inOc (k := 0) rfl) rfl) ?_
     refine eq_ (i := 5) (by kernel_rfl) rfl (qv_fa (off := 0) Try.field23_1 rfl) ?_
     refine eq_ (i := 6) (by kernel_rfl) rfl (qv_ldp (v := (.int .i64 b.h)) Try.plain3 rfl (inOc (k := 1) rfl) rfl) ?_
     refine eq_ (i := 7) (by kernel_rfl) rfl (qv_min rfl rfl) ?_
     refine eq_ (i := 8) (by kernel_rfl) rfl (qv_call (v := (.tuple #[(.agg #[(.int .i64 ((upF (joinF a b) (if b.h < a.h then b.h else a.h)).l)), (.int .i64 ((upF (joinF a b) (if b.h < a.h then b.h else a.h)).h)), (.int .i64 ((upF (joinF a b) (if b.h < a.h then b.h else a.h)).s))]), (.agg #[(.int .i64 ((abF (joinF a b) (if b.h < a.h then b.h else a.h)).l)), (.int .i64 ((abF (joinF a b) (if b.h < a.h then b.h else a.h)).h)), (.int .i64 ((abF (joinF a b) (if b.h < a.h then b.h else a.h)).s))])])) (split_c (a := joinF a b) ((join_least ha hb).ok)) rfl rfl) ?_
     refine eq_ (i := 9) (by kernel_rfl) rfl (qv_mv (.tuple #[(.agg #[(.int .i64 ((upF (joinF a b) (if b.h < a.h then b.h else a.h)).l)), (.int .i64 ((upF (joinF a b) (if b.h < a.h then b.h else a.h)).h)), (.int .i64 ((upF (joinF a b) (if b.h < a.h then b.h else a.h)).s))]), (.agg #[(.int .i64 ((abF (joinF a b) (if b.h < a.h then b.h else a.h)).l)), (.int .i64 ((abF (joinF a b) (if b.h < a.h then b.h else a.h)).h)), (.int .i64 ((abF (joinF a b) (if b.h < a.h then b.h else a.h)).s))])]) rfl) ?_
     refine eq_ (i := 10) (by kernel_rfl) rfl (qv_ext (.agg #[(.int .i64 ((upF (joinF a b) (if b.h < a.h then b.h else a.h)).l)), (.int .i64 ((upF (joinF a b) (if b.h < a.h then b.h else a.h)).h)), (.int .i64 ((upF (joinF a b) (if b.h < a.h then b.h else a.h)).s))]) rfl rfl) ?_
     refine eq_ (i := 11) (by kernel_rfl) rfl (qv_ext (.agg #[(.int .i64 ((abF (joinF a b) (if b.h < a.h then b.h else a.h)).l)), (.int .i64 ((abF (joinF a b) (if b.h < a.h then b.h else a.h)).h)), (.int .i64 ((abF (joinF a b) (if b.h < a.h then b.h else a.h)).s))]) rfl rfl) ?_
     refine el2 (i := 12) (j := 13) (by kernel_rfl) ?_ ?_
     ·
      refine ⟨_, rfl, ?_⟩
      refine ops_alloc Try.ti23 rfl (fun b4 => ?_)
      refine ops_nil ⟨[(Arr 23 b1 [(.int .i64 a.l), (.int .i64 a.h), (.int .i64 a.s)]), (Arr 23 b2 [(.int .i64 b.l), (.int .i64 b.h), (.int .i64 b.s)]), (Arr 23 b3 [(Value.int .i64 0), (Value.int .i64 0), (Value.int .i64 0)])], [(Arr 23 b4 [(Value.int .i64 0), (Value.int .i64 0), (Value.int .i64 0)])], (perm_idx _ _ [0, 1, 2, 3] rfl rfl), .inl ⟨(Sub.refl _), [], .refl _⟩, ?_⟩
      refine el1 (i := 13) (by kernel_rfl) ?_
      refine ⟨_, rfl, ?_⟩
      refine ops_alloc Try.ti23 rfl (fun b5 => ?_)
      refine ops_nil ⟨[(Arr 23 b1 [(.int .i64 a.l), (.int .i64 a.h), (.int .i64 a.s)]), (Arr 23 b2 [(.int .i64 b.l), (.int .i64 b.h), (.int .i64 b.s)]), (Arr 23 b3 [(Value.int .i64 0), (Value.int .i64 0), (Value.int .i64 0)]), (Arr 23 b5 [(Value.int .i64 0), (Value.int .i64 0), (Value.int .i64 0)])], [(Arr 23 b4 [(Value.int .i64 0), (Value.int .i64 0), (Value.int .i64 0)])], (perm_idx _ _ [0, 1, 2, 4, 3] rfl rfl), .inl ⟨(Sub.refl _), [(Arr 23 b5 [(Value.int .i64 0), (Value.int .i64 0), (Value.int .i64 0)])], .refl _⟩, ?_⟩
      refine el1 (i := 14) (by kernel_rfl) ?_
      refine ⟨_, rfl, ?_⟩
      refine ops_stw (k := 3) (vs := [(.int .i64 ((upF (joinF a b) (if b.h < a.h then b.h else a.h)).l)), (.int .i64 ((upF (joinF a b) (if b.h < a.h then b.h else a.h)).h)), (.int .i64 ((upF (joinF a b) (if b.h < a.h then b.h else a.h)).s))]) Try.size23 rfl rfl rfl rfl rfl rfl ?_
      refine ops_nil ⟨[(Arr 23 b1 [(.int .i64 a.l), (.int .i64 a.h), (.int .i64 a.s)]), (Arr 23 b2 [(.int .i64 b.l), (.int .i64 b.h), (.int .i64 b.s)]), (Arr 23 b3 [(Value.int .i64 0), (Value.int .i64 0), (Value.int .i64 0)]), (Arr 23 b5 [(Value.int .i64 0), (Value.int .i64 0), (Value.int .i64 0)])], [(Arr 23 b4 [(.int .i64 ((upF (joinF a b) (if b.h < a.h then b.h else a.h)).l)), (.int .i64 ((upF (joinF a b) (if b.h < a.h then b.h else a.h)).h)), (.int .i64 ((upF (joinF a b) (if b.h < a.h then b.h else a.h)).s))])], (perm_idx _ _ [0, 1, 2, 4, 3] rfl rfl), .inl ⟨(Sub.refl _), [], .refl _⟩, ?_⟩
      refine el1 (i := 15) (by kernel_rfl) ?_
      refine ⟨_, rfl, ?_⟩
      refine ops_stw (k := 4) (vs := [(.int .i64 ((abF (joinF a b) (if b.h < a.h then b.h else a.h)).l)), (.int .i64 ((abF (joinF a b) (if b.h < a.h then b.h else a.h)).h)), (.int .i64 ((abF (joinF a b) (if b.h < a.h then b.h else a.h)).s))]) Try.size23 rfl rfl rfl rfl rfl rfl ?_
      refine ops_nil ⟨[(Arr 23 b1 [(.int .i64 a.l), (.int .i64 a.h), (.int .i64 a.s)]), (Arr 23 b2 [(.int .i64 b.l), (.int .i64 b.h), (.int .i64 b.s)]), (Arr 23 b3 [(Value.int .i64 0), (Value.int .i64 0), (Value.int .i64 0)]), (Arr 23 b5 [(.int .i64 ((abF (joinF a b) (if b.h < a.h then b.h else a.h)).l)), (.int .i64 ((abF (joinF a b) (if b.h < a.h then b.h else a.h)).h)), (.int .i64 ((abF (joinF a b) (if b.h < a.h then b.h else a.h)).s))])], [(Arr 23 b4 [(.int .i64 ((upF (joinF a b) (if b.h < a.h then b.h else a.h)).l)), (.int .i64 ((upF (joinF a b) (if b.h < a.h then b.h else a.h)).h)), (.int .i64 ((upF (joinF a b) (if b.h < a.h then b.h else a.h)).s))])], (perm_idx _ _ [0, 1, 2, 4, 3] rfl rfl), .inr (by kernel_rfl), ?_⟩
      refine enil (σ' := [(Arr 23 b1 [(.int .i64 a.l), (.int .i64 a.h), (.int .i64 a.s)]), (Arr 23 b2 [(.int .i64 b.l), (.int .i64 b.h), (.int .i64 b.s)]), (Arr 23 b3 [(Value.int .i64 0), (Value.int .i64 0), (Value.int .i64 0)]), (Arr 23 b4 [(.int .i64 ((upF (joinF a b) (if b.h < a.h then b.h else a.h)).l)), (.int .i64 ((upF (joinF a b) (if b.h < a.h then b.h else a.h)).h)), (.int .i64 ((upF (joinF a b) (if b.h < a.h then b.h else a.h)).s))]), (Arr 23 b5 [(.int .i64 ((abF (joinF a b) (if b.h < a.h then b.h else a.h)).l)), (.int .i64 ((abF (joinF a b) (if b.h < a.h then b.h else a.h)).h)), (.int .i64 ((abF (joinF a b) (if b.h < a.h then b.h else a.h)).s))])]) (by kernel_rfl) (perm_idx _ _ [0, 1, 2, 3, 4] rfl rfl) ⟨(b4, b5), ⟨rfl, rfl, rfl, rfl, rfl, rfl, rfl, rfl, rfl, rfl, rfl, trivial⟩, rfl, rfl⟩
     ·
      refine ⟨_, rfl, ?_⟩
      refine ops_alloc Try.ti23 rfl (fun b6 => ?_)
      refine ops_nil ⟨[(Arr 23 b1 [(.int .i64 a.l), (.int .i64 a.h), (.int .i64 a.s)]), (Arr 23 b2 [(.int .i64 b.l), (.int .i64 b.h), (.int .i64 b.s)]), (Arr 23 b3 [(Value.int .i64 0), (Value.int .i64 0), (Value.int .i64 0)]), (Arr 23 b6 [(Value.int .i64 0), (Value.int .i64 0), (Value.int .i64 0)])], [], (perm_nil _), .inl ⟨(Sub.refl _), [(Arr 23 b6 [(Value.int .i64 0), (Value.int .i64 0), (Value.int .i64 0)])], .refl _⟩, ?_⟩
      refine el1 (i := 12) (by kernel_rfl) ?_
      refine ⟨_, rfl, ?_⟩
      refine ops_alloc Try.ti23 rfl (fun b7 => ?_)
      refine ops_nil ⟨[(Arr 23 b1 [(.int .i64 a.l), (.int .i64 a.h), (.int .i64 a.s)]), (Arr 23 b2 [(.int .i64 b.l), (.int .i64 b.h), (.int .i64 b.s)]), (Arr 23 b3 [(Value.int .i64 0), (Value.int .i64 0), (Value.int .i64 0)]), (Arr 23 b6 [(Value.int .i64 0), (Value.int .i64 0), (Value.int .i64 0)])], [(Arr 23 b7 [(Value.int .i64 0), (Value.int .i64 0), (Value.int .i64 0)])], (perm_idx _ _ [0, 1, 2, 3, 4] rfl rfl), .inl ⟨(Sub.refl _), [], .refl _⟩, ?_⟩
      refine el1 (i := 14) (by kernel_rfl) ?_
      refine ⟨_, rfl, ?_⟩
      refine ops_stw (k := 4) (vs := [(.int .i64 ((upF (joinF a b) (if b.h < a.h then b.h else a.h)).l)), (.int .i64 ((upF (joinF a b) (if b.h < a.h then b.h else a.h)).h)), (.int .i64 ((upF (joinF a b) (if b.h < a.h then b.h else a.h)).s))]) Try.size23 rfl rfl rfl rfl rfl rfl ?_
      refine ops_nil ⟨[(Arr 23 b1 [(.int .i64 a.l), (.int .i64 a.h), (.int .i64 a.s)]), (Arr 23 b2 [(.int .i64 b.l), (.int .i64 b.h), (.int .i64 b.s)]), (Arr 23 b3 [(Value.int .i64 0), (Value.int .i64 0), (Value.int .i64 0)]), (Arr 23 b6 [(Value.int .i64 0), (Value.int .i64 0), (Value.int .i64 0)])], [(Arr 23 b7 [(.int .i64 ((upF (joinF a b) (if b.h < a.h then b.h else a.h)).l)), (.int .i64 ((upF (joinF a b) (if b.h < a.h then b.h else a.h)).h)), (.int .i64 ((upF (joinF a b) (if b.h < a.h then b.h else a.h)).s))])], (perm_idx _ _ [0, 1, 2, 3, 4] rfl rfl), .inl ⟨(Sub.refl _), [], .refl _⟩, ?_⟩
      refine el1 (i := 15) (by kernel_rfl) ?_
      refine ⟨_, rfl, ?_⟩
      refine ops_stw (k := 3) (vs := [(.int .i64 ((abF (joinF a b) (if b.h < a.h then b.h else a.h)).l)), (.int .i64 ((abF (joinF a b) (if b.h < a.h then b.h else a.h)).h)), (.int .i64 ((abF (joinF a b) (if b.h < a.h then b.h else a.h)).s))]) Try.size23 rfl rfl rfl rfl rfl rfl ?_
      refine ops_nil ⟨[(Arr 23 b1 [(.int .i64 a.l), (.int .i64 a.h), (.int .i64 a.s)]), (Arr 23 b2 [(.int .i64 b.l), (.int .i64 b.h), (.int .i64 b.s)]), (Arr 23 b3 [(Value.int .i64 0), (Value.int .i64 0), (Value.int .i64 0)]), (Arr 23 b6 [(.int .i64 ((abF (joinF a b) (if b.h < a.h then b.h else a.h)).l)), (.int .i64 ((abF (joinF a b) (if b.h < a.h then b.h else a.h)).h)), (.int .i64 ((abF (joinF a b) (if b.h < a.h then b.h else a.h)).s))])], [(Arr 23 b7 [(.int .i64 ((upF (joinF a b) (if b.h < a.h then b.h else a.h)).l)), (.int .i64 ((upF (joinF a b) (if b.h < a.h then b.h else a.h)).h)), (.int .i64 ((upF (joinF a b) (if b.h < a.h then b.h else a.h)).s))])], (perm_idx _ _ [0, 1, 2, 3, 4] rfl rfl), .inr (by kernel_rfl), ?_⟩
      refine enil (σ' := [(Arr 23 b1 [(.int .i64 a.l), (.int .i64 a.h), (.int .i64 a.s)]), (Arr 23 b2 [(.int .i64 b.l), (.int .i64 b.h), (.int .i64 b.s)]), (Arr 23 b3 [(Value.int .i64 0), (Value.int .i64 0), (Value.int .i64 0)]), (Arr 23 b7 [(.int .i64 ((upF (joinF a b) (if b.h < a.h then b.h else a.h)).l)), (.int .i64 ((upF (joinF a b) (if b.h < a.h then b.h else a.h)).h)), (.int .i64 ((upF (joinF a b) (if b.h < a.h then b.h else a.h)).s))]), (Arr 23 b6 [(.int .i64 ((abF (joinF a b) (if b.h < a.h then b.h else a.h)).l)), (.int .i64 ((abF (joinF a b) (if b.h < a.h then b.h else a.h)).h)), (.int .i64 ((abF (joinF a b) (if b.h < a.h then b.h else a.h)).s))])]) (by kernel_rfl) (perm_idx _ _ [0, 1, 2, 4, 3] rfl rfl) ⟨(b7, b6), ⟨rfl, rfl, rfl, rfl, rfl, rfl, rfl, rfl, rfl, rfl, rfl, trivial⟩, rfl, rfl⟩
    rintro ⟨z8, z9⟩ e1 Vj1 σj1 hJ1
    obtain ⟨rfl, rfl⟩ : V = Vj1 ∧ [(Arr 23 b1 [(.int .i64 a.l), (.int .i64 a.h), (.int .i64 a.s)]), (Arr 23 b2 [(.int .i64 b.l), (.int .i64 b.h), (.int .i64 b.s)]), (Arr 23 b3 [(Value.int .i64 0), (Value.int .i64 0), (Value.int .i64 0)]), (Arr 23 z8 [(.int .i64 ((upF (joinF a b) (if b.h < a.h then b.h else a.h)).l)), (.int .i64 ((upF (joinF a b) (if b.h < a.h then b.h else a.h)).h)), (.int .i64 ((upF (joinF a b) (if b.h < a.h then b.h else a.h)).s))]), (Arr 23 z9 [(.int .i64 ((abF (joinF a b) (if b.h < a.h then b.h else a.h)).l)), (.int .i64 ((abF (joinF a b) (if b.h < a.h then b.h else a.h)).h)), (.int .i64 ((abF (joinF a b) (if b.h < a.h then b.h else a.h)).s))])] = σj1 := hJ1
    change VC _ _ _ _ _ _ (upds 76 [(0, (Value.int .i64 op)), (1, (.agg #[(.int .i64 a.l), (.int .i64 a.h), (.int .i64 a.s)])), (2, (.agg #[(.int .i64 b.l), (.int .i64 b.h), (.int .i64 b.s)])), (4, (Value.pointer (some ⟨b1, 0, none⟩))), (5, (Value.pointer (some ⟨b2, 0, none⟩))), (6, (Value.pointer (some ⟨b3, 0, none⟩))), (8, (Value.pointer (some ⟨z8, 0, none⟩))), (12, (Value.int .i64 op)), (13, (.bool (decide (op = 11)))), (36, (.bool (decide (op = 12)))), (47, (.bool (decide (op = 21))))] e1) _ _
    refine vc_seq ?_
    refine vc_region ?_
    refine oq (qv_ldm (vs := [(.int .i64 ((upF (joinF a b) (if b.h < a.h then b.h else a.h)).l)), (.int .i64 ((upF (joinF a b) (if b.h < a.h then b.h else a.h)).h)), (.int .i64 ((upF (joinF a b) (if b.h < a.h then b.h else a.h)).s))]) Try.agg23 rfl (inOc (k := 3) rfl) rfl rfl) ?_
    refine ops_stw (k := 2) (vs := [(.int .i64 ((upF (joinF a b) (if b.h < a.h then b.h else a.h)).l)), (.int .i64 ((upF (joinF a b) (if b.h < a.h then b.h else a.h)).h)), (.int .i64 ((upF (joinF a b) (if b.h < a.h then b.h else a.h)).s))]) Try.size23 rfl rfl rfl rfl rfl rfl ?_
    refine ops_nil ?_
    refine vc_ret ?_
    refine blockQ_ret ?_
    refine rs1 _ (rv_c (vs := [(.int .i64 ((upF (joinF a b) (if b.h < a.h then b.h else a.h)).l)), (.int .i64 ((upF (joinF a b) (if b.h < a.h then b.h else a.h)).h)), (.int .i64 ((upF (joinF a b) (if b.h < a.h then b.h else a.h)).s))]) Try.agg23 rfl (inOc (k := 2) rfl) rfl rfl) ?_
    exact (agg3 (show upF (joinF a b) (if b.h < a.h then b.h else a.h) = wdF op a b from by first | (rw [wd_1 (by omega) (by omega), ← hm]; done) | (rw [wd_2 (by omega) (by omega), ← hm]; done) | (rw [wd_3 (by omega)]; rfl) | (rw [wd_4 (by omega)]; rfl) | (rw [wd_5 (by omega)]; rfl)))
   ·
    refine vc_skip ?_
    refine vc_seq ?_
    refine vc_join (α := Nat × Nat) (fun xx => [(0, (Value.int .i64 op)), (1, (.agg #[(.int .i64 a.l), (.int .i64 a.h), (.int .i64 a.s)])), (2, (.agg #[(.int .i64 b.l), (.int .i64 b.h), (.int .i64 b.s)])), (4, (Value.pointer (some ⟨b1, 0, none⟩))), (5, (Value.pointer (some ⟨b2, 0, none⟩))), (6, (Value.pointer (some ⟨b3, 0, none⟩))), (11, (Value.pointer (some ⟨xx.2, 0, none⟩))), (12, (Value.int .i64 op)), (13, (.bool (decide (op = 11)))), (36, (.bool (decide (op = 12)))), (47, (.bool (decide (op = 21))))]) (fun xx V' σ' => V = V' ∧ [(Arr 23 b1 [(.int .i64 a.l), (.int .i64 a.h), (.int .i64 a.s)]), (Arr 23 b2 [(.int .i64 b.l), (.int .i64 b.h), (.int .i64 b.s)]), (Arr 23 b3 [(Value.int .i64 0), (Value.int .i64 0), (Value.int .i64 0)]), (Arr 23 xx.1 [(.int .i64 ((upF (joinF a b) ((if a.l < b.l then b.l else a.l) - 1)).l)), (.int .i64 ((upF (joinF a b) ((if a.l < b.l then b.l else a.l) - 1)).h)), (.int .i64 ((upF (joinF a b) ((if a.l < b.l then b.l else a.l) - 1)).s))]), (Arr 23 xx.2 [(.int .i64 ((abF (joinF a b) ((if a.l < b.l then b.l else a.l) - 1)).l)), (.int .i64 ((abF (joinF a b) ((if a.l < b.l then b.l else a.l) - 1)).h)), (.int .i64 ((abF (joinF a b) ((if a.l < b.l then b.l else a.l) - 1)).s))])] = σ') ?_ ?_
    ·
     refine vc_region_E (τ := []) (n := 17) [(Arr 23 b1 [(.int .i64 a.l), (.int .i64 a.h), (.int .i64 a.s)]), (Arr 23 b2 [(.int .i64 b.l), (.int .i64 b.h), (.int .i64 b.s)]), (Arr 23 b3 [(Value.int .i64 0), (Value.int .i64 0), (Value.int .i64 0)])] Try.mixed (perm_nil _) rfl ?_
     refine eq_ (i := 0) (by kernel_rfl) rfl (qv_ldm (vs := [(.int .i64 a.l), (.int .i64 a.h), (.int .i64 a.s)]) Try.agg23 rfl (inOc (k := 0) rfl) rfl rfl) ?_
     refine eq_ (i := 1) (by kernel_rfl) rfl (qv_ldm (vs := [(.int .i64 b.l), (.int .i64 b.h), (.int .i64 b.s)]) Try.agg23 rfl (inOc (k := 1) rfl) rfl rfl) ?_
     refine eq_ (i := 2) (by kernel_rfl) rfl (qv_call (v := (.agg #[(.int .i64 ((joinF a b).l)), (.int .i64 ((joinF a b).h)), (.int .i64 ((joinF a b).s))])) (join_c (a := a) (b := b) (ha) (hb)) rfl rfl) ?_
     refine eq_ (i := 3) (by kernel_rfl) rfl (qv_fa (off := 0) Try.field23_0 rfl) ?_
     refine eq_ (i := 4) (by kernel_rfl) rfl (qv_ldp (v := (.int .i64 a.l)) Try.plain3 rfl (inOc (k := 0) rfl) rfl) ?_
     refine eq_ (i := 5) (by kernel_rfl) rfl (qv_fa (off := 0) Try.field23_0 rfl) ?_
     refine eq_ (i := 6) (by kernel_rfl) rfl (qv_ldp (v := (.int .i64 b.l)) Try.plain3 rfl (inOc (k := 1) rfl) rfl) ?_
     refine eq_ (i := 7) (by kernel_rfl) rfl (qv_max rfl rfl) ?_
     refine eq_ (i := 8) (by kernel_rfl) rfl (qv_sub rfl rfl (by omega)) ?_
     refine eq_ (i := 9) (by kernel_rfl) rfl (qv_call (v := (.tuple #[(.agg #[(.int .i64 ((upF (joinF a b) ((if a.l < b.l then b.l else a.l) - 1)).l)), (.int .i64 ((upF (joinF a b) ((if a.l < b.l then b.l else a.l) - 1)).h)), (.int .i64 ((upF (joinF a b) ((if a.l < b.l then b.l else a.l) - 1)).s))]), (.agg #[(.int .i64 ((abF (joinF a b) ((if a.l < b.l then b.l else a.l) - 1)).l)), (.int .i64 ((abF (joinF a b) ((if a.l < b.l then b.l else a.l) - 1)).h)), (.int .i64 ((abF (joinF a b) ((if a.l < b.l then b.l else a.l) - 1)).s))])])) (split_c (a := joinF a b) ((join_least ha hb).ok)) rfl rfl) ?_
     refine eq_ (i := 10) (by kernel_rfl) rfl (qv_mv (.tuple #[(.agg #[(.int .i64 ((upF (joinF a b) ((if a.l < b.l then b.l else a.l) - 1)).l)), (.int .i64 ((upF (joinF a b) ((if a.l < b.l then b.l else a.l) - 1)).h)), (.int .i64 ((upF (joinF a b) ((if a.l < b.l then b.l else a.l) - 1)).s))]), (.agg #[(.int .i64 ((abF (joinF a b) ((if a.l < b.l then b.l else a.l) - 1)).l)), (.int .i64 ((abF (joinF a b) ((if a.l < b.l then b.l else a.l) - 1)).h)), (.int .i64 ((abF (joinF a b) ((if a.l < b.l then b.l else a.l) - 1)).s))])]) rfl) ?_
     refine eq_ (i := 11) (by kernel_rfl) rfl (qv_ext (.agg #[(.int .i64 ((upF (joinF a b) ((if a.l < b.l then b.l else a.l) - 1)).l)), (.int .i64 ((upF (joinF a b) ((if a.l < b.l then b.l else a.l) - 1)).h)), (.int .i64 ((upF (joinF a b) ((if a.l < b.l then b.l else a.l) - 1)).s))]) rfl rfl) ?_
     refine eq_ (i := 12) (by kernel_rfl) rfl (qv_ext (.agg #[(.int .i64 ((abF (joinF a b) ((if a.l < b.l then b.l else a.l) - 1)).l)), (.int .i64 ((abF (joinF a b) ((if a.l < b.l then b.l else a.l) - 1)).h)), (.int .i64 ((abF (joinF a b) ((if a.l < b.l then b.l else a.l) - 1)).s))]) rfl rfl) ?_
     refine el2 (i := 13) (j := 14) (by kernel_rfl) ?_ ?_
     ·
      refine ⟨_, rfl, ?_⟩
      refine ops_alloc Try.ti23 rfl (fun b8 => ?_)
      refine ops_nil ⟨[(Arr 23 b1 [(.int .i64 a.l), (.int .i64 a.h), (.int .i64 a.s)]), (Arr 23 b2 [(.int .i64 b.l), (.int .i64 b.h), (.int .i64 b.s)]), (Arr 23 b3 [(Value.int .i64 0), (Value.int .i64 0), (Value.int .i64 0)])], [(Arr 23 b8 [(Value.int .i64 0), (Value.int .i64 0), (Value.int .i64 0)])], (perm_idx _ _ [0, 1, 2, 3] rfl rfl), .inl ⟨(Sub.refl _), [], .refl _⟩, ?_⟩
      refine el1 (i := 14) (by kernel_rfl) ?_
      refine ⟨_, rfl, ?_⟩
      refine ops_alloc Try.ti23 rfl (fun b9 => ?_)
      refine ops_nil ⟨[(Arr 23 b1 [(.int .i64 a.l), (.int .i64 a.h), (.int .i64 a.s)]), (Arr 23 b2 [(.int .i64 b.l), (.int .i64 b.h), (.int .i64 b.s)]), (Arr 23 b3 [(Value.int .i64 0), (Value.int .i64 0), (Value.int .i64 0)]), (Arr 23 b9 [(Value.int .i64 0), (Value.int .i64 0), (Value.int .i64 0)])], [(Arr 23 b8 [(Value.int .i64 0), (Value.int .i64 0), (Value.int .i64 0)])], (perm_idx _ _ [0, 1, 2, 4, 3] rfl rfl), .inl ⟨(Sub.refl _), [(Arr 23 b9 [(Value.int .i64 0), (Value.int .i64 0), (Value.int .i64 0)])], .refl _⟩, ?_⟩
      refine el1 (i := 15) (by kernel_rfl) ?_
      refine ⟨_, rfl, ?_⟩
      refine ops_stw (k := 3) (vs := [(.int .i64 ((upF (joinF a b) ((if a.l < b.l then b.l else a.l) - 1)).l)), (.int .i64 ((upF (joinF a b) ((if a.l < b.l then b.l else a.l) - 1)).h)), (.int .i64 ((upF (joinF a b) ((if a.l < b.l then b.l else a.l) - 1)).s))]) Try.size23 rfl rfl rfl rfl rfl rfl ?_
      refine ops_nil ⟨[(Arr 23 b1 [(.int .i64 a.l), (.int .i64 a.h), (.int .i64 a.s)]), (Arr 23 b2 [(.int .i64 b.l), (.int .i64 b.h), (.int .i64 b.s)]), (Arr 23 b3 [(Value.int .i64 0), (Value.int .i64 0), (Value.int .i64 0)]), (Arr 23 b9 [(Value.int .i64 0), (Value.int .i64 0), (Value.int .i64 0)])], [(Arr 23 b8 [(.int .i64 ((upF (joinF a b) ((if a.l < b.l then b.l else a.l) - 1)).l)), (.int .i64 ((upF (joinF a b) ((if a.l < b.l then b.l else a.l) - 1)).h)), (.int .i64 ((upF (joinF a b) ((if a.l < b.l then b.l else a.l) - 1)).s))])], (perm_idx _ _ [0, 1, 2, 4, 3] rfl rfl), .inl ⟨(Sub.refl _), [], .refl _⟩, ?_⟩
      refine el1 (i := 16) (by kernel_rfl) ?_
      refine ⟨_, rfl, ?_⟩
      refine ops_stw (k := 4) (vs := [(.int .i64 ((abF (joinF a b) ((if a.l < b.l then b.l else a.l) - 1)).l)), (.int .i64 ((abF (joinF a b) ((if a.l < b.l then b.l else a.l) - 1)).h)), (.int .i64 ((abF (joinF a b) ((if a.l < b.l then b.l else a.l) - 1)).s))]) Try.size23 rfl rfl rfl rfl rfl rfl ?_
      refine ops_nil ⟨[(Arr 23 b1 [(.int .i64 a.l), (.int .i64 a.h), (.int .i64 a.s)]), (Arr 23 b2 [(.int .i64 b.l), (.int .i64 b.h), (.int .i64 b.s)]), (Arr 23 b3 [(Value.int .i64 0), (Value.int .i64 0), (Value.int .i64 0)]), (Arr 23 b9 [(.int .i64 ((abF (joinF a b) ((if a.l < b.l then b.l else a.l) - 1)).l)), (.int .i64 ((abF (joinF a b) ((if a.l < b.l then b.l else a.l) - 1)).h)), (.int .i64 ((abF (joinF a b) ((if a.l < b.l then b.l else a.l) - 1)).s))])], [(Arr 23 b8 [(.int .i64 ((upF (joinF a b) ((if a.l < b.l then b.l else a.l) - 1)).l)), (.int .i64 ((upF (joinF a b) ((if a.l < b.l then b.l else a.l) - 1)).h)), (.int .i64 ((upF (joinF a b) ((if a.l < b.l then b.l else a.l) - 1)).s))])], (perm_idx _ _ [0, 1, 2, 4, 3] rfl rfl), .inr (by kernel_rfl), ?_⟩
      refine enil (σ' := [(Arr 23 b1 [(.int .i64 a.l), (.int .i64 a.h), (.int .i64 a.s)]), (Arr 23 b2 [(.int .i64 b.l), (.int .i64 b.h), (.int .i64 b.s)]), (Arr 23 b3 [(Value.int .i64 0), (Value.int .i64 0), (Value.int .i64 0)]), (Arr 23 b8 [(.int .i64 ((upF (joinF a b) ((if a.l < b.l then b.l else a.l) - 1)).l)), (.int .i64 ((upF (joinF a b) ((if a.l < b.l then b.l else a.l) - 1)).h)), (.int .i64 ((upF (joinF a b) ((if a.l < b.l then b.l else a.l) - 1)).s))]), (Arr 23 b9 [(.int .i64 ((abF (joinF a b) ((if a.l < b.l then b.l else a.l) - 1)).l)), (.int .i64 ((abF (joinF a b) ((if a.l < b.l then b.l else a.l) - 1)).h)), (.int .i64 ((abF (joinF a b) ((if a.l < b.l then b.l else a.l) - 1)).s))])]) (by kernel_rfl) (perm_idx _ _ [0, 1, 2, 3, 4] rfl rfl) ⟨(b8, b9), ⟨rfl, rfl, rfl, rfl, rfl, rfl, rfl, rfl, rfl, rfl, rfl, trivial⟩, rfl, rfl⟩
     ·
      refine ⟨_, rfl, ?_⟩
      refine ops_alloc Try.ti23 rfl (fun b10 => ?_)
      refine ops_nil ⟨[(Arr 23 b1 [(.int .i64 a.l), (.int .i64 a.h), (.int .i64 a.s)]), (Arr 23 b2 [(.int .i64 b.l), (.int .i64 b.h), (.int .i64 b.s)]), (Arr 23 b3 [(Value.int .i64 0), (Value.int .i64 0), (Value.int .i64 0)]), (Arr 23 b10 [(Value.int .i64 0), (Value.int .i64 0), (Value.int .i64 0)])], [], (perm_nil _), .inl ⟨(Sub.refl _), [(Arr 23 b10 [(Value.int .i64 0), (Value.int .i64 0), (Value.int .i64 0)])], .refl _⟩, ?_⟩
      refine el1 (i := 13) (by kernel_rfl) ?_
      refine ⟨_, rfl, ?_⟩
      refine ops_alloc Try.ti23 rfl (fun b11 => ?_)
      refine ops_nil ⟨[(Arr 23 b1 [(.int .i64 a.l), (.int .i64 a.h), (.int .i64 a.s)]), (Arr 23 b2 [(.int .i64 b.l), (.int .i64 b.h), (.int .i64 b.s)]), (Arr 23 b3 [(Value.int .i64 0), (Value.int .i64 0), (Value.int .i64 0)]), (Arr 23 b10 [(Value.int .i64 0), (Value.int .i64 0), (Value.int .i64 0)])], [(Arr 23 b11 [(Value.int .i64 0), (Value.int .i64 0), (Value.int .i64 0)])], (perm_idx _ _ [0, 1, 2, 3, 4] rfl rfl), .inl ⟨(Sub.refl _), [], .refl _⟩, ?_⟩
      refine el1 (i := 15) (by kernel_rfl) ?_
      refine ⟨_, rfl, ?_⟩
      refine ops_stw (k := 4) (vs := [(.int .i64 ((upF (joinF a b) ((if a.l < b.l then b.l else a.l) - 1)).l)), (.int .i64 ((upF (joinF a b) ((if a.l < b.l then b.l else a.l) - 1)).h)), (.int .i64 ((upF (joinF a b) ((if a.l < b.l then b.l else a.l) - 1)).s))]) Try.size23 rfl rfl rfl rfl rfl rfl ?_
      refine ops_nil ⟨[(Arr 23 b1 [(.int .i64 a.l), (.int .i64 a.h), (.int .i64 a.s)]), (Arr 23 b2 [(.int .i64 b.l), (.int .i64 b.h), (.int .i64 b.s)]), (Arr 23 b3 [(Value.int .i64 0), (Value.int .i64 0), (Value.int .i64 0)]), (Arr 23 b10 [(Value.int .i64 0), (Value.int .i64 0), (Value.int .i64 0)])], [(Arr 23 b11 [(.int .i64 ((upF (joinF a b) ((if a.l < b.l then b.l else a.l) - 1)).l)), (.int .i64 ((upF (joinF a b) ((if a.l < b.l then b.l else a.l) - 1)).h)), (.int .i64 ((upF (joinF a b) ((if a.l < b.l then b.l else a.l) - 1)).s))])], (perm_idx _ _ [0, 1, 2, 3, 4] rfl rfl), .inl ⟨(Sub.refl _), [], .refl _⟩, ?_⟩
      refine el1 (i := 16) (by kernel_rfl) ?_
      refine ⟨_, rfl, ?_⟩
      refine ops_stw (k := 3) (vs := [(.int .i64 ((abF (joinF a b) ((if a.l < b.l then b.l else a.l) - 1)).l)), (.int .i64 ((abF (joinF a b) ((if a.l < b.l then b.l else a.l) - 1)).h)), (.int .i64 ((abF (joinF a b) ((if a.l < b.l then b.l else a.l) - 1)).s))]) Try.size23 rfl rfl rfl rfl rfl rfl ?_
      refine ops_nil ⟨[(Arr 23 b1 [(.int .i64 a.l), (.int .i64 a.h), (.int .i64 a.s)]), (Arr 23 b2 [(.int .i64 b.l), (.int .i64 b.h), (.int .i64 b.s)]), (Arr 23 b3 [(Value.int .i64 0), (Value.int .i64 0), (Value.int .i64 0)]), (Arr 23 b10 [(.int .i64 ((abF (joinF a b) ((if a.l < b.l then b.l else a.l) - 1)).l)), (.int .i64 ((abF (joinF a b) ((if a.l < b.l then b.l else a.l) - 1)).h)), (.int .i64 ((abF (joinF a b) ((if a.l < b.l then b.l else a.l) - 1)).s))])], [(Arr 23 b11 [(.int .i64 ((upF (joinF a b) ((if a.l < b.l then b.l else a.l) - 1)).l)), (.int .i64 ((upF (joinF a b) ((if a.l < b.l then b.l else a.l) - 1)).h)), (.int .i64 ((upF (joinF a b) ((if a.l < b.l then b.l else a.l) - 1)).s))])], (perm_idx _ _ [0, 1, 2, 3, 4] rfl rfl), .inr (by kernel_rfl), ?_⟩
      refine enil (σ' := [(Arr 23 b1 [(.int .i64 a.l), (.int .i64 a.h), (.int .i64 a.s)]), (Arr 23 b2 [(.int .i64 b.l), (.int .i64 b.h), (.int .i64 b.s)]), (Arr 23 b3 [(Value.int .i64 0), (Value.int .i64 0), (Value.int .i64 0)]), (Arr 23 b11 [(.int .i64 ((upF (joinF a b) ((if a.l < b.l then b.l else a.l) - 1)).l)), (.int .i64 ((upF (joinF a b) ((if a.l < b.l then b.l else a.l) - 1)).h)), (.int .i64 ((upF (joinF a b) ((if a.l < b.l then b.l else a.l) - 1)).s))]), (Arr 23 b10 [(.int .i64 ((abF (joinF a b) ((if a.l < b.l then b.l else a.l) - 1)).l)), (.int .i64 ((abF (joinF a b) ((if a.l < b.l then b.l else a.l) - 1)).h)), (.int .i64 ((abF (joinF a b) ((if a.l < b.l then b.l else a.l) - 1)).s))])]) (by kernel_rfl) (perm_idx _ _ [0, 1, 2, 4, 3] rfl rfl) ⟨(b11, b10), ⟨rfl, rfl, rfl, rfl, rfl, rfl, rfl, rfl, rfl, rfl, rfl, trivial⟩, rfl, rfl⟩
    rintro ⟨z10, z11⟩ e2 Vj2 σj2 hJ2
    obtain ⟨rfl, rfl⟩ : V = Vj2 ∧ [(Arr 23 b1 [(.int .i64 a.l), (.int .i64 a.h), (.int .i64 a.s)]), (Arr 23 b2 [(.int .i64 b.l), (.int .i64 b.h), (.int .i64 b.s)]), (Arr 23 b3 [(Value.int .i64 0), (Value.int .i64 0), (Value.int .i64 0)]), (Arr 23 z10 [(.int .i64 ((upF (joinF a b) ((if a.l < b.l then b.l else a.l) - 1)).l)), (.int .i64 ((upF (joinF a b) ((if a.l < b.l then b.l else a.l) - 1)).h)), (.int .i64 ((upF (joinF a b) ((if a.l < b.l then b.l else a.l) - 1)).s))]), (Arr 23 z11 [(.int .i64 ((abF (joinF a b) ((if a.l < b.l then b.l else a.l) - 1)).l)), (.int .i64 ((abF (joinF a b) ((if a.l < b.l then b.l else a.l) - 1)).h)), (.int .i64 ((abF (joinF a b) ((if a.l < b.l then b.l else a.l) - 1)).s))])] = σj2 := hJ2
    change VC _ _ _ _ _ _ (upds 76 [(0, (Value.int .i64 op)), (1, (.agg #[(.int .i64 a.l), (.int .i64 a.h), (.int .i64 a.s)])), (2, (.agg #[(.int .i64 b.l), (.int .i64 b.h), (.int .i64 b.s)])), (4, (Value.pointer (some ⟨b1, 0, none⟩))), (5, (Value.pointer (some ⟨b2, 0, none⟩))), (6, (Value.pointer (some ⟨b3, 0, none⟩))), (11, (Value.pointer (some ⟨z11, 0, none⟩))), (12, (Value.int .i64 op)), (13, (.bool (decide (op = 11)))), (36, (.bool (decide (op = 12)))), (47, (.bool (decide (op = 21))))] e2) _ _
    refine vc_seq ?_
    refine vc_region ?_
    refine oq (qv_ldm (vs := [(.int .i64 ((abF (joinF a b) ((if a.l < b.l then b.l else a.l) - 1)).l)), (.int .i64 ((abF (joinF a b) ((if a.l < b.l then b.l else a.l) - 1)).h)), (.int .i64 ((abF (joinF a b) ((if a.l < b.l then b.l else a.l) - 1)).s))]) Try.agg23 rfl (inOc (k := 4) rfl) rfl rfl) ?_
    refine ops_stw (k := 2) (vs := [(.int .i64 ((abF (joinF a b) ((if a.l < b.l then b.l else a.l) - 1)).l)), (.int .i64 ((abF (joinF a b) ((if a.l < b.l then b.l else a.l) - 1)).h)), (.int .i64 ((abF (joinF a b) ((if a.l < b.l then b.l else a.l) - 1)).s))]) Try.size23 rfl rfl rfl rfl rfl rfl ?_
    refine ops_nil ?_
    refine vc_ret ?_
    refine rs1 _ (rv_c (vs := [(.int .i64 ((abF (joinF a b) ((if a.l < b.l then b.l else a.l) - 1)).l)), (.int .i64 ((abF (joinF a b) ((if a.l < b.l then b.l else a.l) - 1)).h)), (.int .i64 ((abF (joinF a b) ((if a.l < b.l then b.l else a.l) - 1)).s))]) Try.agg23 rfl (inOc (k := 2) rfl) rfl rfl) ?_
    exact (agg3 (show abF (joinF a b) ((if a.l < b.l then b.l else a.l) - 1) = wdF op a b from by first | (rw [wd_1 (by omega) (by omega), ← hm]; done) | (rw [wd_2 (by omega) (by omega), ← hm]; done) | (rw [wd_3 (by omega)]; rfl) | (rw [wd_4 (by omega)]; rfl) | (rw [wd_5 (by omega)]; rfl)))

set_option maxRecDepth 100000 in
set_option maxHeartbeats 4000000 in
theorem listed_c {V : HV} {op : Int} {a b : Nm} (ha : vld a) (hb : vld b) (he : a ≠ nE) (hf : b ≠ nE) (ho : op = 11 ∨ op = 12 ∨ op = 21 ∨ op = 22) :
    FnC Try.prog 67 [(Value.int .i64 op), (.agg #[(.int .i64 a.l), (.int .i64 a.h), (.int .i64 a.s)]), (.agg #[(.int .i64 b.l), (.int .i64 b.h), (.int .i64 b.s)])] V [] (fun v _ _ => v = (.agg #[(.int .i64 ((lsF op a b).l)), (.int .i64 ((lsF op a b).h)), (.int .i64 ((lsF op a b).s))])) := by
 refine fn_intro (N := 57) Try.func67 (by kernel_rfl) rfl rfl rfl (Nat.le_of_ble_eq_true rfl) ?_
 intro w0 D
 have za := size_bd ha
 have zb := size_bd hb
 have hok : exOk op a b := fun x y _ _ => valOk_o (by omega)
 have la := memF_len ha
 have lb := memF_len hb
 refine vc_seq ?_
 refine vc_region ?_
 refine ops_box (v := (.agg #[(.int .i64 a.l), (.int .i64 a.h), (.int .i64 a.s)])) (cs := [(.int .i64 a.l), (.int .i64 a.h), (.int .i64 a.s)]) rfl rfl (fun b1 => ?_)
 refine ops_box (v := (.agg #[(.int .i64 b.l), (.int .i64 b.h), (.int .i64 b.s)])) (cs := [(.int .i64 b.l), (.int .i64 b.h), (.int .i64 b.s)]) rfl rfl (fun b2 => ?_)
 refine ops_alloc Try.ti23 rfl (fun b3 => ?_)
 refine ops_nil ?_
 refine vc_seq ?_
 refine vc_seq ?_
 refine vc_res (σ' := [(Arr 23 b1 [(.int .i64 a.l), (.int .i64 a.h), (.int .i64 a.s)]), (Arr 23 b2 [(.int .i64 b.l), (.int .i64 b.h), (.int .i64 b.s)]), (Arr 23 b3 [(Value.int .i64 0), (Value.int .i64 0), (Value.int .i64 0)])]) rfl ?_
 refine vc_region_any Try.mixed (by kernel_rfl) ?_
 refine qq (qv_ldm (vs := [(.int .i64 a.l), (.int .i64 a.h), (.int .i64 a.s)]) Try.agg23 rfl (inOc (k := 0) rfl) rfl rfl) ?_
 refine qq (qv_call (v := (.int .i64 (sizeF a))) (size_c (a := a) (by first | exact ha | exact hb)) rfl rfl) ?_
 refine qq (qv_gtr rfl rfl) ?_
 refine qq (qv_mv (.bool (decide (4096 < (sizeF a)))) rfl) ?_
 by_cases g1 : 4096 < (sizeF a)
 ·
  refine qs (want_fn g1 rfl rfl rfl) ?_
  refine qs (want_fn g1 rfl rfl rfl) ?_
  refine qs (want_fn g1 rfl rfl rfl) ?_
  refine qq (qv_pick_t g1 rfl (rfl : ev _ _ = (Value.bool true))) ?_
  refine qq (qv_mv (Value.bool true) rfl) ?_
  refine qs (want_fnc rfl rfl rfl) ?_
  refine qs (want_fnc rfl rfl rfl) ?_
  refine qs (want_fnc rfl rfl rfl) ?_
  refine qs (want_fnc rfl rfl rfl) ?_
  
  refine qs (want_fnc rfl rfl rfl) ?_
  refine qs (want_fnc rfl rfl rfl) ?_
  refine qq (qv_pick_tc rfl (rfl : ev _ _ = (Value.bool true))) ?_
  refine qops_nil ?_
  refine vc_tt rfl ?_
  refine vc_seq ?_
  have hns : ¬ sml a b := sml_no ha hb he hf (by omega)
  refine vc_region ?_
  refine oq (qv_mv (Value.int .i64 op) rfl) ?_
  refine oq (qv_ldm (vs := [(.int .i64 a.l), (.int .i64 a.h), (.int .i64 a.s)]) Try.agg23 rfl (inOc (k := 0) rfl) rfl rfl) ?_
  refine oq (qv_ldm (vs := [(.int .i64 b.l), (.int .i64 b.h), (.int .i64 b.s)]) Try.agg23 rfl (inOc (k := 1) rfl) rfl rfl) ?_
  refine oq (qv_call (v := (.agg #[(.int .i64 ((wdF op a b).l)), (.int .i64 ((wdF op a b).h)), (.int .i64 ((wdF op a b).s))])) (wide_c ha hb) rfl rfl) ?_
  refine ops_stw (k := 2) (vs := [(.int .i64 ((wdF op a b).l)), (.int .i64 ((wdF op a b).h)), (.int .i64 ((wdF op a b).s))]) Try.size23 rfl rfl rfl rfl rfl rfl ?_
  refine ops_nil ?_
  refine vc_ret ?_
  refine rs1 _ (rv_c (vs := [(.int .i64 ((wdF op a b).l)), (.int .i64 ((wdF op a b).h)), (.int .i64 ((wdF op a b).s))]) Try.agg23 rfl (inOc (k := 2) rfl) rfl rfl) ?_
  exact (agg3 (show wdF op a b = lsF op a b from by first | (rw [lsF_0 hns]; done) | (rw [lsF_1 hs, XS_all (by omega)]; rfl)))
 ·
  refine qg (qv_ldm (vs := [(.int .i64 b.l), (.int .i64 b.h), (.int .i64 b.s)]) Try.agg23 rfl (inOc (k := 1) rfl) rfl rfl) (want_f g1 rfl rfl rfl) ?_
  refine qg (qv_call (v := (.int .i64 (sizeF b))) (size_c (a := b) (by first | exact ha | exact hb)) rfl rfl) (want_f g1 rfl rfl rfl) ?_
  refine qg (qv_gtr rfl rfl) (want_f g1 rfl rfl rfl) ?_
  refine qq (qv_pick_f g1 rfl (rfl : ev _ _ = (.bool (decide (4096 < (sizeF b)))))) ?_
  refine qq (qv_mv (.bool (decide (4096 < (sizeF b)))) rfl) ?_
  by_cases g2 : 4096 < (sizeF b)
  ·
   refine qs (want_fn g2 rfl rfl rfl) ?_
   refine qs (want_fn g2 rfl rfl rfl) ?_
   refine qs (want_fn g2 rfl rfl rfl) ?_
   refine qs (want_fn g2 rfl rfl rfl) ?_
   
   refine qs (want_fn g2 rfl rfl rfl) ?_
   refine qs (want_fn g2 rfl rfl rfl) ?_
   refine qq (qv_pick_t g2 rfl (rfl : ev _ _ = (Value.bool true))) ?_
   refine qops_nil ?_
   refine vc_tt rfl ?_
   refine vc_seq ?_
   have hns : ¬ sml a b := sml_no ha hb he hf (by omega)
   refine vc_region ?_
   refine oq (qv_mv (Value.int .i64 op) rfl) ?_
   refine oq (qv_ldm (vs := [(.int .i64 a.l), (.int .i64 a.h), (.int .i64 a.s)]) Try.agg23 rfl (inOc (k := 0) rfl) rfl rfl) ?_
   refine oq (qv_ldm (vs := [(.int .i64 b.l), (.int .i64 b.h), (.int .i64 b.s)]) Try.agg23 rfl (inOc (k := 1) rfl) rfl rfl) ?_
   refine oq (qv_call (v := (.agg #[(.int .i64 ((wdF op a b).l)), (.int .i64 ((wdF op a b).h)), (.int .i64 ((wdF op a b).s))])) (wide_c ha hb) rfl rfl) ?_
   refine ops_stw (k := 2) (vs := [(.int .i64 ((wdF op a b).l)), (.int .i64 ((wdF op a b).h)), (.int .i64 ((wdF op a b).s))]) Try.size23 rfl rfl rfl rfl rfl rfl ?_
   refine ops_nil ?_
   refine vc_ret ?_
   refine rs1 _ (rv_c (vs := [(.int .i64 ((wdF op a b).l)), (.int .i64 ((wdF op a b).h)), (.int .i64 ((wdF op a b).s))]) Try.agg23 rfl (inOc (k := 2) rfl) rfl rfl) ?_
   exact (agg3 (show wdF op a b = lsF op a b from by first | (rw [lsF_0 hns]; done) | (rw [lsF_1 hs, XS_all (by omega)]; rfl)))
  ·
   refine qg (qv_ldm (vs := [(.int .i64 a.l), (.int .i64 a.h), (.int .i64 a.s)]) Try.agg23 rfl (inOc (k := 0) rfl) rfl rfl) (want_f g2 rfl rfl rfl) ?_
   refine qg (qv_call (v := (.int .i64 (sizeF a))) (size_c (a := a) (by first | exact ha | exact hb)) rfl rfl) (want_f g2 rfl rfl rfl) ?_
   refine qg (qv_ldm (vs := [(.int .i64 b.l), (.int .i64 b.h), (.int .i64 b.s)]) Try.agg23 rfl (inOc (k := 1) rfl) rfl rfl) (want_f g2 rfl rfl rfl) ?_
   refine qg (qv_call (v := (.int .i64 (sizeF b))) (size_c (a := b) (by first | exact ha | exact hb)) rfl rfl) (want_f g2 rfl rfl rfl) ?_
   have e1 := Int.mul_nonneg za.1 zb.1
   have e2 := Int.mul_le_mul (show sizeF a ≤ 4096 by omega) (show sizeF b ≤ 4096 by omega) zb.1 (by omega)
   refine qg (qv_mul rfl rfl (by omega)) (want_f g2 rfl rfl rfl) ?_
   refine qg (qv_gtr rfl rfl) (want_f g2 rfl rfl rfl) ?_
   refine qq (qv_pick_f g2 rfl (rfl : ev _ _ = (.bool (decide (4096 < ((sizeF a) * (sizeF b))))))) ?_
   refine qops_nil ?_
   refine vc_if rfl (fun c1 => ?_) (fun c1 => ?_)
   ·
    refine vc_seq ?_
    have hns : ¬ sml a b := sml_no ha hb he hf (by omega)
    refine vc_region ?_
    refine oq (qv_mv (Value.int .i64 op) rfl) ?_
    refine oq (qv_ldm (vs := [(.int .i64 a.l), (.int .i64 a.h), (.int .i64 a.s)]) Try.agg23 rfl (inOc (k := 0) rfl) rfl rfl) ?_
    refine oq (qv_ldm (vs := [(.int .i64 b.l), (.int .i64 b.h), (.int .i64 b.s)]) Try.agg23 rfl (inOc (k := 1) rfl) rfl rfl) ?_
    refine oq (qv_call (v := (.agg #[(.int .i64 ((wdF op a b).l)), (.int .i64 ((wdF op a b).h)), (.int .i64 ((wdF op a b).s))])) (wide_c ha hb) rfl rfl) ?_
    refine ops_stw (k := 2) (vs := [(.int .i64 ((wdF op a b).l)), (.int .i64 ((wdF op a b).h)), (.int .i64 ((wdF op a b).s))]) Try.size23 rfl rfl rfl rfl rfl rfl ?_
    refine ops_nil ?_
    refine vc_ret ?_
    refine rs1 _ (rv_c (vs := [(.int .i64 ((wdF op a b).l)), (.int .i64 ((wdF op a b).h)), (.int .i64 ((wdF op a b).s))]) Try.agg23 rfl (inOc (k := 2) rfl) rfl rfl) ?_
    exact (agg3 (show wdF op a b = lsF op a b from by first | (rw [lsF_0 hns]; done) | (rw [lsF_1 hs, XS_all (by omega)]; rfl)))
   ·
    refine vc_skip ?_
    refine vc_seq ?_
    have hs : sml a b := by unfold sml; omega
    refine vc_region ?_
    refine oq (qv_call (v := (.agg #[(.int .i64 nE.l), (.int .i64 nE.h), (.int .i64 nE.s)])) (none_c) rfl rfl) ?_
    refine ops_alloc Try.ti23 rfl (fun b4 => ?_)
    refine ops_stw (k := 3) (vs := [(.int .i64 nE.l), (.int .i64 nE.h), (.int .i64 nE.s)]) Try.size23 rfl rfl rfl rfl rfl rfl ?_
    refine ops_nil ?_
    refine vc_seq ?_
    refine vc_seq ?_
    refine vc_res (σ' := [(Arr 23 b1 [(.int .i64 a.l), (.int .i64 a.h), (.int .i64 a.s)]), (Arr 23 b2 [(.int .i64 b.l), (.int .i64 b.h), (.int .i64 b.s)]), (Arr 23 b3 [(Value.int .i64 0), (Value.int .i64 0), (Value.int .i64 0)]), (Arr 23 b4 [(.int .i64 nE.l), (.int .i64 nE.h), (.int .i64 nE.s)])]) rfl ?_
    refine vc_region ?_
    refine oq (qv_ldm (vs := [(.int .i64 a.l), (.int .i64 a.h), (.int .i64 a.s)]) Try.agg23 rfl (inOc (k := 0) rfl) rfl rfl) ?_
    refine ops_call (σa := []) (σr := [(Arr 23 b1 [(.int .i64 a.l), (.int .i64 a.h), (.int .i64 a.s)]), (Arr 23 b2 [(.int .i64 b.l), (.int .i64 b.h), (.int .i64 b.s)]), (Arr 23 b3 [(Value.int .i64 0), (Value.int .i64 0), (Value.int .i64 0)]), (Arr 23 b4 [(.int .i64 nE.l), (.int .i64 nE.h), (.int .i64 nE.s)])]) (members_c (a := a) ha (by omega)) rfl rfl (.refl _) (fun r1 V1 sg1 hV1 hp1 => ?_)
    obtain ⟨rfl, hma⟩ := hp1
    refine oq (qv_lenI Try.underlying37 rfl hma) ?_
    refine oq (qv_mv (Value.int .i64 0) rfl) ?_
    refine ops_nil ?_
    refine vc_block ?_
    refine vc_loop (α := Int) (fun (xx : Int) => [(0, (Value.int .i64 op)), (1, (.agg #[(.int .i64 a.l), (.int .i64 a.h), (.int .i64 a.s)])), (2, (.agg #[(.int .i64 b.l), (.int .i64 b.h), (.int .i64 b.s)])), (4, (Value.pointer (some ⟨b1, 0, none⟩))), (5, (Value.pointer (some ⟨b2, 0, none⟩))), (6, (Value.pointer (some ⟨b3, 0, none⟩))), (7, (Value.pointer (some ⟨b4, 0, none⟩))), (27, (.bool (decide (4096 < ((sizeF a) * (sizeF b)))))), (34, r1), (35, (.int .i64 ((((memF a)).length : Int)))), (36, (Value.int .i64 xx))]) (fun (xx : Int) V' σ' => [(Arr 23 b1 [(.int .i64 a.l), (.int .i64 a.h), (.int .i64 a.s)]), (Arr 23 b2 [(.int .i64 b.l), (.int .i64 b.h), (.int .i64 b.s)]), (Arr 23 b3 [(Value.int .i64 0), (Value.int .i64 0), (Value.int .i64 0)]), (Arr 23 b4 [(.int .i64 ((ofF (XS op a b xx)).l)), (.int .i64 ((ofF (XS op a b xx)).h)), (.int .i64 ((ofF (XS op a b xx)).s))])] = σ' ∧ Ints .i64 V' r1 (memF a) ∧ 0 ≤ xx ∧ xx ≤ (memF a).length) (fun (xx : Int) => ((memF a).length - xx).toNat) (0) ?_ ?_ ?_
    · exact ⟨rfl, rfl, rfl, rfl, rfl, rfl, rfl, rfl, rfl, rfl, rfl, trivial⟩
    · exact ⟨(show [(Arr 23 b1 [(.int .i64 a.l), (.int .i64 a.h), (.int .i64 a.s)]), (Arr 23 b2 [(.int .i64 b.l), (.int .i64 b.h), (.int .i64 b.s)]), (Arr 23 b3 [(Value.int .i64 0), (Value.int .i64 0), (Value.int .i64 0)]), (Arr 23 b4 [(.int .i64 ((ofF (XS op a b 0)).l)), (.int .i64 ((ofF (XS op a b 0)).h)), (.int .i64 ((ofF (XS op a b 0)).s))])] = [(Arr 23 b1 [(.int .i64 a.l), (.int .i64 a.h), (.int .i64 a.s)]), (Arr 23 b2 [(.int .i64 b.l), (.int .i64 b.h), (.int .i64 b.s)]), (Arr 23 b3 [(Value.int .i64 0), (Value.int .i64 0), (Value.int .i64 0)]), (Arr 23 b4 [(.int .i64 nE.l), (.int .i64 nE.h), (.int .i64 nE.s)])] from by rfl), hma, by omega, by omega⟩
    rintro p e1 V0l σ0l hI0
    obtain ⟨rfl, hma, i1, i2⟩ : [(Arr 23 b1 [(.int .i64 a.l), (.int .i64 a.h), (.int .i64 a.s)]), (Arr 23 b2 [(.int .i64 b.l), (.int .i64 b.h), (.int .i64 b.s)]), (Arr 23 b3 [(Value.int .i64 0), (Value.int .i64 0), (Value.int .i64 0)]), (Arr 23 b4 [(.int .i64 ((ofF (XS op a b p)).l)), (.int .i64 ((ofF (XS op a b p)).h)), (.int .i64 ((ofF (XS op a b p)).s))])] = σ0l ∧ Ints .i64 V0l r1 (memF a) ∧ 0 ≤ p ∧ p ≤ (memF a).length := hI0
    refine vc_seq ?_
    refine vc_res (σ' := [(Arr 23 b1 [(.int .i64 a.l), (.int .i64 a.h), (.int .i64 a.s)]), (Arr 23 b2 [(.int .i64 b.l), (.int .i64 b.h), (.int .i64 b.s)]), (Arr 23 b3 [(Value.int .i64 0), (Value.int .i64 0), (Value.int .i64 0)]), (Arr 23 b4 [(.int .i64 ((ofF (XS op a b p)).l)), (.int .i64 ((ofF (XS op a b p)).h)), (.int .i64 ((ofF (XS op a b p)).s))])]) rfl ?_
    refine vc_region ?_
    refine oq (qv_lss rfl rfl) ?_
    refine ops_nil ?_
    refine vc_seq ?_
    refine vc_if rfl (fun c2 => ?_) (fun c2 => ?_)
    ·
     refine vc_skip ?_
     refine vc_seq ?_
     refine vc_block ?_
     refine vc_seq ?_
     refine vc_region ?_
     refine oq (qv_iai (v := r1) (i := p) Try.underlying37 Try.size3 rfl (inVi hma) rfl (by omega) (by omega)) ?_
     refine oq (qv_ldi (v := r1) (i := p) Try.plain3 rfl (inVi hma) (by omega) (by omega)) ?_
     refine oq (qv_as (.int .i64 (gi ((memF a)) (p))) rfl) ?_
     refine ops_nil ?_
     refine vc_seq ?_
     refine vc_region ?_
     refine oq (qv_ldm (vs := [(.int .i64 b.l), (.int .i64 b.h), (.int .i64 b.s)]) Try.agg23 rfl (inOc (k := 1) rfl) rfl rfl) ?_
     refine ops_call (σa := []) (σr := [(Arr 23 b1 [(.int .i64 a.l), (.int .i64 a.h), (.int .i64 a.s)]), (Arr 23 b2 [(.int .i64 b.l), (.int .i64 b.h), (.int .i64 b.s)]), (Arr 23 b3 [(Value.int .i64 0), (Value.int .i64 0), (Value.int .i64 0)]), (Arr 23 b4 [(.int .i64 ((ofF (XS op a b p)).l)), (.int .i64 ((ofF (XS op a b p)).h)), (.int .i64 ((ofF (XS op a b p)).s))])]) (members_c (a := b) hb (by omega)) rfl rfl (.refl _) (fun r2 V2 sg2 hV2 hp2 => ?_)
     obtain ⟨rfl, hmb⟩ := hp2
     have hma := hma.mono hV2
     refine oq (qv_lenI Try.underlying37 rfl hmb) ?_
     refine oq (qv_mv (Value.int .i64 0) rfl) ?_
     refine ops_nil ?_
     refine vc_block ?_
     refine vc_loop (α := Int) (fun (xx : Int) => [(0, (Value.int .i64 op)), (1, (.agg #[(.int .i64 a.l), (.int .i64 a.h), (.int .i64 a.s)])), (2, (.agg #[(.int .i64 b.l), (.int .i64 b.h), (.int .i64 b.s)])), (4, (Value.pointer (some ⟨b1, 0, none⟩))), (5, (Value.pointer (some ⟨b2, 0, none⟩))), (6, (Value.pointer (some ⟨b3, 0, none⟩))), (7, (Value.pointer (some ⟨b4, 0, none⟩))), (9, (.int .i64 (gi ((memF a)) (p)))), (27, (.bool (decide (4096 < ((sizeF a) * (sizeF b)))))), (34, r1), (35, (.int .i64 ((((memF a)).length : Int)))), (36, (Value.int .i64 p)), (37, (.bool (decide (p < ((((memF a)).length : Int)))))), (41, r2), (42, (.int .i64 ((((memF b)).length : Int)))), (43, (Value.int .i64 xx))]) (fun (xx : Int) V' σ' => V2 = V' ∧ [(Arr 23 b1 [(.int .i64 a.l), (.int .i64 a.h), (.int .i64 a.s)]), (Arr 23 b2 [(.int .i64 b.l), (.int .i64 b.h), (.int .i64 b.s)]), (Arr 23 b3 [(Value.int .i64 0), (Value.int .i64 0), (Value.int .i64 0)]), (Arr 23 b4 [(.int .i64 ((ofF (YS op a b p xx)).l)), (.int .i64 ((ofF (YS op a b p xx)).h)), (.int .i64 ((ofF (YS op a b p xx)).s))])] = σ' ∧ 0 ≤ xx ∧ xx ≤ (memF b).length) (fun (xx : Int) => ((memF b).length - xx).toNat) (0) ?_ ?_ ?_
     · exact ⟨rfl, rfl, rfl, rfl, rfl, rfl, rfl, rfl, rfl, rfl, rfl, rfl, rfl, rfl, rfl, rfl, trivial⟩
     · exact ⟨rfl, (show [(Arr 23 b1 [(.int .i64 a.l), (.int .i64 a.h), (.int .i64 a.s)]), (Arr 23 b2 [(.int .i64 b.l), (.int .i64 b.h), (.int .i64 b.s)]), (Arr 23 b3 [(Value.int .i64 0), (Value.int .i64 0), (Value.int .i64 0)]), (Arr 23 b4 [(.int .i64 ((ofF (YS op a b p 0)).l)), (.int .i64 ((ofF (YS op a b p 0)).h)), (.int .i64 ((ofF (YS op a b p 0)).s))])] = [(Arr 23 b1 [(.int .i64 a.l), (.int .i64 a.h), (.int .i64 a.s)]), (Arr 23 b2 [(.int .i64 b.l), (.int .i64 b.h), (.int .i64 b.s)]), (Arr 23 b3 [(Value.int .i64 0), (Value.int .i64 0), (Value.int .i64 0)]), (Arr 23 b4 [(.int .i64 ((ofF (XS op a b p)).l)), (.int .i64 ((ofF (XS op a b p)).h)), (.int .i64 ((ofF (XS op a b p)).s))])] from by rw [YS_0]), by omega, by omega⟩
     rintro q e2 V1l σ1l hI1
     obtain ⟨rfl, rfl, i3, i4⟩ : V2 = V1l ∧ [(Arr 23 b1 [(.int .i64 a.l), (.int .i64 a.h), (.int .i64 a.s)]), (Arr 23 b2 [(.int .i64 b.l), (.int .i64 b.h), (.int .i64 b.s)]), (Arr 23 b3 [(Value.int .i64 0), (Value.int .i64 0), (Value.int .i64 0)]), (Arr 23 b4 [(.int .i64 ((ofF (YS op a b p q)).l)), (.int .i64 ((ofF (YS op a b p q)).h)), (.int .i64 ((ofF (YS op a b p q)).s))])] = σ1l ∧ 0 ≤ q ∧ q ≤ (memF b).length := hI1
     refine vc_seq ?_
     refine vc_res (σ' := [(Arr 23 b1 [(.int .i64 a.l), (.int .i64 a.h), (.int .i64 a.s)]), (Arr 23 b2 [(.int .i64 b.l), (.int .i64 b.h), (.int .i64 b.s)]), (Arr 23 b3 [(Value.int .i64 0), (Value.int .i64 0), (Value.int .i64 0)]), (Arr 23 b4 [(.int .i64 ((ofF (YS op a b p q)).l)), (.int .i64 ((ofF (YS op a b p q)).h)), (.int .i64 ((ofF (YS op a b p q)).s))])]) rfl ?_
     refine vc_region ?_
     refine oq (qv_lss rfl rfl) ?_
     refine ops_nil ?_
     refine vc_seq ?_
     refine vc_if rfl (fun c3 => ?_) (fun c3 => ?_)
     ·
      refine vc_skip ?_
      refine vc_seq ?_
      refine vc_block ?_
      refine vc_seq ?_
      refine vc_region ?_
      refine oq (qv_iai (v := r2) (i := q) Try.underlying37 Try.size3 rfl (inVi hmb) rfl (by omega) (by omega)) ?_
      refine oq (qv_ldi (v := r2) (i := q) Try.plain3 rfl (inVi hmb) (by omega) (by omega)) ?_
      refine oq (qv_as (.int .i64 (gi ((memF b)) (q))) rfl) ?_
      refine ops_nil ?_
      have fx := mem_fits ha (memF_gi ha (show 0 ≤ p by omega) (by omega))
      have fy := mem_fits hb (memF_gi hb (show 0 ≤ q by omega) (by omega))
      have fv := val_fits fx fy (hok _ _ (memF_gi ha (show 0 ≤ p by omega) (by omega)) (memF_gi hb (show 0 ≤ q by omega) (by omega)))
      have hv1 := YS_vld (q := q) ha hb hok (show 0 ≤ p by omega) (by omega)
      refine vc_region_order (τ := []) [(0, false), (1, false), (2, false), (3, false), (4, false), (5, false), (6, false), (7, true)] [(Arr 23 b1 [(.int .i64 a.l), (.int .i64 a.h), (.int .i64 a.s)]), (Arr 23 b2 [(.int .i64 b.l), (.int .i64 b.h), (.int .i64 b.s)]), (Arr 23 b3 [(Value.int .i64 0), (Value.int .i64 0), (Value.int .i64 0)]), (Arr 23 b4 [(.int .i64 ((ofF (YS op a b p q)).l)), (.int .i64 ((ofF (YS op a b p q)).h)), (.int .i64 ((ofF (YS op a b p q)).s))])] Try.mixed (perm_nil _) (by kernel_rfl) ?_
      refine rq rfl (qv_ldm (vs := [(.int .i64 ((ofF (YS op a b p q)).l)), (.int .i64 ((ofF (YS op a b p q)).h)), (.int .i64 ((ofF (YS op a b p q)).s))]) Try.agg23 rfl (inOc (k := 3) rfl) rfl rfl) ?_
      refine rq rfl (qv_mv (Value.int .i64 op) rfl) ?_
      refine rq rfl (qv_mv (.int .i64 (gi ((memF a)) (p))) rfl) ?_
      refine rq rfl (qv_mv (.int .i64 (gi ((memF b)) (q))) rfl) ?_
      refine rq rfl (qv_call (v := (.int .i64 (valF op (gi (memF a) p) (gi (memF b) q)))) (value_c fx fy ho) rfl rfl) ?_
      refine rq rfl (qv_call (v := (.agg #[(.int .i64 ((sgl (valF op (gi (memF a) p) (gi (memF b) q))).l)), (.int .i64 ((sgl (valF op (gi (memF a) p) (gi (memF b) q))).h)), (.int .i64 ((sgl (valF op (gi (memF a) p) (gi (memF b) q))).s))])) (single_c) rfl rfl) ?_
      refine rq rfl (qv_call (v := (.agg #[(.int .i64 ((joinF (ofF (YS op a b p q)) (sgl (valF op (gi (memF a) p) (gi (memF b) q)))).l)), (.int .i64 ((joinF (ofF (YS op a b p q)) (sgl (valF op (gi (memF a) p) (gi (memF b) q)))).h)), (.int .i64 ((joinF (ofF (YS op a b p q)) (sgl (valF op (gi (memF a) p) (gi (memF b) q)))).s))])) (join_c (a := ofF (YS op a b p q)) (b := sgl (valF op (gi (memF a) p) (gi (memF b) q))) hv1 (vld_sgl fv)) rfl rfl) ?_
      refine rl1 (by kernel_rfl) rfl ?_
      refine ops_stw (k := 3) (vs := [(.int .i64 ((joinF (ofF (YS op a b p q)) (sgl (valF op (gi (memF a) p) (gi (memF b) q)))).l)), (.int .i64 ((joinF (ofF (YS op a b p q)) (sgl (valF op (gi (memF a) p) (gi (memF b) q)))).h)), (.int .i64 ((joinF (ofF (YS op a b p q)) (sgl (valF op (gi (memF a) p) (gi (memF b) q)))).s))]) Try.size23 rfl rfl rfl rfl rfl rfl ?_
      refine ops_nil ⟨[(Arr 23 b1 [(.int .i64 a.l), (.int .i64 a.h), (.int .i64 a.s)]), (Arr 23 b2 [(.int .i64 b.l), (.int .i64 b.h), (.int .i64 b.s)]), (Arr 23 b3 [(Value.int .i64 0), (Value.int .i64 0), (Value.int .i64 0)]), (Arr 23 b4 [(.int .i64 ((joinF (ofF (YS op a b p q)) (sgl (valF op (gi (memF a) p) (gi (memF b) q)))).l)), (.int .i64 ((joinF (ofF (YS op a b p q)) (sgl (valF op (gi (memF a) p) (gi (memF b) q)))).h)), (.int .i64 ((joinF (ofF (YS op a b p q)) (sgl (valF op (gi (memF a) p) (gi (memF b) q)))).s))])], [], perm_nil _, ?_⟩
      refine rnil ?_
      refine vc_res (σ' := [(Arr 23 b1 [(.int .i64 a.l), (.int .i64 a.h), (.int .i64 a.s)]), (Arr 23 b2 [(.int .i64 b.l), (.int .i64 b.h), (.int .i64 b.s)]), (Arr 23 b3 [(Value.int .i64 0), (Value.int .i64 0), (Value.int .i64 0)]), (Arr 23 b4 [(.int .i64 ((joinF (ofF (YS op a b p q)) (sgl (valF op (gi (memF a) p) (gi (memF b) q)))).l)), (.int .i64 ((joinF (ofF (YS op a b p q)) (sgl (valF op (gi (memF a) p) (gi (memF b) q)))).h)), (.int .i64 ((joinF (ofF (YS op a b p q)) (sgl (valF op (gi (memF a) p) (gi (memF b) q)))).s))])]) rfl ?_
      refine vc_region ?_
      refine oq (qv_add rfl rfl (by omega)) ?_
      refine oq (qv_mv (.int .i64 (q + 1)) rfl) ?_
      refine ops_nil ?_
      refine ⟨(q + 1), ⟨rfl, rfl, rfl, rfl, rfl, rfl, rfl, rfl, rfl, rfl, rfl, rfl, rfl, rfl, rfl, (congrArg (Value.int .i64) (show (q + 1) = ((q + 1)) from by omega)), trivial⟩, ⟨rfl, (show [(Arr 23 b1 [(.int .i64 a.l), (.int .i64 a.h), (.int .i64 a.s)]), (Arr 23 b2 [(.int .i64 b.l), (.int .i64 b.h), (.int .i64 b.s)]), (Arr 23 b3 [(Value.int .i64 0), (Value.int .i64 0), (Value.int .i64 0)]), (Arr 23 b4 [(.int .i64 ((ofF (YS op a b p (q + 1))).l)), (.int .i64 ((ofF (YS op a b p (q + 1))).h)), (.int .i64 ((ofF (YS op a b p (q + 1))).s))])] = [(Arr 23 b1 [(.int .i64 a.l), (.int .i64 a.h), (.int .i64 a.s)]), (Arr 23 b2 [(.int .i64 b.l), (.int .i64 b.h), (.int .i64 b.s)]), (Arr 23 b3 [(Value.int .i64 0), (Value.int .i64 0), (Value.int .i64 0)]), (Arr 23 b4 [(.int .i64 ((joinF (ofF (YS op a b p q)) (sgl (valF op (gi (memF a) p) (gi (memF b) q)))).l)), (.int .i64 ((joinF (ofF (YS op a b p q)) (sgl (valF op (gi (memF a) p) (gi (memF b) q)))).h)), (.int .i64 ((joinF (ofF (YS op a b p q)) (sgl (valF op (gi (memF a) p) (gi (memF b) q)))).s))])] from by rw [YS_step (by omega) (by omega), ofF_snoc]), by omega, by omega⟩, by omega⟩
     ·
      refine vc_exit ?_
      refine blockQ_hit ?_
      refine vc_region ?_
      refine oq (qv_add rfl rfl (by omega)) ?_
      refine oq (qv_mv (.int .i64 (p + 1)) rfl) ?_
      refine ops_nil ?_
      refine ⟨(p + 1), ⟨rfl, rfl, rfl, rfl, rfl, rfl, rfl, rfl, rfl, rfl, (congrArg (Value.int .i64) (show (p + 1) = ((p + 1)) from by omega)), trivial⟩, ⟨(show [(Arr 23 b1 [(.int .i64 a.l), (.int .i64 a.h), (.int .i64 a.s)]), (Arr 23 b2 [(.int .i64 b.l), (.int .i64 b.h), (.int .i64 b.s)]), (Arr 23 b3 [(Value.int .i64 0), (Value.int .i64 0), (Value.int .i64 0)]), (Arr 23 b4 [(.int .i64 ((ofF (XS op a b (p + 1))).l)), (.int .i64 ((ofF (XS op a b (p + 1))).h)), (.int .i64 ((ofF (XS op a b (p + 1))).s))])] = [(Arr 23 b1 [(.int .i64 a.l), (.int .i64 a.h), (.int .i64 a.s)]), (Arr 23 b2 [(.int .i64 b.l), (.int .i64 b.h), (.int .i64 b.s)]), (Arr 23 b3 [(Value.int .i64 0), (Value.int .i64 0), (Value.int .i64 0)]), (Arr 23 b4 [(.int .i64 ((ofF (YS op a b p q)).l)), (.int .i64 ((ofF (YS op a b p q)).h)), (.int .i64 ((ofF (YS op a b p q)).s))])] from by rw [XS_step (q := q) (by omega) (by omega) (by omega)]), hma, by omega, by omega⟩, by omega⟩
    ·
     refine vc_exit ?_
     refine blockQ_hit ?_
     refine vc_seq ?_
     refine vc_region ?_
     refine oq (qv_ldm (vs := [(.int .i64 ((ofF (XS op a b p)).l)), (.int .i64 ((ofF (XS op a b p)).h)), (.int .i64 ((ofF (XS op a b p)).s))]) Try.agg23 rfl (inOc (k := 3) rfl) rfl rfl) ?_
     refine ops_stw (k := 2) (vs := [(.int .i64 ((ofF (XS op a b p)).l)), (.int .i64 ((ofF (XS op a b p)).h)), (.int .i64 ((ofF (XS op a b p)).s))]) Try.size23 rfl rfl rfl rfl rfl rfl ?_
     refine ops_nil ?_
     refine vc_ret ?_
     refine rs1 _ (rv_c (vs := [(.int .i64 ((ofF (XS op a b p)).l)), (.int .i64 ((ofF (XS op a b p)).h)), (.int .i64 ((ofF (XS op a b p)).s))]) Try.agg23 rfl (inOc (k := 2) rfl) rfl rfl) ?_
     exact (agg3 (show ofF (XS op a b p) = lsF op a b from by first | (rw [lsF_0 hns]; done) | (rw [lsF_1 hs, XS_all (by omega)]; rfl)))

end Go.Proofs.Ytapkilaikcihgaa
