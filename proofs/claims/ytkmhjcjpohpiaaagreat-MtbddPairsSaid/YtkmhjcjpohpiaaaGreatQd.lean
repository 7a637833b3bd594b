import Derived.Test.YtkmhjcjpohpiaaaGreatQc
import Derived.Test.YtkmhjcjpohpiaaaGreatMv
import Derived.Test.YtkmhjcjpohpiaaaGreatWo
import Derived.Test.YtkmhjcjpohpiaaaGreatMtN
/- Walks of mtbdd: what each function returns. Printed by a program out of notes. -/
namespace Go.Proofs.YtkmhjcjpohpiaaaGreat
open Go.Vc
open Classical

set_option maxRecDepth 100000 in
set_option maxHeartbeats 4000000 in
theorem two_c {V : HV} {la na : Value} {A : Mg} (hA : Mt V la na A) {lb nb : Value} {B : Mg} (hB : Mt V lb nb B) :
    FnC Tryz.prog 9 [(.agg #[(.int .i64 A.v), la, na, (.int .i64 A.r)]), (.agg #[(.int .i64 B.v), lb, nb, (.int .i64 B.r)])] V [] (fun v _ _ => v = (.int .i64 (vE [A, B]))) := by
 refine fn_intro (N := 18) Tryz.func9 (by kernel_rfl) rfl rfl rfl (Nat.le_of_ble_eq_true rfl) ?_
 intro w0 D
 refine vc_seq ?_
 refine vc_region ?_
 refine ops_box (v := (.agg #[(.int .i64 A.v), la, na, (.int .i64 A.r)])) (cs := [(.int .i64 A.v), la, na, (.int .i64 A.r)]) rfl rfl (fun b1 => ?_)
 refine ops_box (v := (.agg #[(.int .i64 B.v), lb, nb, (.int .i64 B.r)])) (cs := [(.int .i64 B.v), lb, nb, (.int .i64 B.r)]) rfl rfl (fun b2 => ?_)
 refine oq (qv_as (Value.int .i64 0) rfl) ?_
 refine ops_nil ?_
 refine vc_seq ?_
 refine vc_seq ?_
 refine vc_res (σ' := [(Arr 25 b1 [(.int .i64 A.v), la, na, (.int .i64 A.r)]), (Arr 25 b2 [(.int .i64 B.v), lb, nb, (.int .i64 B.r)])]) rfl ?_
 refine vc_region ?_
 refine oq (qv_ldm (vs := [(.int .i64 A.v), la, na, (.int .i64 A.r)]) Tryz.agg25 rfl (inOc (k := 0) rfl) rfl rfl) ?_
 refine oq (qv_call (v := (.int .i64 (chkC A))) (check_c hA) rfl rfl) ?_
 refine oq (qv_neq rfl rfl) ?_
 refine oq (qv_mv (.bool (decide ((chkC A) ≠ 0))) rfl) ?_
 by_cases g1 : (chkC A) ≠ 0
 ·
  refine os (want_fn g1 rfl rfl rfl) ?_
  refine os (want_fn g1 rfl rfl rfl) ?_
  refine os (want_fn g1 rfl rfl rfl) ?_
  refine oq (qv_pick_t g1 rfl (rfl : ev _ _ = (Value.bool true))) ?_
  refine ops_nil ?_
  refine vc_tt rfl ?_
  refine vc_seq ?_
  refine vc_region ?_
  refine oq (qv_as (Value.int .i64 1) rfl) ?_
  refine ops_nil ?_
  refine vc_ret ?_
  exact rq1 (.int .i64 (vE [A, B])) (congrArg (Value.int .i64) (show 1 = (vE [A, B]) from by rw [two_1 (by first | exact .inl (fun q => absurd (chk_0 q) (by assumption)) | exact .inr (fun q => absurd (chk_0 q) (by assumption)))])) rfl
 ·
  refine og (qv_ldm (vs := [(.int .i64 B.v), lb, nb, (.int .i64 B.r)]) Tryz.agg25 rfl (inOc (k := 1) rfl) rfl rfl) (want_f g1 rfl rfl rfl) ?_
  refine og (qv_call (v := (.int .i64 (chkC B))) (check_c hB) rfl rfl) (want_f g1 rfl rfl rfl) ?_
  refine og (qv_neq rfl rfl) (want_f g1 rfl rfl rfl) ?_
  refine oq (qv_pick_f g1 rfl (rfl : ev _ _ = (.bool (decide ((chkC B) ≠ 0))))) ?_
  refine ops_nil ?_
  refine vc_if rfl (fun c1 => ?_) (fun c1 => ?_)
  ·
   refine vc_seq ?_
   refine vc_region ?_
   refine oq (qv_as (Value.int .i64 1) rfl) ?_
   refine ops_nil ?_
   refine vc_ret ?_
   exact rq1 (.int .i64 (vE [A, B])) (congrArg (Value.int .i64) (show 1 = (vE [A, B]) from by rw [two_1 (by first | exact .inl (fun q => absurd (chk_0 q) (by assumption)) | exact .inr (fun q => absurd (chk_0 q) (by assumption)))])) rfl
  ·
   refine vc_skip ?_
   refine vc_seq ?_
   refine vc_seq ?_
   refine vc_region ?_
   refine oq (qv_fa (off := 0) Tryz.field25_0 rfl) ?_
   refine oq (qv_ldp (v := (.int .i64 A.v)) Tryz.plain3 rfl (inOc (k := 0) rfl) rfl) ?_
   refine oq (qv_fa (off := 0) Tryz.field25_0 rfl) ?_
   refine oq (qv_ldp (v := (.int .i64 B.v)) Tryz.plain3 rfl (inOc (k := 1) rfl) rfl) ?_
   refine oq (qv_neq rfl rfl) ?_
   refine ops_nil ?_
   refine vc_if rfl (fun c2 => ?_) (fun c2 => ?_)
   ·
    refine vc_seq ?_
    refine vc_region ?_
    refine oq (qv_as (Value.int .i64 2) rfl) ?_
    refine ops_nil ?_
    refine vc_ret ?_
    exact rq1 (.int .i64 (vE [A, B])) (congrArg (Value.int .i64) (show 2 = (vE [A, B]) from by rw [two_2 (chk_ok.1 (by omega)) (chk_ok.1 (by omega)) (by omega)])) rfl
   ·
    refine vc_skip ?_
    refine vc_seq ?_
    refine vc_region ?_
    refine oq (qv_as (Value.int .i64 0) rfl) ?_
    refine ops_nil ?_
    refine vc_ret ?_
    exact rq1 (.int .i64 (vE [A, B])) (congrArg (Value.int .i64) (show 0 = (vE [A, B]) from by rw [two_0 (chk_ok.1 (by omega)) (chk_ok.1 (by omega)) (by omega)])) rfl

set_option maxRecDepth 100000 in
set_option maxHeartbeats 4000000 in
theorem Pairs_c {V : HV} {la na : Value} {A : Mg} (hA : Mt V la na A) {lb nb : Value} {B : Mg} (hB : Mt V lb nb B) :
    FnC Tryz.prog 4 [(.agg #[(.int .i64 A.v), la, na, (.int .i64 A.r)]), (.agg #[(.int .i64 B.v), lb, nb, (.int .i64 B.r)])] V [] (fun v _ _ => v = (Value.bool true)) := by
 refine fn_intro (N := 112) Tryz.func4 (by kernel_rfl) rfl rfl rfl (Nat.le_of_ble_eq_true rfl) ?_
 intro w0 D
 have hbl := Ints.bound hA.l
 have hbn := SlS.bound hA.n
 refine vc_seq ?_
 refine vc_region ?_
 refine ops_box (v := (.agg #[(.int .i64 A.v), la, na, (.int .i64 A.r)])) (cs := [(.int .i64 A.v), la, na, (.int .i64 A.r)]) rfl rfl (fun b1 => ?_)
 refine ops_box (v := (.agg #[(.int .i64 B.v), lb, nb, (.int .i64 B.r)])) (cs := [(.int .i64 B.v), lb, nb, (.int .i64 B.r)]) rfl rfl (fun b2 => ?_)
 refine oq (qv_as (Value.bool false) rfl) ?_
 refine ops_nil ?_
 refine vc_seq ?_
 refine vc_seq ?_
 refine vc_res (σ' := [(Arr 25 b1 [(.int .i64 A.v), la, na, (.int .i64 A.r)]), (Arr 25 b2 [(.int .i64 B.v), lb, nb, (.int .i64 B.r)])]) rfl ?_
 refine vc_region ?_
 refine oq (qv_call (v := (Value.bool true)) (known_c) rfl rfl) ?_
 refine oq (qv_notc rfl) ?_
 refine ops_nil ?_
 refine vc_ff rfl ?_
 refine vc_skip ?_
 refine vc_seq ?_
 refine vc_seq ?_
 refine vc_region ?_
 refine oq (qv_ldm (vs := [(.int .i64 A.v), la, na, (.int .i64 A.r)]) Tryz.agg25 rfl (inOc (k := 0) rfl) rfl rfl) ?_
 refine oq (qv_call (v := (.bool (decide (fewP A ∧ (¬ chkC A = 0 ∨ A.v ≤ 8))))) (small_c hA) rfl rfl) ?_
 refine oq (qv_not rfl) ?_
 refine oq (qv_mv (.bool (decide (¬ (fewP A ∧ (¬ chkC A = 0 ∨ A.v ≤ 8))))) rfl) ?_
 by_cases g1 : ¬ (fewP A ∧ (¬ chkC A = 0 ∨ A.v ≤ 8))
 ·
  refine os (want_fn g1 rfl rfl rfl) ?_
  refine os (want_fn g1 rfl rfl rfl) ?_
  refine os (want_fn g1 rfl rfl rfl) ?_
  refine oq (qv_pick_t g1 rfl (rfl : ev _ _ = (Value.bool true))) ?_
  refine ops_nil ?_
  refine vc_tt rfl ?_
  refine vc_seq ?_
  refine vc_region ?_
  refine oq (qv_as (Value.bool true) rfl) ?_
  refine ops_nil ?_
  refine vc_drop [] [(Arr 25 b1 [(.int .i64 A.v), la, na, (.int .i64 A.r)]), (Arr 25 b2 [(.int .i64 B.v), lb, nb, (.int .i64 B.r)])] (.refl _) ?_
  refine vc_ret ?_
  exact rq1 (Value.bool true) rfl rfl
 ·
  refine og (qv_ldm (vs := [(.int .i64 B.v), lb, nb, (.int .i64 B.r)]) Tryz.agg25 rfl (inOc (k := 1) rfl) rfl rfl) (want_f g1 rfl rfl rfl) ?_
  refine og (qv_call (v := (.bool (decide (fewP B ∧ (¬ chkC B = 0 ∨ B.v ≤ 8))))) (small_c hB) rfl rfl) (want_f g1 rfl rfl rfl) ?_
  refine og (qv_not rfl) (want_f g1 rfl rfl rfl) ?_
  refine oq (qv_pick_f g1 rfl (rfl : ev _ _ = (.bool (decide (¬ (fewP B ∧ (¬ chkC B = 0 ∨ B.v ≤ 8))))))) ?_
  refine ops_nil ?_
  refine vc_if rfl (fun c1 => ?_) (fun c1 => ?_)
  ·
   refine vc_seq ?_
   refine vc_region ?_
   refine oq (qv_as (Value.bool true) rfl) ?_
   refine ops_nil ?_
   refine vc_drop [] [(Arr 25 b1 [(.int .i64 A.v), la, na, (.int .i64 A.r)]), (Arr 25 b2 [(.int .i64 B.v), lb, nb, (.int .i64 B.r)])] (.refl _) ?_
   refine vc_ret ?_
   exact rq1 (Value.bool true) rfl rfl
  ·
   refine vc_skip ?_
   refine vc_seq ?_
   have h8A := Classical.not_not.1 g1
   have h8B := Classical.not_not.1 c1
   refine vc_region ?_
   refine oq (qv_ldm (vs := [(.int .i64 A.v), la, na, (.int .i64 A.r)]) Tryz.agg25 rfl (inOc (k := 0) rfl) rfl rfl) ?_
   refine ops_call (σa := []) (σr := [(Arr 25 b1 [(.int .i64 A.v), la, na, (.int .i64 A.r)]), (Arr 25 b2 [(.int .i64 B.v), lb, nb, (.int .i64 B.r)])]) (Histogram_c hA) rfl rfl (.refl _) (fun r1 V1 sg1 hV1 hp1 => ?_)
   obtain ⟨rfl, u1, rfl, hH⟩ := hp1
   have hA := hA.mono hV1
   have hB := hB.mono hV1
   refine oq (qv_mv (.tuple #[u1, (.int .i64 (vE [A]))]) rfl) ?_
   refine oq (qv_ext u1 rfl rfl) ?_
   refine oq (qv_ext (.int .i64 (vE [A])) rfl rfl) ?_
   refine oq (qv_as u1 rfl) ?_
   refine oq (qv_as (.int .i64 (vE [A])) rfl) ?_
   refine ops_nil ?_
   refine vc_seq ?_
   refine vc_seq ?_
   refine vc_region ?_
   refine oq (qv_ldm (vs := [(.int .i64 A.v), la, na, (.int .i64 A.r)]) Tryz.agg25 rfl (inOc (k := 0) rfl) rfl rfl) ?_
   refine oq (qv_call (v := (.int .i64 (chkC A))) (check_c hA) rfl rfl) ?_
   refine oq (qv_neq rfl rfl) ?_
   refine ops_nil ?_
   refine vc_if rfl (fun c2 => ?_) (fun c2 => ?_)
   ·
    refine vc_seq ?_
    have hbad := hg_bad (A := A) (fun q => absurd (chk_0 q) (by assumption))
    have hbad1 := hbad.1
    have hbad2 := hbad.2
    refine vc_region ?_
    refine oq (qv_mv u1 rfl) ?_
    refine oq (qv_lenSS Tryz.underlying36 rfl hH) ?_
    refine oq (qv_neq rfl rfl) ?_
    refine oq (qv_mv (.bool (decide ((((hgR A).length : Int)) ≠ 0))) rfl) ?_
    by_cases g2 : (((hgR A).length : Int)) ≠ 0
    ·
     omega
    ·
     refine og (qv_mv (.int .i64 (vE [A])) rfl) (want_f g2 rfl rfl rfl) ?_
     refine og (qv_neq rfl rfl) (want_f g2 rfl rfl rfl) ?_
     refine oq (qv_pick_f g2 rfl (rfl : ev _ _ = (.bool (decide ((vE [A]) ≠ 1))))) ?_
     refine ops_nil ?_
     refine vc_if rfl (fun c3 => ?_) (fun c3 => ?_)
     ·
      refine vc_seq ?_
      refine vc_region ?_
      refine oq (qv_as (Value.bool false) rfl) ?_
      refine ops_nil ?_
      refine vc_drop [] [(Arr 25 b1 [(.int .i64 A.v), la, na, (.int .i64 A.r)]), (Arr 25 b2 [(.int .i64 B.v), lb, nb, (.int .i64 B.r)])] (.refl _) ?_
      refine vc_ret ?_
      exact rq1 (Value.bool true) (by first | rfl | (first | rfl | exact hprd | exact ⟨rfl, hpn⟩ | (rw [hsn]; rfl) | omega)) rfl
     ·
      refine vc_skip ?_
      refine vc_seq ?_
      refine vc_region ?_
      refine oq (qv_ldm (vs := [(.int .i64 A.v), la, na, (.int .i64 A.r)]) Tryz.agg25 rfl (inOc (k := 0) rfl) rfl rfl) ?_
      refine oq (qv_ldm (vs := [(.int .i64 B.v), lb, nb, (.int .i64 B.r)]) Tryz.agg25 rfl (inOc (k := 1) rfl) rfl rfl) ?_
      refine ops_call (σa := []) (σr := [(Arr 25 b1 [(.int .i64 A.v), la, na, (.int .i64 A.r)]), (Arr 25 b2 [(.int .i64 B.v), lb, nb, (.int .i64 B.r)])]) (Pair_c hA hB (fun q => by have hv8 := h8A.2.elim (fun h => absurd (chk_0 (vE2_ok.1 q).1.1) h) id; omega)) rfl rfl (.refl _) (fun r2 V2 sg2 hV2 hp2 => ?_)
      obtain ⟨rfl, S, lvp, nvp, svp, rfl, hMp, hS, hps, hse⟩ := hp2
      have hA := hA.mono hV2
      have hB := hB.mono hV2
      have hH := hH.mono hV2
      refine oq (qv_mv (.tuple #[(.agg #[(.int .i64 ((prD A B S).v)), lvp, nvp, (.int .i64 ((prD A B S).r))]), svp, (.int .i64 (vE [A, B]))]) rfl) ?_
      refine oq (qv_ext (.agg #[(.int .i64 ((prD A B S).v)), lvp, nvp, (.int .i64 ((prD A B S).r))]) rfl rfl) ?_
      refine oq (qv_ext svp rfl rfl) ?_
      refine oq (qv_ext (.int .i64 (vE [A, B])) rfl rfl) ?_
      refine ops_alloc Tryz.ti25 rfl (fun b3 => ?_)
      refine ops_stw (k := 2) (vs := [(.int .i64 ((prD A B S).v)), lvp, nvp, (.int .i64 ((prD A B S).r))]) Tryz.size25 rfl rfl rfl (allc rfl (allc (Sl.one hMp.l) (allc (SlS.one hMp.n) (allc rfl rfl)))) rfl rfl ?_
      refine oq (qv_as svp rfl) ?_
      refine oq (qv_as (.int .i64 (vE [A, B])) rfl) ?_
      refine ops_nil ?_
      refine vc_seq ?_
      refine vc_seq ?_
      refine vc_res (σ' := [(Arr 25 b1 [(.int .i64 A.v), la, na, (.int .i64 A.r)]), (Arr 25 b2 [(.int .i64 B.v), lb, nb, (.int .i64 B.r)]), (Arr 25 b3 [(.int .i64 ((prD A B S).v)), lvp, nvp, (.int .i64 ((prD A B S).r))])]) rfl ?_
      refine vc_region ?_
      refine oq (qv_ldm (vs := [(.int .i64 A.v), la, na, (.int .i64 A.r)]) Tryz.agg25 rfl (inOc (k := 0) rfl) rfl rfl) ?_
      refine oq (qv_ldm (vs := [(.int .i64 B.v), lb, nb, (.int .i64 B.r)]) Tryz.agg25 rfl (inOc (k := 1) rfl) rfl rfl) ?_
      refine oq (qv_call (v := (.int .i64 (vE [A, B]))) (two_c hA hB) rfl rfl) ?_
      refine oq (qv_as (.int .i64 (vE [A, B])) rfl) ?_
      refine ops_nil ?_
      refine vc_seq ?_
      refine vc_region ?_
      refine oq (qv_mv (.int .i64 (vE [A, B])) rfl) ?_
      refine oq (qv_neq rfl rfl) ?_
      refine ops_nil ?_
      refine vc_if rfl (fun c4 => ?_) (fun c4 => ?_)
      ·
       refine vc_seq ?_
       have hpn := prD_n (S := S) (by assumption : vE [A, B] ≠ 0)
       have hsn := hse (by assumption)
       refine vc_region ?_
       refine oq (qv_ldm (vs := [(.int .i64 ((prD A B S).v)), lvp, nvp, (.int .i64 ((prD A B S).r))]) Tryz.agg25 rfl (inOc (k := 2) rfl) rfl rfl) ?_
       refine oq (qv_mv (.int .i64 (vE [A, B])) rfl) ?_
       refine oq (qv_build (out := [(Value.int .i64 0), (Value.slice none 0 0), (Value.slice none 0 0), (Value.int .i64 0)]) Tryz.build25 [] rfl rfl) ?_
       refine oq (qv_mv (.int .i64 (vE [A, B])) rfl) ?_
       refine oq (qv_call (v := (.bool (decide ((vE [A, B]) = (vE [A, B]) ∧ (prD A B S) = zM)))) (is_c (A := (prD A B S)) (B := zM) (ee := (vE [A, B])) (cc := (vE [A, B])) hMp Mt.nil) rfl rfl) ?_
       refine oq (qv_mv (.bool (decide ((vE [A, B]) = (vE [A, B]) ∧ (prD A B S) = zM))) rfl) ?_
       by_cases g3 : (vE [A, B]) = (vE [A, B]) ∧ (prD A B S) = zM
       ·
        refine og (qv_mv svp rfl) (want_t g3 rfl rfl rfl) ?_
        refine og (qv_lenSS Tryz.underlying44 rfl hS) (want_t g3 rfl rfl rfl) ?_
        refine og (qv_eql rfl rfl) (want_t g3 rfl rfl rfl) ?_
        refine oq (qv_pick_t g3 rfl (rfl : ev _ _ = (.bool (decide (((S.length : Int)) = 0))))) ?_
        refine oq (qv_as (.bool (decide (((S.length : Int)) = 0))) rfl) ?_
        refine ops_nil ?_
        refine vc_drop [] [(Arr 25 b1 [(.int .i64 A.v), la, na, (.int .i64 A.r)]), (Arr 25 b2 [(.int .i64 B.v), lb, nb, (.int .i64 B.r)]), (Arr 25 b3 [(.int .i64 ((prD A B S).v)), lvp, nvp, (.int .i64 ((prD A B S).r))])] (.refl _) ?_
        refine vc_ret ?_
        exact rq1 (Value.bool true) (congrArg Value.bool (decide_eq_true (show (((S.length : Int)) = 0) from by first | rfl | exact hprd | exact ⟨rfl, hpn⟩ | (rw [hsn]; rfl) | omega))) rfl
       ·
        exact absurd ⟨rfl, hpn⟩ g3
      ·
       refine vc_skip ?_
       refine vc_seq ?_
       have hz : vE [A, B] = 0 := by omega
       obtain ⟨⟨hokA, hokB⟩, hvv⟩ := vE2_ok.1 hz
       have hv8 : A.v ≤ 8 := h8A.2.elim (fun h => absurd (chk_0 hokA) h) id
       have hPS := hps hz
       have hvl := vT_len (A := A)
       have hvlB := vT_len (A := B)
       rw [← hvv] at hvlB
       have hv0 := hokA.1.1
       have hpw8 := Clone_len (n := A.v.toNat) (by omega)
       have hprd := pr_dg hokA hokB hvv (by omega) hPS
       refine vc_region_order (τ := []) [(0, false), (2, false), (1, true), (3, true), (4, false), (5, false)] [(Arr 25 b1 [(.int .i64 A.v), la, na, (.int .i64 A.r)]), (Arr 25 b2 [(.int .i64 B.v), lb, nb, (.int .i64 B.r)]), (Arr 25 b3 [(.int .i64 ((prD A B S).v)), lvp, nvp, (.int .i64 ((prD A B S).r))])] Tryz.mixed (perm_nil _) (by kernel_rfl) ?_
       refine rq rfl (qv_ldm (vs := [(.int .i64 A.v), la, na, (.int .i64 A.r)]) Tryz.agg25 rfl (inOc (k := 0) rfl) rfl rfl) ?_
       refine rq rfl (qv_ldm (vs := [(.int .i64 B.v), lb, nb, (.int .i64 B.r)]) Tryz.agg25 rfl (inOc (k := 1) rfl) rfl rfl) ?_
       refine rl rfl ?_
       refine ops_call (σa := []) (σr := [(Arr 25 b1 [(.int .i64 A.v), la, na, (.int .i64 A.r)]), (Arr 25 b2 [(.int .i64 B.v), lb, nb, (.int .i64 B.r)]), (Arr 25 b3 [(.int .i64 ((prD A B S).v)), lvp, nvp, (.int .i64 ((prD A B S).r))])]) (table_c (A := A) hA hokA (by omega)) rfl rfl (.refl _) (fun r3 V3 sg3 hV3 hp3 => ?_)
       obtain ⟨rfl, hR0⟩ := hp3
       obtain ⟨tr0, htr0⟩ : ∃ x, x = r3 := ⟨_, rfl⟩
       subst htr0
       have hA := hA.mono hV3
       have hB := hB.mono hV3
       have hH := hH.mono hV3
       have hMp := hMp.mono hV3
       have hS := hS.mono hV3
       refine ops_nil ⟨[(Arr 25 b1 [(.int .i64 A.v), la, na, (.int .i64 A.r)]), (Arr 25 b2 [(.int .i64 B.v), lb, nb, (.int .i64 B.r)]), (Arr 25 b3 [(.int .i64 ((prD A B S).v)), lvp, nvp, (.int .i64 ((prD A B S).r))])], [], hV3, perm_nil _, ⟨[], (.refl _)⟩, ?_⟩
       refine rl rfl ?_
       refine ops_call (σa := []) (σr := [(Arr 25 b1 [(.int .i64 A.v), la, na, (.int .i64 A.r)]), (Arr 25 b2 [(.int .i64 B.v), lb, nb, (.int .i64 B.r)]), (Arr 25 b3 [(.int .i64 ((prD A B S).v)), lvp, nvp, (.int .i64 ((prD A B S).r))])]) (table_c (A := B) hB hokB (by omega)) rfl rfl (.refl _) (fun r4 V4 sg4 hV4 hp4 => ?_)
       obtain ⟨rfl, hR1⟩ := hp4
       obtain ⟨tr1, htr1⟩ : ∃ x, x = r4 := ⟨_, rfl⟩
       subst htr1
       have hA := hA.mono hV4
       have hB := hB.mono hV4
       have hH := hH.mono hV4
       have hMp := hMp.mono hV4
       have hS := hS.mono hV4
       have hR0 := hR0.mono hV4
       refine ops_nil ⟨[(Arr 25 b1 [(.int .i64 A.v), la, na, (.int .i64 A.r)]), (Arr 25 b2 [(.int .i64 B.v), lb, nb, (.int .i64 B.r)]), (Arr 25 b3 [(.int .i64 ((prD A B S).v)), lvp, nvp, (.int .i64 ((prD A B S).r))])], [], hV4, perm_nil _, ⟨[], (.refl _)⟩, ?_⟩
       refine rq rfl (qv_as tr0 rfl) ?_
       refine rq rfl (qv_as tr1 rfl) ?_
       refine rnil ?_
       refine vc_seq ?_
       refine vc_region ?_
       refine oq (qv_mv tr0 rfl) ?_
       refine oq (qv_mv tr1 rfl) ?_
       refine ops_call (σa := []) (σr := [(Arr 25 b1 [(.int .i64 A.v), la, na, (.int .i64 A.r)]), (Arr 25 b2 [(.int .i64 B.v), lb, nb, (.int .i64 B.r)]), (Arr 25 b3 [(.int .i64 ((prD A B S).v)), lvp, nvp, (.int .i64 ((prD A B S).r))])]) (pairs_c hR0 hR1 (by omega) (by omega) (vT_in hokA) (vT_in hokB)) rfl rfl (.refl _) (fun r5 V5 sg5 hV5 hp5 => ?_)
       obtain ⟨rfl, R, hRp, hRo, hRm⟩ := hp5
       obtain ⟨w1, hw1⟩ : ∃ x, x = r5 := ⟨_, rfl⟩
       subst hw1
       rw [show (vT A).length = 2 ^ A.v.toNat from vT_len] at hRm
       rw [zp_pset hokA hokB hvv hPS hRo hRm] at hRp
       have hA := hA.mono hV5
       have hB := hB.mono hV5
       have hH := hH.mono hV5
       have hMp := hMp.mono hV5
       have hS := hS.mono hV5
       have hR0 := hR0.mono hV5
       have hR1 := hR1.mono hV5
       refine oq (qv_as w1 rfl) ?_
       refine ops_nil ?_
       refine vc_seq ?_
       refine vc_nil 3 1 ?_
       refine vc_region ?_
       refine oq (qv_as (Value.slice none 0 0) rfl) ?_
       refine ops_nil ?_
       refine vc_seq ?_
       refine vc_seq ?_
       refine vc_res (σ' := [(Arr 25 b1 [(.int .i64 A.v), la, na, (.int .i64 A.r)]), (Arr 25 b2 [(.int .i64 B.v), lb, nb, (.int .i64 B.r)]), (Arr 25 b3 [(.int .i64 ((prD A B S).v)), lvp, nvp, (.int .i64 ((prD A B S).r))]), (Gr 3 1 ((Value.slice none 0 0)) 0 ([]))]) rfl ?_
       refine vc_region ?_
       refine oq (qv_mv tr0 rfl) ?_
       refine oq (qv_lenI Tryz.underlying22 rfl hR0) ?_
       refine oq (qv_mv (Value.int .i64 0) rfl) ?_
       refine ops_nil ?_
       refine vc_block ?_
       refine vc_loop (α := Int × Value) (fun (xx : Int × Value) => [(0, (.agg #[(.int .i64 A.v), la, na, (.int .i64 A.r)])), (1, (.agg #[(.int .i64 B.v), lb, nb, (.int .i64 B.r)])), (2, (Value.pointer (some ⟨b1, 0, none⟩))), (3, (Value.pointer (some ⟨b2, 0, none⟩))), (4, (Value.bool false)), (5, u1), (6, (.int .i64 (vE [A]))), (7, (Value.pointer (some ⟨b3, 0, none⟩))), (8, svp), (9, (.int .i64 (vE [A, B]))), (10, (.int .i64 (vE [A, B]))), (11, tr0), (12, tr1), (13, w1), (17, (Value.bool false)), (25, (.bool (decide (¬ (fewP B ∧ (¬ chkC B = 0 ∨ B.v ≤ 8)))))), (33, (.bool (decide ((chkC A) ≠ 0)))), (40, (.bool (decide ((vE [A]) ≠ 1)))), (62, (.bool (decide ((vE [A, B]) ≠ 0)))), (81, (.int .i64 ((((vT A)).length : Int)))), (14, xx.2), (82, (Value.int .i64 xx.1))]) (fun (xx : Int × Value) V' σ' => V5 = V' ∧ [(Arr 25 b1 [(.int .i64 A.v), la, na, (.int .i64 A.r)]), (Arr 25 b2 [(.int .i64 B.v), lb, nb, (.int .i64 B.r)]), (Arr 25 b3 [(.int .i64 ((prD A B S).v)), lvp, nvp, (.int .i64 ((prD A B S).r))]), (Gr 3 1 xx.2 xx.1.toNat ((((prT A B S).take xx.1.toNat).map (Value.int .i64))))] = σ' ∧ 0 ≤ xx.1 ∧ xx.1 ≤ (vT A).length) (fun (xx : Int × Value) => ((vT A).length - xx.1).toNat) (0, (Value.slice none 0 0)) ?_ ?_ ?_
       · exact ⟨rfl, rfl, rfl, rfl, rfl, rfl, rfl, rfl, rfl, rfl, rfl, rfl, rfl, rfl, rfl, rfl, rfl, rfl, rfl, rfl, (by first | rfl | (first | omega | simp)), rfl, trivial⟩
       · exact ⟨rfl, (show [(Arr 25 b1 [(.int .i64 A.v), la, na, (.int .i64 A.r)]), (Arr 25 b2 [(.int .i64 B.v), lb, nb, (.int .i64 B.r)]), (Arr 25 b3 [(.int .i64 ((prD A B S).v)), lvp, nvp, (.int .i64 ((prD A B S).r))]), (Gr 3 1 ((Value.slice none 0 0)) (0 : Int).toNat ((((prT A B S).take (0 : Int).toNat).map (Value.int .i64))))] = [(Arr 25 b1 [(.int .i64 A.v), la, na, (.int .i64 A.r)]), (Arr 25 b2 [(.int .i64 B.v), lb, nb, (.int .i64 B.r)]), (Arr 25 b3 [(.int .i64 ((prD A B S).v)), lvp, nvp, (.int .i64 ((prD A B S).r))]), (Gr 3 1 ((Value.slice none 0 0)) 0 ([]))] from by rfl), by omega, by omega⟩
       rintro ⟨i, iv⟩ e1 V0l σ0l hI0
       obtain ⟨rfl, rfl, i1, i2⟩ : V5 = V0l ∧ [(Arr 25 b1 [(.int .i64 A.v), la, na, (.int .i64 A.r)]), (Arr 25 b2 [(.int .i64 B.v), lb, nb, (.int .i64 B.r)]), (Arr 25 b3 [(.int .i64 ((prD A B S).v)), lvp, nvp, (.int .i64 ((prD A B S).r))]), (Gr 3 1 iv i.toNat ((((prT A B S).take i.toNat).map (Value.int .i64))))] = σ0l ∧ 0 ≤ i ∧ i ≤ (vT A).length := hI0
       change VC _ _ _ _ _ _ (upds 112 [(0, (.agg #[(.int .i64 A.v), la, na, (.int .i64 A.r)])), (1, (.agg #[(.int .i64 B.v), lb, nb, (.int .i64 B.r)])), (2, (Value.pointer (some ⟨b1, 0, none⟩))), (3, (Value.pointer (some ⟨b2, 0, none⟩))), (4, (Value.bool false)), (5, u1), (6, (.int .i64 (vE [A]))), (7, (Value.pointer (some ⟨b3, 0, none⟩))), (8, svp), (9, (.int .i64 (vE [A, B]))), (10, (.int .i64 (vE [A, B]))), (11, tr0), (12, tr1), (13, w1), (17, (Value.bool false)), (25, (.bool (decide (¬ (fewP B ∧ (¬ chkC B = 0 ∨ B.v ≤ 8)))))), (33, (.bool (decide ((chkC A) ≠ 0)))), (40, (.bool (decide ((vE [A]) ≠ 1)))), (62, (.bool (decide ((vE [A, B]) ≠ 0)))), (81, (.int .i64 ((((vT A)).length : Int)))), (14, iv), (82, (Value.int .i64 i))] e1) _ _
       refine vc_seq ?_
       refine vc_res (σ' := [(Arr 25 b1 [(.int .i64 A.v), la, na, (.int .i64 A.r)]), (Arr 25 b2 [(.int .i64 B.v), lb, nb, (.int .i64 B.r)]), (Arr 25 b3 [(.int .i64 ((prD A B S).v)), lvp, nvp, (.int .i64 ((prD A B S).r))]), (Gr 3 1 iv i.toNat ((((prT A B S).take i.toNat).map (Value.int .i64))))]) rfl ?_
       refine vc_region ?_
       refine oq (qv_lss rfl rfl) ?_
       refine ops_nil ?_
       refine vc_seq ?_
       refine vc_if rfl (fun c5 => ?_) (fun c5 => ?_)
       ·
        refine vc_skip ?_
        refine vc_seq ?_
        refine vc_block ?_
        refine vc_seq ?_
        refine vc_region ?_
        refine oq (qv_mv (Value.int .i64 i) rfl) ?_
        refine oq (qv_as (Value.int .i64 i) rfl) ?_
        refine ops_nil ?_
        refine vc_region_order (τ := [(Gr 3 1 iv i.toNat ((((prT A B S).take i.toNat).map (Value.int .i64))))]) [(0, false), (1, false), (2, false), (3, false), (4, false), (5, false), (6, false), (7, false), (8, false), (9, false), (10, false), (11, false), (12, true), (13, true), (14, false)] [(Arr 25 b1 [(.int .i64 A.v), la, na, (.int .i64 A.r)]), (Arr 25 b2 [(.int .i64 B.v), lb, nb, (.int .i64 B.r)]), (Arr 25 b3 [(.int .i64 ((prD A B S).v)), lvp, nvp, (.int .i64 ((prD A B S).r))])] Tryz.mixed (perm_idx _ _ [0, 1, 2, 3] rfl rfl) (by kernel_rfl) ?_
        refine rq rfl (qv_mv iv rfl) ?_
        refine rq rfl (qv_mv w1 rfl) ?_
        refine rq rfl (qv_mv tr0 rfl) ?_
        refine rq rfl (qv_mv (Value.int .i64 i) rfl) ?_
        refine rq rfl (qv_iai (v := tr0) (i := i) Tryz.underlying22 Tryz.size3 rfl (inVi hR0) rfl (by omega) (by omega)) ?_
        refine rq rfl (qv_ldi (v := tr0) (i := i) Tryz.plain3 rfl (inVi hR0) (by omega) (by omega)) ?_
        refine rq rfl (qv_mv tr1 rfl) ?_
        refine rq rfl (qv_mv (Value.int .i64 i) rfl) ?_
        refine rq rfl (qv_iai (v := tr1) (i := i) Tryz.underlying22 Tryz.size3 rfl (inVi hR1) rfl (by omega) (by omega)) ?_
        refine rq rfl (qv_ldi (v := tr1) (i := i) Tryz.plain3 rfl (inVi hR1) (by omega) (by omega)) ?_
        refine rq rfl (qv_build (out := [(.int .i64 (gi ((vT A)) (i))), (.int .i64 (gi ((vT B)) (i)))]) Tryz.build50 [(0, [(.int .i64 (gi ((vT A)) (i)))]), (1, [(.int .i64 (gi ((vT B)) (i)))])] rfl rfl) ?_
        refine rq rfl (qv_call (v := (.int .i64 (ixP S (gi ((vT A)) (i)) (gi ((vT B)) (i))))) (IndexP_c hRp) rfl rfl) ?_
        refine rl rfl ?_
        refine ops_lit (n := 1) (s := 1) (cs := [(.int .i64 (ixP S (gi ((vT A)) (i)) (gi ((vT B)) (i))))]) Tryz.underlying22 Tryz.ti3 (Nat.le_of_ble_eq_true rfl) rfl rfl rfl (Nat.le_of_ble_eq_true rfl) rfl (fun b4 => ?_)
        refine ops_nil ⟨[(Arr 25 b1 [(.int .i64 A.v), la, na, (.int .i64 A.r)]), (Arr 25 b2 [(.int .i64 B.v), lb, nb, (.int .i64 B.r)]), (Arr 25 b3 [(.int .i64 ((prD A B S).v)), lvp, nvp, (.int .i64 ((prD A B S).r))]), (Arr 3 b4 [(.int .i64 (ixP S (gi ((vT A)) (i)) (gi ((vT B)) (i))))])], [(Gr 3 1 iv i.toNat ((((prT A B S).take i.toNat).map (Value.int .i64))))], (Sub.refl _), (perm_idx _ _ [0, 1, 2, 4, 3] rfl rfl), ⟨[(Arr 3 b4 [(.int .i64 (ixP S (gi ((vT A)) (i)) (gi ((vT B)) (i))))])], .refl _⟩, ?_⟩
        refine rl rfl ?_
        refine ops_append (k := 3) (n := i.toNat) (s := 1) (m := 1) (v := iv) (xs := (((prT A B S).take i.toNat).map (Value.int .i64))) (news := [(.int .i64 (ixP S (gi ((vT A)) (i)) (gi ((vT B)) (i))))]) Tryz.underlying22 Tryz.ti3 rfl (Nat.le_of_ble_eq_true rfl) rfl rfl rfl rfl (news_own (j := 4) rfl) (by simp [Value.oneCell']) (by omega) (by simp only [maxLen]; omega) (fun v1 hn1 => ?_)
        refine ops_nil ⟨[(Arr 25 b1 [(.int .i64 A.v), la, na, (.int .i64 A.r)]), (Arr 25 b2 [(.int .i64 B.v), lb, nb, (.int .i64 B.r)]), (Arr 25 b3 [(.int .i64 ((prD A B S).v)), lvp, nvp, (.int .i64 ((prD A B S).r))]), (Arr 3 b4 [(.int .i64 (ixP S (gi ((vT A)) (i)) (gi ((vT B)) (i))))])], [(Gr 3 1 v1 ((i.toNat + 1)) (((((prT A B S).take i.toNat).map (Value.int .i64)) ++ [(.int .i64 (ixP S (gi ((vT A)) (i)) (gi ((vT B)) (i))))])))], (Sub.refl _), (perm_idx _ _ [0, 1, 2, 4, 3] rfl rfl), ⟨[], .refl _⟩, ?_⟩
        refine rq rfl (qv_as v1 rfl) ?_
        refine rnil ?_
        refine vc_res (σ' := [(Arr 25 b1 [(.int .i64 A.v), la, na, (.int .i64 A.r)]), (Arr 25 b2 [(.int .i64 B.v), lb, nb, (.int .i64 B.r)]), (Arr 25 b3 [(.int .i64 ((prD A B S).v)), lvp, nvp, (.int .i64 ((prD A B S).r))]), (Gr 3 1 v1 ((i.toNat + 1)) (((((prT A B S).take i.toNat).map (Value.int .i64)) ++ [(.int .i64 (ixP S (gi ((vT A)) (i)) (gi ((vT B)) (i))))]))), (Arr 3 b4 [(.int .i64 (ixP S (gi ((vT A)) (i)) (gi ((vT B)) (i))))])]) rfl ?_
        refine vc_drop [(Arr 25 b1 [(Value.int .i64 (A.v)), la, na, (Value.int .i64 (A.r))]), (Arr 25 b2 [(Value.int .i64 (B.v)), lb, nb, (Value.int .i64 (B.r))]), (Arr 25 b3 [(Value.int .i64 ((prD A B S).v)), lvp, nvp, (Value.int .i64 ((prD A B S).r))]), (Gr 3 1 v1 ((i.toNat + 1)) (((((prT A B S).take i.toNat).map (Value.int .i64)) ++ [(Value.int .i64 (ixP S (gi ((vT A)) (i)) (gi ((vT B)) (i))))])))] [(Arr 3 b4 [(Value.int .i64 (ixP S (gi ((vT A)) (i)) (gi ((vT B)) (i))))])] ((List.perm_middle (l₁ := [(Arr 25 b1 [(Value.int .i64 (A.v)), la, na, (Value.int .i64 (A.r))]), (Arr 25 b2 [(Value.int .i64 (B.v)), lb, nb, (Value.int .i64 (B.r))]), (Arr 25 b3 [(Value.int .i64 ((prD A B S).v)), lvp, nvp, (Value.int .i64 ((prD A B S).r))]), (Gr 3 1 v1 ((i.toNat + 1)) (((((prT A B S).take i.toNat).map (Value.int .i64)) ++ [(Value.int .i64 (ixP S (gi ((vT A)) (i)) (gi ((vT B)) (i))))])))]) (l₂ := [])).trans (List.perm_append_comm (l₁ := [(Arr 3 b4 [(Value.int .i64 (ixP S (gi ((vT A)) (i)) (gi ((vT B)) (i))))])]))) ?_
        refine vc_region ?_
        refine oq (qv_add rfl rfl (by omega)) ?_
        refine oq (qv_mv (.int .i64 (i + 1)) rfl) ?_
        refine ops_nil ?_
        refine ⟨(i + 1, v1), ⟨rfl, rfl, rfl, rfl, rfl, rfl, rfl, rfl, rfl, rfl, rfl, rfl, rfl, rfl, rfl, rfl, rfl, rfl, rfl, rfl, rfl, (congrArg (Value.int .i64) (show (i + 1) = ((i + 1)) from by omega)), trivial⟩, ⟨rfl, (show [(Arr 25 b1 [(.int .i64 A.v), la, na, (.int .i64 A.r)]), (Arr 25 b2 [(.int .i64 B.v), lb, nb, (.int .i64 B.r)]), (Arr 25 b3 [(.int .i64 ((prD A B S).v)), lvp, nvp, (.int .i64 ((prD A B S).r))]), (Gr 3 1 v1 (i + 1 : Int).toNat ((((prT A B S).take (i + 1 : Int).toNat).map (Value.int .i64))))] = [(Arr 25 b1 [(.int .i64 A.v), la, na, (.int .i64 A.r)]), (Arr 25 b2 [(.int .i64 B.v), lb, nb, (.int .i64 B.r)]), (Arr 25 b3 [(.int .i64 ((prD A B S).v)), lvp, nvp, (.int .i64 ((prD A B S).r))]), (Gr 3 1 v1 ((i.toNat + 1)) (((((prT A B S).take i.toNat).map (Value.int .i64)) ++ [(.int .i64 (ixP S (gi ((vT A)) (i)) (gi ((vT B)) (i))))])))] from by rw [prT_take hokA hvv (by omega) (by omega), List.map_append, show (i + 1).toNat = i.toNat + 1 by omega] <;> rfl), by omega, by omega⟩, by omega⟩
       ·
        refine vc_exit ?_
        refine blockQ_hit ?_
        refine vc_seq ?_
        refine vc_freezeG (v := iv) (E := 3) (n := i.toNat) (xs := (((prT A B S).take i.toNat).map (Value.int .i64))) (σr := [(Arr 25 b1 [(Value.int .i64 (A.v)), la, na, (Value.int .i64 (A.r))]), (Arr 25 b2 [(Value.int .i64 (B.v)), lb, nb, (Value.int .i64 (B.r))]), (Arr 25 b3 [(Value.int .i64 ((prD A B S).v)), lvp, nvp, (Value.int .i64 ((prD A B S).r))])]) (List.perm_middle (l₁ := [(Arr 25 b1 [(Value.int .i64 (A.v)), la, na, (Value.int .i64 (A.r))]), (Arr 25 b2 [(Value.int .i64 (B.v)), lb, nb, (Value.int .i64 (B.r))]), (Arr 25 b3 [(Value.int .i64 ((prD A B S).v)), lvp, nvp, (Value.int .i64 ((prD A B S).r))])]) (l₂ := [])) (fun Vf1 hVf1 hc1 => ?_)
        have hA := hA.mono hVf1
        have hB := hB.mono hVf1
        have hH := hH.mono hVf1
        have hMp := hMp.mono hVf1
        have hS := hS.mono hVf1
        have hR0 := hR0.mono hVf1
        have hR1 := hR1.mono hVf1
        have hRp := hRp.mono hVf1
        refine vc_region_order (τ := []) [(0, false), (1, false), (2, false), (3, false), (4, false), (5, false), (6, false), (7, false), (8, false), (9, true), (10, false), (11, false), (12, false)] [(Arr 25 b1 [(.int .i64 A.v), la, na, (.int .i64 A.r)]), (Arr 25 b2 [(.int .i64 B.v), lb, nb, (.int .i64 B.r)]), (Arr 25 b3 [(.int .i64 ((prD A B S).v)), lvp, nvp, (.int .i64 ((prD A B S).r))])] Tryz.mixed (perm_nil _) (by kernel_rfl) ?_
        have hIx0 := hc1
        have hIx : Ints .i64 Vf1 iv (prT A B S) := by have q := hIx0; rw [List.take_of_length_le (by rw [prT_len]; omega)] at q; exact q
        refine rq rfl (qv_mv svp rfl) ?_
        refine rq rfl (qv_mv w1 rfl) ?_
        refine rq rfl (qv_call (v := (.bool (decide (S = S)))) (EqP_c hS hRp) rfl rfl) ?_
        refine rq rfl (qv_mv (.bool (decide (S = S))) rfl) ?_
        by_cases g4 : S = S
        ·
         refine re rfl (qv_ldm (vs := [(.int .i64 ((prD A B S).v)), lvp, nvp, (.int .i64 ((prD A B S).r))]) Tryz.agg25 rfl (inOc (k := 2) rfl) rfl rfl) (want_t g4 rfl rfl rfl) ?_
         refine re rfl (qv_mv (.int .i64 (vE [A, B])) rfl) (want_t g4 rfl rfl rfl) ?_
         refine re rfl (qv_fa (off := 0) Tryz.field25_0 rfl) (want_t g4 rfl rfl rfl) ?_
         refine re rfl (qv_ldp (v := (.int .i64 A.v)) Tryz.plain3 rfl (inOc (k := 0) rfl) rfl) (want_t g4 rfl rfl rfl) ?_
         refine re rfl (qv_mv iv rfl) (want_t g4 rfl rfl rfl) ?_
         refine rl rfl ?_
         refine ops_want (want_t g4 rfl rfl rfl) ?_
         refine ops_call (σa := []) (σr := [(Arr 25 b1 [(.int .i64 A.v), la, na, (.int .i64 A.r)]), (Arr 25 b2 [(.int .i64 B.v), lb, nb, (.int .i64 B.r)]), (Arr 25 b3 [(.int .i64 ((prD A B S).v)), lvp, nvp, (.int .i64 ((prD A B S).r))])]) (diagram_c (vars := A.v) (t := prT A B S) hIx hv0 (by omega) prT_len) rfl rfl (.refl _) (fun r6 V6 sg6 hV6 hp6 => ?_)
         obtain ⟨rfl, lv2, nv2, rfl, hDg2⟩ := hp6
         have hA := hA.mono hV6
         have hB := hB.mono hV6
         have hH := hH.mono hV6
         have hMp := hMp.mono hV6
         have hS := hS.mono hV6
         have hR0 := hR0.mono hV6
         have hR1 := hR1.mono hV6
         have hRp := hRp.mono hV6
         have hc1 := hc1.mono hV6
         have hIx := hIx.mono hV6
         refine ops_nil ⟨[(Arr 25 b1 [(.int .i64 A.v), la, na, (.int .i64 A.r)]), (Arr 25 b2 [(.int .i64 B.v), lb, nb, (.int .i64 B.r)]), (Arr 25 b3 [(.int .i64 ((prD A B S).v)), lvp, nvp, (.int .i64 ((prD A B S).r))])], [], hV6, perm_nil _, ⟨[], (.refl _)⟩, ?_⟩
         refine re rfl (qv_call (v := (.bool (decide ((vE [A, B]) = 0 ∧ (prD A B S) = (dg A.v (prT A B S)))))) (is_c (A := (prD A B S)) (B := (dg A.v (prT A B S))) (ee := (vE [A, B])) (cc := 0) hMp hDg2) rfl rfl) (want_t g4 rfl rfl rfl) ?_
         refine rq rfl (qv_pick_t g4 rfl (rfl : ev _ _ = (.bool (decide ((vE [A, B]) = 0 ∧ (prD A B S) = (dg A.v (prT A B S))))))) ?_
         refine rq rfl (qv_as (.bool (decide ((vE [A, B]) = 0 ∧ (prD A B S) = (dg A.v (prT A B S))))) rfl) ?_
         refine rnil ?_
         refine vc_drop [] [(Arr 25 b1 [(.int .i64 A.v), la, na, (.int .i64 A.r)]), (Arr 25 b2 [(.int .i64 B.v), lb, nb, (.int .i64 B.r)]), (Arr 25 b3 [(.int .i64 ((prD A B S).v)), lvp, nvp, (.int .i64 ((prD A B S).r))])] (.refl _) ?_
         refine vc_ret ?_
         exact rq1 (Value.bool true) (congrArg Value.bool (decide_eq_true (show ((vE [A, B]) = 0 ∧ (prD A B S) = (dg A.v (prT A B S))) from by first | rfl | exact hprd | exact ⟨rfl, hpn⟩ | (rw [hsn]; rfl) | omega))) rfl
        ·
         exact absurd rfl g4
   ·
    refine vc_seq ?_
    have hokA0 := chk_ok.1 (by omega : chkC A = 0)
    have hokA := hokA0
    have hv8 : A.v ≤ 8 := h8A.2.elim (fun h => absurd (chk_0 hokA) h) id
    have hgg := (hg_good hokA).1
    have hgz := (hg_good hokA).2
    have hvl := vT_len (A := A)
    have hv0 := hokA.1.1
    have hpw8 := Clone_len (n := A.v.toNat) (by omega)
    refine vc_region ?_
    refine oq (qv_mv (.int .i64 (vE [A])) rfl) ?_
    refine oq (qv_neq rfl rfl) ?_
    refine oq (qv_mv (.bool (decide ((vE [A]) ≠ 0))) rfl) ?_
    by_cases g5 : (vE [A]) ≠ 0
    ·
     refine os (want_fn g5 rfl rfl rfl) ?_
     refine os (want_fn g5 rfl rfl rfl) ?_
     refine os (want_fn g5 rfl rfl rfl) ?_
     refine os (want_fn g5 rfl rfl rfl) ?_
     refine os (want_fn g5 rfl rfl rfl) ?_
     refine os (want_fn g5 rfl rfl rfl) ?_
     refine oq (qv_pick_t g5 rfl (rfl : ev _ _ = (Value.bool true))) ?_
     refine ops_nil ?_
     refine vc_tt rfl ?_
     refine vc_seq ?_
     refine vc_region ?_
     refine oq (qv_as (Value.bool false) rfl) ?_
     refine ops_nil ?_
     refine vc_drop [] [(Arr 25 b1 [(.int .i64 A.v), la, na, (.int .i64 A.r)]), (Arr 25 b2 [(.int .i64 B.v), lb, nb, (.int .i64 B.r)])] (.refl _) ?_
     refine vc_ret ?_
     exact rq1 (Value.bool true) (by first | rfl | (first | rfl | exact hprd | exact ⟨rfl, hpn⟩ | (rw [hsn]; rfl) | omega)) rfl
    ·
     refine og (qv_mv u1 rfl) (want_f g5 rfl rfl rfl) ?_
     refine og (qv_ldm (vs := [(.int .i64 A.v), la, na, (.int .i64 A.r)]) Tryz.agg25 rfl (inOc (k := 0) rfl) rfl rfl) (want_f g5 rfl rfl rfl) ?_
     refine ops_want (want_f g5 rfl rfl rfl) ?_
     refine ops_call (σa := []) (σr := [(Arr 25 b1 [(.int .i64 A.v), la, na, (.int .i64 A.r)]), (Arr 25 b2 [(.int .i64 B.v), lb, nb, (.int .i64 B.r)])]) (table_c (A := A) hA hokA (by omega)) rfl rfl (.refl _) (fun r7 V7 sg7 hV7 hp7 => ?_)
     obtain ⟨rfl, hRh⟩ := hp7
     obtain ⟨trh, htrh⟩ : ∃ x, x = r7 := ⟨_, rfl⟩
     subst htrh
     have hA := hA.mono hV7
     have hB := hB.mono hV7
     have hH := hH.mono hV7
     refine ops_want (want_f g5 rfl rfl rfl) ?_
     refine ops_call (σa := []) (σr := [(Arr 25 b1 [(.int .i64 A.v), la, na, (.int .i64 A.r)]), (Arr 25 b2 [(.int .i64 B.v), lb, nb, (.int .i64 B.r)])]) (histogram_c hRh (by omega)) rfl rfl (.refl _) (fun r8 V8 sg8 hV8 hp8 => ?_)
     obtain ⟨rfl, hHg⟩ := hp8
     obtain ⟨uh, huh⟩ : ∃ x, x = r8 := ⟨_, rfl⟩
     subst huh
     have hA := hA.mono hV8
     have hB := hB.mono hV8
     have hH := hH.mono hV8
     have hRh := hRh.mono hV8
     refine og (qv_call (v := (.bool (decide (hgR A = hgS (vT A))))) (EqT_c hH hHg) rfl rfl) (want_f g5 rfl rfl rfl) ?_
     refine og (qv_not rfl) (want_f g5 rfl rfl rfl) ?_
     refine oq (qv_pick_f g5 rfl (rfl : ev _ _ = (.bool (decide (¬ (hgR A = hgS (vT A))))))) ?_
     refine ops_nil ?_
     refine vc_if rfl (fun c6 => ?_) (fun c6 => ?_)
     ·
      exact absurd hgg c6
     ·
      refine vc_skip ?_
      refine vc_seq ?_
      refine vc_region ?_
      refine oq (qv_ldm (vs := [(.int .i64 A.v), la, na, (.int .i64 A.r)]) Tryz.agg25 rfl (inOc (k := 0) rfl) rfl rfl) ?_
      refine oq (qv_ldm (vs := [(.int .i64 B.v), lb, nb, (.int .i64 B.r)]) Tryz.agg25 rfl (inOc (k := 1) rfl) rfl rfl) ?_
      refine ops_call (σa := []) (σr := [(Arr 25 b1 [(.int .i64 A.v), la, na, (.int .i64 A.r)]), (Arr 25 b2 [(.int .i64 B.v), lb, nb, (.int .i64 B.r)])]) (Pair_c hA hB (fun q => by have hv8 := h8A.2.elim (fun h => absurd (chk_0 (vE2_ok.1 q).1.1) h) id; omega)) rfl rfl (.refl _) (fun r9 V9 sg9 hV9 hp9 => ?_)
      obtain ⟨rfl, S, lvp, nvp, svp, rfl, hMp, hS, hps, hse⟩ := hp9
      have hA := hA.mono hV9
      have hB := hB.mono hV9
      have hH := hH.mono hV9
      have hRh := hRh.mono hV9
      have hHg := hHg.mono hV9
      refine oq (qv_mv (.tuple #[(.agg #[(.int .i64 ((prD A B S).v)), lvp, nvp, (.int .i64 ((prD A B S).r))]), svp, (.int .i64 (vE [A, B]))]) rfl) ?_
      refine oq (qv_ext (.agg #[(.int .i64 ((prD A B S).v)), lvp, nvp, (.int .i64 ((prD A B S).r))]) rfl rfl) ?_
      refine oq (qv_ext svp rfl rfl) ?_
      refine oq (qv_ext (.int .i64 (vE [A, B])) rfl rfl) ?_
      refine ops_alloc Tryz.ti25 rfl (fun b5 => ?_)
      refine ops_stw (k := 2) (vs := [(.int .i64 ((prD A B S).v)), lvp, nvp, (.int .i64 ((prD A B S).r))]) Tryz.size25 rfl rfl rfl (allc rfl (allc (Sl.one hMp.l) (allc (SlS.one hMp.n) (allc rfl rfl)))) rfl rfl ?_
      refine oq (qv_as svp rfl) ?_
      refine oq (qv_as (.int .i64 (vE [A, B])) rfl) ?_
      refine ops_nil ?_
      refine vc_seq ?_
      refine vc_seq ?_
      refine vc_res (σ' := [(Arr 25 b1 [(.int .i64 A.v), la, na, (.int .i64 A.r)]), (Arr 25 b2 [(.int .i64 B.v), lb, nb, (.int .i64 B.r)]), (Arr 25 b5 [(.int .i64 ((prD A B S).v)), lvp, nvp, (.int .i64 ((prD A B S).r))])]) rfl ?_
      refine vc_region ?_
      refine oq (qv_ldm (vs := [(.int .i64 A.v), la, na, (.int .i64 A.r)]) Tryz.agg25 rfl (inOc (k := 0) rfl) rfl rfl) ?_
      refine oq (qv_ldm (vs := [(.int .i64 B.v), lb, nb, (.int .i64 B.r)]) Tryz.agg25 rfl (inOc (k := 1) rfl) rfl rfl) ?_
      refine oq (qv_call (v := (.int .i64 (vE [A, B]))) (two_c hA hB) rfl rfl) ?_
      refine oq (qv_as (.int .i64 (vE [A, B])) rfl) ?_
      refine ops_nil ?_
      refine vc_seq ?_
      refine vc_region ?_
      refine oq (qv_mv (.int .i64 (vE [A, B])) rfl) ?_
      refine oq (qv_neq rfl rfl) ?_
      refine ops_nil ?_
      refine vc_if rfl (fun c7 => ?_) (fun c7 => ?_)
      ·
       refine vc_seq ?_
       have hpn := prD_n (S := S) (by assumption : vE [A, B] ≠ 0)
       have hsn := hse (by assumption)
       refine vc_region ?_
       refine oq (qv_ldm (vs := [(.int .i64 ((prD A B S).v)), lvp, nvp, (.int .i64 ((prD A B S).r))]) Tryz.agg25 rfl (inOc (k := 2) rfl) rfl rfl) ?_
       refine oq (qv_mv (.int .i64 (vE [A, B])) rfl) ?_
       refine oq (qv_build (out := [(Value.int .i64 0), (Value.slice none 0 0), (Value.slice none 0 0), (Value.int .i64 0)]) Tryz.build25 [] rfl rfl) ?_
       refine oq (qv_mv (.int .i64 (vE [A, B])) rfl) ?_
       refine oq (qv_call (v := (.bool (decide ((vE [A, B]) = (vE [A, B]) ∧ (prD A B S) = zM)))) (is_c (A := (prD A B S)) (B := zM) (ee := (vE [A, B])) (cc := (vE [A, B])) hMp Mt.nil) rfl rfl) ?_
       refine oq (qv_mv (.bool (decide ((vE [A, B]) = (vE [A, B]) ∧ (prD A B S) = zM))) rfl) ?_
       by_cases g6 : (vE [A, B]) = (vE [A, B]) ∧ (prD A B S) = zM
       ·
        refine og (qv_mv svp rfl) (want_t g6 rfl rfl rfl) ?_
        refine og (qv_lenSS Tryz.underlying44 rfl hS) (want_t g6 rfl rfl rfl) ?_
        refine og (qv_eql rfl rfl) (want_t g6 rfl rfl rfl) ?_
        refine oq (qv_pick_t g6 rfl (rfl : ev _ _ = (.bool (decide (((S.length : Int)) = 0))))) ?_
        refine oq (qv_as (.bool (decide (((S.length : Int)) = 0))) rfl) ?_
        refine ops_nil ?_
        refine vc_drop [] [(Arr 25 b1 [(.int .i64 A.v), la, na, (.int .i64 A.r)]), (Arr 25 b2 [(.int .i64 B.v), lb, nb, (.int .i64 B.r)]), (Arr 25 b5 [(.int .i64 ((prD A B S).v)), lvp, nvp, (.int .i64 ((prD A B S).r))])] (.refl _) ?_
        refine vc_ret ?_
        exact rq1 (Value.bool true) (congrArg Value.bool (decide_eq_true (show (((S.length : Int)) = 0) from by first | rfl | exact hprd | exact ⟨rfl, hpn⟩ | (rw [hsn]; rfl) | omega))) rfl
       ·
        exact absurd ⟨rfl, hpn⟩ g6
      ·
       refine vc_skip ?_
       refine vc_seq ?_
       have hz : vE [A, B] = 0 := by omega
       obtain ⟨⟨hokA, hokB⟩, hvv⟩ := vE2_ok.1 hz
       have hv8 : A.v ≤ 8 := h8A.2.elim (fun h => absurd (chk_0 hokA) h) id
       have hPS := hps hz
       have hvl := vT_len (A := A)
       have hvlB := vT_len (A := B)
       rw [← hvv] at hvlB
       have hv0 := hokA.1.1
       have hpw8 := Clone_len (n := A.v.toNat) (by omega)
       have hprd := pr_dg hokA hokB hvv (by omega) hPS
       refine vc_region_order (τ := []) [(0, false), (2, false), (1, true), (3, true), (4, false), (5, false)] [(Arr 25 b1 [(.int .i64 A.v), la, na, (.int .i64 A.r)]), (Arr 25 b2 [(.int .i64 B.v), lb, nb, (.int .i64 B.r)]), (Arr 25 b5 [(.int .i64 ((prD A B S).v)), lvp, nvp, (.int .i64 ((prD A B S).r))])] Tryz.mixed (perm_nil _) (by kernel_rfl) ?_
       refine rq rfl (qv_ldm (vs := [(.int .i64 A.v), la, na, (.int .i64 A.r)]) Tryz.agg25 rfl (inOc (k := 0) rfl) rfl rfl) ?_
       refine rq rfl (qv_ldm (vs := [(.int .i64 B.v), lb, nb, (.int .i64 B.r)]) Tryz.agg25 rfl (inOc (k := 1) rfl) rfl rfl) ?_
       refine rl rfl ?_
       refine ops_call (σa := []) (σr := [(Arr 25 b1 [(.int .i64 A.v), la, na, (.int .i64 A.r)]), (Arr 25 b2 [(.int .i64 B.v), lb, nb, (.int .i64 B.r)]), (Arr 25 b5 [(.int .i64 ((prD A B S).v)), lvp, nvp, (.int .i64 ((prD A B S).r))])]) (table_c (A := A) hA hokA (by omega)) rfl rfl (.refl _) (fun r10 V10 sg10 hV10 hp10 => ?_)
       obtain ⟨rfl, hR0⟩ := hp10
       obtain ⟨tr0, htr0⟩ : ∃ x, x = r10 := ⟨_, rfl⟩
       subst htr0
       have hA := hA.mono hV10
       have hB := hB.mono hV10
       have hH := hH.mono hV10
       have hRh := hRh.mono hV10
       have hHg := hHg.mono hV10
       have hMp := hMp.mono hV10
       have hS := hS.mono hV10
       refine ops_nil ⟨[(Arr 25 b1 [(.int .i64 A.v), la, na, (.int .i64 A.r)]), (Arr 25 b2 [(.int .i64 B.v), lb, nb, (.int .i64 B.r)]), (Arr 25 b5 [(.int .i64 ((prD A B S).v)), lvp, nvp, (.int .i64 ((prD A B S).r))])], [], hV10, perm_nil _, ⟨[], (.refl _)⟩, ?_⟩
       refine rl rfl ?_
       refine ops_call (σa := []) (σr := [(Arr 25 b1 [(.int .i64 A.v), la, na, (.int .i64 A.r)]), (Arr 25 b2 [(.int .i64 B.v), lb, nb, (.int .i64 B.r)]), (Arr 25 b5 [(.int .i64 ((prD A B S).v)), lvp, nvp, (.int .i64 ((prD A B S).r))])]) (table_c (A := B) hB hokB (by omega)) rfl rfl (.refl _) (fun r11 V11 sg11 hV11 hp11 => ?_)
       obtain ⟨rfl, hR1⟩ := hp11
       obtain ⟨tr1, htr1⟩ : ∃ x, x = r11 := ⟨_, rfl⟩
       subst htr1
       have hA := hA.mono hV11
       have hB := hB.mono hV11
       have hH := hH.mono hV11
       have hRh := hRh.mono hV11
       have hHg := hHg.mono hV11
       have hMp := hMp.mono hV11
       have hS := hS.mono hV11
       have hR0 := hR0.mono hV11
       refine ops_nil ⟨[(Arr 25 b1 [(.int .i64 A.v), la, na, (.int .i64 A.r)]), (Arr 25 b2 [(.int .i64 B.v), lb, nb, (.int .i64 B.r)]), (Arr 25 b5 [(.int .i64 ((prD A B S).v)), lvp, nvp, (.int .i64 ((prD A B S).r))])], [], hV11, perm_nil _, ⟨[], (.refl _)⟩, ?_⟩
       refine rq rfl (qv_as tr0 rfl) ?_
       refine rq rfl (qv_as tr1 rfl) ?_
       refine rnil ?_
       refine vc_seq ?_
       refine vc_region ?_
       refine oq (qv_mv tr0 rfl) ?_
       refine oq (qv_mv tr1 rfl) ?_
       refine ops_call (σa := []) (σr := [(Arr 25 b1 [(.int .i64 A.v), la, na, (.int .i64 A.r)]), (Arr 25 b2 [(.int .i64 B.v), lb, nb, (.int .i64 B.r)]), (Arr 25 b5 [(.int .i64 ((prD A B S).v)), lvp, nvp, (.int .i64 ((prD A B S).r))])]) (pairs_c hR0 hR1 (by omega) (by omega) (vT_in hokA) (vT_in hokB)) rfl rfl (.refl _) (fun r12 V12 sg12 hV12 hp12 => ?_)
       obtain ⟨rfl, R, hRp, hRo, hRm⟩ := hp12
       obtain ⟨w1, hw1⟩ : ∃ x, x = r12 := ⟨_, rfl⟩
       subst hw1
       rw [show (vT A).length = 2 ^ A.v.toNat from vT_len] at hRm
       rw [zp_pset hokA hokB hvv hPS hRo hRm] at hRp
       have hA := hA.mono hV12
       have hB := hB.mono hV12
       have hH := hH.mono hV12
       have hRh := hRh.mono hV12
       have hHg := hHg.mono hV12
       have hMp := hMp.mono hV12
       have hS := hS.mono hV12
       have hR0 := hR0.mono hV12
       have hR1 := hR1.mono hV12
       refine oq (qv_as w1 rfl) ?_
       refine ops_nil ?_
       refine vc_seq ?_
       refine vc_nil 3 1 ?_
       refine vc_region ?_
       refine oq (qv_as (Value.slice none 0 0) rfl) ?_
       refine ops_nil ?_
       refine vc_seq ?_
       refine vc_seq ?_
       refine vc_res (σ' := [(Arr 25 b1 [(.int .i64 A.v), la, na, (.int .i64 A.r)]), (Arr 25 b2 [(.int .i64 B.v), lb, nb, (.int .i64 B.r)]), (Arr 25 b5 [(.int .i64 ((prD A B S).v)), lvp, nvp, (.int .i64 ((prD A B S).r))]), (Gr 3 1 ((Value.slice none 0 0)) 0 ([]))]) rfl ?_
       refine vc_region ?_
       refine oq (qv_mv tr0 rfl) ?_
       refine oq (qv_lenI Tryz.underlying22 rfl hR0) ?_
       refine oq (qv_mv (Value.int .i64 0) rfl) ?_
       refine ops_nil ?_
       refine vc_block ?_
       refine vc_loop (α := Int × Value) (fun (xx : Int × Value) => [(0, (.agg #[(.int .i64 A.v), la, na, (.int .i64 A.r)])), (1, (.agg #[(.int .i64 B.v), lb, nb, (.int .i64 B.r)])), (2, (Value.pointer (some ⟨b1, 0, none⟩))), (3, (Value.pointer (some ⟨b2, 0, none⟩))), (4, (Value.bool false)), (5, u1), (6, (.int .i64 (vE [A]))), (7, (Value.pointer (some ⟨b5, 0, none⟩))), (8, svp), (9, (.int .i64 (vE [A, B]))), (10, (.int .i64 (vE [A, B]))), (11, tr0), (12, tr1), (13, w1), (17, (Value.bool false)), (25, (.bool (decide (¬ (fewP B ∧ (¬ chkC B = 0 ∨ B.v ≤ 8)))))), (33, (.bool (decide ((chkC A) ≠ 0)))), (50, (.bool (decide (¬ (hgR A = hgS (vT A)))))), (62, (.bool (decide ((vE [A, B]) ≠ 0)))), (81, (.int .i64 ((((vT A)).length : Int)))), (14, xx.2), (82, (Value.int .i64 xx.1))]) (fun (xx : Int × Value) V' σ' => V12 = V' ∧ [(Arr 25 b1 [(.int .i64 A.v), la, na, (.int .i64 A.r)]), (Arr 25 b2 [(.int .i64 B.v), lb, nb, (.int .i64 B.r)]), (Arr 25 b5 [(.int .i64 ((prD A B S).v)), lvp, nvp, (.int .i64 ((prD A B S).r))]), (Gr 3 1 xx.2 xx.1.toNat ((((prT A B S).take xx.1.toNat).map (Value.int .i64))))] = σ' ∧ 0 ≤ xx.1 ∧ xx.1 ≤ (vT A).length) (fun (xx : Int × Value) => ((vT A).length - xx.1).toNat) (0, (Value.slice none 0 0)) ?_ ?_ ?_
       · exact ⟨rfl, rfl, rfl, rfl, rfl, rfl, rfl, rfl, rfl, rfl, rfl, rfl, rfl, rfl, rfl, rfl, rfl, rfl, rfl, rfl, (by first | rfl | (first | omega | simp)), rfl, trivial⟩
       · exact ⟨rfl, (show [(Arr 25 b1 [(.int .i64 A.v), la, na, (.int .i64 A.r)]), (Arr 25 b2 [(.int .i64 B.v), lb, nb, (.int .i64 B.r)]), (Arr 25 b5 [(.int .i64 ((prD A B S).v)), lvp, nvp, (.int .i64 ((prD A B S).r))]), (Gr 3 1 ((Value.slice none 0 0)) (0 : Int).toNat ((((prT A B S).take (0 : Int).toNat).map (Value.int .i64))))] = [(Arr 25 b1 [(.int .i64 A.v), la, na, (.int .i64 A.r)]), (Arr 25 b2 [(.int .i64 B.v), lb, nb, (.int .i64 B.r)]), (Arr 25 b5 [(.int .i64 ((prD A B S).v)), lvp, nvp, (.int .i64 ((prD A B S).r))]), (Gr 3 1 ((Value.slice none 0 0)) 0 ([]))] from by rfl), by omega, by omega⟩
       rintro ⟨i, iv⟩ e2 V0l σ0l hI0
       obtain ⟨rfl, rfl, i3, i4⟩ : V12 = V0l ∧ [(Arr 25 b1 [(.int .i64 A.v), la, na, (.int .i64 A.r)]), (Arr 25 b2 [(.int .i64 B.v), lb, nb, (.int .i64 B.r)]), (Arr 25 b5 [(.int .i64 ((prD A B S).v)), lvp, nvp, (.int .i64 ((prD A B S).r))]), (Gr 3 1 iv i.toNat ((((prT A B S).take i.toNat).map (Value.int .i64))))] = σ0l ∧ 0 ≤ i ∧ i ≤ (vT A).length := hI0
       change VC _ _ _ _ _ _ (upds 112 [(0, (.agg #[(.int .i64 A.v), la, na, (.int .i64 A.r)])), (1, (.agg #[(.int .i64 B.v), lb, nb, (.int .i64 B.r)])), (2, (Value.pointer (some ⟨b1, 0, none⟩))), (3, (Value.pointer (some ⟨b2, 0, none⟩))), (4, (Value.bool false)), (5, u1), (6, (.int .i64 (vE [A]))), (7, (Value.pointer (some ⟨b5, 0, none⟩))), (8, svp), (9, (.int .i64 (vE [A, B]))), (10, (.int .i64 (vE [A, B]))), (11, tr0), (12, tr1), (13, w1), (17, (Value.bool false)), (25, (.bool (decide (¬ (fewP B ∧ (¬ chkC B = 0 ∨ B.v ≤ 8)))))), (33, (.bool (decide ((chkC A) ≠ 0)))), (50, (.bool (decide (¬ (hgR A = hgS (vT A)))))), (62, (.bool (decide ((vE [A, B]) ≠ 0)))), (81, (.int .i64 ((((vT A)).length : Int)))), (14, iv), (82, (Value.int .i64 i))] e2) _ _
       refine vc_seq ?_
       refine vc_res (σ' := [(Arr 25 b1 [(.int .i64 A.v), la, na, (.int .i64 A.r)]), (Arr 25 b2 [(.int .i64 B.v), lb, nb, (.int .i64 B.r)]), (Arr 25 b5 [(.int .i64 ((prD A B S).v)), lvp, nvp, (.int .i64 ((prD A B S).r))]), (Gr 3 1 iv i.toNat ((((prT A B S).take i.toNat).map (Value.int .i64))))]) rfl ?_
       refine vc_region ?_
       refine oq (qv_lss rfl rfl) ?_
       refine ops_nil ?_
       refine vc_seq ?_
       refine vc_if rfl (fun c8 => ?_) (fun c8 => ?_)
       ·
        refine vc_skip ?_
        refine vc_seq ?_
        refine vc_block ?_
        refine vc_seq ?_
        refine vc_region ?_
        refine oq (qv_mv (Value.int .i64 i) rfl) ?_
        refine oq (qv_as (Value.int .i64 i) rfl) ?_
        refine ops_nil ?_
        refine vc_region_order (τ := [(Gr 3 1 iv i.toNat ((((prT A B S).take i.toNat).map (Value.int .i64))))]) [(0, false), (1, false), (2, false), (3, false), (4, false), (5, false), (6, false), (7, false), (8, false), (9, false), (10, false), (11, false), (12, true), (13, true), (14, false)] [(Arr 25 b1 [(.int .i64 A.v), la, na, (.int .i64 A.r)]), (Arr 25 b2 [(.int .i64 B.v), lb, nb, (.int .i64 B.r)]), (Arr 25 b5 [(.int .i64 ((prD A B S).v)), lvp, nvp, (.int .i64 ((prD A B S).r))])] Tryz.mixed (perm_idx _ _ [0, 1, 2, 3] rfl rfl) (by kernel_rfl) ?_
        refine rq rfl (qv_mv iv rfl) ?_
        refine rq rfl (qv_mv w1 rfl) ?_
        refine rq rfl (qv_mv tr0 rfl) ?_
        refine rq rfl (qv_mv (Value.int .i64 i) rfl) ?_
        refine rq rfl (qv_iai (v := tr0) (i := i) Tryz.underlying22 Tryz.size3 rfl (inVi hR0) rfl (by omega) (by omega)) ?_
        refine rq rfl (qv_ldi (v := tr0) (i := i) Tryz.plain3 rfl (inVi hR0) (by omega) (by omega)) ?_
        refine rq rfl (qv_mv tr1 rfl) ?_
        refine rq rfl (qv_mv (Value.int .i64 i) rfl) ?_
        refine rq rfl (qv_iai (v := tr1) (i := i) Tryz.underlying22 Tryz.size3 rfl (inVi hR1) rfl (by omega) (by omega)) ?_
        refine rq rfl (qv_ldi (v := tr1) (i := i) Tryz.plain3 rfl (inVi hR1) (by omega) (by omega)) ?_
        refine rq rfl (qv_build (out := [(.int .i64 (gi ((vT A)) (i))), (.int .i64 (gi ((vT B)) (i)))]) Tryz.build50 [(0, [(.int .i64 (gi ((vT A)) (i)))]), (1, [(.int .i64 (gi ((vT B)) (i)))])] rfl rfl) ?_
        refine rq rfl (qv_call (v := (.int .i64 (ixP S (gi ((vT A)) (i)) (gi ((vT B)) (i))))) (IndexP_c hRp) rfl rfl) ?_
        refine rl rfl ?_
        refine ops_lit (n := 1) (s := 1) (cs := [(.int .i64 (ixP S (gi ((vT A)) (i)) (gi ((vT B)) (i))))]) Tryz.underlying22 Tryz.ti3 (Nat.le_of_ble_eq_true rfl) rfl rfl rfl (Nat.le_of_ble_eq_true rfl) rfl (fun b6 => ?_)
        refine ops_nil ⟨[(Arr 25 b1 [(.int .i64 A.v), la, na, (.int .i64 A.r)]), (Arr 25 b2 [(.int .i64 B.v), lb, nb, (.int .i64 B.r)]), (Arr 25 b5 [(.int .i64 ((prD A B S).v)), lvp, nvp, (.int .i64 ((prD A B S).r))]), (Arr 3 b6 [(.int .i64 (ixP S (gi ((vT A)) (i)) (gi ((vT B)) (i))))])], [(Gr 3 1 iv i.toNat ((((prT A B S).take i.toNat).map (Value.int .i64))))], (Sub.refl _), (perm_idx _ _ [0, 1, 2, 4, 3] rfl rfl), ⟨[(Arr 3 b6 [(.int .i64 (ixP S (gi ((vT A)) (i)) (gi ((vT B)) (i))))])], .refl _⟩, ?_⟩
        refine rl rfl ?_
        refine ops_append (k := 3) (n := i.toNat) (s := 1) (m := 1) (v := iv) (xs := (((prT A B S).take i.toNat).map (Value.int .i64))) (news := [(.int .i64 (ixP S (gi ((vT A)) (i)) (gi ((vT B)) (i))))]) Tryz.underlying22 Tryz.ti3 rfl (Nat.le_of_ble_eq_true rfl) rfl rfl rfl rfl (news_own (j := 4) rfl) (by simp [Value.oneCell']) (by omega) (by simp only [maxLen]; omega) (fun v2 hn2 => ?_)
        refine ops_nil ⟨[(Arr 25 b1 [(.int .i64 A.v), la, na, (.int .i64 A.r)]), (Arr 25 b2 [(.int .i64 B.v), lb, nb, (.int .i64 B.r)]), (Arr 25 b5 [(.int .i64 ((prD A B S).v)), lvp, nvp, (.int .i64 ((prD A B S).r))]), (Arr 3 b6 [(.int .i64 (ixP S (gi ((vT A)) (i)) (gi ((vT B)) (i))))])], [(Gr 3 1 v2 ((i.toNat + 1)) (((((prT A B S).take i.toNat).map (Value.int .i64)) ++ [(.int .i64 (ixP S (gi ((vT A)) (i)) (gi ((vT B)) (i))))])))], (Sub.refl _), (perm_idx _ _ [0, 1, 2, 4, 3] rfl rfl), ⟨[], .refl _⟩, ?_⟩
        refine rq rfl (qv_as v2 rfl) ?_
        refine rnil ?_
        refine vc_res (σ' := [(Arr 25 b1 [(.int .i64 A.v), la, na, (.int .i64 A.r)]), (Arr 25 b2 [(.int .i64 B.v), lb, nb, (.int .i64 B.r)]), (Arr 25 b5 [(.int .i64 ((prD A B S).v)), lvp, nvp, (.int .i64 ((prD A B S).r))]), (Gr 3 1 v2 ((i.toNat + 1)) (((((prT A B S).take i.toNat).map (Value.int .i64)) ++ [(.int .i64 (ixP S (gi ((vT A)) (i)) (gi ((vT B)) (i))))]))), (Arr 3 b6 [(.int .i64 (ixP S (gi ((vT A)) (i)) (gi ((vT B)) (i))))])]) rfl ?_
        refine vc_drop [(Arr 25 b1 [(Value.int .i64 (A.v)), la, na, (Value.int .i64 (A.r))]), (Arr 25 b2 [(Value.int .i64 (B.v)), lb, nb, (Value.int .i64 (B.r))]), (Arr 25 b5 [(Value.int .i64 ((prD A B S).v)), lvp, nvp, (Value.int .i64 ((prD A B S).r))]), (Gr 3 1 v2 ((i.toNat + 1)) (((((prT A B S).take i.toNat).map (Value.int .i64)) ++ [(Value.int .i64 (ixP S (gi ((vT A)) (i)) (gi ((vT B)) (i))))])))] [(Arr 3 b6 [(Value.int .i64 (ixP S (gi ((vT A)) (i)) (gi ((vT B)) (i))))])] ((List.perm_middle (l₁ := [(Arr 25 b1 [(Value.int .i64 (A.v)), la, na, (Value.int .i64 (A.r))]), (Arr 25 b2 [(Value.int .i64 (B.v)), lb, nb, (Value.int .i64 (B.r))]), (Arr 25 b5 [(Value.int .i64 ((prD A B S).v)), lvp, nvp, (Value.int .i64 ((prD A B S).r))]), (Gr 3 1 v2 ((i.toNat + 1)) (((((prT A B S).take i.toNat).map (Value.int .i64)) ++ [(Value.int .i64 (ixP S (gi ((vT A)) (i)) (gi ((vT B)) (i))))])))]) (l₂ := [])).trans (List.perm_append_comm (l₁ := [(Arr 3 b6 [(Value.int .i64 (ixP S (gi ((vT A)) (i)) (gi ((vT B)) (i))))])]))) ?_
        refine vc_region ?_
        refine oq (qv_add rfl rfl (by omega)) ?_
        refine oq (qv_mv (.int .i64 (i + 1)) rfl) ?_
        refine ops_nil ?_
        refine ⟨(i + 1, v2), ⟨rfl, rfl, rfl, rfl, rfl, rfl, rfl, rfl, rfl, rfl, rfl, rfl, rfl, rfl, rfl, rfl, rfl, rfl, rfl, rfl, rfl, (congrArg (Value.int .i64) (show (i + 1) = ((i + 1)) from by omega)), trivial⟩, ⟨rfl, (show [(Arr 25 b1 [(.int .i64 A.v), la, na, (.int .i64 A.r)]), (Arr 25 b2 [(.int .i64 B.v), lb, nb, (.int .i64 B.r)]), (Arr 25 b5 [(.int .i64 ((prD A B S).v)), lvp, nvp, (.int .i64 ((prD A B S).r))]), (Gr 3 1 v2 (i + 1 : Int).toNat ((((prT A B S).take (i + 1 : Int).toNat).map (Value.int .i64))))] = [(Arr 25 b1 [(.int .i64 A.v), la, na, (.int .i64 A.r)]), (Arr 25 b2 [(.int .i64 B.v), lb, nb, (.int .i64 B.r)]), (Arr 25 b5 [(.int .i64 ((prD A B S).v)), lvp, nvp, (.int .i64 ((prD A B S).r))]), (Gr 3 1 v2 ((i.toNat + 1)) (((((prT A B S).take i.toNat).map (Value.int .i64)) ++ [(.int .i64 (ixP S (gi ((vT A)) (i)) (gi ((vT B)) (i))))])))] from by rw [prT_take hokA hvv (by omega) (by omega), List.map_append, show (i + 1).toNat = i.toNat + 1 by omega] <;> rfl), by omega, by omega⟩, by omega⟩
       ·
        refine vc_exit ?_
        refine blockQ_hit ?_
        refine vc_seq ?_
        refine vc_freezeG (v := iv) (E := 3) (n := i.toNat) (xs := (((prT A B S).take i.toNat).map (Value.int .i64))) (σr := [(Arr 25 b1 [(Value.int .i64 (A.v)), la, na, (Value.int .i64 (A.r))]), (Arr 25 b2 [(Value.int .i64 (B.v)), lb, nb, (Value.int .i64 (B.r))]), (Arr 25 b5 [(Value.int .i64 ((prD A B S).v)), lvp, nvp, (Value.int .i64 ((prD A B S).r))])]) (List.perm_middle (l₁ := [(Arr 25 b1 [(Value.int .i64 (A.v)), la, na, (Value.int .i64 (A.r))]), (Arr 25 b2 [(Value.int .i64 (B.v)), lb, nb, (Value.int .i64 (B.r))]), (Arr 25 b5 [(Value.int .i64 ((prD A B S).v)), lvp, nvp, (Value.int .i64 ((prD A B S).r))])]) (l₂ := [])) (fun Vf2 hVf2 hc2 => ?_)
        have hA := hA.mono hVf2
        have hB := hB.mono hVf2
        have hH := hH.mono hVf2
        have hRh := hRh.mono hVf2
        have hHg := hHg.mono hVf2
        have hMp := hMp.mono hVf2
        have hS := hS.mono hVf2
        have hR0 := hR0.mono hVf2
        have hR1 := hR1.mono hVf2
        have hRp := hRp.mono hVf2
        refine vc_region_order (τ := []) [(0, false), (1, false), (2, false), (3, false), (4, false), (5, false), (6, false), (7, false), (8, false), (9, true), (10, false), (11, false), (12, false)] [(Arr 25 b1 [(.int .i64 A.v), la, na, (.int .i64 A.r)]), (Arr 25 b2 [(.int .i64 B.v), lb, nb, (.int .i64 B.r)]), (Arr 25 b5 [(.int .i64 ((prD A B S).v)), lvp, nvp, (.int .i64 ((prD A B S).r))])] Tryz.mixed (perm_nil _) (by kernel_rfl) ?_
        have hIx0 := hc2
        have hIx : Ints .i64 Vf2 iv (prT A B S) := by have q := hIx0; rw [List.take_of_length_le (by rw [prT_len]; omega)] at q; exact q
        refine rq rfl (qv_mv svp rfl) ?_
        refine rq rfl (qv_mv w1 rfl) ?_
        refine rq rfl (qv_call (v := (.bool (decide (S = S)))) (EqP_c hS hRp) rfl rfl) ?_
        refine rq rfl (qv_mv (.bool (decide (S = S))) rfl) ?_
        by_cases g7 : S = S
        ·
         refine re rfl (qv_ldm (vs := [(.int .i64 ((prD A B S).v)), lvp, nvp, (.int .i64 ((prD A B S).r))]) Tryz.agg25 rfl (inOc (k := 2) rfl) rfl rfl) (want_t g7 rfl rfl rfl) ?_
         refine re rfl (qv_mv (.int .i64 (vE [A, B])) rfl) (want_t g7 rfl rfl rfl) ?_
         refine re rfl (qv_fa (off := 0) Tryz.field25_0 rfl) (want_t g7 rfl rfl rfl) ?_
         refine re rfl (qv_ldp (v := (.int .i64 A.v)) Tryz.plain3 rfl (inOc (k := 0) rfl) rfl) (want_t g7 rfl rfl rfl) ?_
         refine re rfl (qv_mv iv rfl) (want_t g7 rfl rfl rfl) ?_
         refine rl rfl ?_
         refine ops_want (want_t g7 rfl rfl rfl) ?_
         refine ops_call (σa := []) (σr := [(Arr 25 b1 [(.int .i64 A.v), la, na, (.int .i64 A.r)]), (Arr 25 b2 [(.int .i64 B.v), lb, nb, (.int .i64 B.r)]), (Arr 25 b5 [(.int .i64 ((prD A B S).v)), lvp, nvp, (.int .i64 ((prD A B S).r))])]) (diagram_c (vars := A.v) (t := prT A B S) hIx hv0 (by omega) prT_len) rfl rfl (.refl _) (fun r13 V13 sg13 hV13 hp13 => ?_)
         obtain ⟨rfl, lv2, nv2, rfl, hDg2⟩ := hp13
         have hA := hA.mono hV13
         have hB := hB.mono hV13
         have hH := hH.mono hV13
         have hRh := hRh.mono hV13
         have hHg := hHg.mono hV13
         have hMp := hMp.mono hV13
         have hS := hS.mono hV13
         have hR0 := hR0.mono hV13
         have hR1 := hR1.mono hV13
         have hRp := hRp.mono hV13
         have hc2 := hc2.mono hV13
         have hIx := hIx.mono hV13
         refine ops_nil ⟨[(Arr 25 b1 [(.int .i64 A.v), la, na, (.int .i64 A.r)]), (Arr 25 b2 [(.int .i64 B.v), lb, nb, (.int .i64 B.r)]), (Arr 25 b5 [(.int .i64 ((prD A B S).v)), lvp, nvp, (.int .i64 ((prD A B S).r))])], [], hV13, perm_nil _, ⟨[], (.refl _)⟩, ?_⟩
         refine re rfl (qv_call (v := (.bool (decide ((vE [A, B]) = 0 ∧ (prD A B S) = (dg A.v (prT A B S)))))) (is_c (A := (prD A B S)) (B := (dg A.v (prT A B S))) (ee := (vE [A, B])) (cc := 0) hMp hDg2) rfl rfl) (want_t g7 rfl rfl rfl) ?_
         refine rq rfl (qv_pick_t g7 rfl (rfl : ev _ _ = (.bool (decide ((vE [A, B]) = 0 ∧ (prD A B S) = (dg A.v (prT A B S))))))) ?_
         refine rq rfl (qv_as (.bool (decide ((vE [A, B]) = 0 ∧ (prD A B S) = (dg A.v (prT A B S))))) rfl) ?_
         refine rnil ?_
         refine vc_drop [] [(Arr 25 b1 [(.int .i64 A.v), la, na, (.int .i64 A.r)]), (Arr 25 b2 [(.int .i64 B.v), lb, nb, (.int .i64 B.r)]), (Arr 25 b5 [(.int .i64 ((prD A B S).v)), lvp, nvp, (.int .i64 ((prD A B S).r))])] (.refl _) ?_
         refine vc_ret ?_
         exact rq1 (Value.bool true) (congrArg Value.bool (decide_eq_true (show ((vE [A, B]) = 0 ∧ (prD A B S) = (dg A.v (prT A B S))) from by first | rfl | exact hprd | exact ⟨rfl, hpn⟩ | (rw [hsn]; rfl) | omega))) rfl
        ·
         exact absurd rfl g7

end Go.Proofs.YtkmhjcjpohpiaaaGreat
