import Derived.Test.YtkmhjcjpohpiaaaGreatNc
/- Walks of mtbdd: what each function returns. Printed by a program out of notes. -/
namespace Go.Proofs.YtkmhjcjpohpiaaaGreat
open Go.Vc
open Classical

set_option maxRecDepth 100000 in
set_option maxHeartbeats 4000000 in
theorem two_c {V : HV} {la na : Value} {A : Mg} (hA : Mt V la na A) {lb nb : Value} {B : Mg} (hB : Mt V lb nb B) :
    FnC Tryz.prog 9 [(.agg #[(.int .i64 A.v), la, na, (.int .i64 A.r)]), (.agg #[(.int .i64 B.v), lb, nb, (.int .i64 B.r)])] V [] (fun v _ _ => v = (.int .i64 (vE [A, B]))) := by
 refine fn_intro (N := 18) Tryz.func9 (by kernel_rfl) rfl rfl rfl (Nat.le_of_ble_eq_true rfl) ?_
 intro w0 D
 refine vc_seq ?_
 refine vc_region ?_
 refine ops_box (v := (.agg #[(.int .i64 A.v), la, na, (.int .i64 A.r)])) (cs := [(.int .i64 A.v), la, na, (.int .i64 A.r)]) rfl rfl (fun b1 => ?_)
 refine ops_box (v := (.agg #[(.int .i64 B.v), lb, nb, (.int .i64 B.r)])) (cs := [(.int .i64 B.v), lb, nb, (.int .i64 B.r)]) rfl rfl (fun b2 => ?_)
 refine oq (qv_as (Value.int .i64 0) rfl) ?_
 refine ops_nil ?_
 refine vc_seq ?_
 refine vc_seq ?_
 refine vc_res (σ' := [(Arr 25 b1 [(.int .i64 A.v), la, na, (.int .i64 A.r)]), (Arr 25 b2 [(.int .i64 B.v), lb, nb, (.int .i64 B.r)])]) rfl ?_
 refine vc_region ?_
 refine oq (qv_ldm (vs := [(.int .i64 A.v), la, na, (.int .i64 A.r)]) Tryz.agg25 rfl (inOc (k := 0) rfl) rfl rfl) ?_
 refine oq (qv_call (v := (.int .i64 (chkC A))) (check_c hA) rfl rfl) ?_
 refine oq (qv_neq rfl rfl) ?_
 refine oq (qv_mv (.bool (decide ((chkC A) ≠ 0))) rfl) ?_
 by_cases g1 : (chkC A) ≠ 0
 ·
  refine os (want_fn g1 rfl rfl rfl) ?_
  refine os (want_fn g1 rfl rfl rfl) ?_
  refine os (want_fn g1 rfl rfl rfl) ?_
  refine oq (qv_pick_t g1 rfl (rfl : ev _ _ = (Value.bool true))) ?_
  refine ops_nil ?_
  refine vc_tt rfl ?_
  refine vc_seq ?_
  refine vc_region ?_
  refine oq (qv_as (Value.int .i64 1) rfl) ?_
  refine ops_nil ?_
  refine vc_ret ?_
  exact rq1 (.int .i64 (vE [A, B])) (congrArg (Value.int .i64) (show 1 = (vE [A, B]) from by rw [two_1 (by first | exact .inl (fun q => absurd (chk_0 q) (by assumption)) | exact .inr (fun q => absurd (chk_0 q) (by assumption)))])) rfl
 ·
  refine og (qv_ldm (vs := [(.int .i64 B.v), lb, nb, (.int .i64 B.r)]) Tryz.agg25 rfl (inOc (k := 1) rfl) rfl rfl) (want_f g1 rfl rfl rfl) ?_
  refine og (qv_call (v := (.int .i64 (chkC B))) (check_c hB) rfl rfl) (want_f g1 rfl rfl rfl) ?_
  refine og (qv_neq rfl rfl) (want_f g1 rfl rfl rfl) ?_
  refine oq (qv_pick_f g1 rfl (rfl : ev _ _ = (.bool (decide ((chkC B) ≠ 0))))) ?_
  refine ops_nil ?_
  refine vc_if rfl (fun c1 => ?_) (fun c1 => ?_)
  ·
   refine vc_seq ?_
   refine vc_region ?_
   refine oq (qv_as (Value.int .i64 1) rfl) ?_
   refine ops_nil ?_
   refine vc_ret ?_
   exact rq1 (.int .i64 (vE [A, B])) (congrArg (Value.int .i64) (show 1 = (vE [A, B]) from by rw [two_1 (by first | exact .inl (fun q => absurd (chk_0 q) (by assumption)) | exact .inr (fun q => absurd (chk_0 q) (by assumption)))])) rfl
  ·
   refine vc_skip ?_
   refine vc_seq ?_
   refine vc_seq ?_
   refine vc_region ?_
   refine oq (qv_fa (off := 0) Tryz.field25_0 rfl) ?_
   refine oq (qv_ldp (v := (.int .i64 A.v)) Tryz.plain3 rfl (inOc (k := 0) rfl) rfl) ?_
   refine oq (qv_fa (off := 0) Tryz.field25_0 rfl) ?_
   refine oq (qv_ldp (v := (.int .i64 B.v)) Tryz.plain3 rfl (inOc (k := 1) rfl) rfl) ?_
   refine oq (qv_neq rfl rfl) ?_
   refine ops_nil ?_
   refine vc_if rfl (fun c2 => ?_) (fun c2 => ?_)
   ·
    refine vc_seq ?_
    refine vc_region ?_
    refine oq (qv_as (Value.int .i64 2) rfl) ?_
    refine ops_nil ?_
    refine vc_ret ?_
    exact rq1 (.int .i64 (vE [A, B])) (congrArg (Value.int .i64) (show 2 = (vE [A, B]) from by rw [two_2 (chk_ok.1 (by omega)) (chk_ok.1 (by omega)) (by omega)])) rfl
   ·
    refine vc_skip ?_
    refine vc_seq ?_
    refine vc_region ?_
    refine oq (qv_as (Value.int .i64 0) rfl) ?_
    refine ops_nil ?_
    refine vc_ret ?_
    exact rq1 (.int .i64 (vE [A, B])) (congrArg (Value.int .i64) (show 0 = (vE [A, B]) from by rw [two_0 (chk_ok.1 (by omega)) (chk_ok.1 (by omega)) (by omega)])) rfl

set_option maxRecDepth 100000 in
set_option maxHeartbeats 4000000 in
theorem Applies_c {V : HV} {la na : Value} {A : Mg} (hA : Mt V la na A) {lb nb : Value} {B : Mg} (hB : Mt V lb nb B) {op : Int} :
    FnC Tryz.prog 3 [(Value.int .i64 op), (.agg #[(.int .i64 A.v), la, na, (.int .i64 A.r)]), (.agg #[(.int .i64 B.v), lb, nb, (.int .i64 B.r)])] V [] (fun v _ _ => v = (Value.bool true)) := by
 refine fn_intro (N := 64) Tryz.func3 (by kernel_rfl) rfl rfl rfl (Nat.le_of_ble_eq_true rfl) ?_
 intro w0 D
 have hbl := Ints.bound hA.l
 have hbn := SlS.bound hA.n
 refine vc_seq ?_
 refine vc_region ?_
 refine ops_box (v := (.agg #[(.int .i64 A.v), la, na, (.int .i64 A.r)])) (cs := [(.int .i64 A.v), la, na, (.int .i64 A.r)]) rfl rfl (fun b1 => ?_)
 refine ops_box (v := (.agg #[(.int .i64 B.v), lb, nb, (.int .i64 B.r)])) (cs := [(.int .i64 B.v), lb, nb, (.int .i64 B.r)]) rfl rfl (fun b2 => ?_)
 refine oq (qv_as (Value.bool false) rfl) ?_
 refine ops_nil ?_
 refine vc_seq ?_
 refine vc_seq ?_
 refine vc_res (σ' := [(Arr 25 b1 [(.int .i64 A.v), la, na, (.int .i64 A.r)]), (Arr 25 b2 [(.int .i64 B.v), lb, nb, (.int .i64 B.r)])]) rfl ?_
 refine vc_region ?_
 refine oq (qv_call (v := (Value.bool true)) (known_c) rfl rfl) ?_
 refine oq (qv_notc rfl) ?_
 refine ops_nil ?_
 refine vc_ff rfl ?_
 refine vc_skip ?_
 refine vc_seq ?_
 refine vc_seq ?_
 refine vc_region ?_
 refine oq (qv_ldm (vs := [(.int .i64 A.v), la, na, (.int .i64 A.r)]) Tryz.agg25 rfl (inOc (k := 0) rfl) rfl rfl) ?_
 refine oq (qv_call (v := (.bool (decide (fewP A ∧ (¬ chkC A = 0 ∨ A.v ≤ 8))))) (small_c hA) rfl rfl) ?_
 refine oq (qv_not rfl) ?_
 refine oq (qv_mv (.bool (decide (¬ (fewP A ∧ (¬ chkC A = 0 ∨ A.v ≤ 8))))) rfl) ?_
 by_cases g1 : ¬ (fewP A ∧ (¬ chkC A = 0 ∨ A.v ≤ 8))
 ·
  refine os (want_fn g1 rfl rfl rfl) ?_
  refine os (want_fn g1 rfl rfl rfl) ?_
  refine os (want_fn g1 rfl rfl rfl) ?_
  refine oq (qv_pick_t g1 rfl (rfl : ev _ _ = (Value.bool true))) ?_
  refine ops_nil ?_
  refine vc_tt rfl ?_
  refine vc_seq ?_
  refine vc_region ?_
  refine oq (qv_as (Value.bool true) rfl) ?_
  refine ops_nil ?_
  refine vc_ret ?_
  exact rq1 (Value.bool true) rfl rfl
 ·
  refine og (qv_ldm (vs := [(.int .i64 B.v), lb, nb, (.int .i64 B.r)]) Tryz.agg25 rfl (inOc (k := 1) rfl) rfl rfl) (want_f g1 rfl rfl rfl) ?_
  refine og (qv_call (v := (.bool (decide (fewP B ∧ (¬ chkC B = 0 ∨ B.v ≤ 8))))) (small_c hB) rfl rfl) (want_f g1 rfl rfl rfl) ?_
  refine og (qv_not rfl) (want_f g1 rfl rfl rfl) ?_
  refine oq (qv_pick_f g1 rfl (rfl : ev _ _ = (.bool (decide (¬ (fewP B ∧ (¬ chkC B = 0 ∨ B.v ≤ 8))))))) ?_
  refine ops_nil ?_
  refine vc_if rfl (fun c1 => ?_) (fun c1 => ?_)
  ·
   refine vc_seq ?_
   refine vc_region ?_
   refine oq (qv_as (Value.bool true) rfl) ?_
   refine ops_nil ?_
   refine vc_ret ?_
   exact rq1 (Value.bool true) rfl rfl
  ·
   refine vc_skip ?_
   refine vc_seq ?_
   have h8A := Classical.not_not.1 g1
   have h8B := Classical.not_not.1 c1
   refine vc_region ?_
   refine oq (qv_mv (Value.int .i64 op) rfl) ?_
   refine oq (qv_ldm (vs := [(.int .i64 A.v), la, na, (.int .i64 A.r)]) Tryz.agg25 rfl (inOc (k := 0) rfl) rfl rfl) ?_
   refine oq (qv_ldm (vs := [(.int .i64 B.v), lb, nb, (.int .i64 B.r)]) Tryz.agg25 rfl (inOc (k := 1) rfl) rfl rfl) ?_
   refine ops_call (σa := []) (σr := [(Arr 25 b1 [(.int .i64 A.v), la, na, (.int .i64 A.r)]), (Arr 25 b2 [(.int .i64 B.v), lb, nb, (.int .i64 B.r)])]) (Apply_c (op := op) hA hB) rfl rfl (.refl _) (fun r1 V1 sg1 hV1 hp1 => ?_)
   obtain ⟨rfl, lv1, nv1, rfl, hMt⟩ := hp1
   have hA := hA.mono hV1
   have hB := hB.mono hV1
   refine oq (qv_mv (.tuple #[(.agg #[(.int .i64 ((apD op A B).v)), lv1, nv1, (.int .i64 ((apD op A B).r))]), (.int .i64 (apE op A B))]) rfl) ?_
   refine oq (qv_ext (.agg #[(.int .i64 ((apD op A B).v)), lv1, nv1, (.int .i64 ((apD op A B).r))]) rfl rfl) ?_
   refine oq (qv_ext (.int .i64 (apE op A B)) rfl rfl) ?_
   refine ops_alloc Tryz.ti25 rfl (fun b3 => ?_)
   refine ops_stw (k := 2) (vs := [(.int .i64 ((apD op A B).v)), lv1, nv1, (.int .i64 ((apD op A B).r))]) Tryz.size25 rfl rfl rfl (allc rfl (allc (Sl.one hMt.l) (allc (SlS.one hMt.n) (allc rfl rfl)))) rfl rfl ?_
   refine oq (qv_as (.int .i64 (apE op A B)) rfl) ?_
   refine ops_nil ?_
   refine vc_seq ?_
   refine vc_res (σ' := [(Arr 25 b1 [(.int .i64 A.v), la, na, (.int .i64 A.r)]), (Arr 25 b2 [(.int .i64 B.v), lb, nb, (.int .i64 B.r)]), (Arr 25 b3 [(.int .i64 ((apD op A B).v)), lv1, nv1, (.int .i64 ((apD op A B).r))])]) rfl ?_
   refine vc_region ?_
   refine oq (qv_ldm (vs := [(.int .i64 A.v), la, na, (.int .i64 A.r)]) Tryz.agg25 rfl (inOc (k := 0) rfl) rfl rfl) ?_
   refine oq (qv_ldm (vs := [(.int .i64 B.v), lb, nb, (.int .i64 B.r)]) Tryz.agg25 rfl (inOc (k := 1) rfl) rfl rfl) ?_
   refine oq (qv_call (v := (.int .i64 (vE [A, B]))) (two_c hA hB) rfl rfl) ?_
   refine oq (qv_as (.int .i64 (vE [A, B])) rfl) ?_
   refine ops_nil ?_
   refine vc_seq ?_
   refine vc_seq ?_
   refine vc_region ?_
   refine oq (qv_mv (.int .i64 (vE [A, B])) rfl) ?_
   refine oq (qv_eql rfl rfl) ?_
   refine oq (qv_mv (.bool (decide ((vE [A, B]) = 0))) rfl) ?_
   by_cases g2 : (vE [A, B]) = 0
   ·
    refine og (qv_mv (Value.int .i64 op) rfl) (want_t g2 rfl rfl rfl) ?_
    refine og (qv_lss rfl rfl) (want_t g2 rfl rfl rfl) ?_
    refine og (qv_mv (.bool (decide (op < 0))) rfl) (want_t g2 rfl rfl rfl) ?_
    by_cases g3 : op < 0
    ·
     refine os (want_fn g3 rfl rfl rfl) ?_
     refine os (want_fn g3 rfl rfl rfl) ?_
     refine og (qv_pick_t g3 rfl (rfl : ev _ _ = (Value.bool true))) (want_t g2 rfl rfl rfl) ?_
     refine oq (qv_pick_t g2 rfl (rfl : ev _ _ = (Value.bool true))) ?_
     refine ops_nil ?_
     refine vc_tt rfl ?_
     refine vc_region ?_
     refine oq (qv_as (Value.int .i64 3) rfl) ?_
     refine ops_nil ?_
     refine vc_seq ?_
     refine vc_seq ?_
     refine vc_region ?_
     refine oq (qv_mv (Value.int .i64 3) rfl) ?_
     refine oq (qv_neq rfl rfl) ?_
     refine ops_nil ?_
     refine vc_if rfl (fun c2 => ?_) (fun c2 => ?_)
     ·
      refine vc_seq ?_
      have hi : apE op A B = 3 ∧ apD op A B = zM := ap_3 (by omega) (by omega)
      refine vc_region ?_
      refine oq (qv_ldm (vs := [(.int .i64 ((apD op A B).v)), lv1, nv1, (.int .i64 ((apD op A B).r))]) Tryz.agg25 rfl (inOc (k := 2) rfl) rfl rfl) ?_
      refine oq (qv_mv (.int .i64 (apE op A B)) rfl) ?_
      refine oq (qv_build (out := [(Value.int .i64 0), (Value.slice none 0 0), (Value.slice none 0 0), (Value.int .i64 0)]) Tryz.build25 [] rfl rfl) ?_
      refine oq (qv_mv (Value.int .i64 3) rfl) ?_
      refine oq (qv_call (v := (.bool (decide ((apE op A B) = 3 ∧ (apD op A B) = zM)))) (is_c (A := (apD op A B)) (B := zM) (ee := (apE op A B)) (cc := 3) hMt Mt.nil) rfl rfl) ?_
      refine oq (qv_as (.bool (decide ((apE op A B) = 3 ∧ (apD op A B) = zM))) rfl) ?_
      refine ops_nil ?_
      refine vc_ret ?_
      exact rq1 (Value.bool true) (congrArg Value.bool (decide_eq_true (show ((apE op A B) = 3 ∧ (apD op A B) = zM) from by first | exact hi | (exfalso; omega)))) rfl
     ·
      exact absurd (by omega : (3 : Int) ≠ 0) c2
    ·
     refine og (qv_mv (Value.int .i64 op) rfl) (want_f g3 rfl rfl rfl) ?_
     refine og (qv_gtr rfl rfl) (want_f g3 rfl rfl rfl) ?_
     refine og (qv_pick_f g3 rfl (rfl : ev _ _ = (.bool (decide (8 < op))))) (want_t g2 rfl rfl rfl) ?_
     refine oq (qv_pick_t g2 rfl (rfl : ev _ _ = (.bool (decide (8 < op))))) ?_
     refine ops_nil ?_
     refine vc_if rfl (fun c3 => ?_) (fun c3 => ?_)
     ·
      refine vc_region ?_
      refine oq (qv_as (Value.int .i64 3) rfl) ?_
      refine ops_nil ?_
      refine vc_seq ?_
      refine vc_seq ?_
      refine vc_region ?_
      refine oq (qv_mv (Value.int .i64 3) rfl) ?_
      refine oq (qv_neq rfl rfl) ?_
      refine ops_nil ?_
      refine vc_if rfl (fun c4 => ?_) (fun c4 => ?_)
      ·
       refine vc_seq ?_
       have hi : apE op A B = 3 ∧ apD op A B = zM := ap_3 (by omega) (by omega)
       refine vc_region ?_
       refine oq (qv_ldm (vs := [(.int .i64 ((apD op A B).v)), lv1, nv1, (.int .i64 ((apD op A B).r))]) Tryz.agg25 rfl (inOc (k := 2) rfl) rfl rfl) ?_
       refine oq (qv_mv (.int .i64 (apE op A B)) rfl) ?_
       refine oq (qv_build (out := [(Value.int .i64 0), (Value.slice none 0 0), (Value.slice none 0 0), (Value.int .i64 0)]) Tryz.build25 [] rfl rfl) ?_
       refine oq (qv_mv (Value.int .i64 3) rfl) ?_
       refine oq (qv_call (v := (.bool (decide ((apE op A B) = 3 ∧ (apD op A B) = zM)))) (is_c (A := (apD op A B)) (B := zM) (ee := (apE op A B)) (cc := 3) hMt Mt.nil) rfl rfl) ?_
       refine oq (qv_as (.bool (decide ((apE op A B) = 3 ∧ (apD op A B) = zM))) rfl) ?_
       refine ops_nil ?_
       refine vc_ret ?_
       exact rq1 (Value.bool true) (congrArg Value.bool (decide_eq_true (show ((apE op A B) = 3 ∧ (apD op A B) = zM) from by first | exact hi | (exfalso; omega)))) rfl
      ·
       exact absurd (by omega : (3 : Int) ≠ 0) c4
     ·
      refine vc_skip ?_
      refine vc_seq ?_
      refine vc_seq ?_
      refine vc_region ?_
      refine oq (qv_mv (.int .i64 (vE [A, B])) rfl) ?_
      refine oq (qv_neq rfl rfl) ?_
      refine ops_nil ?_
      refine vc_if rfl (fun c5 => ?_) (fun c5 => ?_)
      ·
       refine vc_seq ?_
       have hi : apE op A B = vE [A, B] ∧ apD op A B = zM := ap_v (by omega)
       refine vc_region ?_
       refine oq (qv_ldm (vs := [(.int .i64 ((apD op A B).v)), lv1, nv1, (.int .i64 ((apD op A B).r))]) Tryz.agg25 rfl (inOc (k := 2) rfl) rfl rfl) ?_
       refine oq (qv_mv (.int .i64 (apE op A B)) rfl) ?_
       refine oq (qv_build (out := [(Value.int .i64 0), (Value.slice none 0 0), (Value.slice none 0 0), (Value.int .i64 0)]) Tryz.build25 [] rfl rfl) ?_
       refine oq (qv_mv (.int .i64 (vE [A, B])) rfl) ?_
       refine oq (qv_call (v := (.bool (decide ((apE op A B) = (vE [A, B]) ∧ (apD op A B) = zM)))) (is_c (A := (apD op A B)) (B := zM) (ee := (apE op A B)) (cc := (vE [A, B])) hMt Mt.nil) rfl rfl) ?_
       refine oq (qv_as (.bool (decide ((apE op A B) = (vE [A, B]) ∧ (apD op A B) = zM))) rfl) ?_
       refine ops_nil ?_
       refine vc_ret ?_
       exact rq1 (Value.bool true) (congrArg Value.bool (decide_eq_true (show ((apE op A B) = (vE [A, B]) ∧ (apD op A B) = zM) from by first | exact hi | (exfalso; omega)))) rfl
      ·
       refine vc_skip ?_
       refine vc_seq ?_
       have hz : vE [A, B] = 0 := by omega
       obtain ⟨⟨hokA, hokB⟩, hvv⟩ := vE2_ok.1 hz
       have hvA : A.v ≤ 8 := h8A.2.elim (fun h => absurd (chk_0 hokA) h) id
       have hTB : vT B = tabv A.v (vl B) := by rw [hvv]
       refine vc_join (α := Nat × Value × Value) (fun xx => [(0, (Value.int .i64 op)), (1, (.agg #[(.int .i64 A.v), la, na, (.int .i64 A.r)])), (2, (.agg #[(.int .i64 B.v), lb, nb, (.int .i64 B.r)])), (4, (Value.pointer (some ⟨b1, 0, none⟩))), (5, (Value.pointer (some ⟨b2, 0, none⟩))), (6, (Value.bool false)), (7, (Value.pointer (some ⟨b3, 0, none⟩))), (8, (.int .i64 (apE op A B))), (9, (.int .i64 (mkE A.v (tabv A.v fun e => opV op (vl A e) (vl B e))))), (10, (Value.pointer (some ⟨xx.1, 0, none⟩))), (12, (Value.bool false)), (20, (.bool (decide (¬ (fewP B ∧ (¬ chkC B = 0 ∨ B.v ≤ 8)))))), (40, (.bool (decide (8 < op)))), (42, (.bool (decide ((vE [A, B]) ≠ 0))))]) (fun xx V' σ' => Vc.Sub V1 V' ∧ [(Arr 25 b1 [(.int .i64 A.v), la, na, (.int .i64 A.r)]), (Arr 25 b2 [(.int .i64 B.v), lb, nb, (.int .i64 B.r)]), (Arr 25 b3 [(.int .i64 ((apD op A B).v)), lv1, nv1, (.int .i64 ((apD op A B).r))]), (Arr 25 xx.1 [(.int .i64 ((mkD A.v (tabv A.v fun e => opV op (vl A e) (vl B e))).v)), xx.2.1, xx.2.2, (.int .i64 ((mkD A.v (tabv A.v fun e => opV op (vl A e) (vl B e))).r))])] = σ' ∧ Mt V' xx.2.1 xx.2.2 (mkD A.v (tabv A.v fun e => opV op (vl A e) (vl B e)))) ?_ ?_
       ·
        refine vc_region_E (τ := []) (n := 14) [(Arr 25 b1 [(.int .i64 A.v), la, na, (.int .i64 A.r)]), (Arr 25 b2 [(.int .i64 B.v), lb, nb, (.int .i64 B.r)]), (Arr 25 b3 [(.int .i64 ((apD op A B).v)), lv1, nv1, (.int .i64 ((apD op A B).r))])] Tryz.mixed (perm_nil _) rfl ?_
        refine eq_ (i := 0) (by kernel_rfl) rfl (qv_fa (off := 0) Tryz.field25_0 rfl) ?_
        refine eq_ (i := 1) (by kernel_rfl) rfl (qv_ldp (v := (.int .i64 A.v)) Tryz.plain3 rfl (inOc (k := 0) rfl) rfl) ?_
        refine eq_ (i := 2) (by kernel_rfl) rfl (qv_mv (Value.int .i64 op) rfl) ?_
        refine eq_ (i := 3) (by kernel_rfl) rfl (qv_ldm (vs := [(.int .i64 A.v), la, na, (.int .i64 A.r)]) Tryz.agg25 rfl (inOc (k := 0) rfl) rfl rfl) ?_
        refine eq_ (i := 5) (by kernel_rfl) rfl (qv_ldm (vs := [(.int .i64 B.v), lb, nb, (.int .i64 B.r)]) Tryz.agg25 rfl (inOc (k := 1) rfl) rfl rfl) ?_
        refine el2 (i := 4) (j := 11) (by kernel_rfl) ?_ ?_
        ·
         refine ⟨_, rfl, ?_⟩
         refine ops_call (σa := []) (σr := [(Arr 25 b1 [(.int .i64 A.v), la, na, (.int .i64 A.r)]), (Arr 25 b2 [(.int .i64 B.v), lb, nb, (.int .i64 B.r)]), (Arr 25 b3 [(.int .i64 ((apD op A B).v)), lv1, nv1, (.int .i64 ((apD op A B).r))])]) (table_c (A := A) hA hokA (by omega)) rfl rfl (.refl _) (fun r2 V2 sg2 hV2 hp2 => ?_)
         obtain ⟨rfl, hR0⟩ := hp2
         obtain ⟨tr0, htr0⟩ : ∃ x, x = r2 := ⟨_, rfl⟩
         subst htr0
         have hA := hA.mono hV2
         have hB := hB.mono hV2
         have hMt := hMt.mono hV2
         refine ops_nil ⟨[(Arr 25 b1 [(.int .i64 A.v), la, na, (.int .i64 A.r)]), (Arr 25 b2 [(.int .i64 B.v), lb, nb, (.int .i64 B.r)]), (Arr 25 b3 [(.int .i64 ((apD op A B).v)), lv1, nv1, (.int .i64 ((apD op A B).r))])], [], (perm_nil _), .inl ⟨hV2, [], .refl _⟩, ?_⟩
         refine el2 (i := 6) (j := 11) (by kernel_rfl) ?_ ?_
         ·
          refine ⟨_, rfl, ?_⟩
          refine ops_call (σa := []) (σr := [(Arr 25 b1 [(.int .i64 A.v), la, na, (.int .i64 A.r)]), (Arr 25 b2 [(.int .i64 B.v), lb, nb, (.int .i64 B.r)]), (Arr 25 b3 [(.int .i64 ((apD op A B).v)), lv1, nv1, (.int .i64 ((apD op A B).r))])]) (table_c (A := B) hB hokB (by omega)) rfl rfl (.refl _) (fun r3 V3 sg3 hV3 hp3 => ?_)
          obtain ⟨rfl, hR1⟩ := hp3
          obtain ⟨tr1, htr1⟩ : ∃ x, x = r3 := ⟨_, rfl⟩
          subst htr1
          have hA := hA.mono hV3
          have hB := hB.mono hV3
          have hMt := hMt.mono hV3
          have hR0 := hR0.mono hV3
          refine ops_nil ⟨[(Arr 25 b1 [(.int .i64 A.v), la, na, (.int .i64 A.r)]), (Arr 25 b2 [(.int .i64 B.v), lb, nb, (.int .i64 B.r)]), (Arr 25 b3 [(.int .i64 ((apD op A B).v)), lv1, nv1, (.int .i64 ((apD op A B).r))])], [], (perm_nil _), .inl ⟨hV3, [], .refl _⟩, ?_⟩
          refine el2 (i := 7) (j := 11) (by kernel_rfl) ?_ ?_
          ·
           refine ⟨_, rfl, ?_⟩
           refine ops_call (σa := []) (σr := [(Arr 25 b1 [(.int .i64 A.v), la, na, (.int .i64 A.r)]), (Arr 25 b2 [(.int .i64 B.v), lb, nb, (.int .i64 B.r)]), (Arr 25 b3 [(.int .i64 ((apD op A B).v)), lv1, nv1, (.int .i64 ((apD op A B).r))])]) (combined_c (vars := A.v) (op := op) (g1 := vl A) (g2 := vl B) hR0 (by rw [← hTB]; exact hR1) hokA.1.1 (by omega) (by omega) (by omega) (fun e => vl_in hokA e) (fun e => vl_in hokB e)) rfl rfl (.refl _) (fun r4 V4 sg4 hV4 hp4 => ?_)
           obtain ⟨rfl, lv1b, nv1b, rfl, hMtb⟩ := hp4
           have hA := hA.mono hV4
           have hB := hB.mono hV4
           have hMt := hMt.mono hV4
           have hR0 := hR0.mono hV4
           have hR1 := hR1.mono hV4
           refine ops_nil ⟨[(Arr 25 b1 [(.int .i64 A.v), la, na, (.int .i64 A.r)]), (Arr 25 b2 [(.int .i64 B.v), lb, nb, (.int .i64 B.r)]), (Arr 25 b3 [(.int .i64 ((apD op A B).v)), lv1, nv1, (.int .i64 ((apD op A B).r))])], [], (perm_nil _), .inl ⟨hV4, [], .refl _⟩, ?_⟩
           refine eq_ (i := 8) (by kernel_rfl) rfl (qv_mv (.tuple #[(.agg #[(.int .i64 ((mkD A.v (tabv A.v fun e => opV op (vl A e) (vl B e))).v)), lv1b, nv1b, (.int .i64 ((mkD A.v (tabv A.v fun e => opV op (vl A e) (vl B e))).r))]), (.int .i64 (mkE A.v (tabv A.v fun e => opV op (vl A e) (vl B e))))]) rfl) ?_
           refine eq_ (i := 9) (by kernel_rfl) rfl (qv_ext (.agg #[(.int .i64 ((mkD A.v (tabv A.v fun e => opV op (vl A e) (vl B e))).v)), lv1b, nv1b, (.int .i64 ((mkD A.v (tabv A.v fun e => opV op (vl A e) (vl B e))).r))]) rfl rfl) ?_
           refine eq_ (i := 10) (by kernel_rfl) rfl (qv_ext (.int .i64 (mkE A.v (tabv A.v fun e => opV op (vl A e) (vl B e)))) rfl rfl) ?_
           refine el1 (i := 11) (by kernel_rfl) ?_
           refine ⟨_, rfl, ?_⟩
           refine ops_alloc Tryz.ti25 rfl (fun b4 => ?_)
           refine ops_nil ⟨[(Arr 25 b1 [(.int .i64 A.v), la, na, (.int .i64 A.r)]), (Arr 25 b2 [(.int .i64 B.v), lb, nb, (.int .i64 B.r)]), (Arr 25 b3 [(.int .i64 ((apD op A B).v)), lv1, nv1, (.int .i64 ((apD op A B).r))])], [(Arr 25 b4 [(Value.int .i64 0), (Value.slice none 0 0), (Value.slice none 0 0), (Value.int .i64 0)])], (perm_idx _ _ [0, 1, 2, 3] rfl rfl), .inl ⟨(Sub.refl _), [], .refl _⟩, ?_⟩
           refine el1 (i := 12) (by kernel_rfl) ?_
           refine ⟨_, rfl, ?_⟩
           refine ops_stw (k := 3) (vs := [(.int .i64 ((mkD A.v (tabv A.v fun e => opV op (vl A e) (vl B e))).v)), lv1b, nv1b, (.int .i64 ((mkD A.v (tabv A.v fun e => opV op (vl A e) (vl B e))).r))]) Tryz.size25 rfl rfl rfl (allc rfl (allc (Sl.one hMtb.l) (allc (SlS.one hMtb.n) (allc rfl rfl)))) rfl rfl ?_
           refine ops_nil ⟨[(Arr 25 b1 [(.int .i64 A.v), la, na, (.int .i64 A.r)]), (Arr 25 b2 [(.int .i64 B.v), lb, nb, (.int .i64 B.r)]), (Arr 25 b3 [(.int .i64 ((apD op A B).v)), lv1, nv1, (.int .i64 ((apD op A B).r))])], [(Arr 25 b4 [(.int .i64 ((mkD A.v (tabv A.v fun e => opV op (vl A e) (vl B e))).v)), lv1b, nv1b, (.int .i64 ((mkD A.v (tabv A.v fun e => opV op (vl A e) (vl B e))).r))])], (perm_idx _ _ [0, 1, 2, 3] rfl rfl), .inl ⟨(Sub.refl _), [], .refl _⟩, ?_⟩
           refine eq_ (i := 13) (by kernel_rfl) rfl (qv_as (.int .i64 (mkE A.v (tabv A.v fun e => opV op (vl A e) (vl B e)))) rfl) ?_
           refine enil (σ' := [(Arr 25 b1 [(.int .i64 A.v), la, na, (.int .i64 A.r)]), (Arr 25 b2 [(.int .i64 B.v), lb, nb, (.int .i64 B.r)]), (Arr 25 b3 [(.int .i64 ((apD op A B).v)), lv1, nv1, (.int .i64 ((apD op A B).r))]), (Arr 25 b4 [(.int .i64 ((mkD A.v (tabv A.v fun e => opV op (vl A e) (vl B e))).v)), lv1b, nv1b, (.int .i64 ((mkD A.v (tabv A.v fun e => opV op (vl A e) (vl B e))).r))])]) (by kernel_rfl) (perm_idx _ _ [0, 1, 2, 3] rfl rfl) ⟨(b4, lv1b, nv1b), ⟨rfl, rfl, rfl, rfl, rfl, rfl, rfl, rfl, rfl, rfl, rfl, rfl, rfl, rfl, trivial⟩, (hV2.trans (hV3.trans hV4)), rfl, hMtb⟩
          ·
           refine ⟨_, rfl, ?_⟩
           refine ops_alloc Tryz.ti25 rfl (fun b5 => ?_)
           refine ops_nil ⟨[(Arr 25 b1 [(.int .i64 A.v), la, na, (.int .i64 A.r)]), (Arr 25 b2 [(.int .i64 B.v), lb, nb, (.int .i64 B.r)]), (Arr 25 b3 [(.int .i64 ((apD op A B).v)), lv1, nv1, (.int .i64 ((apD op A B).r))])], [(Arr 25 b5 [(Value.int .i64 0), (Value.slice none 0 0), (Value.slice none 0 0), (Value.int .i64 0)])], (perm_idx _ _ [0, 1, 2, 3] rfl rfl), .inl ⟨(Sub.refl _), [], .refl _⟩, ?_⟩
           refine el1 (i := 7) (by kernel_rfl) ?_
           refine ⟨_, rfl, ?_⟩
           refine ops_call (σa := []) (σr := [(Arr 25 b1 [(.int .i64 A.v), la, na, (.int .i64 A.r)]), (Arr 25 b2 [(.int .i64 B.v), lb, nb, (.int .i64 B.r)]), (Arr 25 b3 [(.int .i64 ((apD op A B).v)), lv1, nv1, (.int .i64 ((apD op A B).r))]), (Arr 25 b5 [(Value.int .i64 0), (Value.slice none 0 0), (Value.slice none 0 0), (Value.int .i64 0)])]) (combined_c (vars := A.v) (op := op) (g1 := vl A) (g2 := vl B) hR0 (by rw [← hTB]; exact hR1) hokA.1.1 (by omega) (by omega) (by omega) (fun e => vl_in hokA e) (fun e => vl_in hokB e)) rfl rfl (.refl _) (fun r5 V5 sg5 hV5 hp5 => ?_)
           obtain ⟨rfl, lv1b, nv1b, rfl, hMtb⟩ := hp5
           have hA := hA.mono hV5
           have hB := hB.mono hV5
           have hMt := hMt.mono hV5
           have hR0 := hR0.mono hV5
           have hR1 := hR1.mono hV5
           refine ops_nil ⟨[(Arr 25 b1 [(.int .i64 A.v), la, na, (.int .i64 A.r)]), (Arr 25 b2 [(.int .i64 B.v), lb, nb, (.int .i64 B.r)]), (Arr 25 b3 [(.int .i64 ((apD op A B).v)), lv1, nv1, (.int .i64 ((apD op A B).r))])], [(Arr 25 b5 [(Value.int .i64 0), (Value.slice none 0 0), (Value.slice none 0 0), (Value.int .i64 0)])], (perm_idx _ _ [0, 1, 2, 3] rfl rfl), .inl ⟨hV5, [], .refl _⟩, ?_⟩
           refine eq_ (i := 8) (by kernel_rfl) rfl (qv_mv (.tuple #[(.agg #[(.int .i64 ((mkD A.v (tabv A.v fun e => opV op (vl A e) (vl B e))).v)), lv1b, nv1b, (.int .i64 ((mkD A.v (tabv A.v fun e => opV op (vl A e) (vl B e))).r))]), (.int .i64 (mkE A.v (tabv A.v fun e => opV op (vl A e) (vl B e))))]) rfl) ?_
           refine eq_ (i := 9) (by kernel_rfl) rfl (qv_ext (.agg #[(.int .i64 ((mkD A.v (tabv A.v fun e => opV op (vl A e) (vl B e))).v)), lv1b, nv1b, (.int .i64 ((mkD A.v (tabv A.v fun e => opV op (vl A e) (vl B e))).r))]) rfl rfl) ?_
           refine eq_ (i := 10) (by kernel_rfl) rfl (qv_ext (.int .i64 (mkE A.v (tabv A.v fun e => opV op (vl A e) (vl B e)))) rfl rfl) ?_
           refine el1 (i := 12) (by kernel_rfl) ?_
           refine ⟨_, rfl, ?_⟩
           refine ops_stw (k := 3) (vs := [(.int .i64 ((mkD A.v (tabv A.v fun e => opV op (vl A e) (vl B e))).v)), lv1b, nv1b, (.int .i64 ((mkD A.v (tabv A.v fun e => opV op (vl A e) (vl B e))).r))]) Tryz.size25 rfl rfl rfl (allc rfl (allc (Sl.one hMtb.l) (allc (SlS.one hMtb.n) (allc rfl rfl)))) rfl rfl ?_
           refine ops_nil ⟨[(Arr 25 b1 [(.int .i64 A.v), la, na, (.int .i64 A.r)]), (Arr 25 b2 [(.int .i64 B.v), lb, nb, (.int .i64 B.r)]), (Arr 25 b3 [(.int .i64 ((apD op A B).v)), lv1, nv1, (.int .i64 ((apD op A B).r))])], [(Arr 25 b5 [(.int .i64 ((mkD A.v (tabv A.v fun e => opV op (vl A e) (vl B e))).v)), lv1b, nv1b, (.int .i64 ((mkD A.v (tabv A.v fun e => opV op (vl A e) (vl B e))).r))])], (perm_idx _ _ [0, 1, 2, 3] rfl rfl), .inl ⟨(Sub.refl _), [], .refl _⟩, ?_⟩
           refine eq_ (i := 13) (by kernel_rfl) rfl (qv_as (.int .i64 (mkE A.v (tabv A.v fun e => opV op (vl A e) (vl B e)))) rfl) ?_
           refine enil (σ' := [(Arr 25 b1 [(.int .i64 A.v), la, na, (.int .i64 A.r)]), (Arr 25 b2 [(.int .i64 B.v), lb, nb, (.int .i64 B.r)]), (Arr 25 b3 [(.int .i64 ((apD op A B).v)), lv1, nv1, (.int .i64 ((apD op A B).r))]), (Arr 25 b5 [(.int .i64 ((mkD A.v (tabv A.v fun e => opV op (vl A e) (vl B e))).v)), lv1b, nv1b, (.int .i64 ((mkD A.v (tabv A.v fun e => opV op (vl A e) (vl B e))).r))])]) (by kernel_rfl) (perm_idx _ _ [0, 1, 2, 3] rfl rfl) ⟨(b5, lv1b, nv1b), ⟨rfl, rfl, rfl, rfl, rfl, rfl, rfl, rfl, rfl, rfl, rfl, rfl, rfl, rfl, trivial⟩, (hV2.trans (hV3.trans hV5)), rfl, hMtb⟩
         ·
          refine ⟨_, rfl, ?_⟩
          refine ops_alloc Tryz.ti25 rfl (fun b6 => ?_)
          refine ops_nil ⟨[(Arr 25 b1 [(.int .i64 A.v), la, na, (.int .i64 A.r)]), (Arr 25 b2 [(.int .i64 B.v), lb, nb, (.int .i64 B.r)]), (Arr 25 b3 [(.int .i64 ((apD op A B).v)), lv1, nv1, (.int .i64 ((apD op A B).r))])], [(Arr 25 b6 [(Value.int .i64 0), (Value.slice none 0 0), (Value.slice none 0 0), (Value.int .i64 0)])], (perm_idx _ _ [0, 1, 2, 3] rfl rfl), .inl ⟨(Sub.refl _), [], .refl _⟩, ?_⟩
          refine el1 (i := 6) (by kernel_rfl) ?_
          refine ⟨_, rfl, ?_⟩
          refine ops_call (σa := []) (σr := [(Arr 25 b1 [(.int .i64 A.v), la, na, (.int .i64 A.r)]), (Arr 25 b2 [(.int .i64 B.v), lb, nb, (.int .i64 B.r)]), (Arr 25 b3 [(.int .i64 ((apD op A B).v)), lv1, nv1, (.int .i64 ((apD op A B).r))]), (Arr 25 b6 [(Value.int .i64 0), (Value.slice none 0 0), (Value.slice none 0 0), (Value.int .i64 0)])]) (table_c (A := B) hB hokB (by omega)) rfl rfl (.refl _) (fun r6 V6 sg6 hV6 hp6 => ?_)
          obtain ⟨rfl, hR1⟩ := hp6
          obtain ⟨tr1, htr1⟩ : ∃ x, x = r6 := ⟨_, rfl⟩
          subst htr1
          have hA := hA.mono hV6
          have hB := hB.mono hV6
          have hMt := hMt.mono hV6
          have hR0 := hR0.mono hV6
          refine ops_nil ⟨[(Arr 25 b1 [(.int .i64 A.v), la, na, (.int .i64 A.r)]), (Arr 25 b2 [(.int .i64 B.v), lb, nb, (.int .i64 B.r)]), (Arr 25 b3 [(.int .i64 ((apD op A B).v)), lv1, nv1, (.int .i64 ((apD op A B).r))])], [(Arr 25 b6 [(Value.int .i64 0), (Value.slice none 0 0), (Value.slice none 0 0), (Value.int .i64 0)])], (perm_idx _ _ [0, 1, 2, 3] rfl rfl), .inl ⟨hV6, [], .refl _⟩, ?_⟩
          refine el1 (i := 7) (by kernel_rfl) ?_
          refine ⟨_, rfl, ?_⟩
          refine ops_call (σa := []) (σr := [(Arr 25 b1 [(.int .i64 A.v), la, na, (.int .i64 A.r)]), (Arr 25 b2 [(.int .i64 B.v), lb, nb, (.int .i64 B.r)]), (Arr 25 b3 [(.int .i64 ((apD op A B).v)), lv1, nv1, (.int .i64 ((apD op A B).r))]), (Arr 25 b6 [(Value.int .i64 0), (Value.slice none 0 0), (Value.slice none 0 0), (Value.int .i64 0)])]) (combined_c (vars := A.v) (op := op) (g1 := vl A) (g2 := vl B) hR0 (by rw [← hTB]; exact hR1) hokA.1.1 (by omega) (by omega) (by omega) (fun e => vl_in hokA e) (fun e => vl_in hokB e)) rfl rfl (.refl _) (fun r7 V7 sg7 hV7 hp7 => ?_)
          obtain ⟨rfl, lv1b, nv1b, rfl, hMtb⟩ := hp7
          have hA := hA.mono hV7
          have hB := hB.mono hV7
          have hMt := hMt.mono hV7
          have hR0 := hR0.mono hV7
          have hR1 := hR1.mono hV7
          refine ops_nil ⟨[(Arr 25 b1 [(.int .i64 A.v), la, na, (.int .i64 A.r)]), (Arr 25 b2 [(.int .i64 B.v), lb, nb, (.int .i64 B.r)]), (Arr 25 b3 [(.int .i64 ((apD op A B).v)), lv1, nv1, (.int .i64 ((apD op A B).r))])], [(Arr 25 b6 [(Value.int .i64 0), (Value.slice none 0 0), (Value.slice none 0 0), (Value.int .i64 0)])], (perm_idx _ _ [0, 1, 2, 3] rfl rfl), .inl ⟨hV7, [], .refl _⟩, ?_⟩
          refine eq_ (i := 8) (by kernel_rfl) rfl (qv_mv (.tuple #[(.agg #[(.int .i64 ((mkD A.v (tabv A.v fun e => opV op (vl A e) (vl B e))).v)), lv1b, nv1b, (.int .i64 ((mkD A.v (tabv A.v fun e => opV op (vl A e) (vl B e))).r))]), (.int .i64 (mkE A.v (tabv A.v fun e => opV op (vl A e) (vl B e))))]) rfl) ?_
          refine eq_ (i := 9) (by kernel_rfl) rfl (qv_ext (.agg #[(.int .i64 ((mkD A.v (tabv A.v fun e => opV op (vl A e) (vl B e))).v)), lv1b, nv1b, (.int .i64 ((mkD A.v (tabv A.v fun e => opV op (vl A e) (vl B e))).r))]) rfl rfl) ?_
          refine eq_ (i := 10) (by kernel_rfl) rfl (qv_ext (.int .i64 (mkE A.v (tabv A.v fun e => opV op (vl A e) (vl B e)))) rfl rfl) ?_
          refine el1 (i := 12) (by kernel_rfl) ?_
          refine ⟨_, rfl, ?_⟩
          refine ops_stw (k := 3) (vs := [(.int .i64 ((mkD A.v (tabv A.v fun e => opV op (vl A e) (vl B e))).v)), lv1b, nv1b, (.int .i64 ((mkD A.v (tabv A.v fun e => opV op (vl A e) (vl B e))).r))]) Tryz.size25 rfl rfl rfl (allc rfl (allc (Sl.one hMtb.l) (allc (SlS.one hMtb.n) (allc rfl rfl)))) rfl rfl ?_
          refine ops_nil ⟨[(Arr 25 b1 [(.int .i64 A.v), la, na, (.int .i64 A.r)]), (Arr 25 b2 [(.int .i64 B.v), lb, nb, (.int .i64 B.r)]), (Arr 25 b3 [(.int .i64 ((apD op A B).v)), lv1, nv1, (.int .i64 ((apD op A B).r))])], [(Arr 25 b6 [(.int .i64 ((mkD A.v (tabv A.v fun e => opV op (vl A e) (vl B e))).v)), lv1b, nv1b, (.int .i64 ((mkD A.v (tabv A.v fun e => opV op (vl A e) (vl B e))).r))])], (perm_idx _ _ [0, 1, 2, 3] rfl rfl), .inl ⟨(Sub.refl _), [], .refl _⟩, ?_⟩
          refine eq_ (i := 13) (by kernel_rfl) rfl (qv_as (.int .i64 (mkE A.v (tabv A.v fun e => opV op (vl A e) (vl B e)))) rfl) ?_
          refine enil (σ' := [(Arr 25 b1 [(.int .i64 A.v), la, na, (.int .i64 A.r)]), (Arr 25 b2 [(.int .i64 B.v), lb, nb, (.int .i64 B.r)]), (Arr 25 b3 [(.int .i64 ((apD op A B).v)), lv1, nv1, (.int .i64 ((apD op A B).r))]), (Arr 25 b6 [(.int .i64 ((mkD A.v (tabv A.v fun e => opV op (vl A e) (vl B e))).v)), lv1b, nv1b, (.int .i64 ((mkD A.v (tabv A.v fun e => opV op (vl A e) (vl B e))).r))])]) (by kernel_rfl) (perm_idx _ _ [0, 1, 2, 3] rfl rfl) ⟨(b6, lv1b, nv1b), ⟨rfl, rfl, rfl, rfl, rfl, rfl, rfl, rfl, rfl, rfl, rfl, rfl, rfl, rfl, trivial⟩, (hV2.trans (hV6.trans hV7)), rfl, hMtb⟩
        ·
         refine ⟨_, rfl, ?_⟩
         refine ops_alloc Tryz.ti25 rfl (fun b7 => ?_)
         refine ops_nil ⟨[(Arr 25 b1 [(.int .i64 A.v), la, na, (.int .i64 A.r)]), (Arr 25 b2 [(.int .i64 B.v), lb, nb, (.int .i64 B.r)]), (Arr 25 b3 [(.int .i64 ((apD op A B).v)), lv1, nv1, (.int .i64 ((apD op A B).r))])], [(Arr 25 b7 [(Value.int .i64 0), (Value.slice none 0 0), (Value.slice none 0 0), (Value.int .i64 0)])], (perm_idx _ _ [0, 1, 2, 3] rfl rfl), .inl ⟨(Sub.refl _), [], .refl _⟩, ?_⟩
         refine el1 (i := 4) (by kernel_rfl) ?_
         refine ⟨_, rfl, ?_⟩
         refine ops_call (σa := []) (σr := [(Arr 25 b1 [(.int .i64 A.v), la, na, (.int .i64 A.r)]), (Arr 25 b2 [(.int .i64 B.v), lb, nb, (.int .i64 B.r)]), (Arr 25 b3 [(.int .i64 ((apD op A B).v)), lv1, nv1, (.int .i64 ((apD op A B).r))]), (Arr 25 b7 [(Value.int .i64 0), (Value.slice none 0 0), (Value.slice none 0 0), (Value.int .i64 0)])]) (table_c (A := A) hA hokA (by omega)) rfl rfl (.refl _) (fun r8 V8 sg8 hV8 hp8 => ?_)
         obtain ⟨rfl, hR0⟩ := hp8
         obtain ⟨tr0, htr0⟩ : ∃ x, x = r8 := ⟨_, rfl⟩
         subst htr0
         have hA := hA.mono hV8
         have hB := hB.mono hV8
         have hMt := hMt.mono hV8
         refine ops_nil ⟨[(Arr 25 b1 [(.int .i64 A.v), la, na, (.int .i64 A.r)]), (Arr 25 b2 [(.int .i64 B.v), lb, nb, (.int .i64 B.r)]), (Arr 25 b3 [(.int .i64 ((apD op A B).v)), lv1, nv1, (.int .i64 ((apD op A B).r))])], [(Arr 25 b7 [(Value.int .i64 0), (Value.slice none 0 0), (Value.slice none 0 0), (Value.int .i64 0)])], (perm_idx _ _ [0, 1, 2, 3] rfl rfl), .inl ⟨hV8, [], .refl _⟩, ?_⟩
         refine el1 (i := 6) (by kernel_rfl) ?_
         refine ⟨_, rfl, ?_⟩
         refine ops_call (σa := []) (σr := [(Arr 25 b1 [(.int .i64 A.v), la, na, (.int .i64 A.r)]), (Arr 25 b2 [(.int .i64 B.v), lb, nb, (.int .i64 B.r)]), (Arr 25 b3 [(.int .i64 ((apD op A B).v)), lv1, nv1, (.int .i64 ((apD op A B).r))]), (Arr 25 b7 [(Value.int .i64 0), (Value.slice none 0 0), (Value.slice none 0 0), (Value.int .i64 0)])]) (table_c (A := B) hB hokB (by omega)) rfl rfl (.refl _) (fun r9 V9 sg9 hV9 hp9 => ?_)
         obtain ⟨rfl, hR1⟩ := hp9
         obtain ⟨tr1, htr1⟩ : ∃ x, x = r9 := ⟨_, rfl⟩
         subst htr1
         have hA := hA.mono hV9
         have hB := hB.mono hV9
         have hMt := hMt.mono hV9
         have hR0 := hR0.mono hV9
         refine ops_nil ⟨[(Arr 25 b1 [(.int .i64 A.v), la, na, (.int .i64 A.r)]), (Arr 25 b2 [(.int .i64 B.v), lb, nb, (.int .i64 B.r)]), (Arr 25 b3 [(.int .i64 ((apD op A B).v)), lv1, nv1, (.int .i64 ((apD op A B).r))])], [(Arr 25 b7 [(Value.int .i64 0), (Value.slice none 0 0), (Value.slice none 0 0), (Value.int .i64 0)])], (perm_idx _ _ [0, 1, 2, 3] rfl rfl), .inl ⟨hV9, [], .refl _⟩, ?_⟩
         refine el1 (i := 7) (by kernel_rfl) ?_
         refine ⟨_, rfl, ?_⟩
         refine ops_call (σa := []) (σr := [(Arr 25 b1 [(.int .i64 A.v), la, na, (.int .i64 A.r)]), (Arr 25 b2 [(.int .i64 B.v), lb, nb, (.int .i64 B.r)]), (Arr 25 b3 [(.int .i64 ((apD op A B).v)), lv1, nv1, (.int .i64 ((apD op A B).r))]), (Arr 25 b7 [(Value.int .i64 0), (Value.slice none 0 0), (Value.slice none 0 0), (Value.int .i64 0)])]) (combined_c (vars := A.v) (op := op) (g1 := vl A) (g2 := vl B) hR0 (by rw [← hTB]; exact hR1) hokA.1.1 (by omega) (by omega) (by omega) (fun e => vl_in hokA e) (fun e => vl_in hokB e)) rfl rfl (.refl _) (fun r10 V10 sg10 hV10 hp10 => ?_)
         obtain ⟨rfl, lv1b, nv1b, rfl, hMtb⟩ := hp10
         have hA := hA.mono hV10
         have hB := hB.mono hV10
         have hMt := hMt.mono hV10
         have hR0 := hR0.mono hV10
         have hR1 := hR1.mono hV10
         refine ops_nil ⟨[(Arr 25 b1 [(.int .i64 A.v), la, na, (.int .i64 A.r)]), (Arr 25 b2 [(.int .i64 B.v), lb, nb, (.int .i64 B.r)]), (Arr 25 b3 [(.int .i64 ((apD op A B).v)), lv1, nv1, (.int .i64 ((apD op A B).r))])], [(Arr 25 b7 [(Value.int .i64 0), (Value.slice none 0 0), (Value.slice none 0 0), (Value.int .i64 0)])], (perm_idx _ _ [0, 1, 2, 3] rfl rfl), .inl ⟨hV10, [], .refl _⟩, ?_⟩
         refine eq_ (i := 8) (by kernel_rfl) rfl (qv_mv (.tuple #[(.agg #[(.int .i64 ((mkD A.v (tabv A.v fun e => opV op (vl A e) (vl B e))).v)), lv1b, nv1b, (.int .i64 ((mkD A.v (tabv A.v fun e => opV op (vl A e) (vl B e))).r))]), (.int .i64 (mkE A.v (tabv A.v fun e => opV op (vl A e) (vl B e))))]) rfl) ?_
         refine eq_ (i := 9) (by kernel_rfl) rfl (qv_ext (.agg #[(.int .i64 ((mkD A.v (tabv A.v fun e => opV op (vl A e) (vl B e))).v)), lv1b, nv1b, (.int .i64 ((mkD A.v (tabv A.v fun e => opV op (vl A e) (vl B e))).r))]) rfl rfl) ?_
         refine eq_ (i := 10) (by kernel_rfl) rfl (qv_ext (.int .i64 (mkE A.v (tabv A.v fun e => opV op (vl A e) (vl B e)))) rfl rfl) ?_
         refine el1 (i := 12) (by kernel_rfl) ?_
         refine ⟨_, rfl, ?_⟩
         refine ops_stw (k := 3) (vs := [(.int .i64 ((mkD A.v (tabv A.v fun e => opV op (vl A e) (vl B e))).v)), lv1b, nv1b, (.int .i64 ((mkD A.v (tabv A.v fun e => opV op (vl A e) (vl B e))).r))]) Tryz.size25 rfl rfl rfl (allc rfl (allc (Sl.one hMtb.l) (allc (SlS.one hMtb.n) (allc rfl rfl)))) rfl rfl ?_
         refine ops_nil ⟨[(Arr 25 b1 [(.int .i64 A.v), la, na, (.int .i64 A.r)]), (Arr 25 b2 [(.int .i64 B.v), lb, nb, (.int .i64 B.r)]), (Arr 25 b3 [(.int .i64 ((apD op A B).v)), lv1, nv1, (.int .i64 ((apD op A B).r))])], [(Arr 25 b7 [(.int .i64 ((mkD A.v (tabv A.v fun e => opV op (vl A e) (vl B e))).v)), lv1b, nv1b, (.int .i64 ((mkD A.v (tabv A.v fun e => opV op (vl A e) (vl B e))).r))])], (perm_idx _ _ [0, 1, 2, 3] rfl rfl), .inl ⟨(Sub.refl _), [], .refl _⟩, ?_⟩
         refine eq_ (i := 13) (by kernel_rfl) rfl (qv_as (.int .i64 (mkE A.v (tabv A.v fun e => opV op (vl A e) (vl B e)))) rfl) ?_
         refine enil (σ' := [(Arr 25 b1 [(.int .i64 A.v), la, na, (.int .i64 A.r)]), (Arr 25 b2 [(.int .i64 B.v), lb, nb, (.int .i64 B.r)]), (Arr 25 b3 [(.int .i64 ((apD op A B).v)), lv1, nv1, (.int .i64 ((apD op A B).r))]), (Arr 25 b7 [(.int .i64 ((mkD A.v (tabv A.v fun e => opV op (vl A e) (vl B e))).v)), lv1b, nv1b, (.int .i64 ((mkD A.v (tabv A.v fun e => opV op (vl A e) (vl B e))).r))])]) (by kernel_rfl) (perm_idx _ _ [0, 1, 2, 3] rfl rfl) ⟨(b7, lv1b, nv1b), ⟨rfl, rfl, rfl, rfl, rfl, rfl, rfl, rfl, rfl, rfl, rfl, rfl, rfl, rfl, trivial⟩, (hV8.trans (hV9.trans hV10)), rfl, hMtb⟩
       rintro ⟨z10, lv1b, nv1b⟩ e1 Vj1 σj1 hJ1
       obtain ⟨hSVj1, rfl, hMtb⟩ : Vc.Sub V1 Vj1 ∧ [(Arr 25 b1 [(.int .i64 A.v), la, na, (.int .i64 A.r)]), (Arr 25 b2 [(.int .i64 B.v), lb, nb, (.int .i64 B.r)]), (Arr 25 b3 [(.int .i64 ((apD op A B).v)), lv1, nv1, (.int .i64 ((apD op A B).r))]), (Arr 25 z10 [(.int .i64 ((mkD A.v (tabv A.v fun e => opV op (vl A e) (vl B e))).v)), lv1b, nv1b, (.int .i64 ((mkD A.v (tabv A.v fun e => opV op (vl A e) (vl B e))).r))])] = σj1 ∧ Mt Vj1 lv1b nv1b (mkD A.v (tabv A.v fun e => opV op (vl A e) (vl B e))) := hJ1
       change VC _ _ _ _ _ _ (upds 64 [(0, (Value.int .i64 op)), (1, (.agg #[(.int .i64 A.v), la, na, (.int .i64 A.r)])), (2, (.agg #[(.int .i64 B.v), lb, nb, (.int .i64 B.r)])), (4, (Value.pointer (some ⟨b1, 0, none⟩))), (5, (Value.pointer (some ⟨b2, 0, none⟩))), (6, (Value.bool false)), (7, (Value.pointer (some ⟨b3, 0, none⟩))), (8, (.int .i64 (apE op A B))), (9, (.int .i64 (mkE A.v (tabv A.v fun e => opV op (vl A e) (vl B e))))), (10, (Value.pointer (some ⟨z10, 0, none⟩))), (12, (Value.bool false)), (20, (.bool (decide (¬ (fewP B ∧ (¬ chkC B = 0 ∨ B.v ≤ 8)))))), (40, (.bool (decide (8 < op)))), (42, (.bool (decide ((vE [A, B]) ≠ 0))))] e1) _ _
       have hA := hA.mono hSVj1
       have hB := hB.mono hSVj1
       have hMt := hMt.mono hSVj1
       refine vc_seq ?_
       have hi := ap_0 (A := A) (B := B) (op := op) hz (by omega)
       refine vc_region ?_
       refine oq (qv_ldm (vs := [(.int .i64 ((apD op A B).v)), lv1, nv1, (.int .i64 ((apD op A B).r))]) Tryz.agg25 rfl (inOc (k := 2) rfl) rfl rfl) ?_
       refine oq (qv_mv (.int .i64 (apE op A B)) rfl) ?_
       refine oq (qv_ldm (vs := [(.int .i64 ((mkD A.v (tabv A.v fun e => opV op (vl A e) (vl B e))).v)), lv1b, nv1b, (.int .i64 ((mkD A.v (tabv A.v fun e => opV op (vl A e) (vl B e))).r))]) Tryz.agg25 rfl (inOc (k := 3) rfl) rfl rfl) ?_
       refine oq (qv_mv (.int .i64 (mkE A.v (tabv A.v fun e => opV op (vl A e) (vl B e)))) rfl) ?_
       refine oq (qv_call (v := (.bool (decide ((apE op A B) = (mkE A.v (tabv A.v fun e => opV op (vl A e) (vl B e))) ∧ (apD op A B) = (mkD A.v (tabv A.v fun e => opV op (vl A e) (vl B e))))))) (is_c (A := (apD op A B)) (B := (mkD A.v (tabv A.v fun e => opV op (vl A e) (vl B e)))) (ee := (apE op A B)) (cc := (mkE A.v (tabv A.v fun e => opV op (vl A e) (vl B e)))) hMt hMtb) rfl rfl) ?_
       refine oq (qv_as (.bool (decide ((apE op A B) = (mkE A.v (tabv A.v fun e => opV op (vl A e) (vl B e))) ∧ (apD op A B) = (mkD A.v (tabv A.v fun e => opV op (vl A e) (vl B e)))))) rfl) ?_
       refine ops_nil ?_
       refine vc_ret ?_
       exact rq1 (Value.bool true) (congrArg Value.bool (decide_eq_true (show ((apE op A B) = (mkE A.v (tabv A.v fun e => opV op (vl A e) (vl B e))) ∧ (apD op A B) = (mkD A.v (tabv A.v fun e => opV op (vl A e) (vl B e)))) from by first | exact hi | (exfalso; omega)))) rfl
   ·
    refine os (want_tn g2 rfl rfl rfl) ?_
    refine os (want_tn g2 rfl rfl rfl) ?_
    refine os (want_tn g2 rfl rfl rfl) ?_
    refine os (want_u rfl rfl rfl) ?_
    refine os (want_u rfl rfl rfl) ?_
    refine os (want_tn g2 rfl rfl rfl) ?_
    refine oq (qv_pick_f g2 rfl (rfl : ev _ _ = (Value.bool false))) ?_
    refine ops_nil ?_
    refine vc_ff rfl ?_
    refine vc_skip ?_
    refine vc_seq ?_
    refine vc_seq ?_
    refine vc_region ?_
    refine oq (qv_mv (.int .i64 (vE [A, B])) rfl) ?_
    refine oq (qv_neq rfl rfl) ?_
    refine ops_nil ?_
    refine vc_if rfl (fun c6 => ?_) (fun c6 => ?_)
    ·
     refine vc_seq ?_
     have hi : apE op A B = vE [A, B] ∧ apD op A B = zM := ap_v (by omega)
     refine vc_region ?_
     refine oq (qv_ldm (vs := [(.int .i64 ((apD op A B).v)), lv1, nv1, (.int .i64 ((apD op A B).r))]) Tryz.agg25 rfl (inOc (k := 2) rfl) rfl rfl) ?_
     refine oq (qv_mv (.int .i64 (apE op A B)) rfl) ?_
     refine oq (qv_build (out := [(Value.int .i64 0), (Value.slice none 0 0), (Value.slice none 0 0), (Value.int .i64 0)]) Tryz.build25 [] rfl rfl) ?_
     refine oq (qv_mv (.int .i64 (vE [A, B])) rfl) ?_
     refine oq (qv_call (v := (.bool (decide ((apE op A B) = (vE [A, B]) ∧ (apD op A B) = zM)))) (is_c (A := (apD op A B)) (B := zM) (ee := (apE op A B)) (cc := (vE [A, B])) hMt Mt.nil) rfl rfl) ?_
     refine oq (qv_as (.bool (decide ((apE op A B) = (vE [A, B]) ∧ (apD op A B) = zM))) rfl) ?_
     refine ops_nil ?_
     refine vc_ret ?_
     exact rq1 (Value.bool true) (congrArg Value.bool (decide_eq_true (show ((apE op A B) = (vE [A, B]) ∧ (apD op A B) = zM) from by first | exact hi | (exfalso; omega)))) rfl
    ·
     refine vc_skip ?_
     refine vc_seq ?_
     have hz : vE [A, B] = 0 := by omega
     obtain ⟨⟨hokA, hokB⟩, hvv⟩ := vE2_ok.1 hz
     have hvA : A.v ≤ 8 := h8A.2.elim (fun h => absurd (chk_0 hokA) h) id
     have hTB : vT B = tabv A.v (vl B) := by rw [hvv]
     refine vc_join (α := Nat × Value × Value) (fun xx => [(0, (Value.int .i64 op)), (1, (.agg #[(.int .i64 A.v), la, na, (.int .i64 A.r)])), (2, (.agg #[(.int .i64 B.v), lb, nb, (.int .i64 B.r)])), (4, (Value.pointer (some ⟨b1, 0, none⟩))), (5, (Value.pointer (some ⟨b2, 0, none⟩))), (6, (Value.bool false)), (7, (Value.pointer (some ⟨b3, 0, none⟩))), (8, (.int .i64 (apE op A B))), (9, (.int .i64 (mkE A.v (tabv A.v fun e => opV op (vl A e) (vl B e))))), (10, (Value.pointer (some ⟨xx.1, 0, none⟩))), (12, (Value.bool false)), (20, (.bool (decide (¬ (fewP B ∧ (¬ chkC B = 0 ∨ B.v ≤ 8)))))), (40, (Value.bool false)), (42, (.bool (decide ((vE [A, B]) ≠ 0))))]) (fun xx V' σ' => Vc.Sub V1 V' ∧ [(Arr 25 b1 [(.int .i64 A.v), la, na, (.int .i64 A.r)]), (Arr 25 b2 [(.int .i64 B.v), lb, nb, (.int .i64 B.r)]), (Arr 25 b3 [(.int .i64 ((apD op A B).v)), lv1, nv1, (.int .i64 ((apD op A B).r))]), (Arr 25 xx.1 [(.int .i64 ((mkD A.v (tabv A.v fun e => opV op (vl A e) (vl B e))).v)), xx.2.1, xx.2.2, (.int .i64 ((mkD A.v (tabv A.v fun e => opV op (vl A e) (vl B e))).r))])] = σ' ∧ Mt V' xx.2.1 xx.2.2 (mkD A.v (tabv A.v fun e => opV op (vl A e) (vl B e)))) ?_ ?_
     ·
      refine vc_region_E (τ := []) (n := 14) [(Arr 25 b1 [(.int .i64 A.v), la, na, (.int .i64 A.r)]), (Arr 25 b2 [(.int .i64 B.v), lb, nb, (.int .i64 B.r)]), (Arr 25 b3 [(.int .i64 ((apD op A B).v)), lv1, nv1, (.int .i64 ((apD op A B).r))])] Tryz.mixed (perm_nil _) rfl ?_
      refine eq_ (i := 0) (by kernel_rfl) rfl (qv_fa (off := 0) Tryz.field25_0 rfl) ?_
      refine eq_ (i := 1) (by kernel_rfl) rfl (qv_ldp (v := (.int .i64 A.v)) Tryz.plain3 rfl (inOc (k := 0) rfl) rfl) ?_
      refine eq_ (i := 2) (by kernel_rfl) rfl (qv_mv (Value.int .i64 op) rfl) ?_
      refine eq_ (i := 3) (by kernel_rfl) rfl (qv_ldm (vs := [(.int .i64 A.v), la, na, (.int .i64 A.r)]) Tryz.agg25 rfl (inOc (k := 0) rfl) rfl rfl) ?_
      refine eq_ (i := 5) (by kernel_rfl) rfl (qv_ldm (vs := [(.int .i64 B.v), lb, nb, (.int .i64 B.r)]) Tryz.agg25 rfl (inOc (k := 1) rfl) rfl rfl) ?_
      refine el2 (i := 4) (j := 11) (by kernel_rfl) ?_ ?_
      ·
       refine ⟨_, rfl, ?_⟩
       refine ops_call (σa := []) (σr := [(Arr 25 b1 [(.int .i64 A.v), la, na, (.int .i64 A.r)]), (Arr 25 b2 [(.int .i64 B.v), lb, nb, (.int .i64 B.r)]), (Arr 25 b3 [(.int .i64 ((apD op A B).v)), lv1, nv1, (.int .i64 ((apD op A B).r))])]) (table_c (A := A) hA hokA (by omega)) rfl rfl (.refl _) (fun r11 V11 sg11 hV11 hp11 => ?_)
       obtain ⟨rfl, hR0⟩ := hp11
       obtain ⟨tr0, htr0⟩ : ∃ x, x = r11 := ⟨_, rfl⟩
       subst htr0
       have hA := hA.mono hV11
       have hB := hB.mono hV11
       have hMt := hMt.mono hV11
       refine ops_nil ⟨[(Arr 25 b1 [(.int .i64 A.v), la, na, (.int .i64 A.r)]), (Arr 25 b2 [(.int .i64 B.v), lb, nb, (.int .i64 B.r)]), (Arr 25 b3 [(.int .i64 ((apD op A B).v)), lv1, nv1, (.int .i64 ((apD op A B).r))])], [], (perm_nil _), .inl ⟨hV11, [], .refl _⟩, ?_⟩
       refine el2 (i := 6) (j := 11) (by kernel_rfl) ?_ ?_
       ·
        refine ⟨_, rfl, ?_⟩
        refine ops_call (σa := []) (σr := [(Arr 25 b1 [(.int .i64 A.v), la, na, (.int .i64 A.r)]), (Arr 25 b2 [(.int .i64 B.v), lb, nb, (.int .i64 B.r)]), (Arr 25 b3 [(.int .i64 ((apD op A B).v)), lv1, nv1, (.int .i64 ((apD op A B).r))])]) (table_c (A := B) hB hokB (by omega)) rfl rfl (.refl _) (fun r12 V12 sg12 hV12 hp12 => ?_)
        obtain ⟨rfl, hR1⟩ := hp12
        obtain ⟨tr1, htr1⟩ : ∃ x, x = r12 := ⟨_, rfl⟩
        subst htr1
        have hA := hA.mono hV12
        have hB := hB.mono hV12
        have hMt := hMt.mono hV12
        have hR0 := hR0.mono hV12
        refine ops_nil ⟨[(Arr 25 b1 [(.int .i64 A.v), la, na, (.int .i64 A.r)]), (Arr 25 b2 [(.int .i64 B.v), lb, nb, (.int .i64 B.r)]), (Arr 25 b3 [(.int .i64 ((apD op A B).v)), lv1, nv1, (.int .i64 ((apD op A B).r))])], [], (perm_nil _), .inl ⟨hV12, [], .refl _⟩, ?_⟩
        refine el2 (i := 7) (j := 11) (by kernel_rfl) ?_ ?_
        ·
         refine ⟨_, rfl, ?_⟩
         refine ops_call (σa := []) (σr := [(Arr 25 b1 [(.int .i64 A.v), la, na, (.int .i64 A.r)]), (Arr 25 b2 [(.int .i64 B.v), lb, nb, (.int .i64 B.r)]), (Arr 25 b3 [(.int .i64 ((apD op A B).v)), lv1, nv1, (.int .i64 ((apD op A B).r))])]) (combined_c (vars := A.v) (op := op) (g1 := vl A) (g2 := vl B) hR0 (by rw [← hTB]; exact hR1) hokA.1.1 (by omega) (by omega) (by omega) (fun e => vl_in hokA e) (fun e => vl_in hokB e)) rfl rfl (.refl _) (fun r13 V13 sg13 hV13 hp13 => ?_)
         obtain ⟨rfl, lv1b, nv1b, rfl, hMtb⟩ := hp13
         have hA := hA.mono hV13
         have hB := hB.mono hV13
         have hMt := hMt.mono hV13
         have hR0 := hR0.mono hV13
         have hR1 := hR1.mono hV13
         refine ops_nil ⟨[(Arr 25 b1 [(.int .i64 A.v), la, na, (.int .i64 A.r)]), (Arr 25 b2 [(.int .i64 B.v), lb, nb, (.int .i64 B.r)]), (Arr 25 b3 [(.int .i64 ((apD op A B).v)), lv1, nv1, (.int .i64 ((apD op A B).r))])], [], (perm_nil _), .inl ⟨hV13, [], .refl _⟩, ?_⟩
         refine eq_ (i := 8) (by kernel_rfl) rfl (qv_mv (.tuple #[(.agg #[(.int .i64 ((mkD A.v (tabv A.v fun e => opV op (vl A e) (vl B e))).v)), lv1b, nv1b, (.int .i64 ((mkD A.v (tabv A.v fun e => opV op (vl A e) (vl B e))).r))]), (.int .i64 (mkE A.v (tabv A.v fun e => opV op (vl A e) (vl B e))))]) rfl) ?_
         refine eq_ (i := 9) (by kernel_rfl) rfl (qv_ext (.agg #[(.int .i64 ((mkD A.v (tabv A.v fun e => opV op (vl A e) (vl B e))).v)), lv1b, nv1b, (.int .i64 ((mkD A.v (tabv A.v fun e => opV op (vl A e) (vl B e))).r))]) rfl rfl) ?_
         refine eq_ (i := 10) (by kernel_rfl) rfl (qv_ext (.int .i64 (mkE A.v (tabv A.v fun e => opV op (vl A e) (vl B e)))) rfl rfl) ?_
         refine el1 (i := 11) (by kernel_rfl) ?_
         refine ⟨_, rfl, ?_⟩
         refine ops_alloc Tryz.ti25 rfl (fun b8 => ?_)
         refine ops_nil ⟨[(Arr 25 b1 [(.int .i64 A.v), la, na, (.int .i64 A.r)]), (Arr 25 b2 [(.int .i64 B.v), lb, nb, (.int .i64 B.r)]), (Arr 25 b3 [(.int .i64 ((apD op A B).v)), lv1, nv1, (.int .i64 ((apD op A B).r))])], [(Arr 25 b8 [(Value.int .i64 0), (Value.slice none 0 0), (Value.slice none 0 0), (Value.int .i64 0)])], (perm_idx _ _ [0, 1, 2, 3] rfl rfl), .inl ⟨(Sub.refl _), [], .refl _⟩, ?_⟩
         refine el1 (i := 12) (by kernel_rfl) ?_
         refine ⟨_, rfl, ?_⟩
         refine ops_stw (k := 3) (vs := [(.int .i64 ((mkD A.v (tabv A.v fun e => opV op (vl A e) (vl B e))).v)), lv1b, nv1b, (.int .i64 ((mkD A.v (tabv A.v fun e => opV op (vl A e) (vl B e))).r))]) Tryz.size25 rfl rfl rfl (allc rfl (allc (Sl.one hMtb.l) (allc (SlS.one hMtb.n) (allc rfl rfl)))) rfl rfl ?_
         refine ops_nil ⟨[(Arr 25 b1 [(.int .i64 A.v), la, na, (.int .i64 A.r)]), (Arr 25 b2 [(.int .i64 B.v), lb, nb, (.int .i64 B.r)]), (Arr 25 b3 [(.int .i64 ((apD op A B).v)), lv1, nv1, (.int .i64 ((apD op A B).r))])], [(Arr 25 b8 [(.int .i64 ((mkD A.v (tabv A.v fun e => opV op (vl A e) (vl B e))).v)), lv1b, nv1b, (.int .i64 ((mkD A.v (tabv A.v fun e => opV op (vl A e) (vl B e))).r))])], (perm_idx _ _ [0, 1, 2, 3] rfl rfl), .inl ⟨(Sub.refl _), [], .refl _⟩, ?_⟩
         refine eq_ (i := 13) (by kernel_rfl) rfl (qv_as (.int .i64 (mkE A.v (tabv A.v fun e => opV op (vl A e) (vl B e)))) rfl) ?_
         refine enil (σ' := [(Arr 25 b1 [(.int .i64 A.v), la, na, (.int .i64 A.r)]), (Arr 25 b2 [(.int .i64 B.v), lb, nb, (.int .i64 B.r)]), (Arr 25 b3 [(.int .i64 ((apD op A B).v)), lv1, nv1, (.int .i64 ((apD op A B).r))]), (Arr 25 b8 [(.int .i64 ((mkD A.v (tabv A.v fun e => opV op (vl A e) (vl B e))).v)), lv1b, nv1b, (.int .i64 ((mkD A.v (tabv A.v fun e => opV op (vl A e) (vl B e))).r))])]) (by kernel_rfl) (perm_idx _ _ [0, 1, 2, 3] rfl rfl) ⟨(b8, lv1b, nv1b), ⟨rfl, rfl, rfl, rfl, rfl, rfl, rfl, rfl, rfl, rfl, rfl, rfl, rfl, rfl, trivial⟩, (hV11.trans (hV12.trans hV13)), rfl, hMtb⟩
        ·
         refine ⟨_, rfl, ?_⟩
         refine ops_alloc Tryz.ti25 rfl (fun b9 => ?_)
         refine ops_nil ⟨[(Arr 25 b1 [(.int .i64 A.v), la, na, (.int .i64 A.r)]), (Arr 25 b2 [(.int .i64 B.v), lb, nb, (.int .i64 B.r)]), (Arr 25 b3 [(.int .i64 ((apD op A B).v)), lv1, nv1, (.int .i64 ((apD op A B).r))])], [(Arr 25 b9 [(Value.int .i64 0), (Value.slice none 0 0), (Value.slice none 0 0), (Value.int .i64 0)])], (perm_idx _ _ [0, 1, 2, 3] rfl rfl), .inl ⟨(Sub.refl _), [], .refl _⟩, ?_⟩
         refine el1 (i := 7) (by kernel_rfl) ?_
         refine ⟨_, rfl, ?_⟩
         refine ops_call (σa := []) (σr := [(Arr 25 b1 [(.int .i64 A.v), la, na, (.int .i64 A.r)]), (Arr 25 b2 [(.int .i64 B.v), lb, nb, (.int .i64 B.r)]), (Arr 25 b3 [(.int .i64 ((apD op A B).v)), lv1, nv1, (.int .i64 ((apD op A B).r))]), (Arr 25 b9 [(Value.int .i64 0), (Value.slice none 0 0), (Value.slice none 0 0), (Value.int .i64 0)])]) (combined_c (vars := A.v) (op := op) (g1 := vl A) (g2 := vl B) hR0 (by rw [← hTB]; exact hR1) hokA.1.1 (by omega) (by omega) (by omega) (fun e => vl_in hokA e) (fun e => vl_in hokB e)) rfl rfl (.refl _) (fun r14 V14 sg14 hV14 hp14 => ?_)
         obtain ⟨rfl, lv1b, nv1b, rfl, hMtb⟩ := hp14
         have hA := hA.mono hV14
         have hB := hB.mono hV14
         have hMt := hMt.mono hV14
         have hR0 := hR0.mono hV14
         have hR1 := hR1.mono hV14
         refine ops_nil ⟨[(Arr 25 b1 [(.int .i64 A.v), la, na, (.int .i64 A.r)]), (Arr 25 b2 [(.int .i64 B.v), lb, nb, (.int .i64 B.r)]), (Arr 25 b3 [(.int .i64 ((apD op A B).v)), lv1, nv1, (.int .i64 ((apD op A B).r))])], [(Arr 25 b9 [(Value.int .i64 0), (Value.slice none 0 0), (Value.slice none 0 0), (Value.int .i64 0)])], (perm_idx _ _ [0, 1, 2, 3] rfl rfl), .inl ⟨hV14, [], .refl _⟩, ?_⟩
         refine eq_ (i := 8) (by kernel_rfl) rfl (qv_mv (.tuple #[(.agg #[(.int .i64 ((mkD A.v (tabv A.v fun e => opV op (vl A e) (vl B e))).v)), lv1b, nv1b, (.int .i64 ((mkD A.v (tabv A.v fun e => opV op (vl A e) (vl B e))).r))]), (.int .i64 (mkE A.v (tabv A.v fun e => opV op (vl A e) (vl B e))))]) rfl) ?_
         refine eq_ (i := 9) (by kernel_rfl) rfl (qv_ext (.agg #[(.int .i64 ((mkD A.v (tabv A.v fun e => opV op (vl A e) (vl B e))).v)), lv1b, nv1b, (.int .i64 ((mkD A.v (tabv A.v fun e => opV op (vl A e) (vl B e))).r))]) rfl rfl) ?_
         refine eq_ (i := 10) (by kernel_rfl) rfl (qv_ext (.int .i64 (mkE A.v (tabv A.v fun e => opV op (vl A e) (vl B e)))) rfl rfl) ?_
         refine el1 (i := 12) (by kernel_rfl) ?_
         refine ⟨_, rfl, ?_⟩
         refine ops_stw (k := 3) (vs := [(.int .i64 ((mkD A.v (tabv A.v fun e => opV op (vl A e) (vl B e))).v)), lv1b, nv1b, (.int .i64 ((mkD A.v (tabv A.v fun e => opV op (vl A e) (vl B e))).r))]) Tryz.size25 rfl rfl rfl (allc rfl (allc (Sl.one hMtb.l) (allc (SlS.one hMtb.n) (allc rfl rfl)))) rfl rfl ?_
         refine ops_nil ⟨[(Arr 25 b1 [(.int .i64 A.v), la, na, (.int .i64 A.r)]), (Arr 25 b2 [(.int .i64 B.v), lb, nb, (.int .i64 B.r)]), (Arr 25 b3 [(.int .i64 ((apD op A B).v)), lv1, nv1, (.int .i64 ((apD op A B).r))])], [(Arr 25 b9 [(.int .i64 ((mkD A.v (tabv A.v fun e => opV op (vl A e) (vl B e))).v)), lv1b, nv1b, (.int .i64 ((mkD A.v (tabv A.v fun e => opV op (vl A e) (vl B e))).r))])], (perm_idx _ _ [0, 1, 2, 3] rfl rfl), .inl ⟨(Sub.refl _), [], .refl _⟩, ?_⟩
         refine eq_ (i := 13) (by kernel_rfl) rfl (qv_as (.int .i64 (mkE A.v (tabv A.v fun e => opV op (vl A e) (vl B e)))) rfl) ?_
         refine enil (σ' := [(Arr 25 b1 [(.int .i64 A.v), la, na, (.int .i64 A.r)]), (Arr 25 b2 [(.int .i64 B.v), lb, nb, (.int .i64 B.r)]), (Arr 25 b3 [(.int .i64 ((apD op A B).v)), lv1, nv1, (.int .i64 ((apD op A B).r))]), (Arr 25 b9 [(.int .i64 ((mkD A.v (tabv A.v fun e => opV op (vl A e) (vl B e))).v)), lv1b, nv1b, (.int .i64 ((mkD A.v (tabv A.v fun e => opV op (vl A e) (vl B e))).r))])]) (by kernel_rfl) (perm_idx _ _ [0, 1, 2, 3] rfl rfl) ⟨(b9, lv1b, nv1b), ⟨rfl, rfl, rfl, rfl, rfl, rfl, rfl, rfl, rfl, rfl, rfl, rfl, rfl, rfl, trivial⟩, (hV11.trans (hV12.trans hV14)), rfl, hMtb⟩
       ·
        refine ⟨_, rfl, ?_⟩
        refine ops_alloc Tryz.ti25 rfl (fun b10 => ?_)
        refine ops_nil ⟨[(Arr 25 b1 [(.int .i64 A.v), la, na, (.int .i64 A.r)]), (Arr 25 b2 [(.int .i64 B.v), lb, nb, (.int .i64 B.r)]), (Arr 25 b3 [(.int .i64 ((apD op A B).v)), lv1, nv1, (.int .i64 ((apD op A B).r))])], [(Arr 25 b10 [(Value.int .i64 0), (Value.slice none 0 0), (Value.slice none 0 0), (Value.int .i64 0)])], (perm_idx _ _ [0, 1, 2, 3] rfl rfl), .inl ⟨(Sub.refl _), [], .refl _⟩, ?_⟩
        refine el1 (i := 6) (by kernel_rfl) ?_
        refine ⟨_, rfl, ?_⟩
        refine ops_call (σa := []) (σr := [(Arr 25 b1 [(.int .i64 A.v), la, na, (.int .i64 A.r)]), (Arr 25 b2 [(.int .i64 B.v), lb, nb, (.int .i64 B.r)]), (Arr 25 b3 [(.int .i64 ((apD op A B).v)), lv1, nv1, (.int .i64 ((apD op A B).r))]), (Arr 25 b10 [(Value.int .i64 0), (Value.slice none 0 0), (Value.slice none 0 0), (Value.int .i64 0)])]) (table_c (A := B) hB hokB (by omega)) rfl rfl (.refl _) (fun r15 V15 sg15 hV15 hp15 => ?_)
        obtain ⟨rfl, hR1⟩ := hp15
        obtain ⟨tr1, htr1⟩ : ∃ x, x = r15 := ⟨_, rfl⟩
        subst htr1
        have hA := hA.mono hV15
        have hB := hB.mono hV15
        have hMt := hMt.mono hV15
        have hR0 := hR0.mono hV15
        refine ops_nil ⟨[(Arr 25 b1 [(.int .i64 A.v), la, na, (.int .i64 A.r)]), (Arr 25 b2 [(.int .i64 B.v), lb, nb, (.int .i64 B.r)]), (Arr 25 b3 [(.int .i64 ((apD op A B).v)), lv1, nv1, (.int .i64 ((apD op A B).r))])], [(Arr 25 b10 [(Value.int .i64 0), (Value.slice none 0 0), (Value.slice none 0 0), (Value.int .i64 0)])], (perm_idx _ _ [0, 1, 2, 3] rfl rfl), .inl ⟨hV15, [], .refl _⟩, ?_⟩
        refine el1 (i := 7) (by kernel_rfl) ?_
        refine ⟨_, rfl, ?_⟩
        refine ops_call (σa := []) (σr := [(Arr 25 b1 [(.int .i64 A.v), la, na, (.int .i64 A.r)]), (Arr 25 b2 [(.int .i64 B.v), lb, nb, (.int .i64 B.r)]), (Arr 25 b3 [(.int .i64 ((apD op A B).v)), lv1, nv1, (.int .i64 ((apD op A B).r))]), (Arr 25 b10 [(Value.int .i64 0), (Value.slice none 0 0), (Value.slice none 0 0), (Value.int .i64 0)])]) (combined_c (vars := A.v) (op := op) (g1 := vl A) (g2 := vl B) hR0 (by rw [← hTB]; exact hR1) hokA.1.1 (by omega) (by omega) (by omega) (fun e => vl_in hokA e) (fun e => vl_in hokB e)) rfl rfl (.refl _) (fun r16 V16 sg16 hV16 hp16 => ?_)
        obtain ⟨rfl, lv1b, nv1b, rfl, hMtb⟩ := hp16
        have hA := hA.mono hV16
        have hB := hB.mono hV16
        have hMt := hMt.mono hV16
        have hR0 := hR0.mono hV16
        have hR1 := hR1.mono hV16
        refine ops_nil ⟨[(Arr 25 b1 [(.int .i64 A.v), la, na, (.int .i64 A.r)]), (Arr 25 b2 [(.int .i64 B.v), lb, nb, (.int .i64 B.r)]), (Arr 25 b3 [(.int .i64 ((apD op A B).v)), lv1, nv1, (.int .i64 ((apD op A B).r))])], [(Arr 25 b10 [(Value.int .i64 0), (Value.slice none 0 0), (Value.slice none 0 0), (Value.int .i64 0)])], (perm_idx _ _ [0, 1, 2, 3] rfl rfl), .inl ⟨hV16, [], .refl _⟩, ?_⟩
        refine eq_ (i := 8) (by kernel_rfl) rfl (qv_mv (.tuple #[(.agg #[(.int .i64 ((mkD A.v (tabv A.v fun e => opV op (vl A e) (vl B e))).v)), lv1b, nv1b, (.int .i64 ((mkD A.v (tabv A.v fun e => opV op (vl A e) (vl B e))).r))]), (.int .i64 (mkE A.v (tabv A.v fun e => opV op (vl A e) (vl B e))))]) rfl) ?_
        refine eq_ (i := 9) (by kernel_rfl) rfl (qv_ext (.agg #[(.int .i64 ((mkD A.v (tabv A.v fun e => opV op (vl A e) (vl B e))).v)), lv1b, nv1b, (.int .i64 ((mkD A.v (tabv A.v fun e => opV op (vl A e) (vl B e))).r))]) rfl rfl) ?_
        refine eq_ (i := 10) (by kernel_rfl) rfl (qv_ext (.int .i64 (mkE A.v (tabv A.v fun e => opV op (vl A e) (vl B e)))) rfl rfl) ?_
        refine el1 (i := 12) (by kernel_rfl) ?_
        refine ⟨_, rfl, ?_⟩
        refine ops_stw (k := 3) (vs := [(.int .i64 ((mkD A.v (tabv A.v fun e => opV op (vl A e) (vl B e))).v)), lv1b, nv1b, (.int .i64 ((mkD A.v (tabv A.v fun e => opV op (vl A e) (vl B e))).r))]) Tryz.size25 rfl rfl rfl (allc rfl (allc (Sl.one hMtb.l) (allc (SlS.one hMtb.n) (allc rfl rfl)))) rfl rfl ?_
        refine ops_nil ⟨[(Arr 25 b1 [(.int .i64 A.v), la, na, (.int .i64 A.r)]), (Arr 25 b2 [(.int .i64 B.v), lb, nb, (.int .i64 B.r)]), (Arr 25 b3 [(.int .i64 ((apD op A B).v)), lv1, nv1, (.int .i64 ((apD op A B).r))])], [(Arr 25 b10 [(.int .i64 ((mkD A.v (tabv A.v fun e => opV op (vl A e) (vl B e))).v)), lv1b, nv1b, (.int .i64 ((mkD A.v (tabv A.v fun e => opV op (vl A e) (vl B e))).r))])], (perm_idx _ _ [0, 1, 2, 3] rfl rfl), .inl ⟨(Sub.refl _), [], .refl _⟩, ?_⟩
        refine eq_ (i := 13) (by kernel_rfl) rfl (qv_as (.int .i64 (mkE A.v (tabv A.v fun e => opV op (vl A e) (vl B e)))) rfl) ?_
        refine enil (σ' := [(Arr 25 b1 [(.int .i64 A.v), la, na, (.int .i64 A.r)]), (Arr 25 b2 [(.int .i64 B.v), lb, nb, (.int .i64 B.r)]), (Arr 25 b3 [(.int .i64 ((apD op A B).v)), lv1, nv1, (.int .i64 ((apD op A B).r))]), (Arr 25 b10 [(.int .i64 ((mkD A.v (tabv A.v fun e => opV op (vl A e) (vl B e))).v)), lv1b, nv1b, (.int .i64 ((mkD A.v (tabv A.v fun e => opV op (vl A e) (vl B e))).r))])]) (by kernel_rfl) (perm_idx _ _ [0, 1, 2, 3] rfl rfl) ⟨(b10, lv1b, nv1b), ⟨rfl, rfl, rfl, rfl, rfl, rfl, rfl, rfl, rfl, rfl, rfl, rfl, rfl, rfl, trivial⟩, (hV11.trans (hV15.trans hV16)), rfl, hMtb⟩
      ·
       refine ⟨_, rfl, ?_⟩
       refine ops_alloc Tryz.ti25 rfl (fun b11 => ?_)
       refine ops_nil ⟨[(Arr 25 b1 [(.int .i64 A.v), la, na, (.int .i64 A.r)]), (Arr 25 b2 [(.int .i64 B.v), lb, nb, (.int .i64 B.r)]), (Arr 25 b3 [(.int .i64 ((apD op A B).v)), lv1, nv1, (.int .i64 ((apD op A B).r))])], [(Arr 25 b11 [(Value.int .i64 0), (Value.slice none 0 0), (Value.slice none 0 0), (Value.int .i64 0)])], (perm_idx _ _ [0, 1, 2, 3] rfl rfl), .inl ⟨(Sub.refl _), [], .refl _⟩, ?_⟩
       refine el1 (i := 4) (by kernel_rfl) ?_
       refine ⟨_, rfl, ?_⟩
       refine ops_call (σa := []) (σr := [(Arr 25 b1 [(.int .i64 A.v), la, na, (.int .i64 A.r)]), (Arr 25 b2 [(.int .i64 B.v), lb, nb, (.int .i64 B.r)]), (Arr 25 b3 [(.int .i64 ((apD op A B).v)), lv1, nv1, (.int .i64 ((apD op A B).r))]), (Arr 25 b11 [(Value.int .i64 0), (Value.slice none 0 0), (Value.slice none 0 0), (Value.int .i64 0)])]) (table_c (A := A) hA hokA (by omega)) rfl rfl (.refl _) (fun r17 V17 sg17 hV17 hp17 => ?_)
       obtain ⟨rfl, hR0⟩ := hp17
       obtain ⟨tr0, htr0⟩ : ∃ x, x = r17 := ⟨_, rfl⟩
       subst htr0
       have hA := hA.mono hV17
       have hB := hB.mono hV17
       have hMt := hMt.mono hV17
       refine ops_nil ⟨[(Arr 25 b1 [(.int .i64 A.v), la, na, (.int .i64 A.r)]), (Arr 25 b2 [(.int .i64 B.v), lb, nb, (.int .i64 B.r)]), (Arr 25 b3 [(.int .i64 ((apD op A B).v)), lv1, nv1, (.int .i64 ((apD op A B).r))])], [(Arr 25 b11 [(Value.int .i64 0), (Value.slice none 0 0), (Value.slice none 0 0), (Value.int .i64 0)])], (perm_idx _ _ [0, 1, 2, 3] rfl rfl), .inl ⟨hV17, [], .refl _⟩, ?_⟩
       refine el1 (i := 6) (by kernel_rfl) ?_
       refine ⟨_, rfl, ?_⟩
       refine ops_call (σa := []) (σr := [(Arr 25 b1 [(.int .i64 A.v), la, na, (.int .i64 A.r)]), (Arr 25 b2 [(.int .i64 B.v), lb, nb, (.int .i64 B.r)]), (Arr 25 b3 [(.int .i64 ((apD op A B).v)), lv1, nv1, (.int .i64 ((apD op A B).r))]), (Arr 25 b11 [(Value.int .i64 0), (Value.slice none 0 0), (Value.slice none 0 0), (Value.int .i64 0)])]) (table_c (A := B) hB hokB (by omega)) rfl rfl (.refl _) (fun r18 V18 sg18 hV18 hp18 => ?_)
       obtain ⟨rfl, hR1⟩ := hp18
       obtain ⟨tr1, htr1⟩ : ∃ x, x = r18 := ⟨_, rfl⟩
       subst htr1
       have hA := hA.mono hV18
       have hB := hB.mono hV18
       have hMt := hMt.mono hV18
       have hR0 := hR0.mono hV18
       refine ops_nil ⟨[(Arr 25 b1 [(.int .i64 A.v), la, na, (.int .i64 A.r)]), (Arr 25 b2 [(.int .i64 B.v), lb, nb, (.int .i64 B.r)]), (Arr 25 b3 [(.int .i64 ((apD op A B).v)), lv1, nv1, (.int .i64 ((apD op A B).r))])], [(Arr 25 b11 [(Value.int .i64 0), (Value.slice none 0 0), (Value.slice none 0 0), (Value.int .i64 0)])], (perm_idx _ _ [0, 1, 2, 3] rfl rfl), .inl ⟨hV18, [], .refl _⟩, ?_⟩
       refine el1 (i := 7) (by kernel_rfl) ?_
       refine ⟨_, rfl, ?_⟩
       refine ops_call (σa := []) (σr := [(Arr 25 b1 [(.int .i64 A.v), la, na, (.int .i64 A.r)]), (Arr 25 b2 [(.int .i64 B.v), lb, nb, (.int .i64 B.r)]), (Arr 25 b3 [(.int .i64 ((apD op A B).v)), lv1, nv1, (.int .i64 ((apD op A B).r))]), (Arr 25 b11 [(Value.int .i64 0), (Value.slice none 0 0), (Value.slice none 0 0), (Value.int .i64 0)])]) (combined_c (vars := A.v) (op := op) (g1 := vl A) (g2 := vl B) hR0 (by rw [← hTB]; exact hR1) hokA.1.1 (by omega) (by omega) (by omega) (fun e => vl_in hokA e) (fun e => vl_in hokB e)) rfl rfl (.refl _) (fun r19 V19 sg19 hV19 hp19 => ?_)
       obtain ⟨rfl, lv1b, nv1b, rfl, hMtb⟩ := hp19
       have hA := hA.mono hV19
       have hB := hB.mono hV19
       have hMt := hMt.mono hV19
       have hR0 := hR0.mono hV19
       have hR1 := hR1.mono hV19
       refine ops_nil ⟨[(Arr 25 b1 [(.int .i64 A.v), la, na, (.int .i64 A.r)]), (Arr 25 b2 [(.int .i64 B.v), lb, nb, (.int .i64 B.r)]), (Arr 25 b3 [(.int .i64 ((apD op A B).v)), lv1, nv1, (.int .i64 ((apD op A B).r))])], [(Arr 25 b11 [(Value.int .i64 0), (Value.slice none 0 0), (Value.slice none 0 0), (Value.int .i64 0)])], (perm_idx _ _ [0, 1, 2, 3] rfl rfl), .inl ⟨hV19, [], .refl _⟩, ?_⟩
       refine eq_ (i := 8) (by kernel_rfl) rfl (qv_mv (.tuple #[(.agg #[(.int .i64 ((mkD A.v (tabv A.v fun e => opV op (vl A e) (vl B e))).v)), lv1b, nv1b, (.int .i64 ((mkD A.v (tabv A.v fun e => opV op (vl A e) (vl B e))).r))]), (.int .i64 (mkE A.v (tabv A.v fun e => opV op (vl A e) (vl B e))))]) rfl) ?_
       refine eq_ (i := 9) (by kernel_rfl) rfl (qv_ext (.agg #[(.int .i64 ((mkD A.v (tabv A.v fun e => opV op (vl A e) (vl B e))).v)), lv1b, nv1b, (.int .i64 ((mkD A.v (tabv A.v fun e => opV op (vl A e) (vl B e))).r))]) rfl rfl) ?_
       refine eq_ (i := 10) (by kernel_rfl) rfl (qv_ext (.int .i64 (mkE A.v (tabv A.v fun e => opV op (vl A e) (vl B e)))) rfl rfl) ?_
       refine el1 (i := 12) (by kernel_rfl) ?_
       refine ⟨_, rfl, ?_⟩
       refine ops_stw (k := 3) (vs := [(.int .i64 ((mkD A.v (tabv A.v fun e => opV op (vl A e) (vl B e))).v)), lv1b, nv1b, (.int .i64 ((mkD A.v (tabv A.v fun e => opV op (vl A e) (vl B e))).r))]) Tryz.size25 rfl rfl rfl (allc rfl (allc (Sl.one hMtb.l) (allc (SlS.one hMtb.n) (allc rfl rfl)))) rfl rfl ?_
       refine ops_nil ⟨[(Arr 25 b1 [(.int .i64 A.v), la, na, (.int .i64 A.r)]), (Arr 25 b2 [(.int .i64 B.v), lb, nb, (.int .i64 B.r)]), (Arr 25 b3 [(.int .i64 ((apD op A B).v)), lv1, nv1, (.int .i64 ((apD op A B).r))])], [(Arr 25 b11 [(.int .i64 ((mkD A.v (tabv A.v fun e => opV op (vl A e) (vl B e))).v)), lv1b, nv1b, (.int .i64 ((mkD A.v (tabv A.v fun e => opV op (vl A e) (vl B e))).r))])], (perm_idx _ _ [0, 1, 2, 3] rfl rfl), .inl ⟨(Sub.refl _), [], .refl _⟩, ?_⟩
       refine eq_ (i := 13) (by kernel_rfl) rfl (qv_as (.int .i64 (mkE A.v (tabv A.v fun e => opV op (vl A e) (vl B e)))) rfl) ?_
       refine enil (σ' := [(Arr 25 b1 [(.int .i64 A.v), la, na, (.int .i64 A.r)]), (Arr 25 b2 [(.int .i64 B.v), lb, nb, (.int .i64 B.r)]), (Arr 25 b3 [(.int .i64 ((apD op A B).v)), lv1, nv1, (.int .i64 ((apD op A B).r))]), (Arr 25 b11 [(.int .i64 ((mkD A.v (tabv A.v fun e => opV op (vl A e) (vl B e))).v)), lv1b, nv1b, (.int .i64 ((mkD A.v (tabv A.v fun e => opV op (vl A e) (vl B e))).r))])]) (by kernel_rfl) (perm_idx _ _ [0, 1, 2, 3] rfl rfl) ⟨(b11, lv1b, nv1b), ⟨rfl, rfl, rfl, rfl, rfl, rfl, rfl, rfl, rfl, rfl, rfl, rfl, rfl, rfl, trivial⟩, (hV17.trans (hV18.trans hV19)), rfl, hMtb⟩
     rintro ⟨z10, lv1b, nv1b⟩ e2 Vj2 σj2 hJ2
     obtain ⟨hSVj2, rfl, hMtb⟩ : Vc.Sub V1 Vj2 ∧ [(Arr 25 b1 [(.int .i64 A.v), la, na, (.int .i64 A.r)]), (Arr 25 b2 [(.int .i64 B.v), lb, nb, (.int .i64 B.r)]), (Arr 25 b3 [(.int .i64 ((apD op A B).v)), lv1, nv1, (.int .i64 ((apD op A B).r))]), (Arr 25 z10 [(.int .i64 ((mkD A.v (tabv A.v fun e => opV op (vl A e) (vl B e))).v)), lv1b, nv1b, (.int .i64 ((mkD A.v (tabv A.v fun e => opV op (vl A e) (vl B e))).r))])] = σj2 ∧ Mt Vj2 lv1b nv1b (mkD A.v (tabv A.v fun e => opV op (vl A e) (vl B e))) := hJ2
     change VC _ _ _ _ _ _ (upds 64 [(0, (Value.int .i64 op)), (1, (.agg #[(.int .i64 A.v), la, na, (.int .i64 A.r)])), (2, (.agg #[(.int .i64 B.v), lb, nb, (.int .i64 B.r)])), (4, (Value.pointer (some ⟨b1, 0, none⟩))), (5, (Value.pointer (some ⟨b2, 0, none⟩))), (6, (Value.bool false)), (7, (Value.pointer (some ⟨b3, 0, none⟩))), (8, (.int .i64 (apE op A B))), (9, (.int .i64 (mkE A.v (tabv A.v fun e => opV op (vl A e) (vl B e))))), (10, (Value.pointer (some ⟨z10, 0, none⟩))), (12, (Value.bool false)), (20, (.bool (decide (¬ (fewP B ∧ (¬ chkC B = 0 ∨ B.v ≤ 8)))))), (40, (Value.bool false)), (42, (.bool (decide ((vE [A, B]) ≠ 0))))] e2) _ _
     have hA := hA.mono hSVj2
     have hB := hB.mono hSVj2
     have hMt := hMt.mono hSVj2
     refine vc_seq ?_
     have hi := ap_0 (A := A) (B := B) (op := op) hz (by omega)
     refine vc_region ?_
     refine oq (qv_ldm (vs := [(.int .i64 ((apD op A B).v)), lv1, nv1, (.int .i64 ((apD op A B).r))]) Tryz.agg25 rfl (inOc (k := 2) rfl) rfl rfl) ?_
     refine oq (qv_mv (.int .i64 (apE op A B)) rfl) ?_
     refine oq (qv_ldm (vs := [(.int .i64 ((mkD A.v (tabv A.v fun e => opV op (vl A e) (vl B e))).v)), lv1b, nv1b, (.int .i64 ((mkD A.v (tabv A.v fun e => opV op (vl A e) (vl B e))).r))]) Tryz.agg25 rfl (inOc (k := 3) rfl) rfl rfl) ?_
     refine oq (qv_mv (.int .i64 (mkE A.v (tabv A.v fun e => opV op (vl A e) (vl B e)))) rfl) ?_
     refine oq (qv_call (v := (.bool (decide ((apE op A B) = (mkE A.v (tabv A.v fun e => opV op (vl A e) (vl B e))) ∧ (apD op A B) = (mkD A.v (tabv A.v fun e => opV op (vl A e) (vl B e))))))) (is_c (A := (apD op A B)) (B := (mkD A.v (tabv A.v fun e => opV op (vl A e) (vl B e)))) (ee := (apE op A B)) (cc := (mkE A.v (tabv A.v fun e => opV op (vl A e) (vl B e)))) hMt hMtb) rfl rfl) ?_
     refine oq (qv_as (.bool (decide ((apE op A B) = (mkE A.v (tabv A.v fun e => opV op (vl A e) (vl B e))) ∧ (apD op A B) = (mkD A.v (tabv A.v fun e => opV op (vl A e) (vl B e)))))) rfl) ?_
     refine ops_nil ?_
     refine vc_ret ?_
     exact rq1 (Value.bool true) (congrArg Value.bool (decide_eq_true (show ((apE op A B) = (mkE A.v (tabv A.v fun e => opV op (vl A e) (vl B e))) ∧ (apD op A B) = (mkD A.v (tabv A.v fun e => opV op (vl A e) (vl B e)))) from by first | exact hi | (exfalso; omega)))) rfl

end Go.Proofs.YtkmhjcjpohpiaaaGreat
