import Derived.Test.YtkmhjcjpohpiaaaGreatRb
import Derived.Test.YtkmhjcjpohpiaaaGreatMv
import Derived.Test.YtkmhjcjpohpiaaaGreatMn
import Derived.Test.YtkmhjcjpohpiaaaGreatMu
import Derived.Test.YtkmhjcjpohpiaaaGreatMtN
/- Walks of mtbdd: what each function returns. Printed by a program out of notes. -/
namespace Go.Proofs.YtkmhjcjpohpiaaaGreat
open Go.Vc
open Classical

set_option maxRecDepth 100000 in
set_option maxHeartbeats 4000000 in
theorem Chooses_c {V : HV} {nc : Value} {cv cr : Int} {cN : List Fk} (hC : Fks V nc cN) {la na : Value} {A : Mg} (hA : Mt V la na A) {lb nb : Value} {B : Mg} (hB : Mt V lb nb B) :
    FnC Tryz.prog 5 [(.agg #[(Value.int .i64 cv), nc, (Value.int .i64 cr)]), (.agg #[(.int .i64 A.v), la, na, (.int .i64 A.r)]), (.agg #[(.int .i64 B.v), lb, nb, (.int .i64 B.r)])] V [] (fun v _ _ => v = (Value.bool true)) := by
 refine fn_intro (N := 115) Tryz.func5 (by kernel_rfl) rfl rfl rfl (Nat.le_of_ble_eq_true rfl) ?_
 intro w0 D
 have hbl := Ints.bound hA.l
 have hbn := SlS.bound hA.n
 have hbc := SlS.bound hC
 refine vc_seq ?_
 refine vc_region ?_
 refine ops_box (v := (.agg #[(Value.int .i64 cv), nc, (Value.int .i64 cr)])) (cs := [(Value.int .i64 cv), nc, (Value.int .i64 cr)]) rfl rfl (fun b1 => ?_)
 refine ops_box (v := (.agg #[(.int .i64 A.v), la, na, (.int .i64 A.r)])) (cs := [(.int .i64 A.v), la, na, (.int .i64 A.r)]) rfl rfl (fun b2 => ?_)
 refine ops_box (v := (.agg #[(.int .i64 B.v), lb, nb, (.int .i64 B.r)])) (cs := [(.int .i64 B.v), lb, nb, (.int .i64 B.r)]) rfl rfl (fun b3 => ?_)
 refine oq (qv_as (Value.bool false) rfl) ?_
 refine ops_nil ?_
 refine vc_seq ?_
 refine vc_seq ?_
 let ζ1 : Asrt := Arr 55 b1 [(Value.int .i64 cv), nc, (Value.int .i64 cr)]
 let ζ2 : Asrt := Arr 25 b2 [(.int .i64 A.v), la, na, (.int .i64 A.r)]
 let ζ3 : Asrt := Arr 25 b3 [(.int .i64 B.v), lb, nb, (.int .i64 B.r)]
 refine vc_res (σ' := [ζ1, ζ2, ζ3]) rfl ?_
 refine vc_region ?_
 refine oq (qv_call (v := (Value.bool true)) (known_c) rfl rfl) ?_
 refine oq (qv_notc rfl) ?_
 refine ops_nil ?_
 refine vc_ff rfl ?_
 refine vc_skip ?_
 refine vc_seq ?_
 refine vc_seq ?_
 refine vc_region ?_
 refine oq (qv_ldm (vs := [(.int .i64 A.v), la, na, (.int .i64 A.r)]) Tryz.agg25 rfl (inOc (k := 1) rfl) rfl rfl) ?_
 refine oq (qv_call (v := (.bool (decide (fewP A ∧ (¬ chkC A = 0 ∨ A.v ≤ 8))))) (small_c hA) rfl rfl) ?_
 refine oq (qv_not rfl) ?_
 refine oq (qv_mv (.bool (decide (¬ (fewP A ∧ (¬ chkC A = 0 ∨ A.v ≤ 8))))) rfl) ?_
 by_cases g1 : ¬ (fewP A ∧ (¬ chkC A = 0 ∨ A.v ≤ 8))
 ·
  refine os (want_fn g1 rfl rfl rfl) ?_
  refine os (want_fn g1 rfl rfl rfl) ?_
  refine os (want_fn g1 rfl rfl rfl) ?_
  refine oq (qv_pick_t g1 rfl (rfl : ev _ _ = (Value.bool true))) ?_
  refine oq (qv_mv (Value.bool true) rfl) ?_
  refine os (want_fnc rfl rfl rfl) ?_
  refine os (want_fnc rfl rfl rfl) ?_
  refine os (want_fnc rfl rfl rfl) ?_
  refine os (want_fnc rfl rfl rfl) ?_
  refine oq (qv_pick_tc rfl (rfl : ev _ _ = (Value.bool true))) ?_
  refine oq (qv_mv (Value.bool true) rfl) ?_
  refine os (want_fnc rfl rfl rfl) ?_
  refine os (want_fnc rfl rfl rfl) ?_
  refine os (want_fnc rfl rfl rfl) ?_
  refine os (want_fnc rfl rfl rfl) ?_
  refine os (want_u rfl rfl rfl) ?_
  refine os (want_u rfl rfl rfl) ?_
  refine os (want_u rfl rfl rfl) ?_
  refine os (want_fnc rfl rfl rfl) ?_
  refine oq (qv_pick_tc rfl (rfl : ev _ _ = (Value.bool true))) ?_
  refine ops_nil ?_
  refine vc_tt rfl ?_
  refine vc_seq ?_
  refine vc_region ?_
  refine oq (qv_as (Value.bool true) rfl) ?_
  refine ops_nil ?_
  refine vc_drop [] [ζ1, ζ2, ζ3] (.refl _) ?_
  refine vc_ret ?_
  exact rq1 (Value.bool true) rfl rfl
 ·
  refine og (qv_ldm (vs := [(.int .i64 B.v), lb, nb, (.int .i64 B.r)]) Tryz.agg25 rfl (inOc (k := 2) rfl) rfl rfl) (want_f g1 rfl rfl rfl) ?_
  refine og (qv_call (v := (.bool (decide (fewP B ∧ (¬ chkC B = 0 ∨ B.v ≤ 8))))) (small_c hB) rfl rfl) (want_f g1 rfl rfl rfl) ?_
  refine og (qv_not rfl) (want_f g1 rfl rfl rfl) ?_
  refine oq (qv_pick_f g1 rfl (rfl : ev _ _ = (.bool (decide (¬ (fewP B ∧ (¬ chkC B = 0 ∨ B.v ≤ 8))))))) ?_
  refine oq (qv_mv (.bool (decide (¬ (fewP B ∧ (¬ chkC B = 0 ∨ B.v ≤ 8))))) rfl) ?_
  by_cases g2 : ¬ (fewP B ∧ (¬ chkC B = 0 ∨ B.v ≤ 8))
  ·
   refine os (want_fn g2 rfl rfl rfl) ?_
   refine os (want_fn g2 rfl rfl rfl) ?_
   refine os (want_fn g2 rfl rfl rfl) ?_
   refine os (want_fn g2 rfl rfl rfl) ?_
   refine oq (qv_pick_t g2 rfl (rfl : ev _ _ = (Value.bool true))) ?_
   refine oq (qv_mv (Value.bool true) rfl) ?_
   refine os (want_fnc rfl rfl rfl) ?_
   refine os (want_fnc rfl rfl rfl) ?_
   refine os (want_fnc rfl rfl rfl) ?_
   refine os (want_fnc rfl rfl rfl) ?_
   refine os (want_u rfl rfl rfl) ?_
   refine os (want_u rfl rfl rfl) ?_
   refine os (want_u rfl rfl rfl) ?_
   refine os (want_fnc rfl rfl rfl) ?_
   refine oq (qv_pick_tc rfl (rfl : ev _ _ = (Value.bool true))) ?_
   refine ops_nil ?_
   refine vc_tt rfl ?_
   refine vc_seq ?_
   refine vc_region ?_
   refine oq (qv_as (Value.bool true) rfl) ?_
   refine ops_nil ?_
   refine vc_drop [] [ζ1, ζ2, ζ3] (.refl _) ?_
   refine vc_ret ?_
   exact rq1 (Value.bool true) rfl rfl
  ·
   refine og (qv_fa (off := 0) Tryz.field55_1 rfl) (want_f g2 rfl rfl rfl) ?_
   refine og (qv_ldp (v := nc) Tryz.plain23 rfl (inOc (k := 0) rfl) rfl) (want_f g2 rfl rfl rfl) ?_
   refine og (qv_lenSS Tryz.underlying23 rfl hC) (want_f g2 rfl rfl rfl) ?_
   refine og (qv_gtr rfl rfl) (want_f g2 rfl rfl rfl) ?_
   refine oq (qv_pick_f g2 rfl (rfl : ev _ _ = (.bool (decide (300 < ((cN.length : Int))))))) ?_
   refine oq (qv_mv (.bool (decide (300 < ((cN.length : Int))))) rfl) ?_
   by_cases g3 : 300 < ((cN.length : Int))
   ·
    refine os (want_fn g3 rfl rfl rfl) ?_
    refine os (want_fn g3 rfl rfl rfl) ?_
    refine os (want_fn g3 rfl rfl rfl) ?_
    refine os (want_fn g3 rfl rfl rfl) ?_
    refine os (want_u rfl rfl rfl) ?_
    refine os (want_u rfl rfl rfl) ?_
    refine os (want_u rfl rfl rfl) ?_
    refine os (want_fn g3 rfl rfl rfl) ?_
    refine oq (qv_pick_t g3 rfl (rfl : ev _ _ = (Value.bool true))) ?_
    refine ops_nil ?_
    refine vc_tt rfl ?_
    refine vc_seq ?_
    refine vc_region ?_
    refine oq (qv_as (Value.bool true) rfl) ?_
    refine ops_nil ?_
    refine vc_drop [] [ζ1, ζ2, ζ3] (.refl _) ?_
    refine vc_ret ?_
    exact rq1 (Value.bool true) rfl rfl
   ·
    refine og (qv_ldm (vs := [(Value.int .i64 cv), nc, (Value.int .i64 cr)]) Tryz.agg55 rfl (inOc (k := 0) rfl) rfl rfl) (want_f g3 rfl rfl rfl) ?_
    refine og (qv_call (v := (.int .i64 (Bd.chkC cv cN cr))) (Checked27_c hC) rfl rfl) (want_f g3 rfl rfl rfl) ?_
    refine og (qv_eql rfl rfl) (want_f g3 rfl rfl rfl) ?_
    refine og (qv_mv (.bool (decide ((Bd.chkC cv cN cr) = 0))) rfl) (want_f g3 rfl rfl rfl) ?_
    by_cases g4 : (Bd.chkC cv cN cr) = 0
    ·
     refine og (qv_fa (off := 0) Tryz.field55_0 rfl) (want_t g4 rfl rfl rfl) ?_
     refine og (qv_ldp (v := (Value.int .i64 cv)) Tryz.plain3 rfl (inOc (k := 0) rfl) rfl) (want_t g4 rfl rfl rfl) ?_
     refine og (qv_gtr rfl rfl) (want_t g4 rfl rfl rfl) ?_
     refine og (qv_pick_t g4 rfl (rfl : ev _ _ = (.bool (decide (8 < cv))))) (want_f g3 rfl rfl rfl) ?_
     refine oq (qv_pick_f g3 rfl (rfl : ev _ _ = (.bool (decide (8 < cv))))) ?_
     refine ops_nil ?_
     refine vc_if rfl (fun c1 => ?_) (fun c1 => ?_)
     ·
      refine vc_seq ?_
      refine vc_region ?_
      refine oq (qv_as (Value.bool true) rfl) ?_
      refine ops_nil ?_
      refine vc_drop [] [ζ1, ζ2, ζ3] (.refl _) ?_
      refine vc_ret ?_
      exact rq1 (Value.bool true) rfl rfl
     ·
      refine vc_skip ?_
      refine vc_seq ?_
      have h8A := Classical.not_not.1 g1
      have h8B := Classical.not_not.1 g2
      have hv12 : Bd.Ok cv cN cr → cv ≤ 12 := fun q => by have hq := Bd.chk_0 q; omega
      refine vc_region ?_
      refine oq (qv_ldm (vs := [(Value.int .i64 cv), nc, (Value.int .i64 cr)]) Tryz.agg55 rfl (inOc (k := 0) rfl) rfl rfl) ?_
      refine oq (qv_ldm (vs := [(.int .i64 A.v), la, na, (.int .i64 A.r)]) Tryz.agg25 rfl (inOc (k := 1) rfl) rfl rfl) ?_
      refine oq (qv_ldm (vs := [(.int .i64 B.v), lb, nb, (.int .i64 B.r)]) Tryz.agg25 rfl (inOc (k := 2) rfl) rfl rfl) ?_
      refine ops_call (σa := []) (σr := [ζ1, ζ2, ζ3]) (Choose_c hC hA hB hv12) rfl rfl (.refl _) (fun r1 V1 sg1 hV1 hp1 => ?_)
      obtain ⟨rfl, lv1, nv1, rfl, hMt⟩ := hp1
      have hC := hC.mono hV1
      have hA := hA.mono hV1
      have hB := hB.mono hV1
      let ζ6 : Value := .int .i64 ((chD cv cN cr A B).v)
      let ζ7 : Value := .int .i64 ((chD cv cN cr A B).r)
      let ζ8 : Value := .int .i64 (chE cv cN cr A B)
      refine oq (qv_mv (.tuple #[(.agg #[ζ6, lv1, nv1, ζ7]), ζ8]) rfl) ?_
      refine oq (qv_ext (.agg #[ζ6, lv1, nv1, ζ7]) rfl rfl) ?_
      refine oq (qv_ext ζ8 rfl rfl) ?_
      refine ops_alloc Tryz.ti25 rfl (fun b4 => ?_)
      refine ops_stw (k := 3) (vs := [ζ6, lv1, nv1, ζ7]) Tryz.size25 rfl rfl rfl (allc rfl (allc (Sl.one hMt.l) (allc (SlS.one hMt.n) (allc rfl rfl)))) rfl rfl ?_
      refine oq (qv_as ζ8 rfl) ?_
      refine ops_nil ?_
      refine vc_seq ?_
      refine vc_seq ?_
      let ζ5 : Asrt := Arr 25 b4 [(.int .i64 ((chD cv cN cr A B).v)), lv1, nv1, (.int .i64 ((chD cv cN cr A B).r))]
      refine vc_res (σ' := [ζ1, ζ2, ζ3, ζ5]) rfl ?_
      refine vc_region ?_
      refine oq (qv_ldm (vs := [(Value.int .i64 cv), nc, (Value.int .i64 cr)]) Tryz.agg55 rfl (inOc (k := 0) rfl) rfl rfl) ?_
      refine oq (qv_call (v := (.int .i64 (Bd.chkC cv cN cr))) (Checked27_c hC) rfl rfl) ?_
      refine oq (qv_neq rfl rfl) ?_
      refine oq (qv_mv (.bool (decide ((Bd.chkC cv cN cr) ≠ 0))) rfl) ?_
      by_cases g5 : (Bd.chkC cv cN cr) ≠ 0
      ·
       refine os (want_fn g5 rfl rfl rfl) ?_
       refine os (want_fn g5 rfl rfl rfl) ?_
       refine os (want_fn g5 rfl rfl rfl) ?_
       refine oq (qv_pick_t g5 rfl (rfl : ev _ _ = (Value.bool true))) ?_
       refine oq (qv_mv (Value.bool true) rfl) ?_
       refine os (want_fnc rfl rfl rfl) ?_
       refine os (want_fnc rfl rfl rfl) ?_
       refine os (want_fnc rfl rfl rfl) ?_
       refine oq (qv_pick_tc rfl (rfl : ev _ _ = (Value.bool true))) ?_
       refine ops_nil ?_
       refine vc_tt rfl ?_
       refine vc_seq ?_
       refine vc_region ?_
       refine oq (qv_ldm (vs := [ζ6, lv1, nv1, ζ7]) Tryz.agg25 rfl (inOc (k := 3) rfl) rfl rfl) ?_
       refine oq (qv_mv ζ8 rfl) ?_
       refine oq (qv_build (out := [(Value.int .i64 0), (Value.slice none 0 0), (Value.slice none 0 0), (Value.int .i64 0)]) Tryz.build25 [] rfl rfl) ?_
       let ζ9 : Value := .bool (decide ((chE cv cN cr A B) = 1 ∧ (chD cv cN cr A B) = zM))
       refine oq (qv_call (v := ζ9) (is_c (A := (chD cv cN cr A B)) (B := zM) (ee := (chE cv cN cr A B)) (cc := 1) hMt Mt.nil) rfl rfl) ?_
       refine oq (qv_as ζ9 rfl) ?_
       refine ops_nil ?_
       refine vc_drop [] [ζ1, ζ2, ζ3, ζ5] (.refl _) ?_
       refine vc_ret ?_
       exact rq1 (Value.bool true) (congrArg Value.bool (decide_eq_true (show ((chE cv cN cr A B) = 1 ∧ (chD cv cN cr A B) = zM) from by exact ch_bad hv12 (by first | exact .inl (by assumption) | exact .inr (.inl (by assumption)) | exact .inr (.inr (by assumption)))))) rfl
      ·
       refine og (qv_ldm (vs := [(.int .i64 A.v), la, na, (.int .i64 A.r)]) Tryz.agg25 rfl (inOc (k := 1) rfl) rfl rfl) (want_f g5 rfl rfl rfl) ?_
       refine og (qv_call (v := (.int .i64 (chkC A))) (check_c hA) rfl rfl) (want_f g5 rfl rfl rfl) ?_
       refine og (qv_neq rfl rfl) (want_f g5 rfl rfl rfl) ?_
       refine oq (qv_pick_f g5 rfl (rfl : ev _ _ = (.bool (decide ((chkC A) ≠ 0))))) ?_
       refine oq (qv_mv (.bool (decide ((chkC A) ≠ 0))) rfl) ?_
       by_cases g6 : (chkC A) ≠ 0
       ·
        refine os (want_fn g6 rfl rfl rfl) ?_
        refine os (want_fn g6 rfl rfl rfl) ?_
        refine os (want_fn g6 rfl rfl rfl) ?_
        refine oq (qv_pick_t g6 rfl (rfl : ev _ _ = (Value.bool true))) ?_
        refine ops_nil ?_
        refine vc_tt rfl ?_
        refine vc_seq ?_
        refine vc_region ?_
        refine oq (qv_ldm (vs := [ζ6, lv1, nv1, ζ7]) Tryz.agg25 rfl (inOc (k := 3) rfl) rfl rfl) ?_
        refine oq (qv_mv ζ8 rfl) ?_
        refine oq (qv_build (out := [(Value.int .i64 0), (Value.slice none 0 0), (Value.slice none 0 0), (Value.int .i64 0)]) Tryz.build25 [] rfl rfl) ?_
        let ζ9 : Value := .bool (decide ((chE cv cN cr A B) = 1 ∧ (chD cv cN cr A B) = zM))
        refine oq (qv_call (v := ζ9) (is_c (A := (chD cv cN cr A B)) (B := zM) (ee := (chE cv cN cr A B)) (cc := 1) hMt Mt.nil) rfl rfl) ?_
        refine oq (qv_as ζ9 rfl) ?_
        refine ops_nil ?_
        refine vc_drop [] [ζ1, ζ2, ζ3, ζ5] (.refl _) ?_
        refine vc_ret ?_
        exact rq1 (Value.bool true) (congrArg Value.bool (decide_eq_true (show ((chE cv cN cr A B) = 1 ∧ (chD cv cN cr A B) = zM) from by exact ch_bad hv12 (by first | exact .inl (by assumption) | exact .inr (.inl (by assumption)) | exact .inr (.inr (by assumption)))))) rfl
       ·
        refine og (qv_ldm (vs := [(.int .i64 B.v), lb, nb, (.int .i64 B.r)]) Tryz.agg25 rfl (inOc (k := 2) rfl) rfl rfl) (want_f g6 rfl rfl rfl) ?_
        refine og (qv_call (v := (.int .i64 (chkC B))) (check_c hB) rfl rfl) (want_f g6 rfl rfl rfl) ?_
        refine og (qv_neq rfl rfl) (want_f g6 rfl rfl rfl) ?_
        refine oq (qv_pick_f g6 rfl (rfl : ev _ _ = (.bool (decide ((chkC B) ≠ 0))))) ?_
        refine ops_nil ?_
        refine vc_if rfl (fun c2 => ?_) (fun c2 => ?_)
        ·
         refine vc_seq ?_
         refine vc_region ?_
         refine oq (qv_ldm (vs := [ζ6, lv1, nv1, ζ7]) Tryz.agg25 rfl (inOc (k := 3) rfl) rfl rfl) ?_
         refine oq (qv_mv ζ8 rfl) ?_
         refine oq (qv_build (out := [(Value.int .i64 0), (Value.slice none 0 0), (Value.slice none 0 0), (Value.int .i64 0)]) Tryz.build25 [] rfl rfl) ?_
         let ζ9 : Value := .bool (decide ((chE cv cN cr A B) = 1 ∧ (chD cv cN cr A B) = zM))
         refine oq (qv_call (v := ζ9) (is_c (A := (chD cv cN cr A B)) (B := zM) (ee := (chE cv cN cr A B)) (cc := 1) hMt Mt.nil) rfl rfl) ?_
         refine oq (qv_as ζ9 rfl) ?_
         refine ops_nil ?_
         refine vc_drop [] [ζ1, ζ2, ζ3, ζ5] (.refl _) ?_
         refine vc_ret ?_
         exact rq1 (Value.bool true) (congrArg Value.bool (decide_eq_true (show ((chE cv cN cr A B) = 1 ∧ (chD cv cN cr A B) = zM) from by exact ch_bad hv12 (by first | exact .inl (by assumption) | exact .inr (.inl (by assumption)) | exact .inr (.inr (by assumption)))))) rfl
        ·
         refine vc_skip ?_
         refine vc_seq ?_
         refine vc_seq ?_
         have hbok : Bd.Ok cv cN cr := Bd.chk_ok.1 (by omega)
         have hcv8 := hv12 hbok
         have hokA := chk_ok.1 (by omega : chkC A = 0)
         have hokB := chk_ok.1 (by omega : chkC B = 0)
         refine vc_region ?_
         refine oq (qv_fa (off := 0) Tryz.field55_0 rfl) ?_
         refine oq (qv_ldp (v := (Value.int .i64 cv)) Tryz.plain3 rfl (inOc (k := 0) rfl) rfl) ?_
         refine oq (qv_fa (off := 0) Tryz.field25_0 rfl) ?_
         refine oq (qv_ldp (v := (.int .i64 A.v)) Tryz.plain3 rfl (inOc (k := 1) rfl) rfl) ?_
         refine oq (qv_neq rfl rfl) ?_
         refine oq (qv_mv (.bool (decide (cv ≠ A.v))) rfl) ?_
         by_cases g7 : cv ≠ A.v
         ·
          refine os (want_fn g7 rfl rfl rfl) ?_
          refine os (want_fn g7 rfl rfl rfl) ?_
          refine os (want_fn g7 rfl rfl rfl) ?_
          refine os (want_fn g7 rfl rfl rfl) ?_
          refine os (want_fn g7 rfl rfl rfl) ?_
          refine oq (qv_pick_t g7 rfl (rfl : ev _ _ = (Value.bool true))) ?_
          refine ops_nil ?_
          refine vc_tt rfl ?_
          refine vc_seq ?_
          refine vc_region ?_
          refine oq (qv_ldm (vs := [ζ6, lv1, nv1, ζ7]) Tryz.agg25 rfl (inOc (k := 3) rfl) rfl rfl) ?_
          refine oq (qv_mv ζ8 rfl) ?_
          refine oq (qv_build (out := [(Value.int .i64 0), (Value.slice none 0 0), (Value.slice none 0 0), (Value.int .i64 0)]) Tryz.build25 [] rfl rfl) ?_
          let ζ10 : Value := .bool (decide ((chE cv cN cr A B) = 2 ∧ (chD cv cN cr A B) = zM))
          refine oq (qv_call (v := ζ10) (is_c (A := (chD cv cN cr A B)) (B := zM) (ee := (chE cv cN cr A B)) (cc := 2) hMt Mt.nil) rfl rfl) ?_
          refine oq (qv_as ζ10 rfl) ?_
          refine ops_nil ?_
          refine vc_drop [] [ζ1, ζ2, ζ3, ζ5] (.refl _) ?_
          refine vc_ret ?_
          exact rq1 (Value.bool true) (congrArg Value.bool (decide_eq_true (show ((chE cv cN cr A B) = 2 ∧ (chD cv cN cr A B) = zM) from by exact ch_mis hbok hcv8 hokA hokB (by first | exact .inl (by assumption) | exact .inr (by assumption))))) rfl
         ·
          refine og (qv_fa (off := 0) Tryz.field25_0 rfl) (want_f g7 rfl rfl rfl) ?_
          refine og (qv_ldp (v := (.int .i64 A.v)) Tryz.plain3 rfl (inOc (k := 1) rfl) rfl) (want_f g7 rfl rfl rfl) ?_
          refine og (qv_fa (off := 0) Tryz.field25_0 rfl) (want_f g7 rfl rfl rfl) ?_
          refine og (qv_ldp (v := (.int .i64 B.v)) Tryz.plain3 rfl (inOc (k := 2) rfl) rfl) (want_f g7 rfl rfl rfl) ?_
          refine og (qv_neq rfl rfl) (want_f g7 rfl rfl rfl) ?_
          refine oq (qv_pick_f g7 rfl (rfl : ev _ _ = (.bool (decide (A.v ≠ B.v))))) ?_
          refine ops_nil ?_
          refine vc_if rfl (fun c3 => ?_) (fun c3 => ?_)
          ·
           refine vc_seq ?_
           refine vc_region ?_
           refine oq (qv_ldm (vs := [ζ6, lv1, nv1, ζ7]) Tryz.agg25 rfl (inOc (k := 3) rfl) rfl rfl) ?_
           refine oq (qv_mv ζ8 rfl) ?_
           refine oq (qv_build (out := [(Value.int .i64 0), (Value.slice none 0 0), (Value.slice none 0 0), (Value.int .i64 0)]) Tryz.build25 [] rfl rfl) ?_
           let ζ10 : Value := .bool (decide ((chE cv cN cr A B) = 2 ∧ (chD cv cN cr A B) = zM))
           refine oq (qv_call (v := ζ10) (is_c (A := (chD cv cN cr A B)) (B := zM) (ee := (chE cv cN cr A B)) (cc := 2) hMt Mt.nil) rfl rfl) ?_
           refine oq (qv_as ζ10 rfl) ?_
           refine ops_nil ?_
           refine vc_drop [] [ζ1, ζ2, ζ3, ζ5] (.refl _) ?_
           refine vc_ret ?_
           exact rq1 (Value.bool true) (congrArg Value.bool (decide_eq_true (show ((chE cv cN cr A B) = 2 ∧ (chD cv cN cr A B) = zM) from by exact ch_mis hbok hcv8 hokA hokB (by first | exact .inl (by assumption) | exact .inr (by assumption))))) rfl
          ·
           refine vc_skip ?_
           refine vc_seq ?_
           have hcA : cv = A.v := by omega
           have hAB : A.v = B.v := by omega
           have hv0 := hokA.1.1
           have hl1 : ((vT A).length : Int) = 2 ^ cv.toNat := by rw [hcA]; exact tabv_lenI hv0
           have hl2 : ((vT B).length : Int) = 2 ^ cv.toNat := by rw [hcA, hAB]; exact tabv_lenI (hAB ▸ hv0)
           have hl3 := Bd.tbD_lenI ⟨cv, cN, cr⟩
           have hl3 : ((Bd.tbD ⟨cv, cN, cr⟩).length : Int) = 2 ^ cv.toNat := hl3
           have hpw8 := pow2_12 (n := cv.toNat) (by omega)
           refine vc_nil 3 1 ?_
           refine vc_region ?_
           refine oq (qv_as (Value.slice none 0 0) rfl) ?_
           refine ops_nil ?_
           refine vc_seq ?_
           let ζ14 : Asrt := Gr 3 1 ((Value.slice none 0 0)) 0 ([])
           refine vc_res (σ' := [ζ1, ζ2, ζ3, ζ5, ζ14]) rfl ?_
           refine vc_region_order (τ := []) [(0, false), (2, false), (1, true), (3, true), (4, false), (5, false)] [ζ1, ζ2, ζ3, ζ5, ζ14] Tryz.mixed (perm_nil _) (by kernel_rfl) ?_
           refine rq rfl (qv_ldm (vs := [(.int .i64 A.v), la, na, (.int .i64 A.r)]) Tryz.agg25 rfl (inOc (k := 1) rfl) rfl rfl) ?_
           refine rq rfl (qv_ldm (vs := [(.int .i64 B.v), lb, nb, (.int .i64 B.r)]) Tryz.agg25 rfl (inOc (k := 2) rfl) rfl rfl) ?_
           refine rl rfl ?_
           refine ops_call (σa := []) (σr := [ζ1, ζ2, ζ3, ζ5, ζ14]) (table_c (A := A) hA hokA (by omega)) rfl rfl (.refl _) (fun r2 V2 sg2 hV2 hp2 => ?_)
           obtain ⟨rfl, hR0⟩ := hp2
           obtain ⟨tr0, htr0⟩ : ∃ x, x = r2 := ⟨_, rfl⟩
           subst ζ1 ζ2 ζ3 ζ6 ζ7 ζ8 ζ5 ζ14
           subst htr0
           have hC := hC.mono hV2
           have hA := hA.mono hV2
           have hB := hB.mono hV2
           have hMt := hMt.mono hV2
           let ζ1 : Asrt := Arr 55 b1 [(Value.int .i64 cv), nc, (Value.int .i64 cr)]
           let ζ2 : Asrt := Arr 25 b2 [(.int .i64 A.v), la, na, (.int .i64 A.r)]
           let ζ3 : Asrt := Arr 25 b3 [(.int .i64 B.v), lb, nb, (.int .i64 B.r)]
           let ζ5 : Asrt := Arr 25 b4 [(.int .i64 ((chD cv cN cr A B).v)), lv1, nv1, (.int .i64 ((chD cv cN cr A B).r))]
           let ζ14 : Asrt := Gr 3 1 ((Value.slice none 0 0)) 0 ([])
           refine ops_nil ⟨[ζ1, ζ2, ζ3, ζ5, ζ14], [], hV2, perm_nil _, ⟨[], (.refl _)⟩, ?_⟩
           refine rl rfl ?_
           refine ops_call (σa := []) (σr := [ζ1, ζ2, ζ3, ζ5, ζ14]) (table_c (A := B) hB hokB (by omega)) rfl rfl (.refl _) (fun r3 V3 sg3 hV3 hp3 => ?_)
           obtain ⟨rfl, hR1⟩ := hp3
           obtain ⟨tr1, htr1⟩ : ∃ x, x = r3 := ⟨_, rfl⟩
           subst ζ1 ζ2 ζ3 ζ5 ζ14
           subst htr1
           have hC := hC.mono hV3
           have hA := hA.mono hV3
           have hB := hB.mono hV3
           have hMt := hMt.mono hV3
           have hR0 := hR0.mono hV3
           let ζ1 : Asrt := Arr 55 b1 [(Value.int .i64 cv), nc, (Value.int .i64 cr)]
           let ζ2 : Asrt := Arr 25 b2 [(.int .i64 A.v), la, na, (.int .i64 A.r)]
           let ζ3 : Asrt := Arr 25 b3 [(.int .i64 B.v), lb, nb, (.int .i64 B.r)]
           let ζ5 : Asrt := Arr 25 b4 [(.int .i64 ((chD cv cN cr A B).v)), lv1, nv1, (.int .i64 ((chD cv cN cr A B).r))]
           let ζ14 : Asrt := Gr 3 1 ((Value.slice none 0 0)) 0 ([])
           refine ops_nil ⟨[ζ1, ζ2, ζ3, ζ5, ζ14], [], hV3, perm_nil _, ⟨[], (.refl _)⟩, ?_⟩
           refine rq rfl (qv_as tr0 rfl) ?_
           refine rq rfl (qv_as tr1 rfl) ?_
           refine rnil ?_
           refine vc_seq ?_
           refine vc_seq ?_
           refine vc_region ?_
           refine oq (qv_ldm (vs := [(Value.int .i64 cv), nc, (Value.int .i64 cr)]) Tryz.agg55 rfl (inOc (k := 0) rfl) rfl rfl) ?_
           refine ops_call (σa := []) (σr := [ζ1, ζ2, ζ3, ζ5, ζ14]) (Truths27_c hC hbok hcv8) rfl rfl (.refl _) (fun r4 V4 sg4 hV4 hp4 => ?_)
           obtain ⟨rfl, hTt⟩ := hp4
           obtain ⟨tt, htt⟩ : ∃ x, x = r4 := ⟨_, rfl⟩
           subst ζ1 ζ2 ζ3 ζ5 ζ14
           subst htt
           have hC := hC.mono hV4
           have hA := hA.mono hV4
           have hB := hB.mono hV4
           have hMt := hMt.mono hV4
           have hR0 := hR0.mono hV4
           have hR1 := hR1.mono hV4
           refine oq (qv_lenB Tryz.underlying58 rfl hTt) ?_
           refine oq (qv_mv (Value.int .i64 0) rfl) ?_
           refine ops_nil ?_
           refine vc_block ?_
           let ζ2 : Asrt := Arr 25 b2 [(.int .i64 A.v), la, na, (.int .i64 A.r)]
           let ζ3 : Asrt := Arr 25 b3 [(.int .i64 B.v), lb, nb, (.int .i64 B.r)]
           let ζ5 : Asrt := Arr 25 b4 [(.int .i64 ((chD cv cN cr A B).v)), lv1, nv1, (.int .i64 ((chD cv cN cr A B).r))]
           let ζ8 : Value := .int .i64 (chE cv cN cr A B)
           refine vc_loop (α := Int × Value) (fun (xx : Int × Value) => [(0, (.agg #[(Value.int .i64 cv), nc, (Value.int .i64 cr)])), (1, (.agg #[(.int .i64 A.v), la, na, (.int .i64 A.r)])), (2, (.agg #[(.int .i64 B.v), lb, nb, (.int .i64 B.r)])), (3, (Value.pointer (some ⟨b1, 0, none⟩))), (4, (Value.pointer (some ⟨b2, 0, none⟩))), (5, (Value.pointer (some ⟨b3, 0, none⟩))), (6, (Value.bool false)), (7, (Value.pointer (some ⟨b4, 0, none⟩))), (8, ζ8), (10, tr0), (11, tr1), (15, (Value.bool false)), (39, (.bool (decide (8 < cv)))), (59, (.bool (decide ((chkC B) ≠ 0)))), (75, (.bool (decide (A.v ≠ B.v)))), (85, tt), (86, (.int .i64 ((((Bd.tbD ⟨cv, cN, cr⟩)).length : Int)))), (9, xx.2), (87, (Value.int .i64 xx.1))]) (fun (xx : Int × Value) V' σ' => V4 = V' ∧ [(Arr 55 b1 [(Value.int .i64 cv), nc, (Value.int .i64 cr)]), ζ2, ζ3, ζ5, (Gr 3 1 xx.2 xx.1.toNat ((((chT cv cN cr A B).take xx.1.toNat).map (Value.int .i64))))] = σ' ∧ 0 ≤ xx.1 ∧ xx.1 ≤ (2 : Int) ^ cv.toNat) (fun (xx : Int × Value) => ((2 : Int) ^ cv.toNat - xx.1).toNat) (0, (Value.slice none 0 0)) ?_ ?_ ?_
           · subst ζ2 ζ3 ζ5 ζ8; exact ⟨rfl, rfl, rfl, rfl, rfl, rfl, rfl, rfl, rfl, rfl, rfl, rfl, rfl, rfl, rfl, rfl, rfl, (by first | rfl | (first | omega | simp)), rfl, trivial⟩
           · exact ⟨rfl, (show [(Arr 55 b1 [(Value.int .i64 cv), nc, (Value.int .i64 cr)]), ζ2, ζ3, ζ5, (Gr 3 1 ((Value.slice none 0 0)) (0 : Int).toNat ((((chT cv cN cr A B).take (0 : Int).toNat).map (Value.int .i64))))] = [(Arr 55 b1 [(Value.int .i64 cv), nc, (Value.int .i64 cr)]), ζ2, ζ3, ζ5, (Gr 3 1 ((Value.slice none 0 0)) 0 ([]))] from by rfl), by omega, by omega⟩
           rintro ⟨i, iv⟩ e1 V0l σ0l hI0
           let ζ1 : Asrt := Arr 55 b1 [(Value.int .i64 cv), nc, (Value.int .i64 cr)]
           let ζ15 : Asrt := Gr 3 1 iv i.toNat ((((chT cv cN cr A B).take i.toNat).map (Value.int .i64)))
           obtain ⟨rfl, rfl, i1, i2⟩ : V4 = V0l ∧ [ζ1, ζ2, ζ3, ζ5, ζ15] = σ0l ∧ 0 ≤ i ∧ i ≤ (2 : Int) ^ cv.toNat := hI0
           change VC _ _ _ _ _ _ (upds 115 [(0, (.agg #[(Value.int .i64 cv), nc, (Value.int .i64 cr)])), (1, (.agg #[(.int .i64 A.v), la, na, (.int .i64 A.r)])), (2, (.agg #[(.int .i64 B.v), lb, nb, (.int .i64 B.r)])), (3, (Value.pointer (some ⟨b1, 0, none⟩))), (4, (Value.pointer (some ⟨b2, 0, none⟩))), (5, (Value.pointer (some ⟨b3, 0, none⟩))), (6, (Value.bool false)), (7, (Value.pointer (some ⟨b4, 0, none⟩))), (8, ζ8), (10, tr0), (11, tr1), (15, (Value.bool false)), (39, (.bool (decide (8 < cv)))), (59, (.bool (decide ((chkC B) ≠ 0)))), (75, (.bool (decide (A.v ≠ B.v)))), (85, tt), (86, (.int .i64 ((((Bd.tbD ⟨cv, cN, cr⟩)).length : Int)))), (9, iv), (87, (Value.int .i64 i))] e1) _ _
           refine vc_seq ?_
           refine vc_res (σ' := [ζ1, ζ2, ζ3, ζ5, ζ15]) rfl ?_
           refine vc_region ?_
           refine oq (qv_lss rfl rfl) ?_
           refine ops_nil ?_
           refine vc_seq ?_
           refine vc_if rfl (fun c4 => ?_) (fun c4 => ?_)
           ·
            refine vc_skip ?_
            refine vc_seq ?_
            refine vc_block ?_
            refine vc_seq ?_
            refine vc_region ?_
            refine oq (qv_mv (Value.int .i64 i) rfl) ?_
            refine oq (qv_iab (v := tt) (i := i) Tryz.underlying58 Tryz.size4 rfl (inVb hTt) rfl (by omega) (by omega)) ?_
            refine oq (qv_ldb (v := tt) (i := i) Tryz.plain4 rfl (inVb hTt) (by omega) (by omega)) ?_
            refine oq (qv_as (Value.int .i64 i) rfl) ?_
            let ζ16 : Value := .bool (decide (gb ((Bd.tbD ⟨cv, cN, cr⟩)) (i) = true))
            refine oq (qv_as ζ16 rfl) ?_
            refine ops_nil ?_
            refine vc_seq ?_
            refine vc_region ?_
            refine oq (qv_mv ζ16 rfl) ?_
            refine ops_nil ?_
            refine vc_if rfl (fun c5 => ?_) (fun c5 => ?_)
            ·
             refine vc_region ?_
             refine oq (qv_mv iv rfl) ?_
             refine oq (qv_mv tr0 rfl) ?_
             refine oq (qv_mv (Value.int .i64 i) rfl) ?_
             refine oq (qv_iai (v := tr0) (i := i) Tryz.underlying22 Tryz.size3 rfl (inVi hR0) rfl (by omega) (by omega)) ?_
             refine oq (qv_ldi (v := tr0) (i := i) Tryz.plain3 rfl (inVi hR0) (by omega) (by omega)) ?_
             refine ops_lit (n := 1) (s := 1) (cs := [(.int .i64 (gi ((vT A)) (i)))]) Tryz.underlying22 Tryz.ti3 (Nat.le_of_ble_eq_true rfl) rfl rfl rfl (Nat.le_of_ble_eq_true rfl) rfl (fun b5 => ?_)
             subst ζ2 ζ3 ζ5 ζ8 ζ1 ζ15 ζ16
             refine ops_append (k := 4) (n := i.toNat) (s := 1) (m := 1) (v := iv) (xs := (((chT cv cN cr A B).take i.toNat).map (Value.int .i64))) (news := [(.int .i64 (gi ((vT A)) (i)))]) Tryz.underlying22 Tryz.ti3 rfl (Nat.le_of_ble_eq_true rfl) rfl rfl rfl rfl (news_own (j := 5) rfl) (by simp [Value.oneCell']) (by omega) (by simp only [maxLen]; omega) (fun v1 hn1 => ?_)
             refine oq (qv_as v1 rfl) ?_
             refine ops_nil ?_
             let ζ1 : Asrt := Arr 55 b1 [(Value.int .i64 cv), nc, (Value.int .i64 cr)]
             refine vc_res (σ' := [ζ1, (Arr 25 b2 [(.int .i64 A.v), la, na, (.int .i64 A.r)]), (Arr 25 b3 [(.int .i64 B.v), lb, nb, (.int .i64 B.r)]), (Arr 25 b4 [(.int .i64 ((chD cv cN cr A B).v)), lv1, nv1, (.int .i64 ((chD cv cN cr A B).r))]), (Gr 3 1 v1 ((i.toNat + 1)) (((((chT cv cN cr A B).take i.toNat).map (Value.int .i64)) ++ [(.int .i64 (gi ((vT A)) (i)))]))), (Arr 3 b5 [(.int .i64 (gi ((vT A)) (i)))])]) rfl ?_
             let ζ11 : Value := Value.int .i64 (gi ((vT A)) (i))
             refine vc_drop [ζ1, (Arr 25 b2 [(Value.int .i64 (A.v)), la, na, (Value.int .i64 (A.r))]), (Arr 25 b3 [(Value.int .i64 (B.v)), lb, nb, (Value.int .i64 (B.r))]), (Arr 25 b4 [(Value.int .i64 ((chD cv cN cr A B).v)), lv1, nv1, (Value.int .i64 ((chD cv cN cr A B).r))]), (Gr 3 1 v1 ((i.toNat + 1)) (((((chT cv cN cr A B).take i.toNat).map (Value.int .i64)) ++ [ζ11])))] [(Arr 3 b5 [ζ11])] ((List.perm_middle (l₁ := [ζ1, (Arr 25 b2 [(Value.int .i64 (A.v)), la, na, (Value.int .i64 (A.r))]), (Arr 25 b3 [(Value.int .i64 (B.v)), lb, nb, (Value.int .i64 (B.r))]), (Arr 25 b4 [(Value.int .i64 ((chD cv cN cr A B).v)), lv1, nv1, (Value.int .i64 ((chD cv cN cr A B).r))]), (Gr 3 1 v1 ((i.toNat + 1)) (((((chT cv cN cr A B).take i.toNat).map (Value.int .i64)) ++ [ζ11])))]) (l₂ := [])).trans (List.perm_append_comm (l₁ := [(Arr 3 b5 [ζ11])]))) ?_
             refine vc_region ?_
             refine oq (qv_add rfl rfl (by omega)) ?_
             refine oq (qv_mv (.int .i64 (i + 1)) rfl) ?_
             refine ops_nil ?_
             subst ζ1 ζ11
             refine ⟨(i + 1, v1), ⟨rfl, rfl, rfl, rfl, rfl, rfl, rfl, rfl, rfl, rfl, rfl, rfl, rfl, rfl, rfl, rfl, rfl, rfl, (congrArg (Value.int .i64) (show (i + 1) = ((i + 1)) from by omega)), trivial⟩, ⟨rfl, (show [(Arr 55 b1 [(Value.int .i64 cv), nc, (Value.int .i64 cr)]), (Arr 25 b2 [(.int .i64 A.v), la, na, (.int .i64 A.r)]), (Arr 25 b3 [(.int .i64 B.v), lb, nb, (.int .i64 B.r)]), (Arr 25 b4 [(.int .i64 ((chD cv cN cr A B).v)), lv1, nv1, (.int .i64 ((chD cv cN cr A B).r))]), (Gr 3 1 v1 (i + 1 : Int).toNat ((((chT cv cN cr A B).take (i + 1 : Int).toNat).map (Value.int .i64))))] = [(Arr 55 b1 [(Value.int .i64 cv), nc, (Value.int .i64 cr)]), (Arr 25 b2 [(.int .i64 A.v), la, na, (.int .i64 A.r)]), (Arr 25 b3 [(.int .i64 B.v), lb, nb, (.int .i64 B.r)]), (Arr 25 b4 [(.int .i64 ((chD cv cN cr A B).v)), lv1, nv1, (.int .i64 ((chD cv cN cr A B).r))]), (Gr 3 1 v1 ((i.toNat + 1)) (((((chT cv cN cr A B).take i.toNat).map (Value.int .i64)) ++ [(.int .i64 (gi ((vT A)) (i)))])))] from by rw [chT_take hbok hcv8 hcA hAB (by omega) (by omega), List.map_append, show (i + 1).toNat = i.toNat + 1 by omega] <;> first | (rw [if_pos (by assumption)]; rfl) | (rw [if_neg (by assumption)]; rfl)), by omega, by omega⟩, by omega⟩
            ·
             refine vc_region ?_
             refine oq (qv_mv iv rfl) ?_
             refine oq (qv_mv tr1 rfl) ?_
             refine oq (qv_mv (Value.int .i64 i) rfl) ?_
             refine oq (qv_iai (v := tr1) (i := i) Tryz.underlying22 Tryz.size3 rfl (inVi hR1) rfl (by omega) (by omega)) ?_
             refine oq (qv_ldi (v := tr1) (i := i) Tryz.plain3 rfl (inVi hR1) (by omega) (by omega)) ?_
             refine ops_lit (n := 1) (s := 1) (cs := [(.int .i64 (gi ((vT B)) (i)))]) Tryz.underlying22 Tryz.ti3 (Nat.le_of_ble_eq_true rfl) rfl rfl rfl (Nat.le_of_ble_eq_true rfl) rfl (fun b6 => ?_)
             subst ζ2 ζ3 ζ5 ζ8 ζ1 ζ15 ζ16
             refine ops_append (k := 4) (n := i.toNat) (s := 1) (m := 1) (v := iv) (xs := (((chT cv cN cr A B).take i.toNat).map (Value.int .i64))) (news := [(.int .i64 (gi ((vT B)) (i)))]) Tryz.underlying22 Tryz.ti3 rfl (Nat.le_of_ble_eq_true rfl) rfl rfl rfl rfl (news_own (j := 5) rfl) (by simp [Value.oneCell']) (by omega) (by simp only [maxLen]; omega) (fun v2 hn2 => ?_)
             refine oq (qv_as v2 rfl) ?_
             refine ops_nil ?_
             let ζ1 : Asrt := Arr 55 b1 [(Value.int .i64 cv), nc, (Value.int .i64 cr)]
             refine vc_res (σ' := [ζ1, (Arr 25 b2 [(.int .i64 A.v), la, na, (.int .i64 A.r)]), (Arr 25 b3 [(.int .i64 B.v), lb, nb, (.int .i64 B.r)]), (Arr 25 b4 [(.int .i64 ((chD cv cN cr A B).v)), lv1, nv1, (.int .i64 ((chD cv cN cr A B).r))]), (Gr 3 1 v2 ((i.toNat + 1)) (((((chT cv cN cr A B).take i.toNat).map (Value.int .i64)) ++ [(.int .i64 (gi ((vT B)) (i)))]))), (Arr 3 b6 [(.int .i64 (gi ((vT B)) (i)))])]) rfl ?_
             let ζ12 : Value := Value.int .i64 (gi ((vT B)) (i))
             refine vc_drop [ζ1, (Arr 25 b2 [(Value.int .i64 (A.v)), la, na, (Value.int .i64 (A.r))]), (Arr 25 b3 [(Value.int .i64 (B.v)), lb, nb, (Value.int .i64 (B.r))]), (Arr 25 b4 [(Value.int .i64 ((chD cv cN cr A B).v)), lv1, nv1, (Value.int .i64 ((chD cv cN cr A B).r))]), (Gr 3 1 v2 ((i.toNat + 1)) (((((chT cv cN cr A B).take i.toNat).map (Value.int .i64)) ++ [ζ12])))] [(Arr 3 b6 [ζ12])] ((List.perm_middle (l₁ := [ζ1, (Arr 25 b2 [(Value.int .i64 (A.v)), la, na, (Value.int .i64 (A.r))]), (Arr 25 b3 [(Value.int .i64 (B.v)), lb, nb, (Value.int .i64 (B.r))]), (Arr 25 b4 [(Value.int .i64 ((chD cv cN cr A B).v)), lv1, nv1, (Value.int .i64 ((chD cv cN cr A B).r))]), (Gr 3 1 v2 ((i.toNat + 1)) (((((chT cv cN cr A B).take i.toNat).map (Value.int .i64)) ++ [ζ12])))]) (l₂ := [])).trans (List.perm_append_comm (l₁ := [(Arr 3 b6 [ζ12])]))) ?_
             refine vc_region ?_
             refine oq (qv_add rfl rfl (by omega)) ?_
             refine oq (qv_mv (.int .i64 (i + 1)) rfl) ?_
             refine ops_nil ?_
             subst ζ1 ζ12
             refine ⟨(i + 1, v2), ⟨rfl, rfl, rfl, rfl, rfl, rfl, rfl, rfl, rfl, rfl, rfl, rfl, rfl, rfl, rfl, rfl, rfl, rfl, (congrArg (Value.int .i64) (show (i + 1) = ((i + 1)) from by omega)), trivial⟩, ⟨rfl, (show [(Arr 55 b1 [(Value.int .i64 cv), nc, (Value.int .i64 cr)]), (Arr 25 b2 [(.int .i64 A.v), la, na, (.int .i64 A.r)]), (Arr 25 b3 [(.int .i64 B.v), lb, nb, (.int .i64 B.r)]), (Arr 25 b4 [(.int .i64 ((chD cv cN cr A B).v)), lv1, nv1, (.int .i64 ((chD cv cN cr A B).r))]), (Gr 3 1 v2 (i + 1 : Int).toNat ((((chT cv cN cr A B).take (i + 1 : Int).toNat).map (Value.int .i64))))] = [(Arr 55 b1 [(Value.int .i64 cv), nc, (Value.int .i64 cr)]), (Arr 25 b2 [(.int .i64 A.v), la, na, (.int .i64 A.r)]), (Arr 25 b3 [(.int .i64 B.v), lb, nb, (.int .i64 B.r)]), (Arr 25 b4 [(.int .i64 ((chD cv cN cr A B).v)), lv1, nv1, (.int .i64 ((chD cv cN cr A B).r))]), (Gr 3 1 v2 ((i.toNat + 1)) (((((chT cv cN cr A B).take i.toNat).map (Value.int .i64)) ++ [(.int .i64 (gi ((vT B)) (i)))])))] from by rw [chT_take hbok hcv8 hcA hAB (by omega) (by omega), List.map_append, show (i + 1).toNat = i.toNat + 1 by omega] <;> first | (rw [if_pos (by assumption)]; rfl) | (rw [if_neg (by assumption)]; rfl)), by omega, by omega⟩, by omega⟩
           ·
            refine vc_exit ?_
            refine blockQ_hit ?_
            refine vc_seq ?_
            refine vc_freezeG (v := iv) (E := 3) (n := i.toNat) (xs := (((chT cv cN cr A B).take i.toNat).map (Value.int .i64))) (σr := [ζ1, (Arr 25 b2 [(Value.int .i64 (A.v)), la, na, (Value.int .i64 (A.r))]), (Arr 25 b3 [(Value.int .i64 (B.v)), lb, nb, (Value.int .i64 (B.r))]), (Arr 25 b4 [(Value.int .i64 ((chD cv cN cr A B).v)), lv1, nv1, (Value.int .i64 ((chD cv cN cr A B).r))])]) (List.perm_middle (l₁ := [ζ1, (Arr 25 b2 [(Value.int .i64 (A.v)), la, na, (Value.int .i64 (A.r))]), (Arr 25 b3 [(Value.int .i64 (B.v)), lb, nb, (Value.int .i64 (B.r))]), (Arr 25 b4 [(Value.int .i64 ((chD cv cN cr A B).v)), lv1, nv1, (Value.int .i64 ((chD cv cN cr A B).r))])]) (l₂ := [])) (fun Vf1 hVf1 hc1 => ?_)
            have hC := hC.mono hVf1
            have hA := hA.mono hVf1
            have hB := hB.mono hVf1
            have hMt := hMt.mono hVf1
            have hR0 := hR0.mono hVf1
            have hR1 := hR1.mono hVf1
            have hTt := hTt.mono hVf1
            refine vc_region_order (τ := []) [(0, false), (1, false), (2, false), (3, false), (4, false), (5, true), (6, false), (7, false)] [ζ1, ζ2, ζ3, ζ5] Tryz.mixed (perm_nil _) (by kernel_rfl) ?_
            have hIx0 := hc1
            have hIx : Ints .i64 Vf1 iv (chT cv cN cr A B) := by have q := hIx0; rw [chT_all (by omega)] at q; exact q
            refine rq rfl (qv_ldm (vs := [(.int .i64 ((chD cv cN cr A B).v)), lv1, nv1, (.int .i64 ((chD cv cN cr A B).r))]) Tryz.agg25 rfl (inOc (k := 3) rfl) rfl rfl) ?_
            refine rq rfl (qv_mv ζ8 rfl) ?_
            refine rq rfl (qv_fa (off := 0) Tryz.field25_0 rfl) ?_
            refine rq rfl (qv_ldp (v := (.int .i64 A.v)) Tryz.plain3 rfl (inOc (k := 1) rfl) rfl) ?_
            refine rq rfl (qv_mv iv rfl) ?_
            refine rl rfl ?_
            subst ζ2 ζ3 ζ5 ζ8 ζ1 ζ15
            refine ops_call (σa := []) (σr := [(Arr 55 b1 [(Value.int .i64 cv), nc, (Value.int .i64 cr)]), (Arr 25 b2 [(.int .i64 A.v), la, na, (.int .i64 A.r)]), (Arr 25 b3 [(.int .i64 B.v), lb, nb, (.int .i64 B.r)]), (Arr 25 b4 [(.int .i64 ((chD cv cN cr A B).v)), lv1, nv1, (.int .i64 ((chD cv cN cr A B).r))])]) (diagram_c (vars := A.v) (t := chT cv cN cr A B) hIx hv0 (by omega) (by rw [← hcA]; exact chT_len)) rfl rfl (.refl _) (fun r5 V5 sg5 hV5 hp5 => ?_)
            obtain ⟨rfl, lv2, nv2, rfl, hDg2⟩ := hp5
            have hC := hC.mono hV5
            have hA := hA.mono hV5
            have hB := hB.mono hV5
            have hMt := hMt.mono hV5
            have hR0 := hR0.mono hV5
            have hR1 := hR1.mono hV5
            have hTt := hTt.mono hV5
            have hc1 := hc1.mono hV5
            have hIx := hIx.mono hV5
            let ζ1 : Asrt := Arr 55 b1 [(Value.int .i64 cv), nc, (Value.int .i64 cr)]
            let ζ2 : Asrt := Arr 25 b2 [(.int .i64 A.v), la, na, (.int .i64 A.r)]
            let ζ3 : Asrt := Arr 25 b3 [(.int .i64 B.v), lb, nb, (.int .i64 B.r)]
            let ζ5 : Asrt := Arr 25 b4 [(.int .i64 ((chD cv cN cr A B).v)), lv1, nv1, (.int .i64 ((chD cv cN cr A B).r))]
            refine ops_nil ⟨[ζ1, ζ2, ζ3, ζ5], [], hV5, perm_nil _, ⟨[], (.refl _)⟩, ?_⟩
            let ζ13 : Value := .bool (decide ((chE cv cN cr A B) = 0 ∧ (chD cv cN cr A B) = (dg A.v (chT cv cN cr A B))))
            refine rq rfl (qv_call (v := ζ13) (is_c (A := (chD cv cN cr A B)) (B := (dg A.v (chT cv cN cr A B))) (ee := (chE cv cN cr A B)) (cc := 0) hMt hDg2) rfl rfl) ?_
            refine rq rfl (qv_as ζ13 rfl) ?_
            refine rnil ?_
            refine vc_drop [] [ζ1, ζ2, ζ3, ζ5] (.refl _) ?_
            refine vc_ret ?_
            exact rq1 (Value.bool true) (congrArg Value.bool (decide_eq_true (show ((chE cv cN cr A B) = 0 ∧ (chD cv cN cr A B) = (dg A.v (chT cv cN cr A B))) from by exact ch_ok hbok hcv8 hokA hokB (by omega) (by omega)))) rfl
    ·
     refine os (want_tn g4 rfl rfl rfl) ?_
     refine os (want_tn g4 rfl rfl rfl) ?_
     refine os (want_tn g4 rfl rfl rfl) ?_
     refine og (qv_pick_f g4 rfl (rfl : ev _ _ = (Value.bool false))) (want_f g3 rfl rfl rfl) ?_
     refine oq (qv_pick_f g3 rfl (rfl : ev _ _ = (Value.bool false))) ?_
     refine ops_nil ?_
     refine vc_ff rfl ?_
     refine vc_skip ?_
     refine vc_seq ?_
     have h8A := Classical.not_not.1 g1
     have h8B := Classical.not_not.1 g2
     have hv12 : Bd.Ok cv cN cr → cv ≤ 12 := fun q => by have hq := Bd.chk_0 q; omega
     refine vc_region ?_
     refine oq (qv_ldm (vs := [(Value.int .i64 cv), nc, (Value.int .i64 cr)]) Tryz.agg55 rfl (inOc (k := 0) rfl) rfl rfl) ?_
     refine oq (qv_ldm (vs := [(.int .i64 A.v), la, na, (.int .i64 A.r)]) Tryz.agg25 rfl (inOc (k := 1) rfl) rfl rfl) ?_
     refine oq (qv_ldm (vs := [(.int .i64 B.v), lb, nb, (.int .i64 B.r)]) Tryz.agg25 rfl (inOc (k := 2) rfl) rfl rfl) ?_
     refine ops_call (σa := []) (σr := [ζ1, ζ2, ζ3]) (Choose_c hC hA hB hv12) rfl rfl (.refl _) (fun r6 V6 sg6 hV6 hp6 => ?_)
     obtain ⟨rfl, lv1, nv1, rfl, hMt⟩ := hp6
     have hC := hC.mono hV6
     have hA := hA.mono hV6
     have hB := hB.mono hV6
     let ζ6 : Value := .int .i64 ((chD cv cN cr A B).v)
     let ζ7 : Value := .int .i64 ((chD cv cN cr A B).r)
     let ζ8 : Value := .int .i64 (chE cv cN cr A B)
     refine oq (qv_mv (.tuple #[(.agg #[ζ6, lv1, nv1, ζ7]), ζ8]) rfl) ?_
     refine oq (qv_ext (.agg #[ζ6, lv1, nv1, ζ7]) rfl rfl) ?_
     refine oq (qv_ext ζ8 rfl rfl) ?_
     refine ops_alloc Tryz.ti25 rfl (fun b7 => ?_)
     refine ops_stw (k := 3) (vs := [ζ6, lv1, nv1, ζ7]) Tryz.size25 rfl rfl rfl (allc rfl (allc (Sl.one hMt.l) (allc (SlS.one hMt.n) (allc rfl rfl)))) rfl rfl ?_
     refine oq (qv_as ζ8 rfl) ?_
     refine ops_nil ?_
     refine vc_seq ?_
     refine vc_seq ?_
     let ζ4 : Asrt := Arr 25 b7 [(.int .i64 ((chD cv cN cr A B).v)), lv1, nv1, (.int .i64 ((chD cv cN cr A B).r))]
     refine vc_res (σ' := [ζ1, ζ2, ζ3, ζ4]) rfl ?_
     refine vc_region ?_
     refine oq (qv_ldm (vs := [(Value.int .i64 cv), nc, (Value.int .i64 cr)]) Tryz.agg55 rfl (inOc (k := 0) rfl) rfl rfl) ?_
     refine oq (qv_call (v := (.int .i64 (Bd.chkC cv cN cr))) (Checked27_c hC) rfl rfl) ?_
     refine oq (qv_neq rfl rfl) ?_
     refine oq (qv_mv (.bool (decide ((Bd.chkC cv cN cr) ≠ 0))) rfl) ?_
     by_cases g8 : (Bd.chkC cv cN cr) ≠ 0
     ·
      refine os (want_fn g8 rfl rfl rfl) ?_
      refine os (want_fn g8 rfl rfl rfl) ?_
      refine os (want_fn g8 rfl rfl rfl) ?_
      refine oq (qv_pick_t g8 rfl (rfl : ev _ _ = (Value.bool true))) ?_
      refine oq (qv_mv (Value.bool true) rfl) ?_
      refine os (want_fnc rfl rfl rfl) ?_
      refine os (want_fnc rfl rfl rfl) ?_
      refine os (want_fnc rfl rfl rfl) ?_
      refine oq (qv_pick_tc rfl (rfl : ev _ _ = (Value.bool true))) ?_
      refine ops_nil ?_
      refine vc_tt rfl ?_
      refine vc_seq ?_
      refine vc_region ?_
      refine oq (qv_ldm (vs := [ζ6, lv1, nv1, ζ7]) Tryz.agg25 rfl (inOc (k := 3) rfl) rfl rfl) ?_
      refine oq (qv_mv ζ8 rfl) ?_
      refine oq (qv_build (out := [(Value.int .i64 0), (Value.slice none 0 0), (Value.slice none 0 0), (Value.int .i64 0)]) Tryz.build25 [] rfl rfl) ?_
      let ζ9 : Value := .bool (decide ((chE cv cN cr A B) = 1 ∧ (chD cv cN cr A B) = zM))
      refine oq (qv_call (v := ζ9) (is_c (A := (chD cv cN cr A B)) (B := zM) (ee := (chE cv cN cr A B)) (cc := 1) hMt Mt.nil) rfl rfl) ?_
      refine oq (qv_as ζ9 rfl) ?_
      refine ops_nil ?_
      refine vc_drop [] [ζ1, ζ2, ζ3, ζ4] (.refl _) ?_
      refine vc_ret ?_
      exact rq1 (Value.bool true) (congrArg Value.bool (decide_eq_true (show ((chE cv cN cr A B) = 1 ∧ (chD cv cN cr A B) = zM) from by exact ch_bad hv12 (by first | exact .inl (by assumption) | exact .inr (.inl (by assumption)) | exact .inr (.inr (by assumption)))))) rfl
     ·
      refine og (qv_ldm (vs := [(.int .i64 A.v), la, na, (.int .i64 A.r)]) Tryz.agg25 rfl (inOc (k := 1) rfl) rfl rfl) (want_f g8 rfl rfl rfl) ?_
      refine og (qv_call (v := (.int .i64 (chkC A))) (check_c hA) rfl rfl) (want_f g8 rfl rfl rfl) ?_
      refine og (qv_neq rfl rfl) (want_f g8 rfl rfl rfl) ?_
      refine oq (qv_pick_f g8 rfl (rfl : ev _ _ = (.bool (decide ((chkC A) ≠ 0))))) ?_
      refine oq (qv_mv (.bool (decide ((chkC A) ≠ 0))) rfl) ?_
      by_cases g9 : (chkC A) ≠ 0
      ·
       refine os (want_fn g9 rfl rfl rfl) ?_
       refine os (want_fn g9 rfl rfl rfl) ?_
       refine os (want_fn g9 rfl rfl rfl) ?_
       refine oq (qv_pick_t g9 rfl (rfl : ev _ _ = (Value.bool true))) ?_
       refine ops_nil ?_
       refine vc_tt rfl ?_
       refine vc_seq ?_
       refine vc_region ?_
       refine oq (qv_ldm (vs := [ζ6, lv1, nv1, ζ7]) Tryz.agg25 rfl (inOc (k := 3) rfl) rfl rfl) ?_
       refine oq (qv_mv ζ8 rfl) ?_
       refine oq (qv_build (out := [(Value.int .i64 0), (Value.slice none 0 0), (Value.slice none 0 0), (Value.int .i64 0)]) Tryz.build25 [] rfl rfl) ?_
       let ζ9 : Value := .bool (decide ((chE cv cN cr A B) = 1 ∧ (chD cv cN cr A B) = zM))
       refine oq (qv_call (v := ζ9) (is_c (A := (chD cv cN cr A B)) (B := zM) (ee := (chE cv cN cr A B)) (cc := 1) hMt Mt.nil) rfl rfl) ?_
       refine oq (qv_as ζ9 rfl) ?_
       refine ops_nil ?_
       refine vc_drop [] [ζ1, ζ2, ζ3, ζ4] (.refl _) ?_
       refine vc_ret ?_
       exact rq1 (Value.bool true) (congrArg Value.bool (decide_eq_true (show ((chE cv cN cr A B) = 1 ∧ (chD cv cN cr A B) = zM) from by exact ch_bad hv12 (by first | exact .inl (by assumption) | exact .inr (.inl (by assumption)) | exact .inr (.inr (by assumption)))))) rfl
      ·
       refine og (qv_ldm (vs := [(.int .i64 B.v), lb, nb, (.int .i64 B.r)]) Tryz.agg25 rfl (inOc (k := 2) rfl) rfl rfl) (want_f g9 rfl rfl rfl) ?_
       refine og (qv_call (v := (.int .i64 (chkC B))) (check_c hB) rfl rfl) (want_f g9 rfl rfl rfl) ?_
       refine og (qv_neq rfl rfl) (want_f g9 rfl rfl rfl) ?_
       refine oq (qv_pick_f g9 rfl (rfl : ev _ _ = (.bool (decide ((chkC B) ≠ 0))))) ?_
       refine ops_nil ?_
       refine vc_if rfl (fun c6 => ?_) (fun c6 => ?_)
       ·
        refine vc_seq ?_
        refine vc_region ?_
        refine oq (qv_ldm (vs := [ζ6, lv1, nv1, ζ7]) Tryz.agg25 rfl (inOc (k := 3) rfl) rfl rfl) ?_
        refine oq (qv_mv ζ8 rfl) ?_
        refine oq (qv_build (out := [(Value.int .i64 0), (Value.slice none 0 0), (Value.slice none 0 0), (Value.int .i64 0)]) Tryz.build25 [] rfl rfl) ?_
        let ζ9 : Value := .bool (decide ((chE cv cN cr A B) = 1 ∧ (chD cv cN cr A B) = zM))
        refine oq (qv_call (v := ζ9) (is_c (A := (chD cv cN cr A B)) (B := zM) (ee := (chE cv cN cr A B)) (cc := 1) hMt Mt.nil) rfl rfl) ?_
        refine oq (qv_as ζ9 rfl) ?_
        refine ops_nil ?_
        refine vc_drop [] [ζ1, ζ2, ζ3, ζ4] (.refl _) ?_
        refine vc_ret ?_
        exact rq1 (Value.bool true) (congrArg Value.bool (decide_eq_true (show ((chE cv cN cr A B) = 1 ∧ (chD cv cN cr A B) = zM) from by exact ch_bad hv12 (by first | exact .inl (by assumption) | exact .inr (.inl (by assumption)) | exact .inr (.inr (by assumption)))))) rfl
       ·
        refine vc_skip ?_
        refine vc_seq ?_
        refine vc_seq ?_
        have hbok : Bd.Ok cv cN cr := Bd.chk_ok.1 (by omega)
        have hcv8 := hv12 hbok
        have hokA := chk_ok.1 (by omega : chkC A = 0)
        have hokB := chk_ok.1 (by omega : chkC B = 0)
        refine vc_region ?_
        refine oq (qv_fa (off := 0) Tryz.field55_0 rfl) ?_
        refine oq (qv_ldp (v := (Value.int .i64 cv)) Tryz.plain3 rfl (inOc (k := 0) rfl) rfl) ?_
        refine oq (qv_fa (off := 0) Tryz.field25_0 rfl) ?_
        refine oq (qv_ldp (v := (.int .i64 A.v)) Tryz.plain3 rfl (inOc (k := 1) rfl) rfl) ?_
        refine oq (qv_neq rfl rfl) ?_
        refine oq (qv_mv (.bool (decide (cv ≠ A.v))) rfl) ?_
        by_cases g10 : cv ≠ A.v
        ·
         refine os (want_fn g10 rfl rfl rfl) ?_
         refine os (want_fn g10 rfl rfl rfl) ?_
         refine os (want_fn g10 rfl rfl rfl) ?_
         refine os (want_fn g10 rfl rfl rfl) ?_
         refine os (want_fn g10 rfl rfl rfl) ?_
         refine oq (qv_pick_t g10 rfl (rfl : ev _ _ = (Value.bool true))) ?_
         refine ops_nil ?_
         refine vc_tt rfl ?_
         refine vc_seq ?_
         refine vc_region ?_
         refine oq (qv_ldm (vs := [ζ6, lv1, nv1, ζ7]) Tryz.agg25 rfl (inOc (k := 3) rfl) rfl rfl) ?_
         refine oq (qv_mv ζ8 rfl) ?_
         refine oq (qv_build (out := [(Value.int .i64 0), (Value.slice none 0 0), (Value.slice none 0 0), (Value.int .i64 0)]) Tryz.build25 [] rfl rfl) ?_
         let ζ10 : Value := .bool (decide ((chE cv cN cr A B) = 2 ∧ (chD cv cN cr A B) = zM))
         refine oq (qv_call (v := ζ10) (is_c (A := (chD cv cN cr A B)) (B := zM) (ee := (chE cv cN cr A B)) (cc := 2) hMt Mt.nil) rfl rfl) ?_
         refine oq (qv_as ζ10 rfl) ?_
         refine ops_nil ?_
         refine vc_drop [] [ζ1, ζ2, ζ3, ζ4] (.refl _) ?_
         refine vc_ret ?_
         exact rq1 (Value.bool true) (congrArg Value.bool (decide_eq_true (show ((chE cv cN cr A B) = 2 ∧ (chD cv cN cr A B) = zM) from by exact ch_mis hbok hcv8 hokA hokB (by first | exact .inl (by assumption) | exact .inr (by assumption))))) rfl
        ·
         refine og (qv_fa (off := 0) Tryz.field25_0 rfl) (want_f g10 rfl rfl rfl) ?_
         refine og (qv_ldp (v := (.int .i64 A.v)) Tryz.plain3 rfl (inOc (k := 1) rfl) rfl) (want_f g10 rfl rfl rfl) ?_
         refine og (qv_fa (off := 0) Tryz.field25_0 rfl) (want_f g10 rfl rfl rfl) ?_
         refine og (qv_ldp (v := (.int .i64 B.v)) Tryz.plain3 rfl (inOc (k := 2) rfl) rfl) (want_f g10 rfl rfl rfl) ?_
         refine og (qv_neq rfl rfl) (want_f g10 rfl rfl rfl) ?_
         refine oq (qv_pick_f g10 rfl (rfl : ev _ _ = (.bool (decide (A.v ≠ B.v))))) ?_
         refine ops_nil ?_
         refine vc_if rfl (fun c7 => ?_) (fun c7 => ?_)
         ·
          refine vc_seq ?_
          refine vc_region ?_
          refine oq (qv_ldm (vs := [ζ6, lv1, nv1, ζ7]) Tryz.agg25 rfl (inOc (k := 3) rfl) rfl rfl) ?_
          refine oq (qv_mv ζ8 rfl) ?_
          refine oq (qv_build (out := [(Value.int .i64 0), (Value.slice none 0 0), (Value.slice none 0 0), (Value.int .i64 0)]) Tryz.build25 [] rfl rfl) ?_
          let ζ10 : Value := .bool (decide ((chE cv cN cr A B) = 2 ∧ (chD cv cN cr A B) = zM))
          refine oq (qv_call (v := ζ10) (is_c (A := (chD cv cN cr A B)) (B := zM) (ee := (chE cv cN cr A B)) (cc := 2) hMt Mt.nil) rfl rfl) ?_
          refine oq (qv_as ζ10 rfl) ?_
          refine ops_nil ?_
          refine vc_drop [] [ζ1, ζ2, ζ3, ζ4] (.refl _) ?_
          refine vc_ret ?_
          exact rq1 (Value.bool true) (congrArg Value.bool (decide_eq_true (show ((chE cv cN cr A B) = 2 ∧ (chD cv cN cr A B) = zM) from by exact ch_mis hbok hcv8 hokA hokB (by first | exact .inl (by assumption) | exact .inr (by assumption))))) rfl
         ·
          refine vc_skip ?_
          refine vc_seq ?_
          have hcA : cv = A.v := by omega
          have hAB : A.v = B.v := by omega
          have hv0 := hokA.1.1
          have hl1 : ((vT A).length : Int) = 2 ^ cv.toNat := by rw [hcA]; exact tabv_lenI hv0
          have hl2 : ((vT B).length : Int) = 2 ^ cv.toNat := by rw [hcA, hAB]; exact tabv_lenI (hAB ▸ hv0)
          have hl3 := Bd.tbD_lenI ⟨cv, cN, cr⟩
          have hl3 : ((Bd.tbD ⟨cv, cN, cr⟩).length : Int) = 2 ^ cv.toNat := hl3
          have hpw8 := pow2_12 (n := cv.toNat) (by omega)
          refine vc_nil 3 1 ?_
          refine vc_region ?_
          refine oq (qv_as (Value.slice none 0 0) rfl) ?_
          refine ops_nil ?_
          refine vc_seq ?_
          let ζ14 : Asrt := Gr 3 1 ((Value.slice none 0 0)) 0 ([])
          refine vc_res (σ' := [ζ1, ζ2, ζ3, ζ4, ζ14]) rfl ?_
          refine vc_region_order (τ := []) [(0, false), (2, false), (1, true), (3, true), (4, false), (5, false)] [ζ1, ζ2, ζ3, ζ4, ζ14] Tryz.mixed (perm_nil _) (by kernel_rfl) ?_
          refine rq rfl (qv_ldm (vs := [(.int .i64 A.v), la, na, (.int .i64 A.r)]) Tryz.agg25 rfl (inOc (k := 1) rfl) rfl rfl) ?_
          refine rq rfl (qv_ldm (vs := [(.int .i64 B.v), lb, nb, (.int .i64 B.r)]) Tryz.agg25 rfl (inOc (k := 2) rfl) rfl rfl) ?_
          refine rl rfl ?_
          refine ops_call (σa := []) (σr := [ζ1, ζ2, ζ3, ζ4, ζ14]) (table_c (A := A) hA hokA (by omega)) rfl rfl (.refl _) (fun r7 V7 sg7 hV7 hp7 => ?_)
          obtain ⟨rfl, hR0⟩ := hp7
          obtain ⟨tr0, htr0⟩ : ∃ x, x = r7 := ⟨_, rfl⟩
          subst ζ1 ζ2 ζ3 ζ6 ζ7 ζ8 ζ4 ζ14
          subst htr0
          have hC := hC.mono hV7
          have hA := hA.mono hV7
          have hB := hB.mono hV7
          have hMt := hMt.mono hV7
          let ζ1 : Asrt := Arr 55 b1 [(Value.int .i64 cv), nc, (Value.int .i64 cr)]
          let ζ2 : Asrt := Arr 25 b2 [(.int .i64 A.v), la, na, (.int .i64 A.r)]
          let ζ3 : Asrt := Arr 25 b3 [(.int .i64 B.v), lb, nb, (.int .i64 B.r)]
          let ζ4 : Asrt := Arr 25 b7 [(.int .i64 ((chD cv cN cr A B).v)), lv1, nv1, (.int .i64 ((chD cv cN cr A B).r))]
          let ζ14 : Asrt := Gr 3 1 ((Value.slice none 0 0)) 0 ([])
          refine ops_nil ⟨[ζ1, ζ2, ζ3, ζ4, ζ14], [], hV7, perm_nil _, ⟨[], (.refl _)⟩, ?_⟩
          refine rl rfl ?_
          refine ops_call (σa := []) (σr := [ζ1, ζ2, ζ3, ζ4, ζ14]) (table_c (A := B) hB hokB (by omega)) rfl rfl (.refl _) (fun r8 V8 sg8 hV8 hp8 => ?_)
          obtain ⟨rfl, hR1⟩ := hp8
          obtain ⟨tr1, htr1⟩ : ∃ x, x = r8 := ⟨_, rfl⟩
          subst ζ1 ζ2 ζ3 ζ4 ζ14
          subst htr1
          have hC := hC.mono hV8
          have hA := hA.mono hV8
          have hB := hB.mono hV8
          have hMt := hMt.mono hV8
          have hR0 := hR0.mono hV8
          let ζ1 : Asrt := Arr 55 b1 [(Value.int .i64 cv), nc, (Value.int .i64 cr)]
          let ζ2 : Asrt := Arr 25 b2 [(.int .i64 A.v), la, na, (.int .i64 A.r)]
          let ζ3 : Asrt := Arr 25 b3 [(.int .i64 B.v), lb, nb, (.int .i64 B.r)]
          let ζ4 : Asrt := Arr 25 b7 [(.int .i64 ((chD cv cN cr A B).v)), lv1, nv1, (.int .i64 ((chD cv cN cr A B).r))]
          let ζ14 : Asrt := Gr 3 1 ((Value.slice none 0 0)) 0 ([])
          refine ops_nil ⟨[ζ1, ζ2, ζ3, ζ4, ζ14], [], hV8, perm_nil _, ⟨[], (.refl _)⟩, ?_⟩
          refine rq rfl (qv_as tr0 rfl) ?_
          refine rq rfl (qv_as tr1 rfl) ?_
          refine rnil ?_
          refine vc_seq ?_
          refine vc_seq ?_
          refine vc_region ?_
          refine oq (qv_ldm (vs := [(Value.int .i64 cv), nc, (Value.int .i64 cr)]) Tryz.agg55 rfl (inOc (k := 0) rfl) rfl rfl) ?_
          refine ops_call (σa := []) (σr := [ζ1, ζ2, ζ3, ζ4, ζ14]) (Truths27_c hC hbok hcv8) rfl rfl (.refl _) (fun r9 V9 sg9 hV9 hp9 => ?_)
          obtain ⟨rfl, hTt⟩ := hp9
          obtain ⟨tt, htt⟩ : ∃ x, x = r9 := ⟨_, rfl⟩
          subst ζ1 ζ2 ζ3 ζ4 ζ14
          subst htt
          have hC := hC.mono hV9
          have hA := hA.mono hV9
          have hB := hB.mono hV9
          have hMt := hMt.mono hV9
          have hR0 := hR0.mono hV9
          have hR1 := hR1.mono hV9
          refine oq (qv_lenB Tryz.underlying58 rfl hTt) ?_
          refine oq (qv_mv (Value.int .i64 0) rfl) ?_
          refine ops_nil ?_
          refine vc_block ?_
          let ζ2 : Asrt := Arr 25 b2 [(.int .i64 A.v), la, na, (.int .i64 A.r)]
          let ζ3 : Asrt := Arr 25 b3 [(.int .i64 B.v), lb, nb, (.int .i64 B.r)]
          let ζ4 : Asrt := Arr 25 b7 [(.int .i64 ((chD cv cN cr A B).v)), lv1, nv1, (.int .i64 ((chD cv cN cr A B).r))]
          let ζ8 : Value := .int .i64 (chE cv cN cr A B)
          refine vc_loop (α := Int × Value) (fun (xx : Int × Value) => [(0, (.agg #[(Value.int .i64 cv), nc, (Value.int .i64 cr)])), (1, (.agg #[(.int .i64 A.v), la, na, (.int .i64 A.r)])), (2, (.agg #[(.int .i64 B.v), lb, nb, (.int .i64 B.r)])), (3, (Value.pointer (some ⟨b1, 0, none⟩))), (4, (Value.pointer (some ⟨b2, 0, none⟩))), (5, (Value.pointer (some ⟨b3, 0, none⟩))), (6, (Value.bool false)), (7, (Value.pointer (some ⟨b7, 0, none⟩))), (8, ζ8), (10, tr0), (11, tr1), (15, (Value.bool false)), (39, (Value.bool false)), (59, (.bool (decide ((chkC B) ≠ 0)))), (75, (.bool (decide (A.v ≠ B.v)))), (85, tt), (86, (.int .i64 ((((Bd.tbD ⟨cv, cN, cr⟩)).length : Int)))), (9, xx.2), (87, (Value.int .i64 xx.1))]) (fun (xx : Int × Value) V' σ' => V9 = V' ∧ [(Arr 55 b1 [(Value.int .i64 cv), nc, (Value.int .i64 cr)]), ζ2, ζ3, ζ4, (Gr 3 1 xx.2 xx.1.toNat ((((chT cv cN cr A B).take xx.1.toNat).map (Value.int .i64))))] = σ' ∧ 0 ≤ xx.1 ∧ xx.1 ≤ (2 : Int) ^ cv.toNat) (fun (xx : Int × Value) => ((2 : Int) ^ cv.toNat - xx.1).toNat) (0, (Value.slice none 0 0)) ?_ ?_ ?_
          · subst ζ2 ζ3 ζ4 ζ8; exact ⟨rfl, rfl, rfl, rfl, rfl, rfl, rfl, rfl, rfl, rfl, rfl, rfl, rfl, rfl, rfl, rfl, rfl, (by first | rfl | (first | omega | simp)), rfl, trivial⟩
          · exact ⟨rfl, (show [(Arr 55 b1 [(Value.int .i64 cv), nc, (Value.int .i64 cr)]), ζ2, ζ3, ζ4, (Gr 3 1 ((Value.slice none 0 0)) (0 : Int).toNat ((((chT cv cN cr A B).take (0 : Int).toNat).map (Value.int .i64))))] = [(Arr 55 b1 [(Value.int .i64 cv), nc, (Value.int .i64 cr)]), ζ2, ζ3, ζ4, (Gr 3 1 ((Value.slice none 0 0)) 0 ([]))] from by rfl), by omega, by omega⟩
          rintro ⟨i, iv⟩ e2 V0l σ0l hI0
          let ζ1 : Asrt := Arr 55 b1 [(Value.int .i64 cv), nc, (Value.int .i64 cr)]
          let ζ15 : Asrt := Gr 3 1 iv i.toNat ((((chT cv cN cr A B).take i.toNat).map (Value.int .i64)))
          obtain ⟨rfl, rfl, i3, i4⟩ : V9 = V0l ∧ [ζ1, ζ2, ζ3, ζ4, ζ15] = σ0l ∧ 0 ≤ i ∧ i ≤ (2 : Int) ^ cv.toNat := hI0
          change VC _ _ _ _ _ _ (upds 115 [(0, (.agg #[(Value.int .i64 cv), nc, (Value.int .i64 cr)])), (1, (.agg #[(.int .i64 A.v), la, na, (.int .i64 A.r)])), (2, (.agg #[(.int .i64 B.v), lb, nb, (.int .i64 B.r)])), (3, (Value.pointer (some ⟨b1, 0, none⟩))), (4, (Value.pointer (some ⟨b2, 0, none⟩))), (5, (Value.pointer (some ⟨b3, 0, none⟩))), (6, (Value.bool false)), (7, (Value.pointer (some ⟨b7, 0, none⟩))), (8, ζ8), (10, tr0), (11, tr1), (15, (Value.bool false)), (39, (Value.bool false)), (59, (.bool (decide ((chkC B) ≠ 0)))), (75, (.bool (decide (A.v ≠ B.v)))), (85, tt), (86, (.int .i64 ((((Bd.tbD ⟨cv, cN, cr⟩)).length : Int)))), (9, iv), (87, (Value.int .i64 i))] e2) _ _
          refine vc_seq ?_
          refine vc_res (σ' := [ζ1, ζ2, ζ3, ζ4, ζ15]) rfl ?_
          refine vc_region ?_
          refine oq (qv_lss rfl rfl) ?_
          refine ops_nil ?_
          refine vc_seq ?_
          refine vc_if rfl (fun c8 => ?_) (fun c8 => ?_)
          ·
           refine vc_skip ?_
           refine vc_seq ?_
           refine vc_block ?_
           refine vc_seq ?_
           refine vc_region ?_
           refine oq (qv_mv (Value.int .i64 i) rfl) ?_
           refine oq (qv_iab (v := tt) (i := i) Tryz.underlying58 Tryz.size4 rfl (inVb hTt) rfl (by omega) (by omega)) ?_
           refine oq (qv_ldb (v := tt) (i := i) Tryz.plain4 rfl (inVb hTt) (by omega) (by omega)) ?_
           refine oq (qv_as (Value.int .i64 i) rfl) ?_
           let ζ16 : Value := .bool (decide (gb ((Bd.tbD ⟨cv, cN, cr⟩)) (i) = true))
           refine oq (qv_as ζ16 rfl) ?_
           refine ops_nil ?_
           refine vc_seq ?_
           refine vc_region ?_
           refine oq (qv_mv ζ16 rfl) ?_
           refine ops_nil ?_
           refine vc_if rfl (fun c9 => ?_) (fun c9 => ?_)
           ·
            refine vc_region ?_
            refine oq (qv_mv iv rfl) ?_
            refine oq (qv_mv tr0 rfl) ?_
            refine oq (qv_mv (Value.int .i64 i) rfl) ?_
            refine oq (qv_iai (v := tr0) (i := i) Tryz.underlying22 Tryz.size3 rfl (inVi hR0) rfl (by omega) (by omega)) ?_
            refine oq (qv_ldi (v := tr0) (i := i) Tryz.plain3 rfl (inVi hR0) (by omega) (by omega)) ?_
            refine ops_lit (n := 1) (s := 1) (cs := [(.int .i64 (gi ((vT A)) (i)))]) Tryz.underlying22 Tryz.ti3 (Nat.le_of_ble_eq_true rfl) rfl rfl rfl (Nat.le_of_ble_eq_true rfl) rfl (fun b8 => ?_)
            subst ζ2 ζ3 ζ4 ζ8 ζ1 ζ15 ζ16
            refine ops_append (k := 4) (n := i.toNat) (s := 1) (m := 1) (v := iv) (xs := (((chT cv cN cr A B).take i.toNat).map (Value.int .i64))) (news := [(.int .i64 (gi ((vT A)) (i)))]) Tryz.underlying22 Tryz.ti3 rfl (Nat.le_of_ble_eq_true rfl) rfl rfl rfl rfl (news_own (j := 5) rfl) (by simp [Value.oneCell']) (by omega) (by simp only [maxLen]; omega) (fun v3 hn3 => ?_)
            refine oq (qv_as v3 rfl) ?_
            refine ops_nil ?_
            let ζ1 : Asrt := Arr 55 b1 [(Value.int .i64 cv), nc, (Value.int .i64 cr)]
            refine vc_res (σ' := [ζ1, (Arr 25 b2 [(.int .i64 A.v), la, na, (.int .i64 A.r)]), (Arr 25 b3 [(.int .i64 B.v), lb, nb, (.int .i64 B.r)]), (Arr 25 b7 [(.int .i64 ((chD cv cN cr A B).v)), lv1, nv1, (.int .i64 ((chD cv cN cr A B).r))]), (Gr 3 1 v3 ((i.toNat + 1)) (((((chT cv cN cr A B).take i.toNat).map (Value.int .i64)) ++ [(.int .i64 (gi ((vT A)) (i)))]))), (Arr 3 b8 [(.int .i64 (gi ((vT A)) (i)))])]) rfl ?_
            let ζ11 : Value := Value.int .i64 (gi ((vT A)) (i))
            refine vc_drop [ζ1, (Arr 25 b2 [(Value.int .i64 (A.v)), la, na, (Value.int .i64 (A.r))]), (Arr 25 b3 [(Value.int .i64 (B.v)), lb, nb, (Value.int .i64 (B.r))]), (Arr 25 b7 [(Value.int .i64 ((chD cv cN cr A B).v)), lv1, nv1, (Value.int .i64 ((chD cv cN cr A B).r))]), (Gr 3 1 v3 ((i.toNat + 1)) (((((chT cv cN cr A B).take i.toNat).map (Value.int .i64)) ++ [ζ11])))] [(Arr 3 b8 [ζ11])] ((List.perm_middle (l₁ := [ζ1, (Arr 25 b2 [(Value.int .i64 (A.v)), la, na, (Value.int .i64 (A.r))]), (Arr 25 b3 [(Value.int .i64 (B.v)), lb, nb, (Value.int .i64 (B.r))]), (Arr 25 b7 [(Value.int .i64 ((chD cv cN cr A B).v)), lv1, nv1, (Value.int .i64 ((chD cv cN cr A B).r))]), (Gr 3 1 v3 ((i.toNat + 1)) (((((chT cv cN cr A B).take i.toNat).map (Value.int .i64)) ++ [ζ11])))]) (l₂ := [])).trans (List.perm_append_comm (l₁ := [(Arr 3 b8 [ζ11])]))) ?_
            refine vc_region ?_
            refine oq (qv_add rfl rfl (by omega)) ?_
            refine oq (qv_mv (.int .i64 (i + 1)) rfl) ?_
            refine ops_nil ?_
            subst ζ1 ζ11
            refine ⟨(i + 1, v3), ⟨rfl, rfl, rfl, rfl, rfl, rfl, rfl, rfl, rfl, rfl, rfl, rfl, rfl, rfl, rfl, rfl, rfl, rfl, (congrArg (Value.int .i64) (show (i + 1) = ((i + 1)) from by omega)), trivial⟩, ⟨rfl, (show [(Arr 55 b1 [(Value.int .i64 cv), nc, (Value.int .i64 cr)]), (Arr 25 b2 [(.int .i64 A.v), la, na, (.int .i64 A.r)]), (Arr 25 b3 [(.int .i64 B.v), lb, nb, (.int .i64 B.r)]), (Arr 25 b7 [(.int .i64 ((chD cv cN cr A B).v)), lv1, nv1, (.int .i64 ((chD cv cN cr A B).r))]), (Gr 3 1 v3 (i + 1 : Int).toNat ((((chT cv cN cr A B).take (i + 1 : Int).toNat).map (Value.int .i64))))] = [(Arr 55 b1 [(Value.int .i64 cv), nc, (Value.int .i64 cr)]), (Arr 25 b2 [(.int .i64 A.v), la, na, (.int .i64 A.r)]), (Arr 25 b3 [(.int .i64 B.v), lb, nb, (.int .i64 B.r)]), (Arr 25 b7 [(.int .i64 ((chD cv cN cr A B).v)), lv1, nv1, (.int .i64 ((chD cv cN cr A B).r))]), (Gr 3 1 v3 ((i.toNat + 1)) (((((chT cv cN cr A B).take i.toNat).map (Value.int .i64)) ++ [(.int .i64 (gi ((vT A)) (i)))])))] from by rw [chT_take hbok hcv8 hcA hAB (by omega) (by omega), List.map_append, show (i + 1).toNat = i.toNat + 1 by omega] <;> first | (rw [if_pos (by assumption)]; rfl) | (rw [if_neg (by assumption)]; rfl)), by omega, by omega⟩, by omega⟩
           ·
            refine vc_region ?_
            refine oq (qv_mv iv rfl) ?_
            refine oq (qv_mv tr1 rfl) ?_
            refine oq (qv_mv (Value.int .i64 i) rfl) ?_
            refine oq (qv_iai (v := tr1) (i := i) Tryz.underlying22 Tryz.size3 rfl (inVi hR1) rfl (by omega) (by omega)) ?_
            refine oq (qv_ldi (v := tr1) (i := i) Tryz.plain3 rfl (inVi hR1) (by omega) (by omega)) ?_
            refine ops_lit (n := 1) (s := 1) (cs := [(.int .i64 (gi ((vT B)) (i)))]) Tryz.underlying22 Tryz.ti3 (Nat.le_of_ble_eq_true rfl) rfl rfl rfl (Nat.le_of_ble_eq_true rfl) rfl (fun b9 => ?_)
            subst ζ2 ζ3 ζ4 ζ8 ζ1 ζ15 ζ16
            refine ops_append (k := 4) (n := i.toNat) (s := 1) (m := 1) (v := iv) (xs := (((chT cv cN cr A B).take i.toNat).map (Value.int .i64))) (news := [(.int .i64 (gi ((vT B)) (i)))]) Tryz.underlying22 Tryz.ti3 rfl (Nat.le_of_ble_eq_true rfl) rfl rfl rfl rfl (news_own (j := 5) rfl) (by simp [Value.oneCell']) (by omega) (by simp only [maxLen]; omega) (fun v4 hn4 => ?_)
            refine oq (qv_as v4 rfl) ?_
            refine ops_nil ?_
            let ζ1 : Asrt := Arr 55 b1 [(Value.int .i64 cv), nc, (Value.int .i64 cr)]
            refine vc_res (σ' := [ζ1, (Arr 25 b2 [(.int .i64 A.v), la, na, (.int .i64 A.r)]), (Arr 25 b3 [(.int .i64 B.v), lb, nb, (.int .i64 B.r)]), (Arr 25 b7 [(.int .i64 ((chD cv cN cr A B).v)), lv1, nv1, (.int .i64 ((chD cv cN cr A B).r))]), (Gr 3 1 v4 ((i.toNat + 1)) (((((chT cv cN cr A B).take i.toNat).map (Value.int .i64)) ++ [(.int .i64 (gi ((vT B)) (i)))]))), (Arr 3 b9 [(.int .i64 (gi ((vT B)) (i)))])]) rfl ?_
            let ζ12 : Value := Value.int .i64 (gi ((vT B)) (i))
            refine vc_drop [ζ1, (Arr 25 b2 [(Value.int .i64 (A.v)), la, na, (Value.int .i64 (A.r))]), (Arr 25 b3 [(Value.int .i64 (B.v)), lb, nb, (Value.int .i64 (B.r))]), (Arr 25 b7 [(Value.int .i64 ((chD cv cN cr A B).v)), lv1, nv1, (Value.int .i64 ((chD cv cN cr A B).r))]), (Gr 3 1 v4 ((i.toNat + 1)) (((((chT cv cN cr A B).take i.toNat).map (Value.int .i64)) ++ [ζ12])))] [(Arr 3 b9 [ζ12])] ((List.perm_middle (l₁ := [ζ1, (Arr 25 b2 [(Value.int .i64 (A.v)), la, na, (Value.int .i64 (A.r))]), (Arr 25 b3 [(Value.int .i64 (B.v)), lb, nb, (Value.int .i64 (B.r))]), (Arr 25 b7 [(Value.int .i64 ((chD cv cN cr A B).v)), lv1, nv1, (Value.int .i64 ((chD cv cN cr A B).r))]), (Gr 3 1 v4 ((i.toNat + 1)) (((((chT cv cN cr A B).take i.toNat).map (Value.int .i64)) ++ [ζ12])))]) (l₂ := [])).trans (List.perm_append_comm (l₁ := [(Arr 3 b9 [ζ12])]))) ?_
            refine vc_region ?_
            refine oq (qv_add rfl rfl (by omega)) ?_
            refine oq (qv_mv (.int .i64 (i + 1)) rfl) ?_
            refine ops_nil ?_
            subst ζ1 ζ12
            refine ⟨(i + 1, v4), ⟨rfl, rfl, rfl, rfl, rfl, rfl, rfl, rfl, rfl, rfl, rfl, rfl, rfl, rfl, rfl, rfl, rfl, rfl, (congrArg (Value.int .i64) (show (i + 1) = ((i + 1)) from by omega)), trivial⟩, ⟨rfl, (show [(Arr 55 b1 [(Value.int .i64 cv), nc, (Value.int .i64 cr)]), (Arr 25 b2 [(.int .i64 A.v), la, na, (.int .i64 A.r)]), (Arr 25 b3 [(.int .i64 B.v), lb, nb, (.int .i64 B.r)]), (Arr 25 b7 [(.int .i64 ((chD cv cN cr A B).v)), lv1, nv1, (.int .i64 ((chD cv cN cr A B).r))]), (Gr 3 1 v4 (i + 1 : Int).toNat ((((chT cv cN cr A B).take (i + 1 : Int).toNat).map (Value.int .i64))))] = [(Arr 55 b1 [(Value.int .i64 cv), nc, (Value.int .i64 cr)]), (Arr 25 b2 [(.int .i64 A.v), la, na, (.int .i64 A.r)]), (Arr 25 b3 [(.int .i64 B.v), lb, nb, (.int .i64 B.r)]), (Arr 25 b7 [(.int .i64 ((chD cv cN cr A B).v)), lv1, nv1, (.int .i64 ((chD cv cN cr A B).r))]), (Gr 3 1 v4 ((i.toNat + 1)) (((((chT cv cN cr A B).take i.toNat).map (Value.int .i64)) ++ [(.int .i64 (gi ((vT B)) (i)))])))] from by rw [chT_take hbok hcv8 hcA hAB (by omega) (by omega), List.map_append, show (i + 1).toNat = i.toNat + 1 by omega] <;> first | (rw [if_pos (by assumption)]; rfl) | (rw [if_neg (by assumption)]; rfl)), by omega, by omega⟩, by omega⟩
          ·
           refine vc_exit ?_
           refine blockQ_hit ?_
           refine vc_seq ?_
           refine vc_freezeG (v := iv) (E := 3) (n := i.toNat) (xs := (((chT cv cN cr A B).take i.toNat).map (Value.int .i64))) (σr := [ζ1, (Arr 25 b2 [(Value.int .i64 (A.v)), la, na, (Value.int .i64 (A.r))]), (Arr 25 b3 [(Value.int .i64 (B.v)), lb, nb, (Value.int .i64 (B.r))]), (Arr 25 b7 [(Value.int .i64 ((chD cv cN cr A B).v)), lv1, nv1, (Value.int .i64 ((chD cv cN cr A B).r))])]) (List.perm_middle (l₁ := [ζ1, (Arr 25 b2 [(Value.int .i64 (A.v)), la, na, (Value.int .i64 (A.r))]), (Arr 25 b3 [(Value.int .i64 (B.v)), lb, nb, (Value.int .i64 (B.r))]), (Arr 25 b7 [(Value.int .i64 ((chD cv cN cr A B).v)), lv1, nv1, (Value.int .i64 ((chD cv cN cr A B).r))])]) (l₂ := [])) (fun Vf2 hVf2 hc2 => ?_)
           have hC := hC.mono hVf2
           have hA := hA.mono hVf2
           have hB := hB.mono hVf2
           have hMt := hMt.mono hVf2
           have hR0 := hR0.mono hVf2
           have hR1 := hR1.mono hVf2
           have hTt := hTt.mono hVf2
           refine vc_region_order (τ := []) [(0, false), (1, false), (2, false), (3, false), (4, false), (5, true), (6, false), (7, false)] [ζ1, ζ2, ζ3, ζ4] Tryz.mixed (perm_nil _) (by kernel_rfl) ?_
           have hIx0 := hc2
           have hIx : Ints .i64 Vf2 iv (chT cv cN cr A B) := by have q := hIx0; rw [chT_all (by omega)] at q; exact q
           refine rq rfl (qv_ldm (vs := [(.int .i64 ((chD cv cN cr A B).v)), lv1, nv1, (.int .i64 ((chD cv cN cr A B).r))]) Tryz.agg25 rfl (inOc (k := 3) rfl) rfl rfl) ?_
           refine rq rfl (qv_mv ζ8 rfl) ?_
           refine rq rfl (qv_fa (off := 0) Tryz.field25_0 rfl) ?_
           refine rq rfl (qv_ldp (v := (.int .i64 A.v)) Tryz.plain3 rfl (inOc (k := 1) rfl) rfl) ?_
           refine rq rfl (qv_mv iv rfl) ?_
           refine rl rfl ?_
           subst ζ2 ζ3 ζ4 ζ8 ζ1 ζ15
           refine ops_call (σa := []) (σr := [(Arr 55 b1 [(Value.int .i64 cv), nc, (Value.int .i64 cr)]), (Arr 25 b2 [(.int .i64 A.v), la, na, (.int .i64 A.r)]), (Arr 25 b3 [(.int .i64 B.v), lb, nb, (.int .i64 B.r)]), (Arr 25 b7 [(.int .i64 ((chD cv cN cr A B).v)), lv1, nv1, (.int .i64 ((chD cv cN cr A B).r))])]) (diagram_c (vars := A.v) (t := chT cv cN cr A B) hIx hv0 (by omega) (by rw [← hcA]; exact chT_len)) rfl rfl (.refl _) (fun r10 V10 sg10 hV10 hp10 => ?_)
           obtain ⟨rfl, lv2, nv2, rfl, hDg2⟩ := hp10
           have hC := hC.mono hV10
           have hA := hA.mono hV10
           have hB := hB.mono hV10
           have hMt := hMt.mono hV10
           have hR0 := hR0.mono hV10
           have hR1 := hR1.mono hV10
           have hTt := hTt.mono hV10
           have hc2 := hc2.mono hV10
           have hIx := hIx.mono hV10
           let ζ1 : Asrt := Arr 55 b1 [(Value.int .i64 cv), nc, (Value.int .i64 cr)]
           let ζ2 : Asrt := Arr 25 b2 [(.int .i64 A.v), la, na, (.int .i64 A.r)]
           let ζ3 : Asrt := Arr 25 b3 [(.int .i64 B.v), lb, nb, (.int .i64 B.r)]
           let ζ4 : Asrt := Arr 25 b7 [(.int .i64 ((chD cv cN cr A B).v)), lv1, nv1, (.int .i64 ((chD cv cN cr A B).r))]
           refine ops_nil ⟨[ζ1, ζ2, ζ3, ζ4], [], hV10, perm_nil _, ⟨[], (.refl _)⟩, ?_⟩
           let ζ13 : Value := .bool (decide ((chE cv cN cr A B) = 0 ∧ (chD cv cN cr A B) = (dg A.v (chT cv cN cr A B))))
           refine rq rfl (qv_call (v := ζ13) (is_c (A := (chD cv cN cr A B)) (B := (dg A.v (chT cv cN cr A B))) (ee := (chE cv cN cr A B)) (cc := 0) hMt hDg2) rfl rfl) ?_
           refine rq rfl (qv_as ζ13 rfl) ?_
           refine rnil ?_
           refine vc_drop [] [ζ1, ζ2, ζ3, ζ4] (.refl _) ?_
           refine vc_ret ?_
           exact rq1 (Value.bool true) (congrArg Value.bool (decide_eq_true (show ((chE cv cN cr A B) = 0 ∧ (chD cv cN cr A B) = (dg A.v (chT cv cN cr A B))) from by exact ch_ok hbok hcv8 hokA hokB (by omega) (by omega)))) rfl

end Go.Proofs.YtkmhjcjpohpiaaaGreat
