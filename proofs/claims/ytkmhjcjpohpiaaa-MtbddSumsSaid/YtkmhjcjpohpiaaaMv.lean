import Derived.Test.YtkmhjcjpohpiaaaMu
import Derived.Test.YtkmhjcjpohpiaaaWn
/- Walks of mtbdd: what each function returns. Printed by a program out of notes. -/
namespace Go.Proofs.Ytkmhjcjpohpiaaa
open Go.Vc
open Classical

set_option maxRecDepth 100000 in
set_option maxHeartbeats 4000000 in
theorem Clamp1_c {V : HV} {x y z low high : Int} {pl ph : Nat} (hl : Cells V pl [.int .i64 low]) (hh : Cells V ph [.int .i64 high]) :
    FnC Try.prog 65 [(.agg #[(Value.int .i64 x), (Value.int .i64 y), (Value.int .i64 z)]), (Value.pointer (some ⟨pl, 0, none⟩)), (Value.pointer (some ⟨ph, 0, none⟩))] V [] (fun v _ _ => v = (.int .i64 (clF low high x))) := by
 refine fn_intro (N := 11) Try.func65 (by kernel_rfl) rfl rfl rfl (Nat.le_of_ble_eq_true rfl) ?_
 intro w0 D
 refine vc_seq ?_
 refine vc_region ?_
 refine ops_box (v := (.agg #[(Value.int .i64 x), (Value.int .i64 y), (Value.int .i64 z)])) (cs := [(Value.int .i64 x), (Value.int .i64 y), (Value.int .i64 z)]) rfl rfl (fun b1 => ?_)
 refine oq (qv_as (Value.int .i64 0) rfl) ?_
 refine ops_nil ?_
 refine vc_seq ?_
 refine vc_res (σ' := [(Arr 97 b1 [(Value.int .i64 x), (Value.int .i64 y), (Value.int .i64 z)])]) rfl ?_
 refine vc_region ?_
 refine oq (qv_iaa (i := 0) (off := 0) Try.underlying97 Try.size3 rfl rfl (by omega) (by omega) rfl) ?_
 refine oq (qv_ldp (v := (Value.int .i64 x)) Try.plain3 rfl (inOc (k := 0) rfl) rfl) ?_
 refine oq (qv_ldp (v := (Value.int .i64 low)) Try.plain3 rfl (inVc hl) rfl) ?_
 refine oq (qv_max rfl rfl) ?_
 refine oq (qv_ldp (v := (Value.int .i64 high)) Try.plain3 rfl (inVc hh) rfl) ?_
 refine oq (qv_min rfl rfl) ?_
 refine oq (qv_as (.int .i64 (if high < (if x < low then low else x) then high else if x < low then low else x)) rfl) ?_
 refine ops_nil ?_
 refine vc_ret ?_
 exact rq1 (.int .i64 (clF low high x)) (congrArg (Value.int .i64) (show (if high < (if x < low then low else x) then high else if x < low then low else x) = (clF low high x) from by first | rfl | (unfold clF; rfl) | (unfold clF; omega))) rfl

set_option maxRecDepth 100000 in
set_option maxHeartbeats 4000000 in
theorem Clamp_c {V : HV} {la na : Value} {A : Mg} (hA : Mt V la na A) {low high : Int} :
    FnC Try.prog 25 [(.agg #[(.int .i64 A.v), la, na, (.int .i64 A.r)]), (Value.int .i64 low), (Value.int .i64 high)] V [] (fun v V' σ' => σ' = [] ∧ MRs V' v (cpD A low high) (cpE A low high)) := by
 refine fn_intro (N := 36) Try.func25 (by kernel_rfl) rfl rfl rfl (Nat.le_of_ble_eq_true rfl) ?_
 intro w0 D
 have hbl := Ints.bound hA.l
 have hbn := SlS.bound hA.n
 refine vc_seq ?_
 refine vc_region ?_
 refine ops_box (v := (.agg #[(.int .i64 A.v), la, na, (.int .i64 A.r)])) (cs := [(.int .i64 A.v), la, na, (.int .i64 A.r)]) rfl rfl (fun b1 => ?_)
 refine ops_box (v := (Value.int .i64 low)) (cs := [(Value.int .i64 low)]) rfl rfl (fun b2 => ?_)
 refine ops_box (v := (Value.int .i64 high)) (cs := [(Value.int .i64 high)]) rfl rfl (fun b3 => ?_)
 refine ops_alloc Try.ti25 rfl (fun b4 => ?_)
 refine oq (qv_as (Value.int .i64 0) rfl) ?_
 refine ops_nil ?_
 refine vc_seq ?_
 refine vc_seq ?_
 let ζ2 : Asrt := Arr 25 b4 [(Value.int .i64 0), (Value.slice none 0 0), (Value.slice none 0 0), (Value.int .i64 0)]
 let ζ3 : Asrt := Arr 3 b3 [(Value.int .i64 high)]
 let ζ4 : Asrt := Arr 3 b2 [(Value.int .i64 low)]
 let ζ5 : Asrt := Arr 25 b1 [(.int .i64 A.v), la, na, (.int .i64 A.r)]
 refine vc_res (σ' := [ζ5, ζ4, ζ3, ζ2]) rfl ?_
 refine vc_region ?_
 refine oq (qv_ldm (vs := [(.int .i64 A.v), la, na, (.int .i64 A.r)]) Try.agg25 rfl (inOc (k := 0) rfl) rfl rfl) ?_
 refine ops_lit (n := 1) (s := 4) (cs := [(.int .i64 A.v), la, na, (.int .i64 A.r)]) Try.underlying102 Try.ti25 (Nat.le_of_ble_eq_true rfl) rfl rfl rfl (Nat.le_of_ble_eq_true rfl) rfl (fun b5 => ?_)
 let ζ1 : Asrt := Arr 25 b1 [(Value.int .i64 (A.v)), la, na, (Value.int .i64 (A.r))]
 refine ops_freeze (b := b5) (o := .cells ([(Value.int .i64 (A.v)), la, na, (Value.int .i64 (A.r))] : List Value).toArray 25 (0, 0)) (σr := [ζ1, ζ4, ζ3, ζ2]) (List.perm_middle (l₁ := [ζ1, ζ4, ζ3, ζ2]) (l₂ := [])) (fun Vf1 hVf1 hb1 => ?_)
 have hc1 : Cells Vf1 b5 [(.int .i64 A.v), la, na, (.int .i64 A.r)] := ⟨_, _, hb1⟩
 have hA := hA.mono hVf1
 refine oq (qv_call (v := (.int .i64 (vE [A]))) (checked_c (Mdl.one hc1 hA) (by show 1 ≤ 1; omega)) rfl rfl) ?_
 refine oq (qv_as (.int .i64 (vE [A])) rfl) ?_
 refine ops_nil ?_
 refine vc_seq ?_
 refine vc_region ?_
 refine oq (qv_mv (.int .i64 (vE [A])) rfl) ?_
 refine oq (qv_neq rfl rfl) ?_
 refine ops_nil ?_
 refine vc_if rfl (fun c1 => ?_) (fun c1 => ?_)
 ·
  refine vc_seq ?_
  refine vc_region ?_
  refine oq (qv_build (out := [(Value.int .i64 0), (Value.slice none 0 0), (Value.slice none 0 0), (Value.int .i64 0)]) Try.build25 [] rfl rfl) ?_
  refine oq (qv_mv (.int .i64 (vE [A])) rfl) ?_
  refine ops_stw (k := 3) (vs := [(Value.int .i64 0), (Value.slice none 0 0), (Value.slice none 0 0), (Value.int .i64 0)]) Try.size25 rfl rfl rfl rfl rfl rfl ?_
  refine oq (qv_as (.int .i64 (vE [A])) rfl) ?_
  refine ops_nil ?_
  refine vc_freeze (b := b4) (o := .cells ([(Value.int .i64 0), (Value.slice none 0 0), (Value.slice none 0 0), (Value.int .i64 0)] : List Value).toArray 25 (0, 0)) (σr := [ζ1, ζ4, ζ3]) (List.perm_middle (l₁ := [ζ1, ζ4, ζ3]) (l₂ := [])) (fun Vf2 hVf2 hb2 => ?_)
  have hc2 : Cells Vf2 b4 [(Value.int .i64 0), (Value.slice none 0 0), (Value.slice none 0 0), (Value.int .i64 0)] := ⟨_, _, hb2⟩
  have hA := hA.mono hVf2
  have hc1 := hc1.mono hVf2
  refine vc_drop [] [ζ5, ζ4, ζ3] (.refl _) ?_
  refine vc_ret ?_
  refine rs2 _ (.int .i64 (vE [A])) (rv_c (vs := [(Value.int .i64 0), (Value.slice none 0 0), (Value.slice none 0 0), (Value.int .i64 0)]) Try.agg25 rfl (inVc hc2) rfl rfl) (rv_t rfl) ?_
  obtain ⟨hn, e1⟩ := vE1_n (A := A) (by omega)
  have e := cp_1 (low := low) (high := high) hn
  subst ζ2 ζ3 ζ4 ζ5 ζ1
  rw [e.1, e.2, e1]
  exact ⟨rfl, MRs.zero⟩
 ·
  refine vc_skip ?_
  refine vc_seq ?_
  refine vc_seq ?_
  have hz : vE [A] = 0 := by omega
  have hok := vE1_ok.1 hz
  refine vc_region ?_
  refine oq (qv_ldp (v := (Value.int .i64 low)) Try.plain3 rfl (inOc (k := 1) rfl) rfl) ?_
  refine oq (qv_ldp (v := (Value.int .i64 high)) Try.plain3 rfl (inOc (k := 2) rfl) rfl) ?_
  refine oq (qv_gtr rfl rfl) ?_
  refine oq (qv_mv (.bool (decide (high < low))) rfl) ?_
  by_cases g1 : high < low
  ·
   refine os (want_fn g1 rfl rfl rfl) ?_
   refine os (want_fn g1 rfl rfl rfl) ?_
   refine os (want_fn g1 rfl rfl rfl) ?_
   refine oq (qv_pick_t g1 rfl (rfl : ev _ _ = (Value.bool true))) ?_
   refine oq (qv_mv (Value.bool true) rfl) ?_
   refine os (want_fnc rfl rfl rfl) ?_
   refine os (want_fnc rfl rfl rfl) ?_
   refine os (want_fnc rfl rfl rfl) ?_
   refine oq (qv_pick_tc rfl (rfl : ev _ _ = (Value.bool true))) ?_
   refine ops_nil ?_
   refine vc_tt rfl ?_
   refine vc_seq ?_
   refine vc_region ?_
   refine oq (qv_build (out := [(Value.int .i64 0), (Value.slice none 0 0), (Value.slice none 0 0), (Value.int .i64 0)]) Try.build25 [] rfl rfl) ?_
   refine ops_stw (k := 3) (vs := [(Value.int .i64 0), (Value.slice none 0 0), (Value.slice none 0 0), (Value.int .i64 0)]) Try.size25 rfl rfl rfl rfl rfl rfl ?_
   refine oq (qv_as (Value.int .i64 3) rfl) ?_
   refine ops_nil ?_
   refine vc_freeze (b := b4) (o := .cells ([(Value.int .i64 0), (Value.slice none 0 0), (Value.slice none 0 0), (Value.int .i64 0)] : List Value).toArray 25 (0, 0)) (σr := [ζ1, ζ4, ζ3]) (List.perm_middle (l₁ := [ζ1, ζ4, ζ3]) (l₂ := [])) (fun Vf3 hVf3 hb3 => ?_)
   have hc3 : Cells Vf3 b4 [(Value.int .i64 0), (Value.slice none 0 0), (Value.slice none 0 0), (Value.int .i64 0)] := ⟨_, _, hb3⟩
   have hA := hA.mono hVf3
   have hc1 := hc1.mono hVf3
   refine vc_drop [] [ζ5, ζ4, ζ3] (.refl _) ?_
   refine vc_ret ?_
   refine rs2 _ (Value.int .i64 3) (rv_c (vs := [(Value.int .i64 0), (Value.slice none 0 0), (Value.slice none 0 0), (Value.int .i64 0)]) Try.agg25 rfl (inVc hc3) rfl rfl) (rv_t rfl) ?_
   have e := cp_3 (A := A) (low := low) (high := high) hok (by first | exact .inl (by assumption) | exact .inr (.inl (by assumption)) | exact .inr (.inr (by assumption)))
   subst ζ2 ζ3 ζ4 ζ5 ζ1
   rw [e.1, e.2]
   exact ⟨rfl, MRs.zero⟩
  ·
   refine og (qv_ldp (v := (Value.int .i64 low)) Try.plain3 rfl (inOc (k := 1) rfl) rfl) (want_f g1 rfl rfl rfl) ?_
   refine og (qv_call (v := (.bool (decide (inR (low))))) (inRange_c) rfl rfl) (want_f g1 rfl rfl rfl) ?_
   refine og (qv_not rfl) (want_f g1 rfl rfl rfl) ?_
   refine oq (qv_pick_f g1 rfl (rfl : ev _ _ = (.bool (decide (¬ (inR (low))))))) ?_
   refine oq (qv_mv (.bool (decide (¬ (inR (low))))) rfl) ?_
   by_cases g2 : ¬ (inR (low))
   ·
    refine os (want_fn g2 rfl rfl rfl) ?_
    refine os (want_fn g2 rfl rfl rfl) ?_
    refine os (want_fn g2 rfl rfl rfl) ?_
    refine oq (qv_pick_t g2 rfl (rfl : ev _ _ = (Value.bool true))) ?_
    refine ops_nil ?_
    refine vc_tt rfl ?_
    refine vc_seq ?_
    refine vc_region ?_
    refine oq (qv_build (out := [(Value.int .i64 0), (Value.slice none 0 0), (Value.slice none 0 0), (Value.int .i64 0)]) Try.build25 [] rfl rfl) ?_
    refine ops_stw (k := 3) (vs := [(Value.int .i64 0), (Value.slice none 0 0), (Value.slice none 0 0), (Value.int .i64 0)]) Try.size25 rfl rfl rfl rfl rfl rfl ?_
    refine oq (qv_as (Value.int .i64 3) rfl) ?_
    refine ops_nil ?_
    refine vc_freeze (b := b4) (o := .cells ([(Value.int .i64 0), (Value.slice none 0 0), (Value.slice none 0 0), (Value.int .i64 0)] : List Value).toArray 25 (0, 0)) (σr := [ζ1, ζ4, ζ3]) (List.perm_middle (l₁ := [ζ1, ζ4, ζ3]) (l₂ := [])) (fun Vf4 hVf4 hb4 => ?_)
    have hc4 : Cells Vf4 b4 [(Value.int .i64 0), (Value.slice none 0 0), (Value.slice none 0 0), (Value.int .i64 0)] := ⟨_, _, hb4⟩
    have hA := hA.mono hVf4
    have hc1 := hc1.mono hVf4
    refine vc_drop [] [ζ5, ζ4, ζ3] (.refl _) ?_
    refine vc_ret ?_
    refine rs2 _ (Value.int .i64 3) (rv_c (vs := [(Value.int .i64 0), (Value.slice none 0 0), (Value.slice none 0 0), (Value.int .i64 0)]) Try.agg25 rfl (inVc hc4) rfl rfl) (rv_t rfl) ?_
    have e := cp_3 (A := A) (low := low) (high := high) hok (by first | exact .inl (by assumption) | exact .inr (.inl (by assumption)) | exact .inr (.inr (by assumption)))
    subst ζ2 ζ3 ζ4 ζ5 ζ1
    rw [e.1, e.2]
    exact ⟨rfl, MRs.zero⟩
   ·
    refine og (qv_ldp (v := (Value.int .i64 high)) Try.plain3 rfl (inOc (k := 2) rfl) rfl) (want_f g2 rfl rfl rfl) ?_
    refine og (qv_call (v := (.bool (decide (inR (high))))) (inRange_c) rfl rfl) (want_f g2 rfl rfl rfl) ?_
    refine og (qv_not rfl) (want_f g2 rfl rfl rfl) ?_
    refine oq (qv_pick_f g2 rfl (rfl : ev _ _ = (.bool (decide (¬ (inR (high))))))) ?_
    refine ops_nil ?_
    refine vc_if rfl (fun c2 => ?_) (fun c2 => ?_)
    ·
     refine vc_seq ?_
     refine vc_region ?_
     refine oq (qv_build (out := [(Value.int .i64 0), (Value.slice none 0 0), (Value.slice none 0 0), (Value.int .i64 0)]) Try.build25 [] rfl rfl) ?_
     refine ops_stw (k := 3) (vs := [(Value.int .i64 0), (Value.slice none 0 0), (Value.slice none 0 0), (Value.int .i64 0)]) Try.size25 rfl rfl rfl rfl rfl rfl ?_
     refine oq (qv_as (Value.int .i64 3) rfl) ?_
     refine ops_nil ?_
     refine vc_freeze (b := b4) (o := .cells ([(Value.int .i64 0), (Value.slice none 0 0), (Value.slice none 0 0), (Value.int .i64 0)] : List Value).toArray 25 (0, 0)) (σr := [ζ1, ζ4, ζ3]) (List.perm_middle (l₁ := [ζ1, ζ4, ζ3]) (l₂ := [])) (fun Vf5 hVf5 hb5 => ?_)
     have hc5 : Cells Vf5 b4 [(Value.int .i64 0), (Value.slice none 0 0), (Value.slice none 0 0), (Value.int .i64 0)] := ⟨_, _, hb5⟩
     have hA := hA.mono hVf5
     have hc1 := hc1.mono hVf5
     refine vc_drop [] [ζ5, ζ4, ζ3] (.refl _) ?_
     refine vc_ret ?_
     refine rs2 _ (Value.int .i64 3) (rv_c (vs := [(Value.int .i64 0), (Value.slice none 0 0), (Value.slice none 0 0), (Value.int .i64 0)]) Try.agg25 rfl (inVc hc5) rfl rfl) (rv_t rfl) ?_
     have e := cp_3 (A := A) (low := low) (high := high) hok (by first | exact .inl (by assumption) | exact .inr (.inl (by assumption)) | exact .inr (.inr (by assumption)))
     subst ζ2 ζ3 ζ4 ζ5 ζ1
     rw [e.1, e.2]
     exact ⟨rfl, MRs.zero⟩
    ·
     refine vc_skip ?_
     refine vc_seq ?_
     refine vc_freeze (b := b2) (o := .cells ([(Value.int .i64 low)] : List Value).toArray 3 (0, 0)) (σr := [ζ1, ζ3, ζ2]) (List.perm_middle (l₁ := [ζ1]) (l₂ := [ζ3, ζ2])) (fun Vf6 hVf6 hb6 => ?_)
     have hc6 : Cells Vf6 b2 [(Value.int .i64 low)] := ⟨_, _, hb6⟩
     have hA := hA.mono hVf6
     have hc1 := hc1.mono hVf6
     refine vc_freeze (b := b3) (o := .cells ([(Value.int .i64 high)] : List Value).toArray 3 (0, 0)) (σr := [ζ1, ζ2]) (List.perm_middle (l₁ := [ζ1]) (l₂ := [ζ2])) (fun Vf7 hVf7 hb7 => ?_)
     have hc7 : Cells Vf7 b3 [(Value.int .i64 high)] := ⟨_, _, hb7⟩
     have hA := hA.mono hVf7
     have hc1 := hc1.mono hVf7
     have hc6 := hc6.mono hVf7
     refine vc_region ?_
     skip
     refine oq (qv_func (cs := [(Value.pointer (some ⟨b2, 0, none⟩)), (Value.pointer (some ⟨b3, 0, none⟩))]) rfl) ?_
     refine oq (qv_ldm (vs := [(.int .i64 A.v), la, na, (.int .i64 A.r)]) Try.agg25 rfl (inOc (k := 0) rfl) rfl rfl) ?_
     refine ops_lit (n := 1) (s := 4) (cs := [(.int .i64 A.v), la, na, (.int .i64 A.r)]) Try.underlying102 Try.ti25 (Nat.le_of_ble_eq_true rfl) rfl rfl rfl (Nat.le_of_ble_eq_true rfl) rfl (fun b6 => ?_)
     refine ops_freeze (b := b6) (o := .cells ([(Value.int .i64 (A.v)), la, na, (Value.int .i64 (A.r))] : List Value).toArray 25 (0, 0)) (σr := [ζ1, ζ2]) (List.perm_middle (l₁ := [ζ1, ζ2]) (l₂ := [])) (fun Vf8 hVf8 hb8 => ?_)
     have hc8 : Cells Vf8 b6 [(.int .i64 A.v), la, na, (.int .i64 A.r)] := ⟨_, _, hb8⟩
     have hA := hA.mono hVf8
     have hc1 := hc1.mono hVf8
     have hc6 := hc6.mono hVf8
     have hc7 := hc7.mono hVf8
     subst ζ2 ζ3 ζ4 ζ5 ζ1
     refine ops_call (σa := []) (σr := [(Arr 25 b1 [(.int .i64 A.v), la, na, (.int .i64 A.r)]), (Arr 25 b4 [(Value.int .i64 0), (Value.slice none 0 0), (Value.slice none 0 0), (Value.int .i64 0)])]) (by have h := made_c (Ds := [A]) (vars := A.v) (F := (fun x _ _ => clF low high x)) (fid := 65) (fcaps := [(Value.pointer (some ⟨b2, 0, none⟩)), (Value.pointer (some ⟨b3, 0, none⟩))]) (Mdl.one hc8 hA) (ds1 hok.1 hok.loc).1 (ds1 hok.1 hok.loc).2.1 (ds1 hok.1 hok.loc).2.2.1 (Nat.le_refl 1) (ds1 hok.1 hok.loc).2.2.2 (fun W q x y z _ _ _ => Clamp1_c (hc6.mono q) (hc7.mono q)); rw [cT1] at h; exact h) rfl rfl (.refl _) (fun r1 V1 sg1 hV1 hp1 => ?_)
     obtain ⟨rfl, lv1, nv1, rfl, hMt⟩ := hp1
     have hA := hA.mono hV1
     have hc1 := hc1.mono hV1
     have hc6 := hc6.mono hV1
     have hc7 := hc7.mono hV1
     have hc8 := hc8.mono hV1
     let ζ6 : Value := .int .i64 ((mkD A.v (cpT A low high)).v)
     let ζ7 : Value := .int .i64 ((mkD A.v (cpT A low high)).r)
     refine oq (qv_ext (.agg #[ζ6, lv1, nv1, ζ7]) rfl rfl) ?_
     let ζ8 : Value := .int .i64 (mkE A.v (cpT A low high))
     refine oq (qv_ext ζ8 rfl rfl) ?_
     refine ops_stw (k := 1) (vs := [ζ6, lv1, nv1, ζ7]) Try.size25 rfl rfl rfl (allc rfl (allc (Sl.one hMt.l) (allc (SlS.one hMt.n) (allc rfl rfl)))) rfl rfl ?_
     refine oq (qv_as ζ8 rfl) ?_
     refine ops_nil ?_
     refine vc_freeze (b := b4) (o := .cells ([(Value.int .i64 ((mkD A.v (cpT A low high)).v)), lv1, nv1, (Value.int .i64 ((mkD A.v (cpT A low high)).r))] : List Value).toArray 25 (0, 0)) (σr := [(Arr 25 b1 [(Value.int .i64 (A.v)), la, na, (Value.int .i64 (A.r))])]) (List.perm_middle (l₁ := [(Arr 25 b1 [(Value.int .i64 (A.v)), la, na, (Value.int .i64 (A.r))])]) (l₂ := [])) (fun Vf9 hVf9 hb9 => ?_)
     have hc9 : Cells Vf9 b4 [ζ6, lv1, nv1, ζ7] := ⟨_, _, hb9⟩
     have hA := hA.mono hVf9
     have hc1 := hc1.mono hVf9
     have hc6 := hc6.mono hVf9
     have hc7 := hc7.mono hVf9
     have hc8 := hc8.mono hVf9
     have hMt := hMt.mono hVf9
     refine vc_drop [] [(Arr 25 b1 [(.int .i64 A.v), la, na, (.int .i64 A.r)])] (.refl _) ?_
     refine vc_ret ?_
     refine rs2 _ ζ8 (rv_c (vs := [ζ6, lv1, nv1, ζ7]) Try.agg25 rfl (inVc hc9) rfl rfl) (rv_t rfl) ?_
     have e := cp_0 (A := A) (low := low) (high := high) hok (cp_q (by assumption) (by assumption) (by assumption))
     subst ζ6 ζ7 ζ8
     rw [e.1, e.2]
     exact ⟨rfl, lv1, nv1, rfl, hMt⟩

end Go.Proofs.Ytkmhjcjpohpiaaa
