import Derived.Test.YtkmhjcjpohpiaaaMu
import Derived.Test.YtkmhjcjpohpiaaaWn
/- Walks of mtbdd: what each function returns. Printed by a program out of notes. -/
namespace Go.Proofs.Ytkmhjcjpohpiaaa
open Go.Vc
open Classical

set_option maxRecDepth 100000 in
set_option maxHeartbeats 4000000 in
theorem Clamp1_c {V : HV} {x y z low high : Int} {pl ph : Nat} (hl : Cells V pl [.int .i64 low]) (hh : Cells V ph [.int .i64 high]) :
    FnC Try.prog 65 [(.agg #[(Value.int .i64 x), (Value.int .i64 y), (Value.int .i64 z)]), (Value.pointer (some ⟨pl, 0, none⟩)), (Value.pointer (some ⟨ph, 0, none⟩))] V [] (fun v _ _ => v = (.int .i64 (clF low high x))) := by
 refine fn_intro (N := 11) Try.func65 (by kernel_rfl) rfl rfl rfl (Nat.le_of_ble_eq_true rfl) ?_
 intro w0 D
 refine vc_seq ?_
 refine vc_region ?_
 refine ops_box (v := (.agg #[(Value.int .i64 x), (Value.int .i64 y), (Value.int .i64 z)])) (cs := [(Value.int .i64 x), (Value.int .i64 y), (Value.int .i64 z)]) rfl rfl (fun b1 => ?_)
 refine oq (qv_as (Value.int .i64 0) rfl) ?_
 refine ops_nil ?_
 refine vc_seq ?_
 refine vc_res (σ' := [(Arr 97 b1 [(Value.int .i64 x), (Value.int .i64 y), (Value.int .i64 z)])]) rfl ?_
 refine vc_region ?_
 refine oq (qv_iaa (i := 0) (off := 0) Try.underlying97 Try.size3 rfl rfl (by omega) (by omega) rfl) ?_
 refine oq (qv_ldp (v := (Value.int .i64 x)) Try.plain3 rfl (inOc (k := 0) rfl) rfl) ?_
 refine oq (qv_ldp (v := (Value.int .i64 low)) Try.plain3 rfl (inVc hl) rfl) ?_
 refine oq (qv_max rfl rfl) ?_
 refine oq (qv_ldp (v := (Value.int .i64 high)) Try.plain3 rfl (inVc hh) rfl) ?_
 refine oq (qv_min rfl rfl) ?_
 refine oq (qv_as (.int .i64 (if high < (if x < low then low else x) then high else if x < low then low else x)) rfl) ?_
 refine ops_nil ?_
 refine vc_ret ?_
 exact rq1 (.int .i64 (clF low high x)) (congrArg (Value.int .i64) (show (if high < (if x < low then low else x) then high else if x < low then low else x) = (clF low high x) from by first | rfl | (unfold clF; rfl) | (unfold clF; omega))) rfl

set_option maxRecDepth 100000 in
set_option maxHeartbeats 4000000 in
theorem Clamp_c {V : HV} {la na : Value} {A : Mg} (hA : Mt V la na A) {low high : Int} :
    FnC Try.prog 25 [(.agg #[(.int .i64 A.v), la, na, (.int .i64 A.r)]), (Value.int .i64 low), (Value.int .i64 high)] V [] (fun v V' σ' => σ' = [] ∧ MRs V' v (cpD A low high) (cpE A low high)) := by
 refine fn_intro (N := 36) Try.func25 (by kernel_rfl) rfl rfl rfl (Nat.le_of_ble_eq_true rfl) ?_
 intro w0 D
 have hbl := Ints.bound hA.l
 have hbn := SlS.bound hA.n
 refine vc_seq ?_
 refine vc_region ?_
 refine ops_box (v := (.agg #[(.int .i64 A.v), la, na, (.int .i64 A.r)])) (cs := [(.int .i64 A.v), la, na, (.int .i64 A.r)]) rfl rfl (fun b1 => ?_)
 refine ops_box (v := (Value.int .i64 low)) (cs := [(Value.int .i64 low)]) rfl rfl (fun b2 => ?_)
 refine ops_box (v := (Value.int .i64 high)) (cs := [(Value.int .i64 high)]) rfl rfl (fun b3 => ?_)
 refine ops_alloc Try.ti25 rfl (fun b4 => ?_)
 refine oq (qv_as (Value.int .i64 0) rfl) ?_
 refine ops_nil ?_
 refine vc_seq ?_
 refine vc_seq ?_
 refine vc_res (σ' := [(Arr 25 b1 [(.int .i64 A.v), la, na, (.int .i64 A.r)]), (Arr 3 b2 [(Value.int .i64 low)]), (Arr 3 b3 [(Value.int .i64 high)]), (Arr 25 b4 [(Value.int .i64 0), (Value.slice none 0 0), (Value.slice none 0 0), (Value.int .i64 0)])]) rfl ?_
 refine vc_region ?_
 refine oq (qv_ldm (vs := [(.int .i64 A.v), la, na, (.int .i64 A.r)]) Try.agg25 rfl (inOc (k := 0) rfl) rfl rfl) ?_
 refine ops_lit (n := 1) (s := 4) (cs := [(.int .i64 A.v), la, na, (.int .i64 A.r)]) Try.underlying102 Try.ti25 (Nat.le_of_ble_eq_true rfl) rfl rfl rfl (Nat.le_of_ble_eq_true rfl) rfl (fun b5 => ?_)
 refine ops_freeze (b := b5) (o := .cells ([(Value.int .i64 (A.v)), la, na, (Value.int .i64 (A.r))] : List Value).toArray 25 (0, 0)) (σr := [(Arr 25 b1 [(Value.int .i64 (A.v)), la, na, (Value.int .i64 (A.r))]), (Arr 3 b2 [(Value.int .i64 low)]), (Arr 3 b3 [(Value.int .i64 high)]), (Arr 25 b4 [(Value.int .i64 0), (Value.slice none 0 0), (Value.slice none 0 0), (Value.int .i64 0)])]) (List.perm_middle (l₁ := [(Arr 25 b1 [(Value.int .i64 (A.v)), la, na, (Value.int .i64 (A.r))]), (Arr 3 b2 [(Value.int .i64 low)]), (Arr 3 b3 [(Value.int .i64 high)]), (Arr 25 b4 [(Value.int .i64 0), (Value.slice none 0 0), (Value.slice none 0 0), (Value.int .i64 0)])]) (l₂ := [])) (fun Vf1 hVf1 hb1 => ?_)
 have hc1 : Cells Vf1 b5 [(.int .i64 A.v), la, na, (.int .i64 A.r)] := ⟨_, _, hb1⟩
 have hA := hA.mono hVf1
 refine oq (qv_call (v := (.int .i64 (vE [A]))) (checked_c (Mdl.one hc1 hA) (by show 1 ≤ 1; omega)) rfl rfl) ?_
 refine oq (qv_as (.int .i64 (vE [A])) rfl) ?_
 refine ops_nil ?_
 refine vc_seq ?_
 refine vc_region ?_
 refine oq (qv_mv (.int .i64 (vE [A])) rfl) ?_
 refine oq (qv_neq rfl rfl) ?_
 refine ops_nil ?_
 refine vc_if rfl (fun c1 => ?_) (fun c1 => ?_)
 ·
  refine vc_seq ?_
  refine vc_region ?_
  refine oq (qv_build (out := [(Value.int .i64 0), (Value.slice none 0 0), (Value.slice none 0 0), (Value.int .i64 0)]) Try.build25 [] rfl rfl) ?_
  refine oq (qv_mv (.int .i64 (vE [A])) rfl) ?_
  refine ops_stw (k := 3) (vs := [(Value.int .i64 0), (Value.slice none 0 0), (Value.slice none 0 0), (Value.int .i64 0)]) Try.size25 rfl rfl rfl rfl rfl rfl ?_
  refine oq (qv_as (.int .i64 (vE [A])) rfl) ?_
  refine ops_nil ?_
  refine vc_freeze (b := b4) (o := .cells ([(Value.int .i64 0), (Value.slice none 0 0), (Value.slice none 0 0), (Value.int .i64 0)] : List Value).toArray 25 (0, 0)) (σr := [(Arr 25 b1 [(Value.int .i64 (A.v)), la, na, (Value.int .i64 (A.r))]), (Arr 3 b2 [(Value.int .i64 low)]), (Arr 3 b3 [(Value.int .i64 high)])]) (List.perm_middle (l₁ := [(Arr 25 b1 [(Value.int .i64 (A.v)), la, na, (Value.int .i64 (A.r))]), (Arr 3 b2 [(Value.int .i64 low)]), (Arr 3 b3 [(Value.int .i64 high)])]) (l₂ := [])) (fun Vf2 hVf2 hb2 => ?_)
  have hc2 : Cells Vf2 b4 [(Value.int .i64 0), (Value.slice none 0 0), (Value.slice none 0 0), (Value.int .i64 0)] := ⟨_, _, hb2⟩
  have hA := hA.mono hVf2
  have hc1 := hc1.mono hVf2
  refine vc_drop [] [(Arr 25 b1 [(.int .i64 A.v), la, na, (.int .i64 A.r)]), (Arr 3 b2 [(Value.int .i64 low)]), (Arr 3 b3 [(Value.int .i64 high)])] (.refl _) ?_
  refine vc_ret ?_
  refine rs2 _ (.int .i64 (vE [A])) (rv_c (vs := [(Value.int .i64 0), (Value.slice none 0 0), (Value.slice none 0 0), (Value.int .i64 0)]) Try.agg25 rfl (inVc hc2) rfl rfl) (rv_t rfl) ?_
  obtain ⟨hn, e1⟩ := vE1_n (A := A) (by omega)
  have e := cp_1 (low := low) (high := high) hn
  rw [e.1, e.2, e1]
  exact ⟨rfl, MRs.zero⟩
 ·
  refine vc_skip ?_
  refine vc_seq ?_
  refine vc_seq ?_
  have hz : vE [A] = 0 := by omega
  have hok := vE1_ok.1 hz
  refine vc_region ?_
  refine oq (qv_ldp (v := (Value.int .i64 low)) Try.plain3 rfl (inOc (k := 1) rfl) rfl) ?_
  refine oq (qv_ldp (v := (Value.int .i64 high)) Try.plain3 rfl (inOc (k := 2) rfl) rfl) ?_
  refine oq (qv_gtr rfl rfl) ?_
  refine oq (qv_mv (.bool (decide (high < low))) rfl) ?_
  by_cases g1 : high < low
  ·
   refine os (want_fn g1 rfl rfl rfl) ?_
   refine os (want_fn g1 rfl rfl rfl) ?_
   refine os (want_fn g1 rfl rfl rfl) ?_
   refine oq (qv_pick_t g1 rfl (rfl : ev _ _ = (Value.bool true))) ?_
   refine oq (qv_mv (Value.bool true) rfl) ?_
   refine os (want_fnc rfl rfl rfl) ?_
   refine os (want_fnc rfl rfl rfl) ?_
   refine os (want_fnc rfl rfl rfl) ?_
   refine oq (qv_pick_tc rfl (rfl : ev _ _ = (Value.bool true))) ?_
   refine ops_nil ?_
   refine vc_tt rfl ?_
   refine vc_seq ?_
   refine vc_region ?_
   refine oq (qv_build (out := [(Value.int .i64 0), (Value.slice none 0 0), (Value.slice none 0 0), (Value.int .i64 0)]) Try.build25 [] rfl rfl) ?_
   refine ops_stw (k := 3) (vs := [(Value.int .i64 0), (Value.slice none 0 0), (Value.slice none 0 0), (Value.int .i64 0)]) Try.size25 rfl rfl rfl rfl rfl rfl ?_
   refine oq (qv_as (Value.int .i64 3) rfl) ?_
   refine ops_nil ?_
   refine vc_freeze (b := b4) (o := .cells ([(Value.int .i64 0), (Value.slice none 0 0), (Value.slice none 0 0), (Value.int .i64 0)] : List Value).toArray 25 (0, 0)) (σr := [(Arr 25 b1 [(Value.int .i64 (A.v)), la, na, (Value.int .i64 (A.r))]), (Arr 3 b2 [(Value.int .i64 low)]), (Arr 3 b3 [(Value.int .i64 high)])]) (List.perm_middle (l₁ := [(Arr 25 b1 [(Value.int .i64 (A.v)), la, na, (Value.int .i64 (A.r))]), (Arr 3 b2 [(Value.int .i64 low)]), (Arr 3 b3 [(Value.int .i64 high)])]) (l₂ := [])) (fun Vf3 hVf3 hb3 => ?_)
   have hc3 : Cells Vf3 b4 [(Value.int .i64 0), (Value.slice none 0 0), (Value.slice none 0 0), (Value.int .i64 0)] := ⟨_, _, hb3⟩
   have hA := hA.mono hVf3
   have hc1 := hc1.mono hVf3
   refine vc_drop [] [(Arr 25 b1 [(.int .i64 A.v), la, na, (.int .i64 A.r)]), (Arr 3 b2 [(Value.int .i64 low)]), (Arr 3 b3 [(Value.int .i64 high)])] (.refl _) ?_
   refine vc_ret ?_
   refine rs2 _ (Value.int .i64 3) (rv_c (vs := [(Value.int .i64 0), (Value.slice none 0 0), (Value.slice none 0 0), (Value.int .i64 0)]) Try.agg25 rfl (inVc hc3) rfl rfl) (rv_t rfl) ?_
   have e := cp_3 (A := A) (low := low) (high := high) hok (by first | exact .inl (by assumption) | exact .inr (.inl (by assumption)) | exact .inr (.inr (by assumption)))
   rw [e.1, e.2]
   exact ⟨rfl, MRs.zero⟩
  ·
   refine og (qv_ldp (v := (Value.int .i64 low)) Try.plain3 rfl (inOc (k := 1) rfl) rfl) (want_f g1 rfl rfl rfl) ?_
   refine og (qv_call (v := (.bool (decide (inR (low))))) (inRange_c) rfl rfl) (want_f g1 rfl rfl rfl) ?_
   refine og (qv_not rfl) (want_f g1 rfl rfl rfl) ?_
   refine oq (qv_pick_f g1 rfl (rfl : ev _ _ = (.bool (decide (¬ (inR (low))))))) ?_
   refine oq (qv_mv (.bool (decide (¬ (inR (low))))) rfl) ?_
   by_cases g2 : ¬ (inR (low))
   ·
    refine os (want_fn g2 rfl rfl rfl) ?_
    refine os (want_fn g2 rfl rfl rfl) ?_
    refine os (want_fn g2 rfl rfl rfl) ?_
    refine oq (qv_pick_t g2 rfl (rfl : ev _ _ = (Value.bool true))) ?_
    refine ops_nil ?_
    refine vc_tt rfl ?_
    refine vc_seq ?_
    refine vc_region ?_
    refine oq (qv_build (out := [(Value.int .i64 0), (Value.slice none 0 0), (Value.slice none 0 0), (Value.int .i64 0)]) Try.build25 [] rfl rfl) ?_
    refine ops_stw (k := 3) (vs := [(Value.int .i64 0), (Value.slice none 0 0), (Value.slice none 0 0), (Value.int .i64 0)]) Try.size25 rfl rfl rfl rfl rfl rfl ?_
    refine oq (qv_as (Value.int .i64 3) rfl) ?_
    refine ops_nil ?_
    refine vc_freeze (b := b4) (o := .cells ([(Value.int .i64 0), (Value.slice none 0 0), (Value.slice none 0 0), (Value.int .i64 0)] : List Value).toArray 25 (0, 0)) (σr := [(Arr 25 b1 [(Value.int .i64 (A.v)), la, na, (Value.int .i64 (A.r))]), (Arr 3 b2 [(Value.int .i64 low)]), (Arr 3 b3 [(Value.int .i64 high)])]) (List.perm_middle (l₁ := [(Arr 25 b1 [(Value.int .i64 (A.v)), la, na, (Value.int .i64 (A.r))]), (Arr 3 b2 [(Value.int .i64 low)]), (Arr 3 b3 [(Value.int .i64 high)])]) (l₂ := [])) (fun Vf4 hVf4 hb4 => ?_)
    have hc4 : Cells Vf4 b4 [(Value.int .i64 0), (Value.slice none 0 0), (Value.slice none 0 0), (Value.int .i64 0)] := ⟨_, _, hb4⟩
    have hA := hA.mono hVf4
    have hc1 := hc1.mono hVf4
    refine vc_drop [] [(Arr 25 b1 [(.int .i64 A.v), la, na, (.int .i64 A.r)]), (Arr 3 b2 [(Value.int .i64 low)]), (Arr 3 b3 [(Value.int .i64 high)])] (.refl _) ?_
    refine vc_ret ?_
    refine rs2 _ (Value.int .i64 3) (rv_c (vs := [(Value.int .i64 0), (Value.slice none 0 0), (Value.slice none 0 0), (Value.int .i64 0)]) Try.agg25 rfl (inVc hc4) rfl rfl) (rv_t rfl) ?_
    have e := cp_3 (A := A) (low := low) (high := high) hok (by first | exact .inl (by assumption) | exact .inr (.inl (by assumption)) | exact .inr (.inr (by assumption)))
    rw [e.1, e.2]
    exact ⟨rfl, MRs.zero⟩
   ·
    refine og (qv_ldp (v := (Value.int .i64 high)) Try.plain3 rfl (inOc (k := 2) rfl) rfl) (want_f g2 rfl rfl rfl) ?_
    refine og (qv_call (v := (.bool (decide (inR (high))))) (inRange_c) rfl rfl) (want_f g2 rfl rfl rfl) ?_
    refine og (qv_not rfl) (want_f g2 rfl rfl rfl) ?_
    refine oq (qv_pick_f g2 rfl (rfl : ev _ _ = (.bool (decide (¬ (inR (high))))))) ?_
    refine ops_nil ?_
    refine vc_if rfl (fun c2 => ?_) (fun c2 => ?_)
    ·
     refine vc_seq ?_
     refine vc_region ?_
     refine oq (qv_build (out := [(Value.int .i64 0), (Value.slice none 0 0), (Value.slice none 0 0), (Value.int .i64 0)]) Try.build25 [] rfl rfl) ?_
     refine ops_stw (k := 3) (vs := [(Value.int .i64 0), (Value.slice none 0 0), (Value.slice none 0 0), (Value.int .i64 0)]) Try.size25 rfl rfl rfl rfl rfl rfl ?_
     refine oq (qv_as (Value.int .i64 3) rfl) ?_
     refine ops_nil ?_
     refine vc_freeze (b := b4) (o := .cells ([(Value.int .i64 0), (Value.slice none 0 0), (Value.slice none 0 0), (Value.int .i64 0)] : List Value).toArray 25 (0, 0)) (σr := [(Arr 25 b1 [(Value.int .i64 (A.v)), la, na, (Value.int .i64 (A.r))]), (Arr 3 b2 [(Value.int .i64 low)]), (Arr 3 b3 [(Value.int .i64 high)])]) (List.perm_middle (l₁ := [(Arr 25 b1 [(Value.int .i64 (A.v)), la, na, (Value.int .i64 (A.r))]), (Arr 3 b2 [(Value.int .i64 low)]), (Arr 3 b3 [(Value.int .i64 high)])]) (l₂ := [])) (fun Vf5 hVf5 hb5 => ?_)
     have hc5 : Cells Vf5 b4 [(Value.int .i64 0), (Value.slice none 0 0), (Value.slice none 0 0), (Value.int .i64 0)] := ⟨_, _, hb5⟩
     have hA := hA.mono hVf5
     have hc1 := hc1.mono hVf5
     refine vc_drop [] [(Arr 25 b1 [(.int .i64 A.v), la, na, (.int .i64 A.r)]), (Arr 3 b2 [(Value.int .i64 low)]), (Arr 3 b3 [(Value.int .i64 high)])] (.refl _) ?_
     refine vc_ret ?_
     refine rs2 _ (Value.int .i64 3) (rv_c (vs := [(Value.int .i64 0), (Value.slice none 0 0), (Value.slice none 0 0), (Value.int .i64 0)]) Try.agg25 rfl (inVc hc5) rfl rfl) (rv_t rfl) ?_
     have e := cp_3 (A := A) (low := low) (high := high) hok (by first | exact .inl (by assumption) | exact .inr (.inl (by assumption)) | exact .inr (.inr (by assumption)))
     rw [e.1, e.2]
     exact ⟨rfl, MRs.zero⟩
    ·
     refine vc_skip ?_
     refine vc_seq ?_
     refine vc_freeze (b := b2) (o := .cells ([(Value.int .i64 low)] : List Value).toArray 3 (0, 0)) (σr := [(Arr 25 b1 [(Value.int .i64 (A.v)), la, na, (Value.int .i64 (A.r))]), (Arr 3 b3 [(Value.int .i64 high)]), (Arr 25 b4 [(Value.int .i64 0), (Value.slice none 0 0), (Value.slice none 0 0), (Value.int .i64 0)])]) (List.perm_middle (l₁ := [(Arr 25 b1 [(Value.int .i64 (A.v)), la, na, (Value.int .i64 (A.r))])]) (l₂ := [(Arr 3 b3 [(Value.int .i64 high)]), (Arr 25 b4 [(Value.int .i64 0), (Value.slice none 0 0), (Value.slice none 0 0), (Value.int .i64 0)])])) (fun Vf6 hVf6 hb6 => ?_)
     have hc6 : Cells Vf6 b2 [(Value.int .i64 low)] := ⟨_, _, hb6⟩
     have hA := hA.mono hVf6
     have hc1 := hc1.mono hVf6
     refine vc_freeze (b := b3) (o := .cells ([(Value.int .i64 high)] : List Value).toArray 3 (0, 0)) (σr := [(Arr 25 b1 [(Value.int .i64 (A.v)), la, na, (Value.int .i64 (A.r))]), (Arr 25 b4 [(Value.int .i64 0), (Value.slice none 0 0), (Value.slice none 0 0), (Value.int .i64 0)])]) (List.perm_middle (l₁ := [(Arr 25 b1 [(Value.int .i64 (A.v)), la, na, (Value.int .i64 (A.r))])]) (l₂ := [(Arr 25 b4 [(Value.int .i64 0), (Value.slice none 0 0), (Value.slice none 0 0), (Value.int .i64 0)])])) (fun Vf7 hVf7 hb7 => ?_)
     have hc7 : Cells Vf7 b3 [(Value.int .i64 high)] := ⟨_, _, hb7⟩
     have hA := hA.mono hVf7
     have hc1 := hc1.mono hVf7
     have hc6 := hc6.mono hVf7
     refine vc_region ?_
     skip
     refine oq (qv_func (cs := [(Value.pointer (some ⟨b2, 0, none⟩)), (Value.pointer (some ⟨b3, 0, none⟩))]) rfl) ?_
     refine oq (qv_ldm (vs := [(.int .i64 A.v), la, na, (.int .i64 A.r)]) Try.agg25 rfl (inOc (k := 0) rfl) rfl rfl) ?_
     refine ops_lit (n := 1) (s := 4) (cs := [(.int .i64 A.v), la, na, (.int .i64 A.r)]) Try.underlying102 Try.ti25 (Nat.le_of_ble_eq_true rfl) rfl rfl rfl (Nat.le_of_ble_eq_true rfl) rfl (fun b6 => ?_)
     refine ops_freeze (b := b6) (o := .cells ([(Value.int .i64 (A.v)), la, na, (Value.int .i64 (A.r))] : List Value).toArray 25 (0, 0)) (σr := [(Arr 25 b1 [(Value.int .i64 (A.v)), la, na, (Value.int .i64 (A.r))]), (Arr 25 b4 [(Value.int .i64 0), (Value.slice none 0 0), (Value.slice none 0 0), (Value.int .i64 0)])]) (List.perm_middle (l₁ := [(Arr 25 b1 [(Value.int .i64 (A.v)), la, na, (Value.int .i64 (A.r))]), (Arr 25 b4 [(Value.int .i64 0), (Value.slice none 0 0), (Value.slice none 0 0), (Value.int .i64 0)])]) (l₂ := [])) (fun Vf8 hVf8 hb8 => ?_)
     have hc8 : Cells Vf8 b6 [(.int .i64 A.v), la, na, (.int .i64 A.r)] := ⟨_, _, hb8⟩
     have hA := hA.mono hVf8
     have hc1 := hc1.mono hVf8
     have hc6 := hc6.mono hVf8
     have hc7 := hc7.mono hVf8
     refine ops_call (σa := []) (σr := [(Arr 25 b1 [(.int .i64 A.v), la, na, (.int .i64 A.r)]), (Arr 25 b4 [(Value.int .i64 0), (Value.slice none 0 0), (Value.slice none 0 0), (Value.int .i64 0)])]) (by have h := made_c (Ds := [A]) (vars := A.v) (F := (fun x _ _ => clF low high x)) (fid := 65) (fcaps := [(Value.pointer (some ⟨b2, 0, none⟩)), (Value.pointer (some ⟨b3, 0, none⟩))]) (Mdl.one hc8 hA) (ds1 hok.1 hok.loc).1 (ds1 hok.1 hok.loc).2.1 (ds1 hok.1 hok.loc).2.2.1 (Nat.le_refl 1) (ds1 hok.1 hok.loc).2.2.2 (fun W q x y z _ _ _ => Clamp1_c (hc6.mono q) (hc7.mono q)); rw [cT1] at h; exact h) rfl rfl (.refl _) (fun r1 V1 sg1 hV1 hp1 => ?_)
     obtain ⟨rfl, lv1, nv1, rfl, hMt⟩ := hp1
     have hA := hA.mono hV1
     have hc1 := hc1.mono hV1
     have hc6 := hc6.mono hV1
     have hc7 := hc7.mono hV1
     have hc8 := hc8.mono hV1
     refine oq (qv_ext (.agg #[(.int .i64 ((mkD A.v (cpT A low high)).v)), lv1, nv1, (.int .i64 ((mkD A.v (cpT A low high)).r))]) rfl rfl) ?_
     refine oq (qv_ext (.int .i64 (mkE A.v (cpT A low high))) rfl rfl) ?_
     refine ops_stw (k := 1) (vs := [(.int .i64 ((mkD A.v (cpT A low high)).v)), lv1, nv1, (.int .i64 ((mkD A.v (cpT A low high)).r))]) Try.size25 rfl rfl rfl (allc rfl (allc (Sl.one hMt.l) (allc (SlS.one hMt.n) (allc rfl rfl)))) rfl rfl ?_
     refine oq (qv_as (.int .i64 (mkE A.v (cpT A low high))) rfl) ?_
     refine ops_nil ?_
     refine vc_freeze (b := b4) (o := .cells ([(Value.int .i64 ((mkD A.v (cpT A low high)).v)), lv1, nv1, (Value.int .i64 ((mkD A.v (cpT A low high)).r))] : List Value).toArray 25 (0, 0)) (σr := [(Arr 25 b1 [(Value.int .i64 (A.v)), la, na, (Value.int .i64 (A.r))])]) (List.perm_middle (l₁ := [(Arr 25 b1 [(Value.int .i64 (A.v)), la, na, (Value.int .i64 (A.r))])]) (l₂ := [])) (fun Vf9 hVf9 hb9 => ?_)
     have hc9 : Cells Vf9 b4 [(.int .i64 ((mkD A.v (cpT A low high)).v)), lv1, nv1, (.int .i64 ((mkD A.v (cpT A low high)).r))] := ⟨_, _, hb9⟩
     have hA := hA.mono hVf9
     have hc1 := hc1.mono hVf9
     have hc6 := hc6.mono hVf9
     have hc7 := hc7.mono hVf9
     have hc8 := hc8.mono hVf9
     have hMt := hMt.mono hVf9
     refine vc_drop [] [(Arr 25 b1 [(.int .i64 A.v), la, na, (.int .i64 A.r)])] (.refl _) ?_
     refine vc_ret ?_
     refine rs2 _ (.int .i64 (mkE A.v (cpT A low high))) (rv_c (vs := [(.int .i64 ((mkD A.v (cpT A low high)).v)), lv1, nv1, (.int .i64 ((mkD A.v (cpT A low high)).r))]) Try.agg25 rfl (inVc hc9) rfl rfl) (rv_t rfl) ?_
     have e := cp_0 (A := A) (low := low) (high := high) hok (cp_q (by assumption) (by assumption) (by assumption))
     rw [e.1, e.2]
     exact ⟨rfl, lv1, nv1, rfl, hMt⟩

set_option maxRecDepth 100000 in
set_option maxHeartbeats 4000000 in
theorem small_c {V : HV} {la na : Value} {A : Mg} (hA : Mt V la na A) :
    FnC Try.prog 27 [(.agg #[(.int .i64 A.v), la, na, (.int .i64 A.r)])] V [] (fun v _ _ => v = (.bool (decide (fewP A ∧ (¬ chkC A = 0 ∨ A.v ≤ 8))))) := by
 refine fn_intro (N := 15) Try.func27 (by kernel_rfl) rfl rfl rfl (Nat.le_of_ble_eq_true rfl) ?_
 intro w0 D
 refine vc_seq ?_
 refine vc_region ?_
 refine ops_box (v := (.agg #[(.int .i64 A.v), la, na, (.int .i64 A.r)])) (cs := [(.int .i64 A.v), la, na, (.int .i64 A.r)]) rfl rfl (fun b1 => ?_)
 refine oq (qv_as (Value.bool false) rfl) ?_
 refine ops_nil ?_
 refine vc_seq ?_
 refine vc_res (σ' := [(Arr 25 b1 [(.int .i64 A.v), la, na, (.int .i64 A.r)])]) rfl ?_
 refine vc_region ?_
 refine oq (qv_ldm (vs := [(.int .i64 A.v), la, na, (.int .i64 A.r)]) Try.agg25 rfl (inOc (k := 0) rfl) rfl rfl) ?_
 refine oq (qv_call (v := (.bool (decide (fewP A)))) (few_c hA) rfl rfl) ?_
 refine oq (qv_mv (.bool (decide (fewP A))) rfl) ?_
 by_cases g1 : fewP A
 ·
  refine og (qv_ldm (vs := [(.int .i64 A.v), la, na, (.int .i64 A.r)]) Try.agg25 rfl (inOc (k := 0) rfl) rfl rfl) (want_t g1 rfl rfl rfl) ?_
  refine og (qv_call (v := (.int .i64 (chkC A))) (check_c hA) rfl rfl) (want_t g1 rfl rfl rfl) ?_
  refine og (qv_neq rfl rfl) (want_t g1 rfl rfl rfl) ?_
  refine og (qv_mv (.bool (decide ((chkC A) ≠ 0))) rfl) (want_t g1 rfl rfl rfl) ?_
  by_cases g2 : (chkC A) ≠ 0
  ·
   refine os (want_fn g2 rfl rfl rfl) ?_
   refine os (want_fn g2 rfl rfl rfl) ?_
   refine os (want_fn g2 rfl rfl rfl) ?_
   refine og (qv_pick_t g2 rfl (rfl : ev _ _ = (Value.bool true))) (want_t g1 rfl rfl rfl) ?_
   refine oq (qv_pick_t g1 rfl (rfl : ev _ _ = (Value.bool true))) ?_
   refine oq (qv_as (Value.bool true) rfl) ?_
   refine ops_nil ?_
   refine vc_ret ?_
   exact rq1 (.bool (decide (fewP A ∧ (¬ chkC A = 0 ∨ A.v ≤ 8)))) (congrArg Value.bool (decide_eq_true (show (fewP A ∧ (¬ chkC A = 0 ∨ A.v ≤ 8)) from by exact ⟨by assumption, .inl (by assumption)⟩)).symm) rfl
  ·
   refine og (qv_fa (off := 0) Try.field25_0 rfl) (want_f g2 rfl rfl rfl) ?_
   refine og (qv_ldp (v := (.int .i64 A.v)) Try.plain3 rfl (inOc (k := 0) rfl) rfl) (want_f g2 rfl rfl rfl) ?_
   refine og (qv_leq rfl rfl) (want_f g2 rfl rfl rfl) ?_
   refine og (qv_pick_f g2 rfl (rfl : ev _ _ = (.bool (decide (A.v ≤ 8))))) (want_t g1 rfl rfl rfl) ?_
   refine oq (qv_pick_t g1 rfl (rfl : ev _ _ = (.bool (decide (A.v ≤ 8))))) ?_
   refine oq (qv_as (.bool (decide (A.v ≤ 8))) rfl) ?_
   refine ops_nil ?_
   refine vc_ret ?_
   exact rq1 (.bool (decide (fewP A ∧ (¬ chkC A = 0 ∨ A.v ≤ 8)))) (congrArg Value.bool (decide_eq_decide.2 (show (A.v ≤ 8) ↔ (fewP A ∧ (¬ chkC A = 0 ∨ A.v ≤ 8)) from by exact ⟨fun q => ⟨by assumption, .inr q⟩, fun q => q.2.elim (fun h => absurd h (by assumption)) id⟩))) rfl
 ·
  refine os (want_tn g1 rfl rfl rfl) ?_
  refine os (want_tn g1 rfl rfl rfl) ?_
  refine os (want_tn g1 rfl rfl rfl) ?_
  refine os (want_tn g1 rfl rfl rfl) ?_
  refine os (want_u rfl rfl rfl) ?_
  refine os (want_u rfl rfl rfl) ?_
  refine os (want_u rfl rfl rfl) ?_
  refine os (want_tn g1 rfl rfl rfl) ?_
  refine oq (qv_pick_f g1 rfl (rfl : ev _ _ = (Value.bool false))) ?_
  refine oq (qv_as (Value.bool false) rfl) ?_
  refine ops_nil ?_
  refine vc_ret ?_
  exact rq1 (.bool (decide (fewP A ∧ (¬ chkC A = 0 ∨ A.v ≤ 8)))) (congrArg Value.bool (decide_eq_false (show ¬ (fewP A ∧ (¬ chkC A = 0 ∨ A.v ≤ 8)) from by exact fun q => absurd q.1 (by assumption))).symm) rfl

set_option maxRecDepth 100000 in
set_option maxHeartbeats 4000000 in
theorem tableO_c {V : HV} {la na : Value} {A : Mg} (hA : Mt V la na A) (hok : Ok A) (h12 : A.v ≤ 12) :
    FnC Try.prog 19 [(.agg #[(.int .i64 A.v), la, na, (.int .i64 A.r)])] V [] (fun v _ σ' => σ' = [Gr 3 1 v (vT A).length ((vT A).map (Value.int .i64))]) := by
 refine fn_intro (N := 22) Try.func19 (by kernel_rfl) rfl rfl rfl (Nat.le_of_ble_eq_true rfl) ?_
 intro w0 D
 have hbl := Ints.bound hA.l
 have hbn := SlS.bound hA.n
 have hv0 := hok.1.1
 have hpw := pow2_12 (n := A.v.toNat) (by omega)
 refine vc_seq ?_
 refine vc_region ?_
 refine ops_box (v := (.agg #[(.int .i64 A.v), la, na, (.int .i64 A.r)])) (cs := [(.int .i64 A.v), la, na, (.int .i64 A.r)]) rfl rfl (fun b1 => ?_)
 refine oq (qv_as (Value.slice none 0 0) rfl) ?_
 refine ops_nil ?_
 refine vc_seq ?_
 refine vc_res (σ' := [(Arr 25 b1 [(.int .i64 A.v), la, na, (.int .i64 A.r)])]) rfl ?_
 refine vc_nil 3 1 ?_
 refine vc_region ?_
 refine oq (qv_as (Value.slice none 0 0) rfl) ?_
 refine ops_nil ?_
 refine vc_seq ?_
 refine vc_seq ?_
 refine vc_res (σ' := [(Arr 25 b1 [(.int .i64 A.v), la, na, (.int .i64 A.r)]), (Gr 3 1 ((Value.slice none 0 0)) 0 ([]))]) rfl ?_
 refine vc_region ?_
 refine oq (qv_fa (off := 0) Try.field25_0 rfl) ?_
 refine oq (qv_ldp (v := (.int .i64 A.v)) Try.plain3 rfl (inOc (k := 0) rfl) rfl) ?_
 refine oq (qv_shli rfl rfl (by omega) (by omega) (by omega)) ?_
 refine oq (qv_mv (Value.int .i64 0) rfl) ?_
 refine ops_nil ?_
 refine vc_block ?_
 refine vc_loop (α := Int × Value) (fun (xx : Int × Value) => [(0, (.agg #[(.int .i64 A.v), la, na, (.int .i64 A.r)])), (1, (Value.pointer (some ⟨b1, 0, none⟩))), (2, (Value.slice none 0 0)), (7, (.int .i64 (1 * 2 ^ (A.v : Int).toNat))), (3, xx.2), (8, (Value.int .i64 xx.1))]) (fun (xx : Int × Value) V' σ' => [(Arr 25 b1 [(.int .i64 A.v), la, na, (.int .i64 A.r)]), (Gr 3 1 xx.2 ((tkN A.v (vl A) xx.1.toNat).length) (((tkN A.v (vl A) xx.1.toNat).map (Value.int .i64))))] = σ' ∧ Mt V' la na A ∧ 0 ≤ xx.1 ∧ xx.1 ≤ (2 : Int) ^ A.v.toNat) (fun (xx : Int × Value) => ((2 : Int) ^ A.v.toNat - xx.1).toNat) (0, (Value.slice none 0 0)) ?_ ?_ ?_
 · exact ⟨rfl, rfl, rfl, rfl, (by first | rfl | (first | omega | simp)), rfl, trivial⟩
 · exact ⟨(show [(Arr 25 b1 [(.int .i64 A.v), la, na, (.int .i64 A.r)]), (Gr 3 1 ((Value.slice none 0 0)) ((tkN A.v (vl A) (0 : Int).toNat).length) (((tkN A.v (vl A) (0 : Int).toNat).map (Value.int .i64))))] = [(Arr 25 b1 [(.int .i64 A.v), la, na, (.int .i64 A.r)]), (Gr 3 1 ((Value.slice none 0 0)) 0 ([]))] from by rfl), hA, by omega, by omega⟩
 rintro ⟨k, ov⟩ e1 V0l σ0l hI0
 obtain ⟨rfl, hA, i1, i2⟩ : [(Arr 25 b1 [(.int .i64 A.v), la, na, (.int .i64 A.r)]), (Gr 3 1 ov ((tkN A.v (vl A) k.toNat).length) (((tkN A.v (vl A) k.toNat).map (Value.int .i64))))] = σ0l ∧ Mt V0l la na A ∧ 0 ≤ k ∧ k ≤ (2 : Int) ^ A.v.toNat := hI0
 change VC _ _ _ _ _ _ (upds 22 [(0, (.agg #[(.int .i64 A.v), la, na, (.int .i64 A.r)])), (1, (Value.pointer (some ⟨b1, 0, none⟩))), (2, (Value.slice none 0 0)), (7, (.int .i64 (1 * 2 ^ (A.v : Int).toNat))), (3, ov), (8, (Value.int .i64 k))] e1) _ _
 refine vc_seq ?_
 refine vc_res (σ' := [(Arr 25 b1 [(.int .i64 A.v), la, na, (.int .i64 A.r)]), (Gr 3 1 ov ((tkN A.v (vl A) k.toNat).length) (((tkN A.v (vl A) k.toNat).map (Value.int .i64))))]) rfl ?_
 refine vc_region ?_
 refine oq (qv_lss rfl rfl) ?_
 refine ops_nil ?_
 refine vc_seq ?_
 refine vc_if rfl (fun c1 => ?_) (fun c1 => ?_)
 ·
  refine vc_skip ?_
  refine vc_seq ?_
  refine vc_block ?_
  refine vc_seq ?_
  refine vc_region ?_
  refine oq (qv_mv (Value.int .i64 k) rfl) ?_
  refine oq (qv_as (Value.int .i64 k) rfl) ?_
  refine ops_nil ?_
  have htk := tkN_len (g := vl A) (vars := A.v) (k := k) (by omega) (by omega)
  refine vc_region_order (τ := [(Gr 3 1 ov ((tkN A.v (vl A) k.toNat).length) (((tkN A.v (vl A) k.toNat).map (Value.int .i64))))]) [(0, false), (1, false), (2, false), (3, false), (4, false), (5, true), (6, false), (7, true), (8, true), (9, false)] [(Arr 25 b1 [(.int .i64 A.v), la, na, (.int .i64 A.r)])] Try.mixed (perm_idx _ _ [0, 1] rfl rfl) (by kernel_rfl) ?_
  refine rq rfl (qv_mv ov rfl) ?_
  refine rq rfl (qv_ldm (vs := [(.int .i64 A.v), la, na, (.int .i64 A.r)]) Try.agg25 rfl (inOc (k := 0) rfl) rfl rfl) ?_
  refine rq rfl (qv_fa (off := 0) Try.field25_0 rfl) ?_
  refine rq rfl (qv_ldp (v := (.int .i64 A.v)) Try.plain3 rfl (inOc (k := 0) rfl) rfl) ?_
  refine rq rfl (qv_mv (Value.int .i64 k) rfl) ?_
  refine rl rfl ?_
  refine ops_call (σa := []) (σr := [(Arr 25 b1 [(.int .i64 A.v), la, na, (.int .i64 A.r)]), (Gr 3 1 ov ((tkN A.v (vl A) k.toNat).length) (((tkN A.v (vl A) k.toNat).map (Value.int .i64))))]) (assignment_c (vars := A.v) (k := k) (by omega) (by omega) (by omega)) rfl rfl (.refl _) (fun r1 V1 sg1 hV1 hp1 => ?_)
  obtain ⟨ba, rfl, rfl⟩ := hp1
  have hA := hA.mono hV1
  refine ops_perm (σ' := [(Arr 25 b1 [(.int .i64 A.v), la, na, (.int .i64 A.r)]), (Gr 3 1 ov ((tkN A.v (vl A) k.toNat).length) (((tkN A.v (vl A) k.toNat).map (Value.int .i64)))), (Arr 4 ba (bvs (asL A.v k)))]) (perm_idx _ _ [1, 2, 0] rfl rfl) ?_
  refine ops_nil ⟨[(Arr 25 b1 [(.int .i64 A.v), la, na, (.int .i64 A.r)]), (Arr 4 ba (bvs (asL A.v k)))], [(Gr 3 1 ov ((tkN A.v (vl A) k.toNat).length) (((tkN A.v (vl A) k.toNat).map (Value.int .i64))))], hV1, (perm_idx _ _ [0, 2, 1] rfl rfl), ⟨[(Arr 4 ba (bvs (asL A.v k)))], .refl _⟩, ?_⟩
  refine rq rfl (qv_call_own (v := (.int .i64 (vl A (asg A.v k)))) (k := 1) (b := ba) rfl (fun Vo hVo hbo => by have h := valueR_c (hA.mono hVo) (bls_cells ⟨_, _, hbo⟩ (asL_len _ _).symm (Nat.le_refl _) (by omega)) hok (by rw [asL_len]; omega); rw [vl_asL hok] at h; exact h) rfl rfl) ?_
  refine rl rfl ?_
  refine ops_lit (n := 1) (s := 1) (cs := [(.int .i64 (vl A (asg A.v k)))]) Try.underlying22 Try.ti3 (Nat.le_of_ble_eq_true rfl) rfl rfl rfl (Nat.le_of_ble_eq_true rfl) rfl (fun b2 => ?_)
  refine ops_nil ⟨[(Arr 25 b1 [(.int .i64 A.v), la, na, (.int .i64 A.r)]), (Arr 4 ba (bvs (asL A.v k))), (Arr 3 b2 [(.int .i64 (vl A (asg A.v k)))])], [(Gr 3 1 ov ((tkN A.v (vl A) k.toNat).length) (((tkN A.v (vl A) k.toNat).map (Value.int .i64))))], (Sub.refl _), (perm_idx _ _ [0, 2, 3, 1] rfl rfl), ⟨[(Arr 3 b2 [(.int .i64 (vl A (asg A.v k)))])], .refl _⟩, ?_⟩
  refine rl rfl ?_
  refine ops_append (k := 1) (n := (tkN A.v (vl A) k.toNat).length) (s := 1) (m := 1) (v := ov) (xs := ((tkN A.v (vl A) k.toNat).map (Value.int .i64))) (news := [(.int .i64 (vl A (asg A.v k)))]) Try.underlying22 Try.ti3 rfl (Nat.le_of_ble_eq_true rfl) rfl rfl rfl rfl (news_own (j := 3) rfl) (by simp [Value.oneCell']) (by omega) (by simp only [maxLen]; omega) (fun v1 hn1 => ?_)
  refine ops_nil ⟨[(Arr 25 b1 [(.int .i64 A.v), la, na, (.int .i64 A.r)]), (Arr 4 ba (bvs (asL A.v k))), (Arr 3 b2 [(.int .i64 (vl A (asg A.v k)))])], [(Gr 3 1 v1 (((tkN A.v (vl A) k.toNat).length + 1)) ((((tkN A.v (vl A) k.toNat).map (Value.int .i64)) ++ [(.int .i64 (vl A (asg A.v k)))])))], (Sub.refl _), (perm_idx _ _ [0, 2, 3, 1] rfl rfl), ⟨[], .refl _⟩, ?_⟩
  refine rq rfl (qv_as v1 rfl) ?_
  refine rnil ?_
  refine vc_res (σ' := [(Arr 25 b1 [(.int .i64 A.v), la, na, (.int .i64 A.r)]), (Gr 3 1 v1 (((tkN A.v (vl A) k.toNat).length + 1)) ((((tkN A.v (vl A) k.toNat).map (Value.int .i64)) ++ [(.int .i64 (vl A (asg A.v k)))]))), (Arr 4 ba (bvs (asL A.v k))), (Arr 3 b2 [(.int .i64 (vl A (asg A.v k)))])]) rfl ?_
  refine vc_drop [(Arr 25 b1 [(Value.int .i64 (A.v)), la, na, (Value.int .i64 (A.r))]), (Gr 3 1 v1 (((tkN A.v (vl A) k.toNat).length + 1)) ((((tkN A.v (vl A) k.toNat).map (Value.int .i64)) ++ [(Value.int .i64 (vl A (asg A.v k)))]))), (Arr 4 ba (bvs (asL A.v k)))] [(Arr 3 b2 [(Value.int .i64 (vl A (asg A.v k)))])] ((List.perm_middle (l₁ := [(Arr 25 b1 [(Value.int .i64 (A.v)), la, na, (Value.int .i64 (A.r))]), (Gr 3 1 v1 (((tkN A.v (vl A) k.toNat).length + 1)) ((((tkN A.v (vl A) k.toNat).map (Value.int .i64)) ++ [(Value.int .i64 (vl A (asg A.v k)))]))), (Arr 4 ba (bvs (asL A.v k)))]) (l₂ := [])).trans (List.perm_append_comm (l₁ := [(Arr 3 b2 [(Value.int .i64 (vl A (asg A.v k)))])]))) ?_
  refine vc_drop [(Arr 25 b1 [(Value.int .i64 (A.v)), la, na, (Value.int .i64 (A.r))]), (Gr 3 1 v1 (((tkN A.v (vl A) k.toNat).length + 1)) ((((tkN A.v (vl A) k.toNat).map (Value.int .i64)) ++ [(Value.int .i64 (vl A (asg A.v k)))])))] [(Arr 4 ba (bvs (asL A.v k)))] ((List.perm_middle (l₁ := [(Arr 25 b1 [(Value.int .i64 (A.v)), la, na, (Value.int .i64 (A.r))]), (Gr 3 1 v1 (((tkN A.v (vl A) k.toNat).length + 1)) ((((tkN A.v (vl A) k.toNat).map (Value.int .i64)) ++ [(Value.int .i64 (vl A (asg A.v k)))])))]) (l₂ := [])).trans (List.perm_append_comm (l₁ := [(Arr 4 ba (bvs (asL A.v k)))]))) ?_
  refine vc_region ?_
  refine oq (qv_add rfl rfl (by omega)) ?_
  refine oq (qv_mv (.int .i64 (k + 1)) rfl) ?_
  refine ops_nil ?_
  refine ⟨(k + 1, v1), ⟨rfl, rfl, rfl, rfl, rfl, (congrArg (Value.int .i64) (show (k + 1) = ((k + 1)) from by omega)), trivial⟩, ⟨(show [(Arr 25 b1 [(.int .i64 A.v), la, na, (.int .i64 A.r)]), (Gr 3 1 v1 ((tkN A.v (vl A) (k + 1 : Int).toNat).length) (((tkN A.v (vl A) (k + 1 : Int).toNat).map (Value.int .i64))))] = [(Arr 25 b1 [(.int .i64 A.v), la, na, (.int .i64 A.r)]), (Gr 3 1 v1 (((tkN A.v (vl A) k.toNat).length + 1)) ((((tkN A.v (vl A) k.toNat).map (Value.int .i64)) ++ [(.int .i64 (vl A (asg A.v k)))])))] from by rw [← tkN_step (g := vl A) (by omega) (by omega), List.map_append, List.length_append]; rfl), hA, by omega, by omega⟩, by omega⟩
 ·
  refine vc_exit ?_
  refine blockQ_hit ?_
  refine vc_seq ?_
  refine vc_region ?_
  refine oq (qv_mv ov rfl) ?_
  refine oq (qv_as ov rfl) ?_
  refine ops_nil ?_
  refine vc_drop [(Gr 3 1 ov ((tkN A.v (vl A) k.toNat).length) (((tkN A.v (vl A) k.toNat).map (Value.int .i64))))] [(Arr 25 b1 [(Value.int .i64 (A.v)), la, na, (Value.int .i64 (A.r))])] ((List.perm_middle (l₁ := []) (l₂ := [(Gr 3 1 ov ((tkN A.v (vl A) k.toNat).length) (((tkN A.v (vl A) k.toNat).map (Value.int .i64))))])).trans (List.perm_append_comm (l₁ := [(Arr 25 b1 [(Value.int .i64 (A.v)), la, na, (Value.int .i64 (A.r))])]))) ?_
  refine vc_ret ?_
  refine rq1 ov rfl ?_
  have e := tkN_all (g := vl A) (k := k) hv0 (by omega)
  rw [e]

end Go.Proofs.Ytkmhjcjpohpiaaa
