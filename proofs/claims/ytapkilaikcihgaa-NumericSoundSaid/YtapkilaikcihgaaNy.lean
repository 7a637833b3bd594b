/- Walks of numeric: what each function returns. Printed by a program out of notes. -/
import Derived.Test.YtapkilaikcihgaaNx
namespace Go.Proofs.Ytapkilaikcihgaa
open Go.Vc
open Classical

set_option maxRecDepth 100000 in
set_option maxHeartbeats 4000000 in
theorem NumericSound_n {V : HV} {op i j : Int} {a b : Nm} :
    FnC Try.prog 6 [(Value.int .i64 op), (.agg #[(.int .i64 a.l), (.int .i64 a.h), (.int .i64 a.s), (.int .i64 b.l), (.int .i64 b.h), (.int .i64 b.s)]), (.agg #[(Value.int .i64 i), (Value.int .i64 j)])] V [] (fun v _ _ => v = (Value.bool true)) := by
 refine fn_intro (N := 88) Try.func6 (by kernel_rfl) rfl rfl rfl (Nat.le_of_ble_eq_true rfl) ?_
 intro w0 D
 refine vc_seq ?_
 refine vc_region ?_
 refine ops_box (v := (.agg #[(.int .i64 a.l), (.int .i64 a.h), (.int .i64 a.s), (.int .i64 b.l), (.int .i64 b.h), (.int .i64 b.s)])) (cs := [(.int .i64 a.l), (.int .i64 a.h), (.int .i64 a.s), (.int .i64 b.l), (.int .i64 b.h), (.int .i64 b.s)]) rfl rfl (fun b1 => ?_)
 refine ops_box (v := (.agg #[(Value.int .i64 i), (Value.int .i64 j)])) (cs := [(Value.int .i64 i), (Value.int .i64 j)]) rfl rfl (fun b2 => ?_)
 refine oq (qv_as (Value.bool false) rfl) ?_
 refine ops_nil ?_
 refine vc_seq ?_
 refine vc_seq ?_
 refine vc_res (σ' := [(Arr 44 b1 [(.int .i64 a.l), (.int .i64 a.h), (.int .i64 a.s), (.int .i64 b.l), (.int .i64 b.h), (.int .i64 b.s)]), (Arr 46 b2 [(Value.int .i64 i), (Value.int .i64 j)])]) rfl ?_
 refine vc_region ?_
 refine oq (qv_call (v := (Value.bool true)) (known_c) rfl rfl) ?_
 refine oq (qv_notc rfl) ?_
 refine ops_nil ?_
 refine vc_ff rfl ?_
 refine vc_skip ?_
 refine vc_seq ?_
 refine vc_join (α := Nat × Nat) (fun xx => [(0, (Value.int .i64 op)), (1, (.agg #[(.int .i64 a.l), (.int .i64 a.h), (.int .i64 a.s), (.int .i64 b.l), (.int .i64 b.h), (.int .i64 b.s)])), (2, (.agg #[(Value.int .i64 i), (Value.int .i64 j)])), (4, (Value.pointer (some ⟨b1, 0, none⟩))), (5, (Value.pointer (some ⟨b2, 0, none⟩))), (6, (Value.bool false)), (7, (Value.pointer (some ⟨xx.1, 0, none⟩))), (8, (Value.pointer (some ⟨xx.2, 0, none⟩))), (19, (Value.bool false))]) (fun xx V' σ' => V = V' ∧ [(Arr 44 b1 [(.int .i64 a.l), (.int .i64 a.h), (.int .i64 a.s), (.int .i64 b.l), (.int .i64 b.h), (.int .i64 b.s)]), (Arr 46 b2 [(Value.int .i64 i), (Value.int .i64 j)]), (Arr 23 xx.1 [(.int .i64 a.l), (.int .i64 a.h), (.int .i64 a.s)]), (Arr 23 xx.2 [(.int .i64 b.l), (.int .i64 b.h), (.int .i64 b.s)])] = σ') ?_ ?_
 ·
  refine vc_region_E (τ := []) (n := 8) [(Arr 44 b1 [(.int .i64 a.l), (.int .i64 a.h), (.int .i64 a.s), (.int .i64 b.l), (.int .i64 b.h), (.int .i64 b.s)]), (Arr 46 b2 [(Value.int .i64 i), (Value.int .i64 j)])] Try.mixed (perm_nil _) rfl ?_
  refine eq_ (i := 0) (by kernel_rfl) rfl (qv_iaa (i := 0) (off := 0) Try.underlying44 Try.size23 rfl rfl (by omega) (by omega) rfl) ?_
  refine eq_ (i := 1) (by kernel_rfl) rfl (qv_ldm (vs := [(.int .i64 a.l), (.int .i64 a.h), (.int .i64 a.s)]) Try.agg23 rfl (inOc (k := 0) rfl) rfl rfl) ?_
  refine eq_ (i := 2) (by kernel_rfl) rfl (qv_iaa (i := 1) (off := 0) Try.underlying44 Try.size23 rfl rfl (by omega) (by omega) rfl) ?_
  refine eq_ (i := 3) (by kernel_rfl) rfl (qv_ldm (vs := [(.int .i64 b.l), (.int .i64 b.h), (.int .i64 b.s)]) Try.agg23 rfl (inOc (k := 0) rfl) rfl rfl) ?_
  refine el2 (i := 4) (j := 5) (by kernel_rfl) ?_ ?_
  ·
   refine ⟨_, rfl, ?_⟩
   refine ops_alloc Try.ti23 rfl (fun b3 => ?_)
   refine ops_nil ⟨[(Arr 44 b1 [(.int .i64 a.l), (.int .i64 a.h), (.int .i64 a.s), (.int .i64 b.l), (.int .i64 b.h), (.int .i64 b.s)]), (Arr 46 b2 [(Value.int .i64 i), (Value.int .i64 j)])], [(Arr 23 b3 [(Value.int .i64 0), (Value.int .i64 0), (Value.int .i64 0)])], (perm_idx _ _ [0, 1, 2] rfl rfl), .inl ⟨(Sub.refl _), [], .refl _⟩, ?_⟩
   refine el1 (i := 5) (by kernel_rfl) ?_
   refine ⟨_, rfl, ?_⟩
   refine ops_alloc Try.ti23 rfl (fun b4 => ?_)
   refine ops_nil ⟨[(Arr 44 b1 [(.int .i64 a.l), (.int .i64 a.h), (.int .i64 a.s), (.int .i64 b.l), (.int .i64 b.h), (.int .i64 b.s)]), (Arr 46 b2 [(Value.int .i64 i), (Value.int .i64 j)]), (Arr 23 b4 [(Value.int .i64 0), (Value.int .i64 0), (Value.int .i64 0)])], [(Arr 23 b3 [(Value.int .i64 0), (Value.int .i64 0), (Value.int .i64 0)])], (perm_idx _ _ [0, 1, 3, 2] rfl rfl), .inl ⟨(Sub.refl _), [(Arr 23 b4 [(Value.int .i64 0), (Value.int .i64 0), (Value.int .i64 0)])], .refl _⟩, ?_⟩
   refine el1 (i := 6) (by kernel_rfl) ?_
   refine ⟨_, rfl, ?_⟩
   refine ops_stw (k := 2) (vs := [(.int .i64 a.l), (.int .i64 a.h), (.int .i64 a.s)]) Try.size23 rfl rfl rfl rfl rfl rfl ?_
   refine ops_nil ⟨[(Arr 44 b1 [(.int .i64 a.l), (.int .i64 a.h), (.int .i64 a.s), (.int .i64 b.l), (.int .i64 b.h), (.int .i64 b.s)]), (Arr 46 b2 [(Value.int .i64 i), (Value.int .i64 j)]), (Arr 23 b4 [(Value.int .i64 0), (Value.int .i64 0), (Value.int .i64 0)])], [(Arr 23 b3 [(.int .i64 a.l), (.int .i64 a.h), (.int .i64 a.s)])], (perm_idx _ _ [0, 1, 3, 2] rfl rfl), .inl ⟨(Sub.refl _), [], .refl _⟩, ?_⟩
   refine el1 (i := 7) (by kernel_rfl) ?_
   refine ⟨_, rfl, ?_⟩
   refine ops_stw (k := 3) (vs := [(.int .i64 b.l), (.int .i64 b.h), (.int .i64 b.s)]) Try.size23 rfl rfl rfl rfl rfl rfl ?_
   refine ops_nil ⟨[(Arr 44 b1 [(.int .i64 a.l), (.int .i64 a.h), (.int .i64 a.s), (.int .i64 b.l), (.int .i64 b.h), (.int .i64 b.s)]), (Arr 46 b2 [(Value.int .i64 i), (Value.int .i64 j)]), (Arr 23 b4 [(.int .i64 b.l), (.int .i64 b.h), (.int .i64 b.s)])], [(Arr 23 b3 [(.int .i64 a.l), (.int .i64 a.h), (.int .i64 a.s)])], (perm_idx _ _ [0, 1, 3, 2] rfl rfl), .inr (by kernel_rfl), ?_⟩
   refine enil (σ' := [(Arr 44 b1 [(.int .i64 a.l), (.int .i64 a.h), (.int .i64 a.s), (.int .i64 b.l), (.int .i64 b.h), (.int .i64 b.s)]), (Arr 46 b2 [(Value.int .i64 i), (Value.int .i64 j)]), (Arr 23 b3 [(.int .i64 a.l), (.int .i64 a.h), (.int .i64 a.s)]), (Arr 23 b4 [(.int .i64 b.l), (.int .i64 b.h), (.int .i64 b.s)])]) (by kernel_rfl) (perm_idx _ _ [0, 1, 2, 3] rfl rfl) ⟨(b3, b4), ⟨rfl, rfl, rfl, rfl, rfl, rfl, rfl, rfl, rfl, trivial⟩, rfl, rfl⟩
  ·
   refine ⟨_, rfl, ?_⟩
   refine ops_alloc Try.ti23 rfl (fun b5 => ?_)
   refine ops_nil ⟨[(Arr 44 b1 [(.int .i64 a.l), (.int .i64 a.h), (.int .i64 a.s), (.int .i64 b.l), (.int .i64 b.h), (.int .i64 b.s)]), (Arr 46 b2 [(Value.int .i64 i), (Value.int .i64 j)]), (Arr 23 b5 [(Value.int .i64 0), (Value.int .i64 0), (Value.int .i64 0)])], [], (perm_nil _), .inl ⟨(Sub.refl _), [(Arr 23 b5 [(Value.int .i64 0), (Value.int .i64 0), (Value.int .i64 0)])], .refl _⟩, ?_⟩
   refine el1 (i := 4) (by kernel_rfl) ?_
   refine ⟨_, rfl, ?_⟩
   refine ops_alloc Try.ti23 rfl (fun b6 => ?_)
   refine ops_nil ⟨[(Arr 44 b1 [(.int .i64 a.l), (.int .i64 a.h), (.int .i64 a.s), (.int .i64 b.l), (.int .i64 b.h), (.int .i64 b.s)]), (Arr 46 b2 [(Value.int .i64 i), (Value.int .i64 j)]), (Arr 23 b5 [(Value.int .i64 0), (Value.int .i64 0), (Value.int .i64 0)])], [(Arr 23 b6 [(Value.int .i64 0), (Value.int .i64 0), (Value.int .i64 0)])], (perm_idx _ _ [0, 1, 2, 3] rfl rfl), .inl ⟨(Sub.refl _), [], .refl _⟩, ?_⟩
   refine el1 (i := 6) (by kernel_rfl) ?_
   refine ⟨_, rfl, ?_⟩
   refine ops_stw (k := 3) (vs := [(.int .i64 a.l), (.int .i64 a.h), (.int .i64 a.s)]) Try.size23 rfl rfl rfl rfl rfl rfl ?_
   refine ops_nil ⟨[(Arr 44 b1 [(.int .i64 a.l), (.int .i64 a.h), (.int .i64 a.s), (.int .i64 b.l), (.int .i64 b.h), (.int .i64 b.s)]), (Arr 46 b2 [(Value.int .i64 i), (Value.int .i64 j)]), (Arr 23 b5 [(Value.int .i64 0), (Value.int .i64 0), (Value.int .i64 0)])], [(Arr 23 b6 [(.int .i64 a.l), (.int .i64 a.h), (.int .i64 a.s)])], (perm_idx _ _ [0, 1, 2, 3] rfl rfl), .inl ⟨(Sub.refl _), [], .refl _⟩, ?_⟩
   refine el1 (i := 7) (by kernel_rfl) ?_
   refine ⟨_, rfl, ?_⟩
   refine ops_stw (k := 2) (vs := [(.int .i64 b.l), (.int .i64 b.h), (.int .i64 b.s)]) Try.size23 rfl rfl rfl rfl rfl rfl ?_
   refine ops_nil ⟨[(Arr 44 b1 [(.int .i64 a.l), (.int .i64 a.h), (.int .i64 a.s), (.int .i64 b.l), (.int .i64 b.h), (.int .i64 b.s)]), (Arr 46 b2 [(Value.int .i64 i), (Value.int .i64 j)]), (Arr 23 b5 [(.int .i64 b.l), (.int .i64 b.h), (.int .i64 b.s)])], [(Arr 23 b6 [(.int .i64 a.l), (.int .i64 a.h), (.int .i64 a.s)])], (perm_idx _ _ [0, 1, 2, 3] rfl rfl), .inr (by kernel_rfl), ?_⟩
   refine enil (σ' := [(Arr 44 b1 [(.int .i64 a.l), (.int .i64 a.h), (.int .i64 a.s), (.int .i64 b.l), (.int .i64 b.h), (.int .i64 b.s)]), (Arr 46 b2 [(Value.int .i64 i), (Value.int .i64 j)]), (Arr 23 b6 [(.int .i64 a.l), (.int .i64 a.h), (.int .i64 a.s)]), (Arr 23 b5 [(.int .i64 b.l), (.int .i64 b.h), (.int .i64 b.s)])]) (by kernel_rfl) (perm_idx _ _ [0, 1, 3, 2] rfl rfl) ⟨(b6, b5), ⟨rfl, rfl, rfl, rfl, rfl, rfl, rfl, rfl, rfl, trivial⟩, rfl, rfl⟩
 rintro ⟨z7, z8⟩ e1 Vj1 σj1 hJ1
 obtain ⟨rfl, rfl⟩ : V = Vj1 ∧ [(Arr 44 b1 [(.int .i64 a.l), (.int .i64 a.h), (.int .i64 a.s), (.int .i64 b.l), (.int .i64 b.h), (.int .i64 b.s)]), (Arr 46 b2 [(Value.int .i64 i), (Value.int .i64 j)]), (Arr 23 z7 [(.int .i64 a.l), (.int .i64 a.h), (.int .i64 a.s)]), (Arr 23 z8 [(.int .i64 b.l), (.int .i64 b.h), (.int .i64 b.s)])] = σj1 := hJ1
 change VC _ _ _ _ _ _ (upds 88 [(0, (Value.int .i64 op)), (1, (.agg #[(.int .i64 a.l), (.int .i64 a.h), (.int .i64 a.s), (.int .i64 b.l), (.int .i64 b.h), (.int .i64 b.s)])), (2, (.agg #[(Value.int .i64 i), (Value.int .i64 j)])), (4, (Value.pointer (some ⟨b1, 0, none⟩))), (5, (Value.pointer (some ⟨b2, 0, none⟩))), (6, (Value.bool false)), (7, (Value.pointer (some ⟨z7, 0, none⟩))), (8, (Value.pointer (some ⟨z8, 0, none⟩))), (19, (Value.bool false))] e1) _ _
 refine vc_seq ?_
 refine vc_seq ?_
 refine vc_region ?_
 refine oq (qv_ldm (vs := [(.int .i64 a.l), (.int .i64 a.h), (.int .i64 a.s)]) Try.agg23 rfl (inOc (k := 2) rfl) rfl rfl) ?_
 refine oq (qv_call (v := (.int .i64 (sizeV a))) (rSize_c (a := a)) rfl rfl) ?_
 refine oq (qv_eql rfl rfl) ?_
 refine oq (qv_mv (.bool (decide ((sizeV a) = 0))) rfl) ?_
 by_cases g1 : (sizeV a) = 0
 ·
  refine os (want_fn g1 rfl rfl rfl) ?_
  refine os (want_fn g1 rfl rfl rfl) ?_
  refine os (want_fn g1 rfl rfl rfl) ?_
  refine oq (qv_pick_t g1 rfl (rfl : ev _ _ = (Value.bool true))) ?_
  refine ops_nil ?_
  refine vc_tt rfl ?_
  refine vc_seq ?_
  refine vc_region ?_
  refine oq (qv_as (Value.bool true) rfl) ?_
  refine ops_nil ?_
  refine vc_ret ?_
  exact rq1 (Value.bool true) rfl rfl
 ·
  refine og (qv_ldm (vs := [(.int .i64 b.l), (.int .i64 b.h), (.int .i64 b.s)]) Try.agg23 rfl (inOc (k := 3) rfl) rfl rfl) (want_f g1 rfl rfl rfl) ?_
  refine og (qv_call (v := (.int .i64 (sizeV b))) (rSize_c (a := b)) rfl rfl) (want_f g1 rfl rfl rfl) ?_
  refine og (qv_eql rfl rfl) (want_f g1 rfl rfl rfl) ?_
  refine oq (qv_pick_f g1 rfl (rfl : ev _ _ = (.bool (decide ((sizeV b) = 0))))) ?_
  refine ops_nil ?_
  refine vc_if rfl (fun c1 => ?_) (fun c1 => ?_)
  ·
   refine vc_seq ?_
   refine vc_region ?_
   refine oq (qv_as (Value.bool true) rfl) ?_
   refine ops_nil ?_
   refine vc_ret ?_
   exact rq1 (Value.bool true) rfl rfl
  ·
   refine vc_skip ?_
   refine vc_seq ?_
   have va : vld a := Classical.byContradiction fun q => absurd (sizeV_0 q) (by assumption)
   have za := sizeV_1 va
   have pa := size_bd va
   have ma0 := Int.emod_nonneg (i % 4611686018427387904) (show sizeV a ≠ 0 by assumption)
   have ma1 := Int.emod_lt_of_pos (i % 4611686018427387904) (show 0 < sizeV a by omega)
   have ba0 := vld_bd va
   unfold fits at ba0
   have ba1 := (vld_ne va (fun e => by rw [sizeF_0 e] at za; omega)).2.2.1
   refine vc_region_any Try.mixed (by kernel_rfl) ?_
   refine qq (qv_ldm (vs := [(.int .i64 a.l), (.int .i64 a.h), (.int .i64 a.s)]) Try.agg23 rfl (inOc (k := 2) rfl) rfl rfl) ?_
   refine qq (qv_fa (off := 0) Try.field46_0 rfl) ?_
   refine qq (qv_ldp (v := (Value.int .i64 i)) Try.plain3 rfl (inOc (k := 1) rfl) rfl) ?_
   refine qq (qv_and62 rfl rfl) ?_
   refine qq (qv_ldm (vs := [(.int .i64 a.l), (.int .i64 a.h), (.int .i64 a.s)]) Try.agg23 rfl (inOc (k := 2) rfl) rfl rfl) ?_
   refine qq (qv_call (v := (.int .i64 (sizeV a))) (rSize_c (a := a)) rfl rfl) ?_
   refine qq (qv_rem rfl rfl (by omega) (by omega)) ?_
   refine qq (qv_call (v := (.int .i64 (a.l + ((i % 4611686018427387904) % (sizeV a)) * a.s))) (rAt_c (by assumption) (by omega) (by omega)) rfl rfl) ?_
   obtain ⟨x, hx⟩ : ∃ z : Int, z = a.l + ((i % 4611686018427387904) % (sizeV a)) * a.s := ⟨_, rfl⟩
   refine qq (qv_as (Value.int .i64 x) (show _ = _ from congrArg (Value.int .i64) hx.symm)) ?_
   refine qops_nil ?_
   refine vc_seq ?_
   have hmx : mem a x := by rw [hx]; exact at_mem va (by omega) (by omega)
   have fx := mem_fits va hmx
   have fx1 := fx
   unfold fits at fx1
   have vb : vld b := Classical.byContradiction fun q => absurd (sizeV_0 q) (by assumption)
   have zb := sizeV_1 vb
   have pb := size_bd vb
   have mb0 := Int.emod_nonneg (j % 4611686018427387904) (show sizeV b ≠ 0 by assumption)
   have mb1 := Int.emod_lt_of_pos (j % 4611686018427387904) (show 0 < sizeV b by omega)
   have bb0 := vld_bd vb
   unfold fits at bb0
   have bb1 := (vld_ne vb (fun e => by rw [sizeF_0 e] at zb; omega)).2.2.1
   refine vc_region_any Try.mixed (by kernel_rfl) ?_
   refine qq (qv_ldm (vs := [(.int .i64 b.l), (.int .i64 b.h), (.int .i64 b.s)]) Try.agg23 rfl (inOc (k := 3) rfl) rfl rfl) ?_
   refine qq (qv_fa (off := 0) Try.field46_1 rfl) ?_
   refine qq (qv_ldp (v := (Value.int .i64 j)) Try.plain3 rfl (inOc (k := 1) rfl) rfl) ?_
   refine qq (qv_and62 rfl rfl) ?_
   refine qq (qv_ldm (vs := [(.int .i64 b.l), (.int .i64 b.h), (.int .i64 b.s)]) Try.agg23 rfl (inOc (k := 3) rfl) rfl rfl) ?_
   refine qq (qv_call (v := (.int .i64 (sizeV b))) (rSize_c (a := b)) rfl rfl) ?_
   refine qq (qv_rem rfl rfl (by omega) (by omega)) ?_
   refine qq (qv_call (v := (.int .i64 (b.l + ((j % 4611686018427387904) % (sizeV b)) * b.s))) (rAt_c (by assumption) (by omega) (by omega)) rfl rfl) ?_
   obtain ⟨y, hy⟩ : ∃ z : Int, z = b.l + ((j % 4611686018427387904) % (sizeV b)) * b.s := ⟨_, rfl⟩
   refine qq (qv_as (Value.int .i64 y) (show _ = _ from congrArg (Value.int .i64) hy.symm)) ?_
   refine qops_nil ?_
   refine vc_seq ?_
   have hmy : mem b y := by rw [hy]; exact at_mem vb (by omega) (by omega)
   have fy := mem_fits vb hmy
   have fy1 := fy
   unfold fits at fy1
   refine vc_region ?_
   refine oq (qv_mv (Value.int .i64 op) rfl) ?_
   refine oq (qv_ldm (vs := [(.int .i64 a.l), (.int .i64 a.h), (.int .i64 a.s)]) Try.agg23 rfl (inOc (k := 2) rfl) rfl rfl) ?_
   refine oq (qv_call (v := (.tuple #[(.agg #[(.int .i64 ((unN op a).l)), (.int .i64 ((unN op a).h)), (.int .i64 ((unN op a).s))]), (.int .i64 (unE op a))])) (Unary_c (a := a)) rfl rfl) ?_
   refine oq (qv_mv (.tuple #[(.agg #[(.int .i64 ((unN op a).l)), (.int .i64 ((unN op a).h)), (.int .i64 ((unN op a).s))]), (.int .i64 (unE op a))]) rfl) ?_
   refine oq (qv_ext (.agg #[(.int .i64 ((unN op a).l)), (.int .i64 ((unN op a).h)), (.int .i64 ((unN op a).s))]) rfl rfl) ?_
   refine oq (qv_ext (.int .i64 (unE op a)) rfl rfl) ?_
   refine ops_alloc Try.ti23 rfl (fun b7 => ?_)
   refine ops_stw (k := 4) (vs := [(.int .i64 ((unN op a).l)), (.int .i64 ((unN op a).h)), (.int .i64 ((unN op a).s))]) Try.size23 rfl rfl rfl rfl rfl rfl ?_
   refine oq (qv_as (.int .i64 (unE op a)) rfl) ?_
   refine ops_nil ?_
   refine vc_seq ?_
   refine vc_seq ?_
   refine vc_res (σ' := [(Arr 44 b1 [(.int .i64 a.l), (.int .i64 a.h), (.int .i64 a.s), (.int .i64 b.l), (.int .i64 b.h), (.int .i64 b.s)]), (Arr 46 b2 [(Value.int .i64 i), (Value.int .i64 j)]), (Arr 23 z7 [(.int .i64 a.l), (.int .i64 a.h), (.int .i64 a.s)]), (Arr 23 z8 [(.int .i64 b.l), (.int .i64 b.h), (.int .i64 b.s)]), (Arr 23 b7 [(.int .i64 ((unN op a).l)), (.int .i64 ((unN op a).h)), (.int .i64 ((unN op a).s))])]) rfl ?_
   refine vc_region ?_
   refine oq (qv_mv (.int .i64 (unE op a)) rfl) ?_
   refine oq (qv_eql rfl rfl) ?_
   refine ops_nil ?_
   refine vc_if rfl (fun c2 => ?_) (fun c2 => ?_)
   ·
    refine vc_seq ?_
    refine vc_region ?_
    refine oq (qv_mv (Value.int .i64 x) rfl) ?_
    refine oq (qv_neg rfl (by omega)) ?_
    refine oq (qv_as (.int .i64 (-x)) rfl) ?_
    refine ops_nil ?_
    refine vc_seq ?_
    refine vc_seq ?_
    refine vc_region ?_
    refine oq (qv_mv (Value.int .i64 op) rfl) ?_
    refine oq (qv_eql rfl rfl) ?_
    refine ops_nil ?_
    refine vc_if rfl (fun c3 => ?_) (fun c3 => ?_)
    ·
     refine vc_seq ?_
     refine vc_region ?_
     refine oq (qv_as (Value.int .i64 0) rfl) ?_
     refine ops_nil ?_
     refine vc_seq ?_
     refine vc_region ?_
     refine oq (qv_mv (Value.int .i64 x) rfl) ?_
     refine oq (qv_eql rfl rfl) ?_
     refine ops_nil ?_
     refine vc_if rfl (fun c4 => ?_) (fun c4 => ?_)
     ·
      refine vc_region ?_
      refine oq (qv_as (Value.int .i64 1) rfl) ?_
      refine ops_nil ?_
      refine vc_seq ?_
      refine vc_region ?_
      refine oq (qv_ldm (vs := [(.int .i64 ((unN op a).l)), (.int .i64 ((unN op a).h)), (.int .i64 ((unN op a).s))]) Try.agg23 rfl (inOc (k := 4) rfl) rfl rfl) ?_
      refine oq (qv_mv (Value.int .i64 1) rfl) ?_
      refine oq (qv_call (v := (.bool (decide (vld (unN op a) ∧ mem (unN op a) 1)))) (Has_c (a := unN op a)) rfl rfl) ?_
      refine oq (qv_not rfl) ?_
      refine ops_nil ?_
      refine vc_if rfl (fun c5 => ?_) (fun c5 => ?_)
      ·
       exact absurd (un_sound (by assumption) hmx (unV_1 (by assumption) (by assumption))) c5
      ·
       refine vc_skip ?_
       refine vc_seq ?_
       refine vc_region ?_
       refine oq (qv_mv (Value.int .i64 op) rfl) ?_
       refine oq (qv_ldm (vs := [(.int .i64 a.l), (.int .i64 a.h), (.int .i64 a.s)]) Try.agg23 rfl (inOc (k := 2) rfl) rfl rfl) ?_
       refine oq (qv_ldm (vs := [(.int .i64 b.l), (.int .i64 b.h), (.int .i64 b.s)]) Try.agg23 rfl (inOc (k := 3) rfl) rfl rfl) ?_
       refine oq (qv_call (v := (.tuple #[(.agg #[(.int .i64 ((biN op a b).l)), (.int .i64 ((biN op a b).h)), (.int .i64 ((biN op a b).s))]), (.int .i64 (biE op a b))])) (Binary_c (a := a) (b := b)) rfl rfl) ?_
       refine oq (qv_mv (.tuple #[(.agg #[(.int .i64 ((biN op a b).l)), (.int .i64 ((biN op a b).h)), (.int .i64 ((biN op a b).s))]), (.int .i64 (biE op a b))]) rfl) ?_
       refine oq (qv_ext (.agg #[(.int .i64 ((biN op a b).l)), (.int .i64 ((biN op a b).h)), (.int .i64 ((biN op a b).s))]) rfl rfl) ?_
       refine oq (qv_ext (.int .i64 (biE op a b)) rfl rfl) ?_
       refine ops_alloc Try.ti23 rfl (fun b8 => ?_)
       refine ops_stw (k := 5) (vs := [(.int .i64 ((biN op a b).l)), (.int .i64 ((biN op a b).h)), (.int .i64 ((biN op a b).s))]) Try.size23 rfl rfl rfl rfl rfl rfl ?_
       refine oq (qv_as (.int .i64 (biE op a b)) rfl) ?_
       refine ops_nil ?_
       refine vc_seq ?_
       refine vc_seq ?_
       refine vc_res (σ' := [(Arr 44 b1 [(.int .i64 a.l), (.int .i64 a.h), (.int .i64 a.s), (.int .i64 b.l), (.int .i64 b.h), (.int .i64 b.s)]), (Arr 46 b2 [(Value.int .i64 i), (Value.int .i64 j)]), (Arr 23 z7 [(.int .i64 a.l), (.int .i64 a.h), (.int .i64 a.s)]), (Arr 23 z8 [(.int .i64 b.l), (.int .i64 b.h), (.int .i64 b.s)]), (Arr 23 b7 [(.int .i64 ((unN op a).l)), (.int .i64 ((unN op a).h)), (.int .i64 ((unN op a).s))]), (Arr 23 b8 [(.int .i64 ((biN op a b).l)), (.int .i64 ((biN op a b).h)), (.int .i64 ((biN op a b).s))])]) rfl ?_
       refine vc_region ?_
       refine oq (qv_mv (.int .i64 (biE op a b)) rfl) ?_
       refine oq (qv_neq rfl rfl) ?_
       refine ops_nil ?_
       refine vc_if rfl (fun c6 => ?_) (fun c6 => ?_)
       ·
        refine vc_seq ?_
        refine vc_region ?_
        refine oq (qv_as (Value.bool true) rfl) ?_
        refine ops_nil ?_
        refine vc_ret ?_
        exact rq1 (Value.bool true) rfl rfl
       ·
        refine vc_skip ?_
        refine vc_seq ?_
        have hb0 : biE op a b = 0 := Decidable.not_not.1 (by assumption)
        obtain ⟨k1, k2⟩ := bi_sound hb0 hmx hmy
        refine vc_region ?_
        refine oq (qv_mv (Value.int .i64 op) rfl) ?_
        refine oq (qv_mv (Value.int .i64 x) rfl) ?_
        refine oq (qv_mv (Value.int .i64 y) rfl) ?_
        refine oq (qv_call (v := (.tuple #[(.int .i64 (vN op x y)), (.bool (decide (valOk op x y)))])) (rValue_c fx fy) rfl rfl) ?_
        refine oq (qv_mv (.tuple #[(.int .i64 (vN op x y)), (.bool (decide (valOk op x y)))]) rfl) ?_
        refine oq (qv_ext (.int .i64 (vN op x y)) rfl rfl) ?_
        refine oq (qv_ext (.bool (decide (valOk op x y))) rfl rfl) ?_
        refine oq (qv_as (.int .i64 (vN op x y)) rfl) ?_
        refine oq (qv_as (.bool (decide (valOk op x y))) rfl) ?_
        refine ops_nil ?_
        refine vc_seq ?_
        refine vc_region ?_
        refine oq (qv_mv (.bool (decide (valOk op x y))) rfl) ?_
        refine oq (qv_mv (.bool (decide (valOk op x y))) rfl) ?_
        by_cases g2 : valOk op x y
        ·
         refine og (qv_ldm (vs := [(.int .i64 ((biN op a b).l)), (.int .i64 ((biN op a b).h)), (.int .i64 ((biN op a b).s))]) Try.agg23 rfl (inOc (k := 5) rfl) rfl rfl) (want_t g2 rfl rfl rfl) ?_
         refine og (qv_mv (.int .i64 (vN op x y)) rfl) (want_t g2 rfl rfl rfl) ?_
         refine og (qv_call (v := (.bool (decide (vld (biN op a b) ∧ mem (biN op a b) (vN op x y))))) (Has_c (a := biN op a b)) rfl rfl) (want_t g2 rfl rfl rfl) ?_
         refine oq (qv_pick_t g2 rfl (rfl : ev _ _ = (.bool (decide (vld (biN op a b) ∧ mem (biN op a b) (vN op x y)))))) ?_
         refine oq (qv_as (.bool (decide (vld (biN op a b) ∧ mem (biN op a b) (vN op x y)))) rfl) ?_
         refine ops_nil ?_
         refine vc_ret ?_
         exact rq1 (Value.bool true) (congrArg Value.bool (decide_eq_true (show (vld (biN op a b) ∧ mem (biN op a b) (vN op x y)) from by exact k2))) rfl
        ·
         exact absurd k1 g2
     ·
      refine vc_skip ?_
      refine vc_seq ?_
      refine vc_region ?_
      refine oq (qv_ldm (vs := [(.int .i64 ((unN op a).l)), (.int .i64 ((unN op a).h)), (.int .i64 ((unN op a).s))]) Try.agg23 rfl (inOc (k := 4) rfl) rfl rfl) ?_
      refine oq (qv_mv (Value.int .i64 0) rfl) ?_
      refine oq (qv_call (v := (.bool (decide (vld (unN op a) ∧ mem (unN op a) 0)))) (Has_c (a := unN op a)) rfl rfl) ?_
      refine oq (qv_not rfl) ?_
      refine ops_nil ?_
      refine vc_if rfl (fun c7 => ?_) (fun c7 => ?_)
      ·
       exact absurd (un_sound (by assumption) hmx (unV_0 (by assumption) (by assumption))) c7
      ·
       refine vc_skip ?_
       refine vc_seq ?_
       refine vc_region ?_
       refine oq (qv_mv (Value.int .i64 op) rfl) ?_
       refine oq (qv_ldm (vs := [(.int .i64 a.l), (.int .i64 a.h), (.int .i64 a.s)]) Try.agg23 rfl (inOc (k := 2) rfl) rfl rfl) ?_
       refine oq (qv_ldm (vs := [(.int .i64 b.l), (.int .i64 b.h), (.int .i64 b.s)]) Try.agg23 rfl (inOc (k := 3) rfl) rfl rfl) ?_
       refine oq (qv_call (v := (.tuple #[(.agg #[(.int .i64 ((biN op a b).l)), (.int .i64 ((biN op a b).h)), (.int .i64 ((biN op a b).s))]), (.int .i64 (biE op a b))])) (Binary_c (a := a) (b := b)) rfl rfl) ?_
       refine oq (qv_mv (.tuple #[(.agg #[(.int .i64 ((biN op a b).l)), (.int .i64 ((biN op a b).h)), (.int .i64 ((biN op a b).s))]), (.int .i64 (biE op a b))]) rfl) ?_
       refine oq (qv_ext (.agg #[(.int .i64 ((biN op a b).l)), (.int .i64 ((biN op a b).h)), (.int .i64 ((biN op a b).s))]) rfl rfl) ?_
       refine oq (qv_ext (.int .i64 (biE op a b)) rfl rfl) ?_
       refine ops_alloc Try.ti23 rfl (fun b9 => ?_)
       refine ops_stw (k := 5) (vs := [(.int .i64 ((biN op a b).l)), (.int .i64 ((biN op a b).h)), (.int .i64 ((biN op a b).s))]) Try.size23 rfl rfl rfl rfl rfl rfl ?_
       refine oq (qv_as (.int .i64 (biE op a b)) rfl) ?_
       refine ops_nil ?_
       refine vc_seq ?_
       refine vc_seq ?_
       refine vc_res (σ' := [(Arr 44 b1 [(.int .i64 a.l), (.int .i64 a.h), (.int .i64 a.s), (.int .i64 b.l), (.int .i64 b.h), (.int .i64 b.s)]), (Arr 46 b2 [(Value.int .i64 i), (Value.int .i64 j)]), (Arr 23 z7 [(.int .i64 a.l), (.int .i64 a.h), (.int .i64 a.s)]), (Arr 23 z8 [(.int .i64 b.l), (.int .i64 b.h), (.int .i64 b.s)]), (Arr 23 b7 [(.int .i64 ((unN op a).l)), (.int .i64 ((unN op a).h)), (.int .i64 ((unN op a).s))]), (Arr 23 b9 [(.int .i64 ((biN op a b).l)), (.int .i64 ((biN op a b).h)), (.int .i64 ((biN op a b).s))])]) rfl ?_
       refine vc_region ?_
       refine oq (qv_mv (.int .i64 (biE op a b)) rfl) ?_
       refine oq (qv_neq rfl rfl) ?_
       refine ops_nil ?_
       refine vc_if rfl (fun c8 => ?_) (fun c8 => ?_)
       ·
        refine vc_seq ?_
        refine vc_region ?_
        refine oq (qv_as (Value.bool true) rfl) ?_
        refine ops_nil ?_
        refine vc_ret ?_
        exact rq1 (Value.bool true) rfl rfl
       ·
        refine vc_skip ?_
        refine vc_seq ?_
        have hb0 : biE op a b = 0 := Decidable.not_not.1 (by assumption)
        obtain ⟨k1, k2⟩ := bi_sound hb0 hmx hmy
        refine vc_region ?_
        refine oq (qv_mv (Value.int .i64 op) rfl) ?_
        refine oq (qv_mv (Value.int .i64 x) rfl) ?_
        refine oq (qv_mv (Value.int .i64 y) rfl) ?_
        refine oq (qv_call (v := (.tuple #[(.int .i64 (vN op x y)), (.bool (decide (valOk op x y)))])) (rValue_c fx fy) rfl rfl) ?_
        refine oq (qv_mv (.tuple #[(.int .i64 (vN op x y)), (.bool (decide (valOk op x y)))]) rfl) ?_
        refine oq (qv_ext (.int .i64 (vN op x y)) rfl rfl) ?_
        refine oq (qv_ext (.bool (decide (valOk op x y))) rfl rfl) ?_
        refine oq (qv_as (.int .i64 (vN op x y)) rfl) ?_
        refine oq (qv_as (.bool (decide (valOk op x y))) rfl) ?_
        refine ops_nil ?_
        refine vc_seq ?_
        refine vc_region ?_
        refine oq (qv_mv (.bool (decide (valOk op x y))) rfl) ?_
        refine oq (qv_mv (.bool (decide (valOk op x y))) rfl) ?_
        by_cases g3 : valOk op x y
        ·
         refine og (qv_ldm (vs := [(.int .i64 ((biN op a b).l)), (.int .i64 ((biN op a b).h)), (.int .i64 ((biN op a b).s))]) Try.agg23 rfl (inOc (k := 5) rfl) rfl rfl) (want_t g3 rfl rfl rfl) ?_
         refine og (qv_mv (.int .i64 (vN op x y)) rfl) (want_t g3 rfl rfl rfl) ?_
         refine og (qv_call (v := (.bool (decide (vld (biN op a b) ∧ mem (biN op a b) (vN op x y))))) (Has_c (a := biN op a b)) rfl rfl) (want_t g3 rfl rfl rfl) ?_
         refine oq (qv_pick_t g3 rfl (rfl : ev _ _ = (.bool (decide (vld (biN op a b) ∧ mem (biN op a b) (vN op x y)))))) ?_
         refine oq (qv_as (.bool (decide (vld (biN op a b) ∧ mem (biN op a b) (vN op x y)))) rfl) ?_
         refine ops_nil ?_
         refine vc_ret ?_
         exact rq1 (Value.bool true) (congrArg Value.bool (decide_eq_true (show (vld (biN op a b) ∧ mem (biN op a b) (vN op x y)) from by exact k2))) rfl
        ·
         exact absurd k1 g3
    ·
     refine vc_skip ?_
     refine vc_seq ?_
     refine vc_region ?_
     refine oq (qv_ldm (vs := [(.int .i64 ((unN op a).l)), (.int .i64 ((unN op a).h)), (.int .i64 ((unN op a).s))]) Try.agg23 rfl (inOc (k := 4) rfl) rfl rfl) ?_
     refine oq (qv_mv (.int .i64 (-x)) rfl) ?_
     refine oq (qv_call (v := (.bool (decide (vld (unN op a) ∧ mem (unN op a) (-x))))) (Has_c (a := unN op a)) rfl rfl) ?_
     refine oq (qv_not rfl) ?_
     refine ops_nil ?_
     refine vc_if rfl (fun c9 => ?_) (fun c9 => ?_)
     ·
      exact absurd (un_sound (by assumption) hmx (unV_n (by assumption))) c9
     ·
      refine vc_skip ?_
      refine vc_seq ?_
      refine vc_region ?_
      refine oq (qv_mv (Value.int .i64 op) rfl) ?_
      refine oq (qv_ldm (vs := [(.int .i64 a.l), (.int .i64 a.h), (.int .i64 a.s)]) Try.agg23 rfl (inOc (k := 2) rfl) rfl rfl) ?_
      refine oq (qv_ldm (vs := [(.int .i64 b.l), (.int .i64 b.h), (.int .i64 b.s)]) Try.agg23 rfl (inOc (k := 3) rfl) rfl rfl) ?_
      refine oq (qv_call (v := (.tuple #[(.agg #[(.int .i64 ((biN op a b).l)), (.int .i64 ((biN op a b).h)), (.int .i64 ((biN op a b).s))]), (.int .i64 (biE op a b))])) (Binary_c (a := a) (b := b)) rfl rfl) ?_
      refine oq (qv_mv (.tuple #[(.agg #[(.int .i64 ((biN op a b).l)), (.int .i64 ((biN op a b).h)), (.int .i64 ((biN op a b).s))]), (.int .i64 (biE op a b))]) rfl) ?_
      refine oq (qv_ext (.agg #[(.int .i64 ((biN op a b).l)), (.int .i64 ((biN op a b).h)), (.int .i64 ((biN op a b).s))]) rfl rfl) ?_
      refine oq (qv_ext (.int .i64 (biE op a b)) rfl rfl) ?_
      refine ops_alloc Try.ti23 rfl (fun b10 => ?_)
      refine ops_stw (k := 5) (vs := [(.int .i64 ((biN op a b).l)), (.int .i64 ((biN op a b).h)), (.int .i64 ((biN op a b).s))]) Try.size23 rfl rfl rfl rfl rfl rfl ?_
      refine oq (qv_as (.int .i64 (biE op a b)) rfl) ?_
      refine ops_nil ?_
      refine vc_seq ?_
      refine vc_seq ?_
      refine vc_res (σ' := [(Arr 44 b1 [(.int .i64 a.l), (.int .i64 a.h), (.int .i64 a.s), (.int .i64 b.l), (.int .i64 b.h), (.int .i64 b.s)]), (Arr 46 b2 [(Value.int .i64 i), (Value.int .i64 j)]), (Arr 23 z7 [(.int .i64 a.l), (.int .i64 a.h), (.int .i64 a.s)]), (Arr 23 z8 [(.int .i64 b.l), (.int .i64 b.h), (.int .i64 b.s)]), (Arr 23 b7 [(.int .i64 ((unN op a).l)), (.int .i64 ((unN op a).h)), (.int .i64 ((unN op a).s))]), (Arr 23 b10 [(.int .i64 ((biN op a b).l)), (.int .i64 ((biN op a b).h)), (.int .i64 ((biN op a b).s))])]) rfl ?_
      refine vc_region ?_
      refine oq (qv_mv (.int .i64 (biE op a b)) rfl) ?_
      refine oq (qv_neq rfl rfl) ?_
      refine ops_nil ?_
      refine vc_if rfl (fun c10 => ?_) (fun c10 => ?_)
      ·
       refine vc_seq ?_
       refine vc_region ?_
       refine oq (qv_as (Value.bool true) rfl) ?_
       refine ops_nil ?_
       refine vc_ret ?_
       exact rq1 (Value.bool true) rfl rfl
      ·
       refine vc_skip ?_
       refine vc_seq ?_
       have hb0 : biE op a b = 0 := Decidable.not_not.1 (by assumption)
       obtain ⟨k1, k2⟩ := bi_sound hb0 hmx hmy
       refine vc_region ?_
       refine oq (qv_mv (Value.int .i64 op) rfl) ?_
       refine oq (qv_mv (Value.int .i64 x) rfl) ?_
       refine oq (qv_mv (Value.int .i64 y) rfl) ?_
       refine oq (qv_call (v := (.tuple #[(.int .i64 (vN op x y)), (.bool (decide (valOk op x y)))])) (rValue_c fx fy) rfl rfl) ?_
       refine oq (qv_mv (.tuple #[(.int .i64 (vN op x y)), (.bool (decide (valOk op x y)))]) rfl) ?_
       refine oq (qv_ext (.int .i64 (vN op x y)) rfl rfl) ?_
       refine oq (qv_ext (.bool (decide (valOk op x y))) rfl rfl) ?_
       refine oq (qv_as (.int .i64 (vN op x y)) rfl) ?_
       refine oq (qv_as (.bool (decide (valOk op x y))) rfl) ?_
       refine ops_nil ?_
       refine vc_seq ?_
       refine vc_region ?_
       refine oq (qv_mv (.bool (decide (valOk op x y))) rfl) ?_
       refine oq (qv_mv (.bool (decide (valOk op x y))) rfl) ?_
       by_cases g4 : valOk op x y
       ·
        refine og (qv_ldm (vs := [(.int .i64 ((biN op a b).l)), (.int .i64 ((biN op a b).h)), (.int .i64 ((biN op a b).s))]) Try.agg23 rfl (inOc (k := 5) rfl) rfl rfl) (want_t g4 rfl rfl rfl) ?_
        refine og (qv_mv (.int .i64 (vN op x y)) rfl) (want_t g4 rfl rfl rfl) ?_
        refine og (qv_call (v := (.bool (decide (vld (biN op a b) ∧ mem (biN op a b) (vN op x y))))) (Has_c (a := biN op a b)) rfl rfl) (want_t g4 rfl rfl rfl) ?_
        refine oq (qv_pick_t g4 rfl (rfl : ev _ _ = (.bool (decide (vld (biN op a b) ∧ mem (biN op a b) (vN op x y)))))) ?_
        refine oq (qv_as (.bool (decide (vld (biN op a b) ∧ mem (biN op a b) (vN op x y)))) rfl) ?_
        refine ops_nil ?_
        refine vc_ret ?_
        exact rq1 (Value.bool true) (congrArg Value.bool (decide_eq_true (show (vld (biN op a b) ∧ mem (biN op a b) (vN op x y)) from by exact k2))) rfl
       ·
        exact absurd k1 g4
   ·
    refine vc_skip ?_
    refine vc_seq ?_
    refine vc_region ?_
    refine oq (qv_mv (Value.int .i64 op) rfl) ?_
    refine oq (qv_ldm (vs := [(.int .i64 a.l), (.int .i64 a.h), (.int .i64 a.s)]) Try.agg23 rfl (inOc (k := 2) rfl) rfl rfl) ?_
    refine oq (qv_ldm (vs := [(.int .i64 b.l), (.int .i64 b.h), (.int .i64 b.s)]) Try.agg23 rfl (inOc (k := 3) rfl) rfl rfl) ?_
    refine oq (qv_call (v := (.tuple #[(.agg #[(.int .i64 ((biN op a b).l)), (.int .i64 ((biN op a b).h)), (.int .i64 ((biN op a b).s))]), (.int .i64 (biE op a b))])) (Binary_c (a := a) (b := b)) rfl rfl) ?_
    refine oq (qv_mv (.tuple #[(.agg #[(.int .i64 ((biN op a b).l)), (.int .i64 ((biN op a b).h)), (.int .i64 ((biN op a b).s))]), (.int .i64 (biE op a b))]) rfl) ?_
    refine oq (qv_ext (.agg #[(.int .i64 ((biN op a b).l)), (.int .i64 ((biN op a b).h)), (.int .i64 ((biN op a b).s))]) rfl rfl) ?_
    refine oq (qv_ext (.int .i64 (biE op a b)) rfl rfl) ?_
    refine ops_alloc Try.ti23 rfl (fun b11 => ?_)
    refine ops_stw (k := 5) (vs := [(.int .i64 ((biN op a b).l)), (.int .i64 ((biN op a b).h)), (.int .i64 ((biN op a b).s))]) Try.size23 rfl rfl rfl rfl rfl rfl ?_
    refine oq (qv_as (.int .i64 (biE op a b)) rfl) ?_
    refine ops_nil ?_
    refine vc_seq ?_
    refine vc_seq ?_
    refine vc_res (σ' := [(Arr 44 b1 [(.int .i64 a.l), (.int .i64 a.h), (.int .i64 a.s), (.int .i64 b.l), (.int .i64 b.h), (.int .i64 b.s)]), (Arr 46 b2 [(Value.int .i64 i), (Value.int .i64 j)]), (Arr 23 z7 [(.int .i64 a.l), (.int .i64 a.h), (.int .i64 a.s)]), (Arr 23 z8 [(.int .i64 b.l), (.int .i64 b.h), (.int .i64 b.s)]), (Arr 23 b7 [(.int .i64 ((unN op a).l)), (.int .i64 ((unN op a).h)), (.int .i64 ((unN op a).s))]), (Arr 23 b11 [(.int .i64 ((biN op a b).l)), (.int .i64 ((biN op a b).h)), (.int .i64 ((biN op a b).s))])]) rfl ?_
    refine vc_region ?_
    refine oq (qv_mv (.int .i64 (biE op a b)) rfl) ?_
    refine oq (qv_neq rfl rfl) ?_
    refine ops_nil ?_
    refine vc_if rfl (fun c11 => ?_) (fun c11 => ?_)
    ·
     refine vc_seq ?_
     refine vc_region ?_
     refine oq (qv_as (Value.bool true) rfl) ?_
     refine ops_nil ?_
     refine vc_ret ?_
     exact rq1 (Value.bool true) rfl rfl
    ·
     refine vc_skip ?_
     refine vc_seq ?_
     have hb0 : biE op a b = 0 := Decidable.not_not.1 (by assumption)
     obtain ⟨k1, k2⟩ := bi_sound hb0 hmx hmy
     refine vc_region ?_
     refine oq (qv_mv (Value.int .i64 op) rfl) ?_
     refine oq (qv_mv (Value.int .i64 x) rfl) ?_
     refine oq (qv_mv (Value.int .i64 y) rfl) ?_
     refine oq (qv_call (v := (.tuple #[(.int .i64 (vN op x y)), (.bool (decide (valOk op x y)))])) (rValue_c fx fy) rfl rfl) ?_
     refine oq (qv_mv (.tuple #[(.int .i64 (vN op x y)), (.bool (decide (valOk op x y)))]) rfl) ?_
     refine oq (qv_ext (.int .i64 (vN op x y)) rfl rfl) ?_
     refine oq (qv_ext (.bool (decide (valOk op x y))) rfl rfl) ?_
     refine oq (qv_as (.int .i64 (vN op x y)) rfl) ?_
     refine oq (qv_as (.bool (decide (valOk op x y))) rfl) ?_
     refine ops_nil ?_
     refine vc_seq ?_
     refine vc_region ?_
     refine oq (qv_mv (.bool (decide (valOk op x y))) rfl) ?_
     refine oq (qv_mv (.bool (decide (valOk op x y))) rfl) ?_
     by_cases g5 : valOk op x y
     ·
      refine og (qv_ldm (vs := [(.int .i64 ((biN op a b).l)), (.int .i64 ((biN op a b).h)), (.int .i64 ((biN op a b).s))]) Try.agg23 rfl (inOc (k := 5) rfl) rfl rfl) (want_t g5 rfl rfl rfl) ?_
      refine og (qv_mv (.int .i64 (vN op x y)) rfl) (want_t g5 rfl rfl rfl) ?_
      refine og (qv_call (v := (.bool (decide (vld (biN op a b) ∧ mem (biN op a b) (vN op x y))))) (Has_c (a := biN op a b)) rfl rfl) (want_t g5 rfl rfl rfl) ?_
      refine oq (qv_pick_t g5 rfl (rfl : ev _ _ = (.bool (decide (vld (biN op a b) ∧ mem (biN op a b) (vN op x y)))))) ?_
      refine oq (qv_as (.bool (decide (vld (biN op a b) ∧ mem (biN op a b) (vN op x y)))) rfl) ?_
      refine ops_nil ?_
      refine vc_ret ?_
      exact rq1 (Value.bool true) (congrArg Value.bool (decide_eq_true (show (vld (biN op a b) ∧ mem (biN op a b) (vN op x y)) from by exact k2))) rfl
     ·
      exact absurd k1 g5

theorem NumericSound_c {V : HV} {op al ah ax bl bh bx i j : Int} : FnC Try.prog 6 [.int .i64 op, Value.agg #[.int .i64 al, .int .i64 ah, .int .i64 ax, .int .i64 bl, .int .i64 bh, .int .i64 bx], Value.agg #[.int .i64 i, .int .i64 j]] V [] (fun v _ _ => v = .bool true) := NumericSound_n (a := ⟨al, ah, ax⟩) (b := ⟨bl, bh, bx⟩)
end Go.Proofs.Ytapkilaikcihgaa
