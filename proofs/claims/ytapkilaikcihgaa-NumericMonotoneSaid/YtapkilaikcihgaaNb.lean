/- Walks of numeric: what each function returns. Printed by a program out of notes. -/
import Derived.Test.YtapkilaikcihgaaNa
namespace Go.Proofs.Ytapkilaikcihgaa
open Go.Vc
open Classical

set_option maxRecDepth 100000 in
set_option maxHeartbeats 4000000 in
theorem join_c {V : HV} {a b : Nm} (ha : vld a) (hb : vld b) :
    FnC Try.prog 51 [(.agg #[(.int .i64 a.l), (.int .i64 a.h), (.int .i64 a.s)]), (.agg #[(.int .i64 b.l), (.int .i64 b.h), (.int .i64 b.s)])] V [] (fun v _ _ => v = (.agg #[(.int .i64 ((joinF a b).l)), (.int .i64 ((joinF a b).h)), (.int .i64 ((joinF a b).s))])) := by
 refine fn_intro (N := 39) Try.func51 (by kernel_rfl) rfl rfl rfl (Nat.le_of_ble_eq_true rfl) ?_
 intro w0 D
 have ba := vld_bd ha
 have bb := vld_bd hb
 unfold fits at ba bb
 refine vc_seq ?_
 refine vc_region ?_
 refine ops_box (v := (.agg #[(.int .i64 a.l), (.int .i64 a.h), (.int .i64 a.s)])) (cs := [(.int .i64 a.l), (.int .i64 a.h), (.int .i64 a.s)]) rfl rfl (fun b1 => ?_)
 refine ops_box (v := (.agg #[(.int .i64 b.l), (.int .i64 b.h), (.int .i64 b.s)])) (cs := [(.int .i64 b.l), (.int .i64 b.h), (.int .i64 b.s)]) rfl rfl (fun b2 => ?_)
 refine ops_alloc Try.ti23 rfl (fun b3 => ?_)
 refine ops_nil ?_
 refine vc_seq ?_
 refine vc_seq ?_
 refine vc_res (σ' := [(Arr 23 b1 [(.int .i64 a.l), (.int .i64 a.h), (.int .i64 a.s)]), (Arr 23 b2 [(.int .i64 b.l), (.int .i64 b.h), (.int .i64 b.s)]), (Arr 23 b3 [(Value.int .i64 0), (Value.int .i64 0), (Value.int .i64 0)])]) rfl ?_
 refine vc_region ?_
 refine oq (qv_ldm (vs := [(.int .i64 a.l), (.int .i64 a.h), (.int .i64 a.s)]) Try.agg23 rfl (inOc (k := 0) rfl) rfl rfl) ?_
 refine oq (qv_call (v := (.bool (decide (a = nE)))) (isEmpty_c (a := a)) rfl rfl) ?_
 refine ops_nil ?_
 refine vc_if rfl (fun c1 => ?_) (fun c1 => ?_)
 ·
  refine vc_seq ?_
  refine vc_region ?_
  refine oq (qv_ldm (vs := [(.int .i64 b.l), (.int .i64 b.h), (.int .i64 b.s)]) Try.agg23 rfl (inOc (k := 1) rfl) rfl rfl) ?_
  refine ops_stw (k := 2) (vs := [(.int .i64 b.l), (.int .i64 b.h), (.int .i64 b.s)]) Try.size23 rfl rfl rfl rfl rfl rfl ?_
  refine ops_nil ?_
  refine vc_ret ?_
  refine rs1 _ (rv_c (vs := [(.int .i64 b.l), (.int .i64 b.h), (.int .i64 b.s)]) Try.agg23 rfl (inOc (k := 2) rfl) rfl rfl) ?_
  exact (agg3 (show b = joinF a b from by first | (rw [joinF_1 (by assumption)]; done) | (rw [joinF_2 (by assumption) (by first | exact Or.inl (by assumption) | exact Or.inr (nm_iff.2 (by assumption)))]; done) | (rw [joinF_3 (by assumption) (by rintro (e | e); first | exact absurd e (by assumption); exact absurd (nm_iff.1 e) (by assumption))]; rfl)))
 ·
  refine vc_skip ?_
  refine vc_seq ?_
  refine vc_seq ?_
  refine vc_region ?_
  refine oq (qv_ldm (vs := [(.int .i64 b.l), (.int .i64 b.h), (.int .i64 b.s)]) Try.agg23 rfl (inOc (k := 1) rfl) rfl rfl) ?_
  refine oq (qv_call (v := (.bool (decide (b = nE)))) (isEmpty_c (a := b)) rfl rfl) ?_
  refine oq (qv_mv (.bool (decide (b = nE))) rfl) ?_
  by_cases g1 : b = nE
  ·
   refine os (want_fn g1 rfl rfl rfl) ?_
   refine os (want_fn g1 rfl rfl rfl) ?_
   refine os (want_fn g1 rfl rfl rfl) ?_
   refine oq (qv_pick_t g1 rfl (rfl : ev _ _ = (Value.bool true))) ?_
   refine ops_nil ?_
   refine vc_tt rfl ?_
   refine vc_seq ?_
   refine vc_region ?_
   refine oq (qv_ldm (vs := [(.int .i64 a.l), (.int .i64 a.h), (.int .i64 a.s)]) Try.agg23 rfl (inOc (k := 0) rfl) rfl rfl) ?_
   refine ops_stw (k := 2) (vs := [(.int .i64 a.l), (.int .i64 a.h), (.int .i64 a.s)]) Try.size23 rfl rfl rfl rfl rfl rfl ?_
   refine ops_nil ?_
   refine vc_ret ?_
   refine rs1 _ (rv_c (vs := [(.int .i64 a.l), (.int .i64 a.h), (.int .i64 a.s)]) Try.agg23 rfl (inOc (k := 2) rfl) rfl rfl) ?_
   exact (agg3 (show a = joinF a b from by first | (rw [joinF_1 (by assumption)]; done) | (rw [joinF_2 (by assumption) (by first | exact Or.inl (by assumption) | exact Or.inr (nm_iff.2 (by assumption)))]; done) | (rw [joinF_3 (by assumption) (by rintro (e | e); first | exact absurd e (by assumption); exact absurd (nm_iff.1 e) (by assumption))]; rfl)))
  ·
   refine og (qv_ldm (vs := [(.int .i64 a.l), (.int .i64 a.h), (.int .i64 a.s)]) Try.agg23 rfl (inOc (k := 0) rfl) rfl rfl) (want_f g1 rfl rfl rfl) ?_
   refine og (qv_ldm (vs := [(.int .i64 b.l), (.int .i64 b.h), (.int .i64 b.s)]) Try.agg23 rfl (inOc (k := 1) rfl) rfl rfl) (want_f g1 rfl rfl rfl) ?_
   refine og (qv_eqls Try.eq23 [a.l, a.h, a.s] [b.l, b.h, b.s] rfl rfl rfl rfl rfl rfl eq3) (want_f g1 rfl rfl rfl) ?_
   refine oq (qv_pick_f g1 rfl (rfl : ev _ _ = (.bool (decide (a.l = b.l ∧ a.h = b.h ∧ a.s = b.s))))) ?_
   refine ops_nil ?_
   refine vc_if rfl (fun c2 => ?_) (fun c2 => ?_)
   ·
    refine vc_seq ?_
    refine vc_region ?_
    refine oq (qv_ldm (vs := [(.int .i64 a.l), (.int .i64 a.h), (.int .i64 a.s)]) Try.agg23 rfl (inOc (k := 0) rfl) rfl rfl) ?_
    refine ops_stw (k := 2) (vs := [(.int .i64 a.l), (.int .i64 a.h), (.int .i64 a.s)]) Try.size23 rfl rfl rfl rfl rfl rfl ?_
    refine ops_nil ?_
    refine vc_ret ?_
    refine rs1 _ (rv_c (vs := [(.int .i64 a.l), (.int .i64 a.h), (.int .i64 a.s)]) Try.agg23 rfl (inOc (k := 2) rfl) rfl rfl) ?_
    exact (agg3 (show a = joinF a b from by first | (rw [joinF_1 (by assumption)]; done) | (rw [joinF_2 (by assumption) (by first | exact Or.inl (by assumption) | exact Or.inr (nm_iff.2 (by assumption)))]; done) | (rw [joinF_3 (by assumption) (by rintro (e | e); first | exact absurd e (by assumption); exact absurd (nm_iff.1 e) (by assumption))]; rfl)))
   ·
    refine vc_skip ?_
    refine vc_seq ?_
    refine vc_region_order (τ := []) [(0, false), (1, false), (2, false), (3, false), (4, false), (5, false), (6, false), (7, false), (8, false), (9, false), (10, false), (11, false), (12, false), (13, false), (14, false), (15, false), (16, false), (17, false), (18, false), (19, false), (20, true), (21, false), (22, false), (23, true)] [(Arr 23 b1 [(.int .i64 a.l), (.int .i64 a.h), (.int .i64 a.s)]), (Arr 23 b2 [(.int .i64 b.l), (.int .i64 b.h), (.int .i64 b.s)]), (Arr 23 b3 [(Value.int .i64 0), (Value.int .i64 0), (Value.int .i64 0)])] Try.mixed (perm_nil _) (by kernel_rfl) ?_
    refine rq rfl (qv_fa (off := 0) Try.field23_0 rfl) ?_
    refine rq rfl (qv_ldp (v := (.int .i64 a.l)) Try.plain3 rfl (inOc (k := 0) rfl) rfl) ?_
    refine rq rfl (qv_fa (off := 0) Try.field23_0 rfl) ?_
    refine rq rfl (qv_ldp (v := (.int .i64 b.l)) Try.plain3 rfl (inOc (k := 1) rfl) rfl) ?_
    refine rq rfl (qv_min rfl rfl) ?_
    refine rq rfl (qv_fa (off := 0) Try.field23_1 rfl) ?_
    refine rq rfl (qv_ldp (v := (.int .i64 a.h)) Try.plain3 rfl (inOc (k := 0) rfl) rfl) ?_
    refine rq rfl (qv_fa (off := 0) Try.field23_1 rfl) ?_
    refine rq rfl (qv_ldp (v := (.int .i64 b.h)) Try.plain3 rfl (inOc (k := 1) rfl) rfl) ?_
    refine rq rfl (qv_max rfl rfl) ?_
    refine rq rfl (qv_fa (off := 0) Try.field23_2 rfl) ?_
    refine rq rfl (qv_ldp (v := (.int .i64 a.s)) Try.plain3 rfl (inOc (k := 0) rfl) rfl) ?_
    refine rq rfl (qv_fa (off := 0) Try.field23_2 rfl) ?_
    refine rq rfl (qv_ldp (v := (.int .i64 b.s)) Try.plain3 rfl (inOc (k := 1) rfl) rfl) ?_
    refine rq rfl (qv_fa (off := 0) Try.field23_0 rfl) ?_
    refine rq rfl (qv_ldp (v := (.int .i64 a.l)) Try.plain3 rfl (inOc (k := 0) rfl) rfl) ?_
    refine rq rfl (qv_fa (off := 0) Try.field23_0 rfl) ?_
    refine rq rfl (qv_ldp (v := (.int .i64 b.l)) Try.plain3 rfl (inOc (k := 1) rfl) rfl) ?_
    refine rq rfl (qv_sub rfl rfl (by omega)) ?_
    refine rq rfl (qv_call (v := (.int .i64 (mag (a.l - b.l)))) (mag_c (by unfold fits; omega)) rfl rfl) ?_
    refine rl rfl ?_
    refine ops_lit (n := 3) (s := 1) (cs := [(.int .i64 a.s), (.int .i64 b.s), (.int .i64 (mag (a.l - b.l)))]) Try.underlying37 Try.ti3 (Nat.le_of_ble_eq_true rfl) rfl rfl rfl (Nat.le_of_ble_eq_true rfl) rfl (fun b4 => ?_)
    refine ops_nil ⟨[(Arr 23 b1 [(.int .i64 a.l), (.int .i64 a.h), (.int .i64 a.s)]), (Arr 23 b2 [(.int .i64 b.l), (.int .i64 b.h), (.int .i64 b.s)]), (Arr 23 b3 [(Value.int .i64 0), (Value.int .i64 0), (Value.int .i64 0)]), (Arr 3 b4 [(.int .i64 a.s), (.int .i64 b.s), (.int .i64 (mag (a.l - b.l)))])], [], (Sub.refl _), perm_nil _, ⟨[(Arr 3 b4 [(.int .i64 a.s), (.int .i64 b.s), (.int .i64 (mag (a.l - b.l)))])], (.refl _)⟩, ?_⟩
    refine rq rfl (qv_call_own (v := (.int .i64 (gcdF [a.s, b.s, mag (a.l - b.l)]))) (k := 3) (b := b4) rfl (fun Vo hVo hbo => gcd_c (xs := [a.s, b.s, mag (a.l - b.l)]) (sl_own (n := 3) (c := 3) hbo rfl (Nat.le_refl _) (by omega)) (nn3 (by omega) (by omega) (mag_nn _))) rfl rfl) ?_
    refine rq rfl (qv_call (v := (.agg #[(.int .i64 ((spanF (if b.l < a.l then b.l else a.l) (if a.h < b.h then b.h else a.h) (gcdF [a.s, b.s, mag (a.l - b.l)])).l)), (.int .i64 ((spanF (if b.l < a.l then b.l else a.l) (if a.h < b.h then b.h else a.h) (gcdF [a.s, b.s, mag (a.l - b.l)])).h)), (.int .i64 ((spanF (if b.l < a.l then b.l else a.l) (if a.h < b.h then b.h else a.h) (gcdF [a.s, b.s, mag (a.l - b.l)])).s))])) (span_c (by unfold fits; split <;> omega) (by unfold fits; split <;> omega) (gcdF_nn _)) rfl rfl) ?_
    refine rl1 (by kernel_rfl) rfl ?_
    refine ops_stw (k := 2) (vs := [(.int .i64 ((spanF (if b.l < a.l then b.l else a.l) (if a.h < b.h then b.h else a.h) (gcdF [a.s, b.s, mag (a.l - b.l)])).l)), (.int .i64 ((spanF (if b.l < a.l then b.l else a.l) (if a.h < b.h then b.h else a.h) (gcdF [a.s, b.s, mag (a.l - b.l)])).h)), (.int .i64 ((spanF (if b.l < a.l then b.l else a.l) (if a.h < b.h then b.h else a.h) (gcdF [a.s, b.s, mag (a.l - b.l)])).s))]) Try.size23 rfl rfl rfl rfl rfl rfl ?_
    refine ops_nil ⟨[(Arr 23 b1 [(.int .i64 a.l), (.int .i64 a.h), (.int .i64 a.s)]), (Arr 23 b2 [(.int .i64 b.l), (.int .i64 b.h), (.int .i64 b.s)]), (Arr 23 b3 [(.int .i64 ((spanF (if b.l < a.l then b.l else a.l) (if a.h < b.h then b.h else a.h) (gcdF [a.s, b.s, mag (a.l - b.l)])).l)), (.int .i64 ((spanF (if b.l < a.l then b.l else a.l) (if a.h < b.h then b.h else a.h) (gcdF [a.s, b.s, mag (a.l - b.l)])).h)), (.int .i64 ((spanF (if b.l < a.l then b.l else a.l) (if a.h < b.h then b.h else a.h) (gcdF [a.s, b.s, mag (a.l - b.l)])).s))]), (Arr 3 b4 [(.int .i64 a.s), (.int .i64 b.s), (.int .i64 (mag (a.l - b.l)))])], [], perm_nil _, ?_⟩
    refine rnil ?_
    refine vc_ret ?_
    refine rs1 _ (rv_c (vs := [(.int .i64 ((spanF (if b.l < a.l then b.l else a.l) (if a.h < b.h then b.h else a.h) (gcdF [a.s, b.s, mag (a.l - b.l)])).l)), (.int .i64 ((spanF (if b.l < a.l then b.l else a.l) (if a.h < b.h then b.h else a.h) (gcdF [a.s, b.s, mag (a.l - b.l)])).h)), (.int .i64 ((spanF (if b.l < a.l then b.l else a.l) (if a.h < b.h then b.h else a.h) (gcdF [a.s, b.s, mag (a.l - b.l)])).s))]) Try.agg23 rfl (inOc (k := 2) rfl) rfl rfl) ?_
    exact (agg3 (show spanF (if b.l < a.l then b.l else a.l) (if a.h < b.h then b.h else a.h) (gcdF [a.s, b.s, mag (a.l - b.l)]) = joinF a b from by first | (rw [joinF_1 (by assumption)]; done) | (rw [joinF_2 (by assumption) (by first | exact Or.inl (by assumption) | exact Or.inr (nm_iff.2 (by assumption)))]; done) | (rw [joinF_3 (by assumption) (by rintro (e | e); first | exact absurd e (by assumption); exact absurd (nm_iff.1 e) (by assumption))]; rfl)))

set_option maxRecDepth 100000 in
set_option maxHeartbeats 4000000 in
theorem Of_c {V : HV} {x : Value} {xs : List Int} (hs : Ints .i64 V x xs) :
    FnC Try.prog 30 [x] V [] (fun v _ _ => v = .tuple #[(.agg #[(.int .i64 ((ofN xs).l)), (.int .i64 ((ofN xs).h)), (.int .i64 ((ofN xs).s))]), (.int .i64 (ofE xs))]) := by
 refine fn_intro (N := 24) Try.func30 (by kernel_rfl) rfl rfl rfl (Nat.le_of_ble_eq_true rfl) ?_
 intro w0 D
 have hbd := hs.bound
 refine vc_seq ?_
 refine vc_region ?_
 refine ops_alloc Try.ti23 rfl (fun b1 => ?_)
 refine oq (qv_as (Value.int .i64 0) rfl) ?_
 refine ops_nil ?_
 refine vc_seq ?_
 refine vc_res (σ' := [(Arr 23 b1 [(Value.int .i64 0), (Value.int .i64 0), (Value.int .i64 0)])]) rfl ?_
 refine vc_region ?_
 refine oq (qv_call (v := (.agg #[(.int .i64 nE.l), (.int .i64 nE.h), (.int .i64 nE.s)])) (none_c) rfl rfl) ?_
 refine ops_alloc Try.ti23 rfl (fun b2 => ?_)
 refine ops_stw (k := 1) (vs := [(.int .i64 nE.l), (.int .i64 nE.h), (.int .i64 nE.s)]) Try.size23 rfl rfl rfl rfl rfl rfl ?_
 refine ops_nil ?_
 refine vc_seq ?_
 refine vc_seq ?_
 refine vc_res (σ' := [(Arr 23 b1 [(Value.int .i64 0), (Value.int .i64 0), (Value.int .i64 0)]), (Arr 23 b2 [(.int .i64 nE.l), (.int .i64 nE.h), (.int .i64 nE.s)])]) rfl ?_
 refine vc_region ?_
 refine oq (qv_mv x rfl) ?_
 refine oq (qv_lenI Try.underlying37 rfl hs) ?_
 refine oq (qv_mv (Value.int .i64 0) rfl) ?_
 refine ops_nil ?_
 refine vc_block ?_
 refine vc_loop (α := Int) (fun (xx : Int) => [(0, x), (2, (Value.pointer (some ⟨b1, 0, none⟩))), (4, (Value.pointer (some ⟨b2, 0, none⟩))), (8, x), (9, (.int .i64 ((xs.length : Int)))), (10, (Value.int .i64 xx))]) (fun (xx : Int) V' σ' => V = V' ∧ [(Arr 23 b1 [(Value.int .i64 0), (Value.int .i64 0), (Value.int .i64 0)]), (Arr 23 b2 [(.int .i64 (((ofF (xs.take xx.toNat))).l)), (.int .i64 (((ofF (xs.take xx.toNat))).h)), (.int .i64 (((ofF (xs.take xx.toNat))).s))])] = σ' ∧ 0 ≤ xx ∧ xx ≤ xs.length ∧ ∀ i : Int, 0 ≤ i → i < xx → fits (gi xs i)) (fun (xx : Int) => (xs.length - xx).toNat) (0) ?_ ?_ ?_
 · exact ⟨rfl, rfl, rfl, rfl, rfl, rfl, trivial⟩
 · exact ⟨rfl, (show [(Arr 23 b1 [(Value.int .i64 0), (Value.int .i64 0), (Value.int .i64 0)]), (Arr 23 b2 [(.int .i64 (((ofF (xs.take (0 : Int).toNat))).l)), (.int .i64 (((ofF (xs.take (0 : Int).toNat))).h)), (.int .i64 (((ofF (xs.take (0 : Int).toNat))).s))])] = [(Arr 23 b1 [(Value.int .i64 0), (Value.int .i64 0), (Value.int .i64 0)]), (Arr 23 b2 [(.int .i64 nE.l), (.int .i64 nE.h), (.int .i64 nE.s)])] from by rfl), by omega, by omega, fun i a b => by omega⟩
 rintro p e1 V0l σ0l hI0
 obtain ⟨rfl, rfl, i1, i2, hf⟩ : V = V0l ∧ [(Arr 23 b1 [(Value.int .i64 0), (Value.int .i64 0), (Value.int .i64 0)]), (Arr 23 b2 [(.int .i64 (((ofF (xs.take p.toNat))).l)), (.int .i64 (((ofF (xs.take p.toNat))).h)), (.int .i64 (((ofF (xs.take p.toNat))).s))])] = σ0l ∧ 0 ≤ p ∧ p ≤ xs.length ∧ ∀ i : Int, 0 ≤ i → i < p → fits (gi xs i) := hI0
 refine vc_seq ?_
 refine vc_res (σ' := [(Arr 23 b1 [(Value.int .i64 0), (Value.int .i64 0), (Value.int .i64 0)]), (Arr 23 b2 [(.int .i64 (((ofF (xs.take p.toNat))).l)), (.int .i64 (((ofF (xs.take p.toNat))).h)), (.int .i64 (((ofF (xs.take p.toNat))).s))])]) rfl ?_
 refine vc_region ?_
 refine oq (qv_lss rfl rfl) ?_
 refine ops_nil ?_
 refine vc_seq ?_
 refine vc_if rfl (fun c1 => ?_) (fun c1 => ?_)
 ·
  refine vc_skip ?_
  refine vc_seq ?_
  refine vc_block ?_
  refine vc_seq ?_
  refine vc_region ?_
  refine oq (qv_iai (v := x) (i := p) Try.underlying37 Try.size3 rfl (inVi hs) rfl (by omega) (by omega)) ?_
  refine oq (qv_ldi (v := x) (i := p) Try.plain3 rfl (inVi hs) (by omega) (by omega)) ?_
  refine oq (qv_as (.int .i64 (gi xs (p))) rfl) ?_
  refine ops_nil ?_
  refine vc_seq ?_
  refine vc_seq ?_
  refine vc_region ?_
  refine oq (qv_mv (.int .i64 (gi xs (p))) rfl) ?_
  refine oq (qv_call (v := (.bool (decide (fits (gi xs (p)))))) (inRange_c) rfl rfl) ?_
  refine oq (qv_not rfl) ?_
  refine ops_nil ?_
  refine vc_if rfl (fun c2 => ?_) (fun c2 => ?_)
  ·
   refine vc_seq ?_
   have hno : ¬ fitAll xs = true := fun e => absurd (fitAll_iff.1 e p (by omega) (by omega)) (by assumption)
   refine vc_region ?_
   refine oq (qv_build (out := [(Value.int .i64 0), (Value.int .i64 0), (Value.int .i64 0)]) Try.build23 [] rfl rfl) ?_
   refine ops_stw (k := 0) (vs := [(Value.int .i64 0), (Value.int .i64 0), (Value.int .i64 0)]) Try.size23 rfl rfl rfl rfl rfl rfl ?_
   refine oq (qv_as (Value.int .i64 3) rfl) ?_
   refine ops_nil ?_
   refine vc_ret ?_
   refine blockQ_ret ?_
   refine blockQ_ret ?_
   refine rs2 _ (Value.int .i64 3) (rv_c (vs := [(Value.int .i64 0), (Value.int .i64 0), (Value.int .i64 0)]) Try.agg23 rfl (inOc (k := 0) rfl) rfl rfl) (rv_t rfl) ?_
   exact tup2 (agg3 (show (⟨0, 0, 0⟩ : Nm) = ofN xs from by rw [ofN_0 hno])) (congrArg (Value.int .i64) (show 3 = (ofE xs) from by rw [ofE_0 hno]))
  ·
   refine vc_skip ?_
   have hn : fits (gi xs p) := Decidable.not_not.1 (by assumption)
   refine vc_region_order (τ := []) [(0, false), (1, false), (2, false), (3, false), (4, true)] [(Arr 23 b1 [(Value.int .i64 0), (Value.int .i64 0), (Value.int .i64 0)]), (Arr 23 b2 [(.int .i64 (((ofF (xs.take p.toNat))).l)), (.int .i64 (((ofF (xs.take p.toNat))).h)), (.int .i64 (((ofF (xs.take p.toNat))).s))])] Try.mixed (perm_nil _) (by kernel_rfl) ?_
   refine rq rfl (qv_ldm (vs := [(.int .i64 (((ofF (xs.take p.toNat))).l)), (.int .i64 (((ofF (xs.take p.toNat))).h)), (.int .i64 (((ofF (xs.take p.toNat))).s))]) Try.agg23 rfl (inOc (k := 1) rfl) rfl rfl) ?_
   refine rq rfl (qv_mv (.int .i64 (gi xs (p))) rfl) ?_
   refine rq rfl (qv_call (v := (.agg #[(.int .i64 ((sgl (gi xs (p))).l)), (.int .i64 ((sgl (gi xs (p))).h)), (.int .i64 ((sgl (gi xs (p))).s))])) (single_c) rfl rfl) ?_
   refine rq rfl (qv_call (v := (.agg #[(.int .i64 ((joinF ((ofF (xs.take p.toNat))) (sgl (gi xs (p)))).l)), (.int .i64 ((joinF ((ofF (xs.take p.toNat))) (sgl (gi xs (p)))).h)), (.int .i64 ((joinF ((ofF (xs.take p.toNat))) (sgl (gi xs (p)))).s))])) (join_c (a := (ofF (xs.take p.toNat))) (b := sgl (gi xs (p))) ((of_take hf).ok) (vld_sgl hn)) rfl rfl) ?_
   refine rl1 (by kernel_rfl) rfl ?_
   refine ops_stw (k := 1) (vs := [(.int .i64 ((joinF ((ofF (xs.take p.toNat))) (sgl (gi xs (p)))).l)), (.int .i64 ((joinF ((ofF (xs.take p.toNat))) (sgl (gi xs (p)))).h)), (.int .i64 ((joinF ((ofF (xs.take p.toNat))) (sgl (gi xs (p)))).s))]) Try.size23 rfl rfl rfl rfl rfl rfl ?_
   refine ops_nil ⟨[(Arr 23 b1 [(Value.int .i64 0), (Value.int .i64 0), (Value.int .i64 0)]), (Arr 23 b2 [(.int .i64 ((joinF ((ofF (xs.take p.toNat))) (sgl (gi xs (p)))).l)), (.int .i64 ((joinF ((ofF (xs.take p.toNat))) (sgl (gi xs (p)))).h)), (.int .i64 ((joinF ((ofF (xs.take p.toNat))) (sgl (gi xs (p)))).s))])], [], perm_nil _, ?_⟩
   refine rnil ?_
   refine vc_res (σ' := [(Arr 23 b1 [(Value.int .i64 0), (Value.int .i64 0), (Value.int .i64 0)]), (Arr 23 b2 [(.int .i64 ((joinF ((ofF (xs.take p.toNat))) (sgl (gi xs (p)))).l)), (.int .i64 ((joinF ((ofF (xs.take p.toNat))) (sgl (gi xs (p)))).h)), (.int .i64 ((joinF ((ofF (xs.take p.toNat))) (sgl (gi xs (p)))).s))])]) rfl ?_
   refine vc_region ?_
   refine oq (qv_add rfl rfl (by omega)) ?_
   refine oq (qv_mv (.int .i64 (p + 1)) rfl) ?_
   refine ops_nil ?_
   refine ⟨(p + 1), ⟨rfl, rfl, rfl, rfl, rfl, (congrArg (Value.int .i64) (show (p + 1) = ((p + 1)) from by omega)), trivial⟩, ⟨rfl, (show [(Arr 23 b1 [(Value.int .i64 0), (Value.int .i64 0), (Value.int .i64 0)]), (Arr 23 b2 [(.int .i64 (((ofF (xs.take (p + 1 : Int).toNat))).l)), (.int .i64 (((ofF (xs.take (p + 1 : Int).toNat))).h)), (.int .i64 (((ofF (xs.take (p + 1 : Int).toNat))).s))])] = [(Arr 23 b1 [(Value.int .i64 0), (Value.int .i64 0), (Value.int .i64 0)]), (Arr 23 b2 [(.int .i64 ((joinF ((ofF (xs.take p.toNat))) (sgl (gi xs (p)))).l)), (.int .i64 ((joinF ((ofF (xs.take p.toNat))) (sgl (gi xs (p)))).h)), (.int .i64 ((joinF ((ofF (xs.take p.toNat))) (sgl (gi xs (p)))).s))])] from by rw [take_step (by omega) (by omega), ofF_snoc]), by omega, by omega, all_snoc hf hn⟩, by omega⟩
 ·
  refine vc_exit ?_
  refine blockQ_hit ?_
  refine vc_seq ?_
  have hall : fitAll xs = true := fitAll_iff.2 fun i a b => hf i a (by omega)
  refine vc_region ?_
  refine oq (qv_ldm (vs := [(.int .i64 (((ofF (xs.take p.toNat))).l)), (.int .i64 (((ofF (xs.take p.toNat))).h)), (.int .i64 (((ofF (xs.take p.toNat))).s))]) Try.agg23 rfl (inOc (k := 1) rfl) rfl rfl) ?_
  refine ops_stw (k := 0) (vs := [(.int .i64 (((ofF (xs.take p.toNat))).l)), (.int .i64 (((ofF (xs.take p.toNat))).h)), (.int .i64 (((ofF (xs.take p.toNat))).s))]) Try.size23 rfl rfl rfl rfl rfl rfl ?_
  refine oq (qv_as (Value.int .i64 0) rfl) ?_
  refine ops_nil ?_
  refine vc_ret ?_
  refine rs2 _ (Value.int .i64 0) (rv_c (vs := [(.int .i64 (((ofF (xs.take p.toNat))).l)), (.int .i64 (((ofF (xs.take p.toNat))).h)), (.int .i64 (((ofF (xs.take p.toNat))).s))]) Try.agg23 rfl (inOc (k := 0) rfl) rfl rfl) (rv_t rfl) ?_
  exact tup2 (agg3 (show (ofF (xs.take p.toNat)) = ofN xs from by rw [ofN_1 hall, show p.toNat = xs.length by omega, List.take_length])) (congrArg (Value.int .i64) (show 0 = (ofE xs) from by rw [ofE_1 hall]))

set_option maxRecDepth 100000 in
set_option maxHeartbeats 4000000 in
theorem rOf_c {V : HV} {x : Value} {xs : List Int} (hs : Ints .i64 V x xs) :
    FnC Try.prog 26 [x] V [] (fun v _ _ => v = .tuple #[(.agg #[(.int .i64 ((ofN xs).l)), (.int .i64 ((ofN xs).h)), (.int .i64 ((ofN xs).s))]), (.int .i64 (ofE xs))]) := by
 refine fn_intro (N := 74) Try.func26 (by kernel_rfl) rfl rfl rfl (Nat.le_of_ble_eq_true rfl) ?_
 intro w0 D
 have hbd := hs.bound
 refine vc_seq ?_
 refine vc_region ?_
 refine ops_alloc Try.ti23 rfl (fun b1 => ?_)
 refine oq (qv_as (Value.int .i64 0) rfl) ?_
 refine ops_nil ?_
 refine vc_seq ?_
 refine vc_seq ?_
 refine vc_res (σ' := [(Arr 23 b1 [(Value.int .i64 0), (Value.int .i64 0), (Value.int .i64 0)])]) rfl ?_
 refine vc_region ?_
 refine oq (qv_as (Value.int .i64 0) rfl) ?_
 refine ops_nil ?_
 refine vc_block ?_
 refine vc_loop (α := Int) (fun (xx : Int) => [(0, x), (2, (Value.pointer (some ⟨b1, 0, none⟩))), (4, (Value.int .i64 xx))]) (fun (xx : Int) V' σ' => V = V' ∧ [(Arr 23 b1 [(Value.int .i64 0), (Value.int .i64 0), (Value.int .i64 0)])] = σ' ∧ 0 ≤ xx ∧ xx ≤ xs.length ∧ ∀ i : Int, 0 ≤ i → i < xx → fits (gi xs i)) (fun (xx : Int) => (xs.length - xx).toNat) (0) ?_ ?_ ?_
 · exact ⟨rfl, rfl, rfl, trivial⟩
 · exact ⟨rfl, rfl, by omega, by omega, fun i a b => by omega⟩
 rintro p e1 V0l σ0l hI0
 obtain ⟨rfl, rfl, i1, i2, hf⟩ : V = V0l ∧ [(Arr 23 b1 [(Value.int .i64 0), (Value.int .i64 0), (Value.int .i64 0)])] = σ0l ∧ 0 ≤ p ∧ p ≤ xs.length ∧ ∀ i : Int, 0 ≤ i → i < p → fits (gi xs i) := hI0
 refine vc_seq ?_
 refine vc_seq ?_
 refine vc_region ?_
 refine oq (qv_mv (Value.int .i64 p) rfl) ?_
 refine oq (qv_mv x rfl) ?_
 refine oq (qv_lenI Try.underlying37 rfl hs) ?_
 refine oq (qv_lss rfl rfl) ?_
 refine ops_nil ?_
 refine vc_if rfl (fun c1 => ?_) (fun c1 => ?_)
 ·
  refine vc_skip ?_
  refine vc_seq ?_
  refine vc_block ?_
  refine vc_seq ?_
  refine vc_region ?_
  refine oq (qv_mv x rfl) ?_
  refine oq (qv_mv (Value.int .i64 p) rfl) ?_
  refine oq (qv_iai (v := x) (i := p) Try.underlying37 Try.size3 rfl (inVi hs) rfl (by omega) (by omega)) ?_
  refine oq (qv_ldi (v := x) (i := p) Try.plain3 rfl (inVi hs) (by omega) (by omega)) ?_
  refine oq (qv_call (v := (.bool (decide (fits (gi xs (p)))))) (rFits_c) rfl rfl) ?_
  refine oq (qv_not rfl) ?_
  refine ops_nil ?_
  refine vc_if rfl (fun c2 => ?_) (fun c2 => ?_)
  ·
   refine vc_seq ?_
   have hno : ¬ fitAll xs = true := fun e => absurd (fitAll_iff.1 e p (by omega) (by omega)) (by assumption)
   refine vc_region ?_
   refine oq (qv_build (out := [(Value.int .i64 0), (Value.int .i64 0), (Value.int .i64 0)]) Try.build23 [] rfl rfl) ?_
   refine ops_stw (k := 0) (vs := [(Value.int .i64 0), (Value.int .i64 0), (Value.int .i64 0)]) Try.size23 rfl rfl rfl rfl rfl rfl ?_
   refine oq (qv_as (Value.int .i64 3) rfl) ?_
   refine ops_nil ?_
   refine vc_ret ?_
   refine blockQ_ret ?_
   refine blockQ_ret ?_
   refine rs2 _ (Value.int .i64 3) (rv_c (vs := [(Value.int .i64 0), (Value.int .i64 0), (Value.int .i64 0)]) Try.agg23 rfl (inOc (k := 0) rfl) rfl rfl) (rv_t rfl) ?_
   exact tup2 (agg3 (show (⟨0, 0, 0⟩ : Nm) = ofN xs from by rw [ofN_0 hno])) (congrArg (Value.int .i64) (show 3 = (ofE xs) from by rw [ofE_0 hno]))
  ·
   refine vc_skip ?_
   refine vc_region ?_
   refine oq (qv_mv (Value.int .i64 p) rfl) ?_
   refine oq (qv_add rfl rfl (by omega)) ?_
   refine oq (qv_as (.int .i64 (p + 1)) rfl) ?_
   refine ops_nil ?_
   refine ⟨(p + 1), ⟨rfl, rfl, (congrArg (Value.int .i64) (show (p + 1) = ((p + 1)) from by omega)), trivial⟩, ⟨rfl, rfl, by omega, by omega, all_snoc hf (Decidable.not_not.1 (by assumption))⟩, by omega⟩
 ·
  refine vc_exit ?_
  refine blockQ_hit ?_
  refine vc_seq ?_
  refine vc_seq ?_
  have hfa : ∀ i : Int, 0 ≤ i → i < xs.length → fits (gi xs i) := fun i a b => hf i a (by omega)
  have hall : fitAll xs = true := fitAll_iff.2 hfa
  refine vc_region ?_
  refine oq (qv_mv x rfl) ?_
  refine oq (qv_lenI Try.underlying37 rfl hs) ?_
  refine oq (qv_eql rfl rfl) ?_
  refine ops_nil ?_
  refine vc_if rfl (fun c3 => ?_) (fun c3 => ?_)
  ·
   refine vc_seq ?_
   refine vc_region ?_
   refine oq (qv_call (v := (.agg #[(.int .i64 nE.l), (.int .i64 nE.h), (.int .i64 nE.s)])) (rNone_c) rfl rfl) ?_
   refine ops_stw (k := 0) (vs := [(.int .i64 nE.l), (.int .i64 nE.h), (.int .i64 nE.s)]) Try.size23 rfl rfl rfl rfl rfl rfl ?_
   refine oq (qv_as (Value.int .i64 0) rfl) ?_
   refine ops_nil ?_
   refine vc_ret ?_
   refine rs2 _ (Value.int .i64 0) (rv_c (vs := [(.int .i64 nE.l), (.int .i64 nE.h), (.int .i64 nE.s)]) Try.agg23 rfl (inOc (k := 0) rfl) rfl rfl) (rv_t rfl) ?_
   exact tup2 (agg3 (show nE = ofN xs from by rw [ofN_1 hall, List.eq_nil_of_length_eq_zero (show xs.length = 0 by omega)]; rfl)) (congrArg (Value.int .i64) (show 0 = (ofE xs) from by rw [ofE_1 hall]))
  ·
   refine vc_skip ?_
   refine vc_seq ?_
   refine vc_region_order (τ := []) [(0, false), (1, false), (2, false), (3, false), (4, false), (5, false), (6, false), (7, true), (8, true)] [(Arr 23 b1 [(Value.int .i64 0), (Value.int .i64 0), (Value.int .i64 0)])] Try.mixed (perm_nil _) (by kernel_rfl) ?_
   refine rq rfl (qv_mv x rfl) ?_
   refine rq rfl (qv_iai (v := x) (i := 0) Try.underlying37 Try.size3 rfl (inVi hs) rfl (by omega) (by omega)) ?_
   refine rq rfl (qv_ldi (v := x) (i := 0) Try.plain3 rfl (inVi hs) (by omega) (by omega)) ?_
   refine rq rfl (qv_mv x rfl) ?_
   refine rq rfl (qv_iai (v := x) (i := 0) Try.underlying37 Try.size3 rfl (inVi hs) rfl (by omega) (by omega)) ?_
   refine rq rfl (qv_ldi (v := x) (i := 0) Try.plain3 rfl (inVi hs) (by omega) (by omega)) ?_
   refine rq rfl (qv_build (out := [(.int .i64 (gi xs (0))), (.int .i64 (gi xs (0))), (Value.int .i64 0)]) Try.build23 [(0, [(.int .i64 (gi xs (0)))]), (1, [(.int .i64 (gi xs (0)))])] rfl rfl) ?_
   refine rl rfl ?_
   refine ops_alloc Try.ti23 rfl (fun b2 => ?_)
   refine ops_nil ⟨[(Arr 23 b1 [(Value.int .i64 0), (Value.int .i64 0), (Value.int .i64 0)]), (Arr 23 b2 [(Value.int .i64 0), (Value.int .i64 0), (Value.int .i64 0)])], [], (Sub.refl _), perm_nil _, ⟨[(Arr 23 b2 [(Value.int .i64 0), (Value.int .i64 0), (Value.int .i64 0)])], (.refl _)⟩, ?_⟩
   refine rl1 (by kernel_rfl) rfl ?_
   refine ops_stw (k := 1) (vs := [(.int .i64 (gi xs (0))), (.int .i64 (gi xs (0))), (Value.int .i64 0)]) Try.size23 rfl rfl rfl rfl rfl rfl ?_
   refine ops_nil ⟨[(Arr 23 b1 [(Value.int .i64 0), (Value.int .i64 0), (Value.int .i64 0)]), (Arr 23 b2 [(.int .i64 (gi xs (0))), (.int .i64 (gi xs (0))), (Value.int .i64 0)])], [], perm_nil _, ?_⟩
   refine rnil ?_
   refine vc_seq ?_
   refine vc_seq ?_
   refine vc_res (σ' := [(Arr 23 b1 [(Value.int .i64 0), (Value.int .i64 0), (Value.int .i64 0)]), (Arr 23 b2 [(.int .i64 (gi xs (0))), (.int .i64 (gi xs (0))), (Value.int .i64 0)])]) rfl ?_
   refine vc_region ?_
   refine oq (qv_as (Value.int .i64 1) rfl) ?_
   refine ops_nil ?_
   refine vc_block ?_
   refine vc_loop (α := Int × Int × Int × Int) (fun (xx : Int × Int × Int × Int) => [(0, x), (2, (Value.pointer (some ⟨b1, 0, none⟩))), (4, (Value.int .i64 p)), (5, (Value.pointer (some ⟨b2, 0, none⟩))), (10, (.bool (decide (p < ((xs.length : Int)))))), (22, (.bool (decide (((xs.length : Int)) = 0)))), (6, (Value.int .i64 xx.1))]) (fun (xx : Int × Int × Int × Int) V' σ' => V = V' ∧ [(Arr 23 b1 [(Value.int .i64 0), (Value.int .i64 0), (Value.int .i64 0)]), (Arr 23 b2 [(Value.int .i64 xx.2.1), (Value.int .i64 xx.2.2.1), (Value.int .i64 xx.2.2.2)])] = σ' ∧ 1 ≤ xx.1 ∧ xx.1 ≤ xs.length ∧ Least (fun n => n ∈ xs.take xx.1.toNat) ⟨xx.2.1, xx.2.2.1, xx.2.2.2⟩) (fun (xx : Int × Int × Int × Int) => (xs.length - xx.1).toNat) (1, gi xs 0, gi xs 0, 0) ?_ ?_ ?_
   · exact ⟨rfl, rfl, rfl, rfl, rfl, rfl, rfl, trivial⟩
   · exact (show V = V ∧ [(Arr 23 b1 [(Value.int .i64 0), (Value.int .i64 0), (Value.int .i64 0)]), (Arr 23 b2 [(.int .i64 (gi xs 0 : Int)), (.int .i64 (gi xs 0 : Int)), (.int .i64 (0 : Int))])] = [(Arr 23 b1 [(Value.int .i64 0), (Value.int .i64 0), (Value.int .i64 0)]), (Arr 23 b2 [(.int .i64 (gi xs (0))), (.int .i64 (gi xs (0))), (Value.int .i64 0)])] ∧ 1 ≤ (1 : Int) ∧ (1 : Int) ≤ xs.length ∧ Least (fun n => n ∈ xs.take (1 : Int).toNat) ⟨(gi xs 0 : Int), (gi xs 0 : Int), (0 : Int)⟩ from ⟨rfl, (show [(Arr 23 b1 [(Value.int .i64 0), (Value.int .i64 0), (Value.int .i64 0)]), (Arr 23 b2 [(.int .i64 (gi xs 0)), (.int .i64 (gi xs 0)), (Value.int .i64 0)])] = [(Arr 23 b1 [(Value.int .i64 0), (Value.int .i64 0), (Value.int .i64 0)]), (Arr 23 b2 [(.int .i64 (gi xs (0))), (.int .i64 (gi xs (0))), (Value.int .i64 0)])] from by rfl), by omega, by omega, by rw [show (1 : Int) = 0 + 1 by rfl, take_step (by omega) (by omega)]; exact (least_sgl (hfa 0 (by omega) (by omega))).congr fun n => by simp⟩)
   rintro ⟨q, lo, hi, sp⟩ e2 V1l σ1l hI1
   obtain ⟨rfl, rfl, i3, i4, hL⟩ : V = V1l ∧ [(Arr 23 b1 [(Value.int .i64 0), (Value.int .i64 0), (Value.int .i64 0)]), (Arr 23 b2 [(Value.int .i64 lo), (Value.int .i64 hi), (Value.int .i64 sp)])] = σ1l ∧ 1 ≤ q ∧ q ≤ xs.length ∧ Least (fun n => n ∈ xs.take q.toNat) ⟨lo, hi, sp⟩ := hI1
   change VC _ _ _ _ _ _ (upds 74 [(0, x), (2, (Value.pointer (some ⟨b1, 0, none⟩))), (4, (Value.int .i64 p)), (5, (Value.pointer (some ⟨b2, 0, none⟩))), (10, (.bool (decide (p < ((xs.length : Int)))))), (22, (.bool (decide (((xs.length : Int)) = 0)))), (6, (Value.int .i64 q))] e2) _ _
   refine vc_seq ?_
   refine vc_seq ?_
   refine vc_res (σ' := [(Arr 23 b1 [(Value.int .i64 0), (Value.int .i64 0), (Value.int .i64 0)]), (Arr 23 b2 [(Value.int .i64 lo), (Value.int .i64 hi), (Value.int .i64 sp)])]) rfl ?_
   refine vc_region ?_
   refine oq (qv_mv (Value.int .i64 q) rfl) ?_
   refine oq (qv_mv x rfl) ?_
   refine oq (qv_lenI Try.underlying37 rfl hs) ?_
   refine oq (qv_lss rfl rfl) ?_
   refine ops_nil ?_
   refine vc_if rfl (fun c4 => ?_) (fun c4 => ?_)
   ·
    refine vc_skip ?_
    refine vc_seq ?_
    refine vc_block ?_
    refine vc_seq ?_
    have f1 := hfa q (by omega) (by omega)
    have f2 := hfa 0 (by omega) (by omega)
    unfold fits at f1 f2
    have h0m : gi xs 0 ∈ xs.take q.toNat := gi_take (by omega) (by omega) (by omega)
    have st0 : 0 ≤ sp := (vld_bd hL.ok).2.2
    refine vc_region_order (τ := []) [(0, false), (1, false), (2, false), (3, false), (4, false), (5, false), (6, false), (7, false), (8, false), (9, false), (10, false), (11, false), (12, true)] [(Arr 23 b1 [(Value.int .i64 0), (Value.int .i64 0), (Value.int .i64 0)]), (Arr 23 b2 [(Value.int .i64 lo), (Value.int .i64 hi), (Value.int .i64 sp)])] Try.mixed (perm_nil _) (by kernel_rfl) ?_
    refine rq rfl (qv_fa (off := 0) Try.field23_2 rfl) ?_
    refine rq rfl (qv_ldp (v := (Value.int .i64 sp)) Try.plain3 rfl (inOc (k := 1) rfl) rfl) ?_
    refine rq rfl (qv_mv x rfl) ?_
    refine rq rfl (qv_mv (Value.int .i64 q) rfl) ?_
    refine rq rfl (qv_iai (v := x) (i := q) Try.underlying37 Try.size3 rfl (inVi hs) rfl (by omega) (by omega)) ?_
    refine rq rfl (qv_ldi (v := x) (i := q) Try.plain3 rfl (inVi hs) (by omega) (by omega)) ?_
    refine rq rfl (qv_mv x rfl) ?_
    refine rq rfl (qv_iai (v := x) (i := 0) Try.underlying37 Try.size3 rfl (inVi hs) rfl (by omega) (by omega)) ?_
    refine rq rfl (qv_ldi (v := x) (i := 0) Try.plain3 rfl (inVi hs) (by omega) (by omega)) ?_
    refine rq rfl (qv_call (v := (.int .i64 (aw (gi xs (q)) (gi xs (0))))) (rAway_c (by omega) (by omega)) rfl rfl) ?_
    refine rq rfl (qv_call (v := (.int .i64 ((Int.gcd sp (aw (gi xs (q)) (gi xs (0))) : Int)))) (rGcd_c (by exact st0) (aw_nn _ _)) rfl rfl) ?_
    refine rq rfl (qv_fa (off := 0) Try.field23_2 rfl) ?_
    refine rl1 (by kernel_rfl) rfl ?_
    refine ops_stp (k := 1) (off := 2) (cs := [(Value.int .i64 lo), (Value.int .i64 hi), (Value.int .i64 sp)]) Try.size3 rfl (rfl : ev _ _ = (.int .i64 ((Int.gcd sp (aw (gi xs (q)) (gi xs (0))) : Int)))) rfl rfl (Nat.le_of_ble_eq_true rfl) ?_
    refine ops_nil ⟨[(Arr 23 b1 [(Value.int .i64 0), (Value.int .i64 0), (Value.int .i64 0)]), (Arr 23 b2 [(Value.int .i64 lo), (Value.int .i64 hi), (.int .i64 ((Int.gcd sp (aw (gi xs (q)) (gi xs (0))) : Int)))])], [], perm_nil _, ?_⟩
    refine rnil ?_
    refine vc_seq ?_
    refine vc_seq ?_
    refine vc_res (σ' := [(Arr 23 b1 [(Value.int .i64 0), (Value.int .i64 0), (Value.int .i64 0)]), (Arr 23 b2 [(Value.int .i64 lo), (Value.int .i64 hi), (.int .i64 ((Int.gcd sp (aw (gi xs (q)) (gi xs (0))) : Int)))])]) rfl ?_
    refine vc_region_any Try.mixed (by kernel_rfl) ?_
    refine qq (qv_mv x rfl) ?_
    refine qq (qv_mv (Value.int .i64 q) rfl) ?_
    refine qq (qv_iai (v := x) (i := q) Try.underlying37 Try.size3 rfl (inVi hs) rfl (by omega) (by omega)) ?_
    refine qq (qv_ldi (v := x) (i := q) Try.plain3 rfl (inVi hs) (by omega) (by omega)) ?_
    refine qq (qv_fa (off := 0) Try.field23_0 rfl) ?_
    refine qq (qv_ldp (v := (Value.int .i64 lo)) Try.plain3 rfl (inOc (k := 1) rfl) rfl) ?_
    refine qq (qv_lss rfl rfl) ?_
    refine qops_nil ?_
    refine vc_if rfl (fun c5 => ?_) (fun c5 => ?_)
    ·
     refine vc_region ?_
     refine oq (qv_mv x rfl) ?_
     refine oq (qv_mv (Value.int .i64 q) rfl) ?_
     refine oq (qv_iai (v := x) (i := q) Try.underlying37 Try.size3 rfl (inVi hs) rfl (by omega) (by omega)) ?_
     refine oq (qv_ldi (v := x) (i := q) Try.plain3 rfl (inVi hs) (by omega) (by omega)) ?_
     refine oq (qv_fa (off := 0) Try.field23_0 rfl) ?_
     refine ops_stp (k := 1) (off := 0) (cs := [(Value.int .i64 lo), (Value.int .i64 hi), (.int .i64 ((Int.gcd sp (aw (gi xs (q)) (gi xs (0))) : Int)))]) Try.size3 rfl (rfl : ev _ _ = (.int .i64 (gi xs (q)))) rfl rfl (Nat.le_of_ble_eq_true rfl) ?_
     refine ops_nil ?_
     refine vc_seq ?_
     refine vc_res (σ' := [(Arr 23 b1 [(Value.int .i64 0), (Value.int .i64 0), (Value.int .i64 0)]), (Arr 23 b2 [(.int .i64 (gi xs (q))), (Value.int .i64 hi), (.int .i64 ((Int.gcd sp (aw (gi xs (q)) (gi xs (0))) : Int)))])]) rfl ?_
     refine vc_region_any Try.mixed (by kernel_rfl) ?_
     refine qq (qv_mv x rfl) ?_
     refine qq (qv_mv (Value.int .i64 q) rfl) ?_
     refine qq (qv_iai (v := x) (i := q) Try.underlying37 Try.size3 rfl (inVi hs) rfl (by omega) (by omega)) ?_
     refine qq (qv_ldi (v := x) (i := q) Try.plain3 rfl (inVi hs) (by omega) (by omega)) ?_
     refine qq (qv_fa (off := 0) Try.field23_1 rfl) ?_
     refine qq (qv_ldp (v := (Value.int .i64 hi)) Try.plain3 rfl (inOc (k := 1) rfl) rfl) ?_
     refine qq (qv_gtr rfl rfl) ?_
     refine qops_nil ?_
     refine vc_if rfl (fun c6 => ?_) (fun c6 => ?_)
     ·
      refine vc_region ?_
      refine oq (qv_mv x rfl) ?_
      refine oq (qv_mv (Value.int .i64 q) rfl) ?_
      refine oq (qv_iai (v := x) (i := q) Try.underlying37 Try.size3 rfl (inVi hs) rfl (by omega) (by omega)) ?_
      refine oq (qv_ldi (v := x) (i := q) Try.plain3 rfl (inVi hs) (by omega) (by omega)) ?_
      refine oq (qv_fa (off := 0) Try.field23_1 rfl) ?_
      refine ops_stp (k := 1) (off := 1) (cs := [(.int .i64 (gi xs (q))), (Value.int .i64 hi), (.int .i64 ((Int.gcd sp (aw (gi xs (q)) (gi xs (0))) : Int)))]) Try.size3 rfl (rfl : ev _ _ = (.int .i64 (gi xs (q)))) rfl rfl (Nat.le_of_ble_eq_true rfl) ?_
      refine ops_nil ?_
      refine vc_res (σ' := [(Arr 23 b1 [(Value.int .i64 0), (Value.int .i64 0), (Value.int .i64 0)]), (Arr 23 b2 [(.int .i64 (gi xs (q))), (.int .i64 (gi xs (q))), (.int .i64 ((Int.gcd sp (aw (gi xs (q)) (gi xs (0))) : Int)))])]) rfl ?_
      refine vc_region ?_
      refine oq (qv_mv (Value.int .i64 q) rfl) ?_
      refine oq (qv_add rfl rfl (by omega)) ?_
      refine oq (qv_as (.int .i64 (q + 1)) rfl) ?_
      refine ops_nil ?_
      refine ⟨(q + 1, mn lo (gi xs q), mx hi (gi xs q), (Int.gcd sp (aw (gi xs q) (gi xs 0)) : Int)), ⟨rfl, rfl, rfl, rfl, rfl, rfl, (congrArg (Value.int .i64) (show (q + 1) = ((q + 1)) from by omega)), trivial⟩, (show V = V ∧ [(Arr 23 b1 [(Value.int .i64 0), (Value.int .i64 0), (Value.int .i64 0)]), (Arr 23 b2 [(.int .i64 (mn lo (gi xs q) : Int)), (.int .i64 (mx hi (gi xs q) : Int)), (.int .i64 ((Int.gcd sp (aw (gi xs q) (gi xs 0)) : Int) : Int))])] = [(Arr 23 b1 [(Value.int .i64 0), (Value.int .i64 0), (Value.int .i64 0)]), (Arr 23 b2 [(.int .i64 (gi xs (q))), (.int .i64 (gi xs (q))), (.int .i64 ((Int.gcd sp (aw (gi xs (q)) (gi xs (0))) : Int)))])] ∧ 1 ≤ (q + 1 : Int) ∧ (q + 1 : Int) ≤ xs.length ∧ Least (fun n => n ∈ xs.take (q + 1 : Int).toNat) ⟨(mn lo (gi xs q) : Int), (mx hi (gi xs q) : Int), ((Int.gcd sp (aw (gi xs q) (gi xs 0)) : Int) : Int)⟩ from ⟨rfl, (show [(Arr 23 b1 [(Value.int .i64 0), (Value.int .i64 0), (Value.int .i64 0)]), (Arr 23 b2 [(.int .i64 (mn lo (gi xs q))), (.int .i64 (mx hi (gi xs q))), (.int .i64 ((Int.gcd sp (aw (gi xs q) (gi xs 0)) : Int)))])] = [(Arr 23 b1 [(Value.int .i64 0), (Value.int .i64 0), (Value.int .i64 0)]), (Arr 23 b2 [(.int .i64 (gi xs (q))), (.int .i64 (gi xs (q))), (.int .i64 ((Int.gcd sp (aw (gi xs (q)) (gi xs (0))) : Int)))])] from by first | (rw [mn_1 (a := lo) (b := gi xs q) (by omega), mx_1 (a := hi) (b := gi xs q) (by omega)]; done) | (rw [mn_1 (a := lo) (b := gi xs q) (by omega), mx_0 (a := hi) (b := gi xs q) (by omega)]; done) | (rw [mn_0 (a := lo) (b := gi xs q) (by omega), mx_1 (a := hi) (b := gi xs q) (by omega)]; done) | (rw [mn_0 (a := lo) (b := gi xs q) (by omega), mx_0 (a := hi) (b := gi xs q) (by omega)]; done)), by omega, by omega, by rw [take_step (by omega) (by omega)]; exact of_step hL h0m (hfa q (by omega) (by omega))⟩), show (xs.length - (q + 1)).toNat < (xs.length - q).toNat from by omega⟩
     ·
      refine vc_skip ?_
      refine vc_region ?_
      refine oq (qv_mv (Value.int .i64 q) rfl) ?_
      refine oq (qv_add rfl rfl (by omega)) ?_
      refine oq (qv_as (.int .i64 (q + 1)) rfl) ?_
      refine ops_nil ?_
      refine ⟨(q + 1, mn lo (gi xs q), mx hi (gi xs q), (Int.gcd sp (aw (gi xs q) (gi xs 0)) : Int)), ⟨rfl, rfl, rfl, rfl, rfl, rfl, (congrArg (Value.int .i64) (show (q + 1) = ((q + 1)) from by omega)), trivial⟩, (show V = V ∧ [(Arr 23 b1 [(Value.int .i64 0), (Value.int .i64 0), (Value.int .i64 0)]), (Arr 23 b2 [(.int .i64 (mn lo (gi xs q) : Int)), (.int .i64 (mx hi (gi xs q) : Int)), (.int .i64 ((Int.gcd sp (aw (gi xs q) (gi xs 0)) : Int) : Int))])] = [(Arr 23 b1 [(Value.int .i64 0), (Value.int .i64 0), (Value.int .i64 0)]), (Arr 23 b2 [(.int .i64 (gi xs (q))), (Value.int .i64 hi), (.int .i64 ((Int.gcd sp (aw (gi xs (q)) (gi xs (0))) : Int)))])] ∧ 1 ≤ (q + 1 : Int) ∧ (q + 1 : Int) ≤ xs.length ∧ Least (fun n => n ∈ xs.take (q + 1 : Int).toNat) ⟨(mn lo (gi xs q) : Int), (mx hi (gi xs q) : Int), ((Int.gcd sp (aw (gi xs q) (gi xs 0)) : Int) : Int)⟩ from ⟨rfl, (show [(Arr 23 b1 [(Value.int .i64 0), (Value.int .i64 0), (Value.int .i64 0)]), (Arr 23 b2 [(.int .i64 (mn lo (gi xs q))), (.int .i64 (mx hi (gi xs q))), (.int .i64 ((Int.gcd sp (aw (gi xs q) (gi xs 0)) : Int)))])] = [(Arr 23 b1 [(Value.int .i64 0), (Value.int .i64 0), (Value.int .i64 0)]), (Arr 23 b2 [(.int .i64 (gi xs (q))), (Value.int .i64 hi), (.int .i64 ((Int.gcd sp (aw (gi xs (q)) (gi xs (0))) : Int)))])] from by first | (rw [mn_1 (a := lo) (b := gi xs q) (by omega), mx_1 (a := hi) (b := gi xs q) (by omega)]; done) | (rw [mn_1 (a := lo) (b := gi xs q) (by omega), mx_0 (a := hi) (b := gi xs q) (by omega)]; done) | (rw [mn_0 (a := lo) (b := gi xs q) (by omega), mx_1 (a := hi) (b := gi xs q) (by omega)]; done) | (rw [mn_0 (a := lo) (b := gi xs q) (by omega), mx_0 (a := hi) (b := gi xs q) (by omega)]; done)), by omega, by omega, by rw [take_step (by omega) (by omega)]; exact of_step hL h0m (hfa q (by omega) (by omega))⟩), show (xs.length - (q + 1)).toNat < (xs.length - q).toNat from by omega⟩
    ·
     refine vc_skip ?_
     refine vc_seq ?_
     refine vc_region_any Try.mixed (by kernel_rfl) ?_
     refine qq (qv_mv x rfl) ?_
     refine qq (qv_mv (Value.int .i64 q) rfl) ?_
     refine qq (qv_iai (v := x) (i := q) Try.underlying37 Try.size3 rfl (inVi hs) rfl (by omega) (by omega)) ?_
     refine qq (qv_ldi (v := x) (i := q) Try.plain3 rfl (inVi hs) (by omega) (by omega)) ?_
     refine qq (qv_fa (off := 0) Try.field23_1 rfl) ?_
     refine qq (qv_ldp (v := (Value.int .i64 hi)) Try.plain3 rfl (inOc (k := 1) rfl) rfl) ?_
     refine qq (qv_gtr rfl rfl) ?_
     refine qops_nil ?_
     refine vc_if rfl (fun c7 => ?_) (fun c7 => ?_)
     ·
      refine vc_region ?_
      refine oq (qv_mv x rfl) ?_
      refine oq (qv_mv (Value.int .i64 q) rfl) ?_
      refine oq (qv_iai (v := x) (i := q) Try.underlying37 Try.size3 rfl (inVi hs) rfl (by omega) (by omega)) ?_
      refine oq (qv_ldi (v := x) (i := q) Try.plain3 rfl (inVi hs) (by omega) (by omega)) ?_
      refine oq (qv_fa (off := 0) Try.field23_1 rfl) ?_
      refine ops_stp (k := 1) (off := 1) (cs := [(Value.int .i64 lo), (Value.int .i64 hi), (.int .i64 ((Int.gcd sp (aw (gi xs (q)) (gi xs (0))) : Int)))]) Try.size3 rfl (rfl : ev _ _ = (.int .i64 (gi xs (q)))) rfl rfl (Nat.le_of_ble_eq_true rfl) ?_
      refine ops_nil ?_
      refine vc_res (σ' := [(Arr 23 b1 [(Value.int .i64 0), (Value.int .i64 0), (Value.int .i64 0)]), (Arr 23 b2 [(Value.int .i64 lo), (.int .i64 (gi xs (q))), (.int .i64 ((Int.gcd sp (aw (gi xs (q)) (gi xs (0))) : Int)))])]) rfl ?_
      refine vc_region ?_
      refine oq (qv_mv (Value.int .i64 q) rfl) ?_
      refine oq (qv_add rfl rfl (by omega)) ?_
      refine oq (qv_as (.int .i64 (q + 1)) rfl) ?_
      refine ops_nil ?_
      refine ⟨(q + 1, mn lo (gi xs q), mx hi (gi xs q), (Int.gcd sp (aw (gi xs q) (gi xs 0)) : Int)), ⟨rfl, rfl, rfl, rfl, rfl, rfl, (congrArg (Value.int .i64) (show (q + 1) = ((q + 1)) from by omega)), trivial⟩, (show V = V ∧ [(Arr 23 b1 [(Value.int .i64 0), (Value.int .i64 0), (Value.int .i64 0)]), (Arr 23 b2 [(.int .i64 (mn lo (gi xs q) : Int)), (.int .i64 (mx hi (gi xs q) : Int)), (.int .i64 ((Int.gcd sp (aw (gi xs q) (gi xs 0)) : Int) : Int))])] = [(Arr 23 b1 [(Value.int .i64 0), (Value.int .i64 0), (Value.int .i64 0)]), (Arr 23 b2 [(Value.int .i64 lo), (.int .i64 (gi xs (q))), (.int .i64 ((Int.gcd sp (aw (gi xs (q)) (gi xs (0))) : Int)))])] ∧ 1 ≤ (q + 1 : Int) ∧ (q + 1 : Int) ≤ xs.length ∧ Least (fun n => n ∈ xs.take (q + 1 : Int).toNat) ⟨(mn lo (gi xs q) : Int), (mx hi (gi xs q) : Int), ((Int.gcd sp (aw (gi xs q) (gi xs 0)) : Int) : Int)⟩ from ⟨rfl, (show [(Arr 23 b1 [(Value.int .i64 0), (Value.int .i64 0), (Value.int .i64 0)]), (Arr 23 b2 [(.int .i64 (mn lo (gi xs q))), (.int .i64 (mx hi (gi xs q))), (.int .i64 ((Int.gcd sp (aw (gi xs q) (gi xs 0)) : Int)))])] = [(Arr 23 b1 [(Value.int .i64 0), (Value.int .i64 0), (Value.int .i64 0)]), (Arr 23 b2 [(Value.int .i64 lo), (.int .i64 (gi xs (q))), (.int .i64 ((Int.gcd sp (aw (gi xs (q)) (gi xs (0))) : Int)))])] from by first | (rw [mn_1 (a := lo) (b := gi xs q) (by omega), mx_1 (a := hi) (b := gi xs q) (by omega)]; done) | (rw [mn_1 (a := lo) (b := gi xs q) (by omega), mx_0 (a := hi) (b := gi xs q) (by omega)]; done) | (rw [mn_0 (a := lo) (b := gi xs q) (by omega), mx_1 (a := hi) (b := gi xs q) (by omega)]; done) | (rw [mn_0 (a := lo) (b := gi xs q) (by omega), mx_0 (a := hi) (b := gi xs q) (by omega)]; done)), by omega, by omega, by rw [take_step (by omega) (by omega)]; exact of_step hL h0m (hfa q (by omega) (by omega))⟩), show (xs.length - (q + 1)).toNat < (xs.length - q).toNat from by omega⟩
     ·
      refine vc_skip ?_
      refine vc_region ?_
      refine oq (qv_mv (Value.int .i64 q) rfl) ?_
      refine oq (qv_add rfl rfl (by omega)) ?_
      refine oq (qv_as (.int .i64 (q + 1)) rfl) ?_
      refine ops_nil ?_
      refine ⟨(q + 1, mn lo (gi xs q), mx hi (gi xs q), (Int.gcd sp (aw (gi xs q) (gi xs 0)) : Int)), ⟨rfl, rfl, rfl, rfl, rfl, rfl, (congrArg (Value.int .i64) (show (q + 1) = ((q + 1)) from by omega)), trivial⟩, (show V = V ∧ [(Arr 23 b1 [(Value.int .i64 0), (Value.int .i64 0), (Value.int .i64 0)]), (Arr 23 b2 [(.int .i64 (mn lo (gi xs q) : Int)), (.int .i64 (mx hi (gi xs q) : Int)), (.int .i64 ((Int.gcd sp (aw (gi xs q) (gi xs 0)) : Int) : Int))])] = [(Arr 23 b1 [(Value.int .i64 0), (Value.int .i64 0), (Value.int .i64 0)]), (Arr 23 b2 [(Value.int .i64 lo), (Value.int .i64 hi), (.int .i64 ((Int.gcd sp (aw (gi xs (q)) (gi xs (0))) : Int)))])] ∧ 1 ≤ (q + 1 : Int) ∧ (q + 1 : Int) ≤ xs.length ∧ Least (fun n => n ∈ xs.take (q + 1 : Int).toNat) ⟨(mn lo (gi xs q) : Int), (mx hi (gi xs q) : Int), ((Int.gcd sp (aw (gi xs q) (gi xs 0)) : Int) : Int)⟩ from ⟨rfl, (show [(Arr 23 b1 [(Value.int .i64 0), (Value.int .i64 0), (Value.int .i64 0)]), (Arr 23 b2 [(.int .i64 (mn lo (gi xs q))), (.int .i64 (mx hi (gi xs q))), (.int .i64 ((Int.gcd sp (aw (gi xs q) (gi xs 0)) : Int)))])] = [(Arr 23 b1 [(Value.int .i64 0), (Value.int .i64 0), (Value.int .i64 0)]), (Arr 23 b2 [(Value.int .i64 lo), (Value.int .i64 hi), (.int .i64 ((Int.gcd sp (aw (gi xs (q)) (gi xs (0))) : Int)))])] from by first | (rw [mn_1 (a := lo) (b := gi xs q) (by omega), mx_1 (a := hi) (b := gi xs q) (by omega)]; done) | (rw [mn_1 (a := lo) (b := gi xs q) (by omega), mx_0 (a := hi) (b := gi xs q) (by omega)]; done) | (rw [mn_0 (a := lo) (b := gi xs q) (by omega), mx_1 (a := hi) (b := gi xs q) (by omega)]; done) | (rw [mn_0 (a := lo) (b := gi xs q) (by omega), mx_0 (a := hi) (b := gi xs q) (by omega)]; done)), by omega, by omega, by rw [take_step (by omega) (by omega)]; exact of_step hL h0m (hfa q (by omega) (by omega))⟩), show (xs.length - (q + 1)).toNat < (xs.length - q).toNat from by omega⟩
   ·
    refine vc_exit ?_
    refine blockQ_hit ?_
    refine vc_seq ?_
    have hun : (⟨lo, hi, sp⟩ : Nm) = ofF xs := by rw [show q.toNat = xs.length by omega, List.take_length] at hL; exact hL.unique (least_of (fitAll_mem.1 hall))
    refine vc_region ?_
    refine oq (qv_ldm (vs := [(Value.int .i64 lo), (Value.int .i64 hi), (Value.int .i64 sp)]) Try.agg23 rfl (inOc (k := 1) rfl) rfl rfl) ?_
    refine ops_stw (k := 0) (vs := [(Value.int .i64 lo), (Value.int .i64 hi), (Value.int .i64 sp)]) Try.size23 rfl rfl rfl rfl rfl rfl ?_
    refine oq (qv_as (Value.int .i64 0) rfl) ?_
    refine ops_nil ?_
    refine vc_ret ?_
    refine rs2 _ (Value.int .i64 0) (rv_c (vs := [(Value.int .i64 lo), (Value.int .i64 hi), (Value.int .i64 sp)]) Try.agg23 rfl (inOc (k := 0) rfl) rfl rfl) (rv_t rfl) ?_
    exact tup2 (agg3 (show (⟨lo, hi, sp⟩ : Nm) = ofN xs from by rw [ofN_1 hall, ← hun])) (congrArg (Value.int .i64) (show 0 = (ofE xs) from by rw [ofE_1 hall]))

set_option maxRecDepth 100000 in
set_option maxHeartbeats 4000000 in
theorem rMake_c {V : HV} {lo hi st : Int} :
    FnC Try.prog 28 [(Value.int .i64 lo), (Value.int .i64 hi), (Value.int .i64 st)] V [] (fun v _ _ => v = .tuple #[(.agg #[(.int .i64 ((mkN lo hi st).l)), (.int .i64 ((mkN lo hi st).h)), (.int .i64 ((mkN lo hi st).s))]), (.int .i64 (mkE lo hi st))]) := by
 refine fn_intro (N := 41) Try.func28 (by kernel_rfl) rfl rfl rfl (Nat.le_of_ble_eq_true rfl) ?_
 intro w0 D
 refine vc_seq ?_
 refine vc_region ?_
 refine ops_alloc Try.ti23 rfl (fun b1 => ?_)
 refine oq (qv_as (Value.int .i64 0) rfl) ?_
 refine ops_nil ?_
 refine vc_seq ?_
 refine vc_seq ?_
 refine vc_res (σ' := [(Arr 23 b1 [(Value.int .i64 0), (Value.int .i64 0), (Value.int .i64 0)])]) rfl ?_
 refine vc_region ?_
 refine oq (qv_mv (Value.int .i64 lo) rfl) ?_
 refine oq (qv_call (v := (.bool (decide (fits lo)))) (rFits_c) rfl rfl) ?_
 refine oq (qv_not rfl) ?_
 refine oq (qv_mv (.bool (decide (¬ (fits lo)))) rfl) ?_
 by_cases g1 : ¬ (fits lo)
 ·
  refine os (want_fn g1 rfl rfl rfl) ?_
  refine os (want_fn g1 rfl rfl rfl) ?_
  refine os (want_fn g1 rfl rfl rfl) ?_
  refine oq (qv_pick_t g1 rfl (rfl : ev _ _ = (Value.bool true))) ?_
  refine oq (qv_mv (Value.bool true) rfl) ?_
  refine os (want_fnc rfl rfl rfl) ?_
  refine os (want_fnc rfl rfl rfl) ?_
  refine oq (qv_pick_tc rfl (rfl : ev _ _ = (Value.bool true))) ?_
  refine ops_nil ?_
  refine vc_tt rfl ?_
  refine vc_seq ?_
  have hm : ¬ mkOk lo hi st := by unfold mkOk fits; simp only [fits] at *; omega
  refine vc_region ?_
  refine oq (qv_build (out := [(Value.int .i64 0), (Value.int .i64 0), (Value.int .i64 0)]) Try.build23 [] rfl rfl) ?_
  refine ops_stw (k := 0) (vs := [(Value.int .i64 0), (Value.int .i64 0), (Value.int .i64 0)]) Try.size23 rfl rfl rfl rfl rfl rfl ?_
  refine oq (qv_as (Value.int .i64 3) rfl) ?_
  refine ops_nil ?_
  refine vc_ret ?_
  refine rs2 _ (Value.int .i64 3) (rv_c (vs := [(Value.int .i64 0), (Value.int .i64 0), (Value.int .i64 0)]) Try.agg23 rfl (inOc (k := 0) rfl) rfl rfl) (rv_t rfl) ?_
  exact tup2 (aggc (consc (congrArg (Value.int .i64) (show 0 = ((mkN lo hi st).l) from by rw [mkN_0 hm])) (consc (congrArg (Value.int .i64) (show 0 = ((mkN lo hi st).h) from by rw [mkN_0 hm])) (consc (congrArg (Value.int .i64) (show 0 = ((mkN lo hi st).s) from by rw [mkN_0 hm])) rfl)))) (congrArg (Value.int .i64) (show 3 = (mkE lo hi st) from by rw [mkE_0 hm]))
 ·
  refine og (qv_mv (Value.int .i64 hi) rfl) (want_f g1 rfl rfl rfl) ?_
  refine og (qv_call (v := (.bool (decide (fits hi)))) (rFits_c) rfl rfl) (want_f g1 rfl rfl rfl) ?_
  refine og (qv_not rfl) (want_f g1 rfl rfl rfl) ?_
  refine oq (qv_pick_f g1 rfl (rfl : ev _ _ = (.bool (decide (¬ (fits hi)))))) ?_
  refine oq (qv_mv (.bool (decide (¬ (fits hi)))) rfl) ?_
  by_cases g2 : ¬ (fits hi)
  ·
   refine os (want_fn g2 rfl rfl rfl) ?_
   refine os (want_fn g2 rfl rfl rfl) ?_
   refine oq (qv_pick_t g2 rfl (rfl : ev _ _ = (Value.bool true))) ?_
   refine ops_nil ?_
   refine vc_tt rfl ?_
   refine vc_seq ?_
   have hm : ¬ mkOk lo hi st := by unfold mkOk fits; simp only [fits] at *; omega
   refine vc_region ?_
   refine oq (qv_build (out := [(Value.int .i64 0), (Value.int .i64 0), (Value.int .i64 0)]) Try.build23 [] rfl rfl) ?_
   refine ops_stw (k := 0) (vs := [(Value.int .i64 0), (Value.int .i64 0), (Value.int .i64 0)]) Try.size23 rfl rfl rfl rfl rfl rfl ?_
   refine oq (qv_as (Value.int .i64 3) rfl) ?_
   refine ops_nil ?_
   refine vc_ret ?_
   refine rs2 _ (Value.int .i64 3) (rv_c (vs := [(Value.int .i64 0), (Value.int .i64 0), (Value.int .i64 0)]) Try.agg23 rfl (inOc (k := 0) rfl) rfl rfl) (rv_t rfl) ?_
   exact tup2 (aggc (consc (congrArg (Value.int .i64) (show 0 = ((mkN lo hi st).l) from by rw [mkN_0 hm])) (consc (congrArg (Value.int .i64) (show 0 = ((mkN lo hi st).h) from by rw [mkN_0 hm])) (consc (congrArg (Value.int .i64) (show 0 = ((mkN lo hi st).s) from by rw [mkN_0 hm])) rfl)))) (congrArg (Value.int .i64) (show 3 = (mkE lo hi st) from by rw [mkE_0 hm]))
  ·
   refine og (qv_mv (Value.int .i64 st) rfl) (want_f g2 rfl rfl rfl) ?_
   refine og (qv_lss rfl rfl) (want_f g2 rfl rfl rfl) ?_
   refine oq (qv_pick_f g2 rfl (rfl : ev _ _ = (.bool (decide (st < 1))))) ?_
   refine ops_nil ?_
   refine vc_if rfl (fun c1 => ?_) (fun c1 => ?_)
   ·
    refine vc_seq ?_
    have hm : ¬ mkOk lo hi st := by unfold mkOk fits; simp only [fits] at *; omega
    refine vc_region ?_
    refine oq (qv_build (out := [(Value.int .i64 0), (Value.int .i64 0), (Value.int .i64 0)]) Try.build23 [] rfl rfl) ?_
    refine ops_stw (k := 0) (vs := [(Value.int .i64 0), (Value.int .i64 0), (Value.int .i64 0)]) Try.size23 rfl rfl rfl rfl rfl rfl ?_
    refine oq (qv_as (Value.int .i64 3) rfl) ?_
    refine ops_nil ?_
    refine vc_ret ?_
    refine rs2 _ (Value.int .i64 3) (rv_c (vs := [(Value.int .i64 0), (Value.int .i64 0), (Value.int .i64 0)]) Try.agg23 rfl (inOc (k := 0) rfl) rfl rfl) (rv_t rfl) ?_
    exact tup2 (aggc (consc (congrArg (Value.int .i64) (show 0 = ((mkN lo hi st).l) from by rw [mkN_0 hm])) (consc (congrArg (Value.int .i64) (show 0 = ((mkN lo hi st).h) from by rw [mkN_0 hm])) (consc (congrArg (Value.int .i64) (show 0 = ((mkN lo hi st).s) from by rw [mkN_0 hm])) rfl)))) (congrArg (Value.int .i64) (show 3 = (mkE lo hi st) from by rw [mkE_0 hm]))
   ·
    refine vc_skip ?_
    refine vc_seq ?_
    refine vc_seq ?_
    have hm : mkOk lo hi st := by unfold mkOk fits; simp only [fits] at *; omega
    refine vc_region ?_
    refine oq (qv_mv (Value.int .i64 lo) rfl) ?_
    refine oq (qv_mv (Value.int .i64 hi) rfl) ?_
    refine oq (qv_gtr rfl rfl) ?_
    refine ops_nil ?_
    refine vc_if rfl (fun c2 => ?_) (fun c2 => ?_)
    ·
     refine vc_seq ?_
     refine vc_region ?_
     refine oq (qv_call (v := (.agg #[(.int .i64 nE.l), (.int .i64 nE.h), (.int .i64 nE.s)])) (rNone_c) rfl rfl) ?_
     refine ops_stw (k := 0) (vs := [(.int .i64 nE.l), (.int .i64 nE.h), (.int .i64 nE.s)]) Try.size23 rfl rfl rfl rfl rfl rfl ?_
     refine oq (qv_as (Value.int .i64 0) rfl) ?_
     refine ops_nil ?_
     refine vc_ret ?_
     refine rs2 _ (Value.int .i64 0) (rv_c (vs := [(.int .i64 nE.l), (.int .i64 nE.h), (.int .i64 nE.s)]) Try.agg23 rfl (inOc (k := 0) rfl) rfl rfl) (rv_t rfl) ?_
     exact tup2 (aggc (consc (congrArg (Value.int .i64) (show nE.l = ((mkN lo hi st).l) from by rw [mkN_1 hm]; first | (rw [spanF_1 (by omega)]; done) | (rw [spanF_3 (by omega) (by omega) (by omega)]; first | done | (show _ = lo; omega)) | (rw [spanF_4 (by omega) (by omega) (by omega)]; done))) (consc (congrArg (Value.int .i64) (show nE.h = ((mkN lo hi st).h) from by rw [mkN_1 hm]; first | (rw [spanF_1 (by omega)]; done) | (rw [spanF_3 (by omega) (by omega) (by omega)]; first | done | (show _ = lo; omega)) | (rw [spanF_4 (by omega) (by omega) (by omega)]; done))) (consc (congrArg (Value.int .i64) (show nE.s = ((mkN lo hi st).s) from by rw [mkN_1 hm]; first | (rw [spanF_1 (by omega)]; done) | (rw [spanF_3 (by omega) (by omega) (by omega)]; first | done | (show _ = lo; omega)) | (rw [spanF_4 (by omega) (by omega) (by omega)]; done))) rfl)))) (congrArg (Value.int .i64) (show 0 = (mkE lo hi st) from by rw [mkE_1 hm]))
    ·
     refine vc_skip ?_
     refine vc_seq ?_
     obtain ⟨hl, hh, hs⟩ := hm
     unfold fits at hl hh
     have hm : mkOk lo hi st := ⟨hl, hh, hs⟩
     have e0 := Int.emod_add_mul_ediv (hi - lo) st
     rw [Int.mul_comm] at e0
     have e1 := Int.emod_nonneg (hi - lo) (show st ≠ 0 by omega)
     have e2 : 0 ≤ (hi - lo) / st := Int.ediv_nonneg (by omega) (by omega)
     have e3 : 0 ≤ (hi - lo) / st * st := Int.mul_nonneg e2 (by omega)
     have e4 : (hi - lo) / st ≤ hi - lo := Int.ediv_le_self _ (by omega)
     refine vc_region ?_
     refine oq (qv_mv (Value.int .i64 lo) rfl) ?_
     refine oq (qv_mv (Value.int .i64 hi) rfl) ?_
     refine oq (qv_mv (Value.int .i64 lo) rfl) ?_
     refine oq (qv_sub rfl rfl (by omega)) ?_
     refine oq (qv_mv (Value.int .i64 st) rfl) ?_
     refine oq (qv_quo rfl rfl (by omega) (by omega)) ?_
     refine oq (qv_mv (Value.int .i64 st) rfl) ?_
     refine oq (qv_mul rfl rfl (by omega)) ?_
     refine oq (qv_add rfl rfl (by omega)) ?_
     refine oq (qv_as (.int .i64 (lo + (((hi - lo) / st) * st))) rfl) ?_
     refine ops_nil ?_
     refine vc_seq ?_
     refine vc_seq ?_
     refine vc_region ?_
     refine oq (qv_mv (Value.int .i64 lo) rfl) ?_
     refine oq (qv_mv (.int .i64 (lo + (((hi - lo) / st) * st))) rfl) ?_
     refine oq (qv_eql rfl rfl) ?_
     refine ops_nil ?_
     refine vc_if rfl (fun c3 => ?_) (fun c3 => ?_)
     ·
      refine vc_region ?_
      refine oq (qv_as (Value.int .i64 0) rfl) ?_
      refine ops_nil ?_
      refine vc_seq ?_
      refine vc_region ?_
      refine oq (qv_mv (Value.int .i64 lo) rfl) ?_
      refine oq (qv_mv (.int .i64 (lo + (((hi - lo) / st) * st))) rfl) ?_
      refine oq (qv_mv (Value.int .i64 0) rfl) ?_
      refine oq (qv_build (out := [(Value.int .i64 lo), (.int .i64 (lo + (((hi - lo) / st) * st))), (Value.int .i64 0)]) Try.build23 [(0, [(Value.int .i64 lo)]), (1, [(.int .i64 (lo + (((hi - lo) / st) * st)))]), (2, [(Value.int .i64 0)])] rfl rfl) ?_
      refine ops_stw (k := 0) (vs := [(Value.int .i64 lo), (.int .i64 (lo + (((hi - lo) / st) * st))), (Value.int .i64 0)]) Try.size23 rfl rfl rfl rfl rfl rfl ?_
      refine oq (qv_as (Value.int .i64 0) rfl) ?_
      refine ops_nil ?_
      refine vc_ret ?_
      refine rs2 _ (Value.int .i64 0) (rv_c (vs := [(Value.int .i64 lo), (.int .i64 (lo + (((hi - lo) / st) * st))), (Value.int .i64 0)]) Try.agg23 rfl (inOc (k := 0) rfl) rfl rfl) (rv_t rfl) ?_
      exact tup2 (aggc (consc (congrArg (Value.int .i64) (show lo = ((mkN lo hi st).l) from by rw [mkN_1 hm]; first | (rw [spanF_1 (by omega)]; done) | (rw [spanF_3 (by omega) (by omega) (by omega)]; first | done | (show _ = lo; omega)) | (rw [spanF_4 (by omega) (by omega) (by omega)]; done))) (consc (congrArg (Value.int .i64) (show (lo + (((hi - lo) / st) * st)) = ((mkN lo hi st).h) from by rw [mkN_1 hm]; first | (rw [spanF_1 (by omega)]; done) | (rw [spanF_3 (by omega) (by omega) (by omega)]; first | done | (show _ = lo; omega)) | (rw [spanF_4 (by omega) (by omega) (by omega)]; done))) (consc (congrArg (Value.int .i64) (show 0 = ((mkN lo hi st).s) from by rw [mkN_1 hm]; first | (rw [spanF_1 (by omega)]; done) | (rw [spanF_3 (by omega) (by omega) (by omega)]; first | done | (show _ = lo; omega)) | (rw [spanF_4 (by omega) (by omega) (by omega)]; done))) rfl)))) (congrArg (Value.int .i64) (show 0 = (mkE lo hi st) from by rw [mkE_1 hm]))
     ·
      refine vc_skip ?_
      refine vc_seq ?_
      refine vc_region ?_
      refine oq (qv_mv (Value.int .i64 lo) rfl) ?_
      refine oq (qv_mv (.int .i64 (lo + (((hi - lo) / st) * st))) rfl) ?_
      refine oq (qv_mv (Value.int .i64 st) rfl) ?_
      refine oq (qv_build (out := [(Value.int .i64 lo), (.int .i64 (lo + (((hi - lo) / st) * st))), (Value.int .i64 st)]) Try.build23 [(0, [(Value.int .i64 lo)]), (1, [(.int .i64 (lo + (((hi - lo) / st) * st)))]), (2, [(Value.int .i64 st)])] rfl rfl) ?_
      refine ops_stw (k := 0) (vs := [(Value.int .i64 lo), (.int .i64 (lo + (((hi - lo) / st) * st))), (Value.int .i64 st)]) Try.size23 rfl rfl rfl rfl rfl rfl ?_
      refine oq (qv_as (Value.int .i64 0) rfl) ?_
      refine ops_nil ?_
      refine vc_ret ?_
      refine rs2 _ (Value.int .i64 0) (rv_c (vs := [(Value.int .i64 lo), (.int .i64 (lo + (((hi - lo) / st) * st))), (Value.int .i64 st)]) Try.agg23 rfl (inOc (k := 0) rfl) rfl rfl) (rv_t rfl) ?_
      exact tup2 (aggc (consc (congrArg (Value.int .i64) (show lo = ((mkN lo hi st).l) from by rw [mkN_1 hm]; first | (rw [spanF_1 (by omega)]; done) | (rw [spanF_3 (by omega) (by omega) (by omega)]; first | done | (show _ = lo; omega)) | (rw [spanF_4 (by omega) (by omega) (by omega)]; done))) (consc (congrArg (Value.int .i64) (show (lo + (((hi - lo) / st) * st)) = ((mkN lo hi st).h) from by rw [mkN_1 hm]; first | (rw [spanF_1 (by omega)]; done) | (rw [spanF_3 (by omega) (by omega) (by omega)]; first | done | (show _ = lo; omega)) | (rw [spanF_4 (by omega) (by omega) (by omega)]; done))) (consc (congrArg (Value.int .i64) (show st = ((mkN lo hi st).s) from by rw [mkN_1 hm]; first | (rw [spanF_1 (by omega)]; done) | (rw [spanF_3 (by omega) (by omega) (by omega)]; first | done | (show _ = lo; omega)) | (rw [spanF_4 (by omega) (by omega) (by omega)]; done))) rfl)))) (congrArg (Value.int .i64) (show 0 = (mkE lo hi st) from by rw [mkE_1 hm]))

end Go.Proofs.Ytapkilaikcihgaa
