/- Walks of merge: what each function returns. Printed by a program out of notes. -/
import Derived.Test.YtmkbjhligjnagaaMiC
import Derived.Test.YtmkbjhligjnagaaMhG
namespace Go.Proofs.Ytmkbjhligjnagaa
open Go Go.Vc
open Classical
set_option maxRecDepth 100000
set_option maxRecDepth 100000 in
set_option maxHeartbeats 4000000 in
theorem entry_c {V : HV} {tv : Value} {T : List Be} {s j : Int} (ht : Bes V tv T) (ho : Ord T) :
    FnC Try.prog 48 [tv, (Value.int .i64 s), (Value.int .i64 j)] V [] (fun v _ _ => v = .tuple #[(.int .i64 ((kmA T (j, s)).getD 0)), (.bool (decide ((kmA T (j, s)).isSome = true)))]) := by
 refine fn_intro (N := 29) Try.func48 (by kernel_rfl) rfl rfl rfl (Nat.le_of_ble_eq_true rfl) ?_
 intro w0 D
 have hbd := SlS.bound ht
 refine vc_seq ?_
 refine vc_region ?_
 refine oq (qv_as (Value.int .i64 0) rfl) ?_
 refine oq (qv_as (Value.bool false) rfl) ?_
 refine ops_nil ?_
 refine vc_seq ?_
 refine vc_seq ?_
 refine vc_region ?_
 refine oq (qv_mv tv rfl) ?_
 refine oq (qv_lenSS Try.underlying46 rfl ht) ?_
 refine oq (qv_mv (Value.int .i64 0) rfl) ?_
 refine ops_nil ?_
 refine vc_block ?_
 refine vc_loop (α := Int) (fun (xx : Int) => [(0, tv), (1, (Value.int .i64 s)), (2, (Value.int .i64 j)), (10, tv), (11, (.int .i64 ((T.length : Int)))), (12, (Value.int .i64 xx))]) (fun (xx : Int) V' σ' => V = V' ∧ [] = σ' ∧ 0 ≤ xx ∧ xx ≤ T.length ∧ ∀ x : Int, 0 ≤ x → x < xx → ¬ ((be T x).s = s ∧ (be T x).j = j)) (fun (xx : Int) => (T.length - xx).toNat) (0) ?_ ?_ ?_
 · exact ⟨rfl, rfl, rfl, rfl, rfl, rfl, trivial⟩
 · exact ⟨rfl, rfl, by omega, by omega, fun x a b => by omega⟩
 rintro i e1 V0l σ0l hI0
 obtain ⟨rfl, rfl, i1, i2, hno⟩ : V = V0l ∧ [] = σ0l ∧ 0 ≤ i ∧ i ≤ T.length ∧ ∀ x : Int, 0 ≤ x → x < i → ¬ ((be T x).s = s ∧ (be T x).j = j) := hI0
 refine vc_seq ?_
 refine vc_region ?_
 refine oq (qv_lss rfl rfl) ?_
 refine ops_nil ?_
 refine vc_seq ?_
 refine vc_if rfl (fun c1 => ?_) (fun c1 => ?_)
 ·
  refine vc_skip ?_
  refine vc_seq ?_
  refine vc_block ?_
  refine vc_seq ?_
  refine vc_region ?_
  refine oq (qv_ias (v := tv) (i := i) Try.underlying46 Try.size66 rfl ht rfl (by omega) (by omega)) ?_
  refine oq (qv_lds (v := tv) (i := i) (vs := [(.int .i64 ((be T (i)).s)), (.int .i64 ((be T (i)).j)), (.int .i64 ((be T (i)).v))]) Try.agg66 rfl ht (by omega) (by omega) (bes_at (by omega) (by omega))) ?_
  refine ops_alloc Try.ti66 rfl (fun b1 => ?_)
  refine ops_stw (k := 0) (vs := [(.int .i64 ((be T (i)).s)), (.int .i64 ((be T (i)).j)), (.int .i64 ((be T (i)).v))]) Try.size66 rfl rfl rfl rfl rfl rfl ?_
  refine ops_nil ?_
  refine vc_seq ?_
  refine vc_res (σ' := [(Arr 66 b1 [(.int .i64 ((be T (i)).s)), (.int .i64 ((be T (i)).j)), (.int .i64 ((be T (i)).v))])]) rfl ?_
  refine vc_region ?_
  refine oq (qv_fa (off := 0) Try.field66_0 rfl) ?_
  refine oq (qv_ldp (v := (.int .i64 ((be T (i)).s))) Try.plain3 rfl (inOc (k := 0) rfl) rfl) ?_
  refine oq (qv_mv (Value.int .i64 s) rfl) ?_
  refine oq (qv_eql rfl rfl) ?_
  refine oq (qv_mv (.bool (decide (((be T (i)).s) = s))) rfl) ?_
  by_cases g1 : ((be T (i)).s) = s
  ·
   refine og (qv_fa (off := 0) Try.field66_1 rfl) (want_t g1 rfl rfl rfl) ?_
   refine og (qv_ldp (v := (.int .i64 ((be T (i)).j))) Try.plain3 rfl (inOc (k := 0) rfl) rfl) (want_t g1 rfl rfl rfl) ?_
   refine og (qv_mv (Value.int .i64 j) rfl) (want_t g1 rfl rfl rfl) ?_
   refine og (qv_eql rfl rfl) (want_t g1 rfl rfl rfl) ?_
   refine oq (qv_pick_t g1 rfl (rfl : ev _ _ = (.bool (decide (((be T (i)).j) = j))))) ?_
   refine ops_nil ?_
   refine vc_if rfl (fun c2 => ?_) (fun c2 => ?_)
   ·
    refine vc_seq ?_
    refine vc_region ?_
    refine oq (qv_fa (off := 0) Try.field66_2 rfl) ?_
    refine oq (qv_ldp (v := (.int .i64 ((be T (i)).v))) Try.plain3 rfl (inOc (k := 0) rfl) rfl) ?_
    refine oq (qv_as (.int .i64 ((be T (i)).v)) rfl) ?_
    refine oq (qv_as (Value.bool true) rfl) ?_
    refine ops_nil ?_
    refine vc_drop [] [(Arr 66 b1 [(.int .i64 ((be T (i)).s)), (.int .i64 ((be T (i)).j)), (.int .i64 ((be T (i)).v))])] (.refl _) ?_
    refine vc_ret ?_
    refine blockQ_ret ?_
    refine blockQ_ret ?_
    exact rq2 (.int .i64 ((kmA T (j, s)).getD 0)) (.bool (decide ((kmA T (j, s)).isSome = true))) (congrArg (Value.int .i64) (show ((be T (i)).v) = ((kmA T (j, s)).getD 0) from by first | (rw [km_hit ho (i := i) (by omega) (by omega) (by assumption) (by assumption)]; rfl) | (rw [km_none (fun x a b => hno x a (by omega))]; first | rfl | simp))) (congrArg Value.bool (decide_eq_true (show ((kmA T (j, s)).isSome = true) from by first | (rw [km_hit ho (i := i) (by omega) (by omega) (by assumption) (by assumption)]; rfl) | (rw [km_none (fun x a b => hno x a (by omega))]; first | rfl | simp))).symm) rfl
   ·
    refine vc_skip ?_
    refine vc_drop [] [(Arr 66 b1 [(Value.int .i64 ((be T (i)).s)), (Value.int .i64 ((be T (i)).j)), (Value.int .i64 ((be T (i)).v))])] ((List.perm_middle (l₁ := []) (l₂ := [])).trans (List.perm_append_comm (l₁ := [(Arr 66 b1 [(Value.int .i64 ((be T (i)).s)), (Value.int .i64 ((be T (i)).j)), (Value.int .i64 ((be T (i)).v))])]))) ?_
    refine vc_region ?_
    refine oq (qv_add rfl rfl (by omega)) ?_
    refine oq (qv_mv (.int .i64 (i + 1)) rfl) ?_
    refine ops_nil ?_
    refine ⟨(i + 1), ⟨rfl, rfl, rfl, rfl, rfl, (congrArg (Value.int .i64) (show (i + 1) = ((i + 1)) from by omega)), trivial⟩, ⟨rfl, rfl, by omega, by omega, all_snoc hno (by first | exact fun q => absurd q.1 (by assumption) | exact fun q => absurd q.2 (by assumption))⟩, by omega⟩
  ·
   refine os (want_tn g1 rfl rfl rfl) ?_
   refine os (want_tn g1 rfl rfl rfl) ?_
   refine os (want_tn g1 rfl rfl rfl) ?_
   refine os (want_tn g1 rfl rfl rfl) ?_
   refine oq (qv_pick_f g1 rfl (rfl : ev _ _ = (Value.bool false))) ?_
   refine ops_nil ?_
   refine vc_ff rfl ?_
   refine vc_skip ?_
   refine vc_drop [] [(Arr 66 b1 [(Value.int .i64 ((be T (i)).s)), (Value.int .i64 ((be T (i)).j)), (Value.int .i64 ((be T (i)).v))])] ((List.perm_middle (l₁ := []) (l₂ := [])).trans (List.perm_append_comm (l₁ := [(Arr 66 b1 [(Value.int .i64 ((be T (i)).s)), (Value.int .i64 ((be T (i)).j)), (Value.int .i64 ((be T (i)).v))])]))) ?_
   refine vc_region ?_
   refine oq (qv_add rfl rfl (by omega)) ?_
   refine oq (qv_mv (.int .i64 (i + 1)) rfl) ?_
   refine ops_nil ?_
   refine ⟨(i + 1), ⟨rfl, rfl, rfl, rfl, rfl, (congrArg (Value.int .i64) (show (i + 1) = ((i + 1)) from by omega)), trivial⟩, ⟨rfl, rfl, by omega, by omega, all_snoc hno (by first | exact fun q => absurd q.1 (by assumption) | exact fun q => absurd q.2 (by assumption))⟩, by omega⟩
 ·
  refine vc_exit ?_
  refine blockQ_hit ?_
  refine vc_seq ?_
  refine vc_region ?_
  refine oq (qv_as (Value.int .i64 0) rfl) ?_
  refine oq (qv_as (Value.bool false) rfl) ?_
  refine ops_nil ?_
  refine vc_ret ?_
  exact rq2 (.int .i64 ((kmA T (j, s)).getD 0)) (.bool (decide ((kmA T (j, s)).isSome = true))) (congrArg (Value.int .i64) (show 0 = ((kmA T (j, s)).getD 0) from by first | (rw [km_hit ho (i := i) (by omega) (by omega) (by assumption) (by assumption)]; rfl) | (rw [km_none (fun x a b => hno x a (by omega))]; first | rfl | simp))) (congrArg Value.bool (decide_eq_false (show ¬ ((kmA T (j, s)).isSome = true) from by first | (rw [km_hit ho (i := i) (by omega) (by omega) (by assumption) (by assumption)]; rfl) | (rw [km_none (fun x a b => hno x a (by omega))]; first | rfl | simp))).symm) rfl

set_option maxRecDepth 100000 in
set_option maxHeartbeats 4000000 in
theorem justified_c {V : HV} {l : Value} {rv : List Value} {L : List (List Int)} {tv : Value} {T : List Be} {x : Be} {k : Int} (hl : Mat .i64 V l rv L) (hg : Good L) (ht : Bes V tv T) (ho : Ord T) (hr : Rg L k T) (h0 : 1 ≤ x.s) (h1 : x.s < 64) (hj : 1 ≤ x.j ∧ x.j ≤ 32) :
    FnC Try.prog 47 [l, tv, (.agg #[(.int .i64 x.s), (.int .i64 x.j), (.int .i64 x.v)])] V [] (fun v _ _ => v = (.bool (decide (Jst (kmA T) L x)))) := by
 refine fn_intro (N := 67) Try.func47 (by kernel_rfl) rfl rfl rfl (Nat.le_of_ble_eq_true rfl) ?_
 intro w0 D
 refine vc_seq ?_
 refine vc_region ?_
 refine ops_box (v := (.agg #[(.int .i64 x.s), (.int .i64 x.j), (.int .i64 x.v)])) (cs := [(.int .i64 x.s), (.int .i64 x.j), (.int .i64 x.v)]) rfl rfl (fun b1 => ?_)
 refine oq (qv_as (Value.bool false) rfl) ?_
 refine ops_nil ?_
 refine vc_seq ?_
 refine vc_seq ?_
 refine vc_res (σ' := [(Arr 66 b1 [(.int .i64 x.s), (.int .i64 x.j), (.int .i64 x.v)])]) rfl ?_
 refine vc_region ?_
 refine oq (qv_as (Value.int .i64 1) rfl) ?_
 refine ops_nil ?_
 refine vc_block ?_
 refine vc_loop (α := Int) (fun (xx : Int) => [(0, l), (1, tv), (2, (.agg #[(.int .i64 x.s), (.int .i64 x.j), (.int .i64 x.v)])), (5, (Value.pointer (some ⟨b1, 0, none⟩))), (7, (Value.int .i64 xx))]) (fun (xx : Int) V' σ' => V = V' ∧ [(Arr 66 b1 [(.int .i64 x.s), (.int .i64 x.j), (.int .i64 x.v)])] = σ' ∧ 1 ≤ xx ∧ xx ≤ x.s + 1 ∧ Trd (kmA T) L x xx) (fun (xx : Int) => (x.s + 1 - xx).toNat) (1) ?_ ?_ ?_
 · exact ⟨rfl, rfl, rfl, rfl, rfl, trivial⟩
 · exact ⟨rfl, rfl, by omega, by omega, fun p a b => by omega⟩
 rintro g e1 V0l σ0l hI0
 obtain ⟨rfl, rfl, i1, i2, hq⟩ : V = V0l ∧ [(Arr 66 b1 [(.int .i64 x.s), (.int .i64 x.j), (.int .i64 x.v)])] = σ0l ∧ 1 ≤ g ∧ g ≤ x.s + 1 ∧ Trd (kmA T) L x g := hI0
 refine vc_seq ?_
 refine vc_seq ?_
 refine vc_region ?_
 refine oq (qv_mv (Value.int .i64 g) rfl) ?_
 refine oq (qv_fa (off := 0) Try.field66_0 rfl) ?_
 refine oq (qv_ldp (v := (.int .i64 x.s)) Try.plain3 rfl (inOc (k := 0) rfl) rfl) ?_
 refine oq (qv_leq rfl rfl) ?_
 refine ops_nil ?_
 refine vc_if rfl (fun c1 => ?_) (fun c1 => ?_)
 ·
  refine vc_skip ?_
  refine vc_seq ?_
  refine vc_block ?_
  refine vc_seq ?_
  refine vc_region ?_
  refine oq (qv_fa (off := 0) Try.field66_0 rfl) ?_
  refine oq (qv_ldp (v := (.int .i64 x.s)) Try.plain3 rfl (inOc (k := 0) rfl) rfl) ?_
  refine oq (qv_mv (Value.int .i64 g) rfl) ?_
  refine oq (qv_ani rfl rfl (b_an' (by omega) (by omega) (by omega) (by omega))) ?_
  refine oq (qv_as (.int .i64 (aniV x.s g)) rfl) ?_
  refine ops_nil ?_
  refine vc_seq ?_
  refine vc_seq ?_
  refine vc_region ?_
  refine oq (qv_mv (Value.int .i64 g) rfl) ?_
  refine oq (qv_fa (off := 0) Try.field66_0 rfl) ?_
  refine oq (qv_ldp (v := (.int .i64 x.s)) Try.plain3 rfl (inOc (k := 0) rfl) rfl) ?_
  refine oq (qv_ani rfl rfl (b_an' (by omega) (by omega) (by omega) (by omega))) ?_
  refine oq (qv_neq rfl rfl) ?_
  refine oq (qv_mv (.bool (decide ((aniV g x.s) ≠ 0))) rfl) ?_
  by_cases g1 : (aniV g x.s) ≠ 0
  ·
   refine os (want_fn g1 rfl rfl rfl) ?_
   refine os (want_fn g1 rfl rfl rfl) ?_
   refine os (want_fn g1 rfl rfl rfl) ?_
   refine os (want_fn g1 rfl rfl rfl) ?_
   refine os (want_fn g1 rfl rfl rfl) ?_
   refine os (want_fn g1 rfl rfl rfl) ?_
   refine os (want_fn g1 rfl rfl rfl) ?_
   refine os (want_fn g1 rfl rfl rfl) ?_
   refine os (want_fn g1 rfl rfl rfl) ?_
   refine oq (qv_pick_t g1 rfl (rfl : ev _ _ = (Value.bool true))) ?_
   refine oq (qv_mv (Value.bool true) rfl) ?_
   refine os (want_fnc rfl rfl rfl) ?_
   refine os (want_fnc rfl rfl rfl) ?_
   refine os (want_fnc rfl rfl rfl) ?_
   refine os (want_u rfl rfl rfl) ?_
   refine os (want_u rfl rfl rfl) ?_
   refine os (want_u rfl rfl rfl) ?_
   refine os (want_fnc rfl rfl rfl) ?_
   refine oq (qv_pick_tc rfl (rfl : ev _ _ = (Value.bool true))) ?_
   refine ops_nil ?_
   refine vc_tt rfl ?_
   refine vc_exit ?_
   refine blockQ_hit ?_
   refine vc_region ?_
   refine oq (qv_mv (Value.int .i64 g) rfl) ?_
   refine oq (qv_add rfl rfl (by omega)) ?_
   refine oq (qv_as (.int .i64 (g + 1)) rfl) ?_
   refine ops_nil ?_
   refine ⟨(g + 1), ⟨rfl, rfl, rfl, rfl, (congrArg (Value.int .i64) (show (g + 1) = ((g + 1)) from by omega)), trivial⟩, ⟨rfl, rfl, by omega, by omega, by first | exact ju_snoc hq (fun a b => absurd a (by omega)) | exact ju_snoc hq (fun a b => absurd (by assumption) b) | exact ju_snoc hq (fun _ _ => cw0 (by assumption) (by assumption)) | exact ju_snoc hq (fun _ _ => cw3 (by assumption) (by first | assumption | exact Decidable.not_not.1 (by assumption)) (by assumption)) | exact ju_snoc hq (fun _ _ => cw5 (ju_same (by omega) (by omega) (by omega) (by omega) (by omega) (by omega)) (by assumption))⟩, by omega⟩
  ·
   refine og (qv_mv (Value.int .i64 g) rfl) (want_f g1 rfl rfl rfl) ?_
   refine og (qv_fa (off := 0) Try.field66_0 rfl) (want_f g1 rfl rfl rfl) ?_
   refine og (qv_ldp (v := (.int .i64 x.s)) Try.plain3 rfl (inOc (k := 0) rfl) rfl) (want_f g1 rfl rfl rfl) ?_
   refine og (qv_fa (off := 0) Try.field66_0 rfl) (want_f g1 rfl rfl rfl) ?_
   refine og (qv_ldp (v := (.int .i64 x.s)) Try.plain3 rfl (inOc (k := 0) rfl) rfl) (want_f g1 rfl rfl rfl) ?_
   refine og (qv_neg rfl (by omega)) (want_f g1 rfl rfl rfl) ?_
   refine og (qv_and rfl rfl (b_lw h0 h1)) (want_f g1 rfl rfl rfl) ?_
   refine og (qv_and rfl rfl (b_and (by omega) (by omega))) (want_f g1 rfl rfl rfl) ?_
   refine og (qv_eql rfl rfl) (want_f g1 rfl rfl rfl) ?_
   refine oq (qv_pick_f g1 rfl (rfl : ev _ _ = (.bool (decide ((andV g (lw x.s)) = 0))))) ?_
   refine oq (qv_mv (.bool (decide ((andV g (lw x.s)) = 0))) rfl) ?_
   by_cases g2 : (andV g (lw x.s)) = 0
   ·
    refine os (want_fn g2 rfl rfl rfl) ?_
    refine os (want_fn g2 rfl rfl rfl) ?_
    refine os (want_fn g2 rfl rfl rfl) ?_
    refine os (want_u rfl rfl rfl) ?_
    refine os (want_u rfl rfl rfl) ?_
    refine os (want_u rfl rfl rfl) ?_
    refine os (want_fn g2 rfl rfl rfl) ?_
    refine oq (qv_pick_t g2 rfl (rfl : ev _ _ = (Value.bool true))) ?_
    refine ops_nil ?_
    refine vc_tt rfl ?_
    refine vc_exit ?_
    refine blockQ_hit ?_
    refine vc_region ?_
    refine oq (qv_mv (Value.int .i64 g) rfl) ?_
    refine oq (qv_add rfl rfl (by omega)) ?_
    refine oq (qv_as (.int .i64 (g + 1)) rfl) ?_
    refine ops_nil ?_
    refine ⟨(g + 1), ⟨rfl, rfl, rfl, rfl, (congrArg (Value.int .i64) (show (g + 1) = ((g + 1)) from by omega)), trivial⟩, ⟨rfl, rfl, by omega, by omega, by first | exact ju_snoc hq (fun a b => absurd a (by omega)) | exact ju_snoc hq (fun a b => absurd (by assumption) b) | exact ju_snoc hq (fun _ _ => cw0 (by assumption) (by assumption)) | exact ju_snoc hq (fun _ _ => cw3 (by assumption) (by first | assumption | exact Decidable.not_not.1 (by assumption)) (by assumption)) | exact ju_snoc hq (fun _ _ => cw5 (ju_same (by omega) (by omega) (by omega) (by omega) (by omega) (by omega)) (by assumption))⟩, by omega⟩
   ·
    refine og (qv_mv (.int .i64 (aniV x.s g)) rfl) (want_f g2 rfl rfl rfl) ?_
    refine og (qv_neq rfl rfl) (want_f g2 rfl rfl rfl) ?_
    refine og (qv_mv (.bool (decide ((aniV x.s g) ≠ 0))) rfl) (want_f g2 rfl rfl rfl) ?_
    by_cases g3 : (aniV x.s g) ≠ 0
    ·
     refine og (qv_fa (off := 0) Try.field66_1 rfl) (want_t g3 rfl rfl rfl) ?_
     refine og (qv_ldp (v := (.int .i64 x.j)) Try.plain3 rfl (inOc (k := 0) rfl) rfl) (want_t g3 rfl rfl rfl) ?_
     refine og (qv_eql rfl rfl) (want_t g3 rfl rfl rfl) ?_
     refine og (qv_pick_t g3 rfl (rfl : ev _ _ = (.bool (decide (x.j = 1))))) (want_f g2 rfl rfl rfl) ?_
     refine oq (qv_pick_f g2 rfl (rfl : ev _ _ = (.bool (decide (x.j = 1))))) ?_
     refine ops_nil ?_
     refine vc_if rfl (fun c2 => ?_) (fun c2 => ?_)
     ·
      refine vc_exit ?_
      refine blockQ_hit ?_
      refine vc_region ?_
      refine oq (qv_mv (Value.int .i64 g) rfl) ?_
      refine oq (qv_add rfl rfl (by omega)) ?_
      refine oq (qv_as (.int .i64 (g + 1)) rfl) ?_
      refine ops_nil ?_
      refine ⟨(g + 1), ⟨rfl, rfl, rfl, rfl, (congrArg (Value.int .i64) (show (g + 1) = ((g + 1)) from by omega)), trivial⟩, ⟨rfl, rfl, by omega, by omega, by first | exact ju_snoc hq (fun a b => absurd a (by omega)) | exact ju_snoc hq (fun a b => absurd (by assumption) b) | exact ju_snoc hq (fun _ _ => cw0 (by assumption) (by assumption)) | exact ju_snoc hq (fun _ _ => cw3 (by assumption) (by first | assumption | exact Decidable.not_not.1 (by assumption)) (by assumption)) | exact ju_snoc hq (fun _ _ => cw5 (ju_same (by omega) (by omega) (by omega) (by omega) (by omega) (by omega)) (by assumption))⟩, by omega⟩
     ·
      refine vc_skip ?_
      refine vc_seq ?_
      refine vc_region ?_
      refine oq (qv_as (Value.int .i64 0) rfl) ?_
      refine ops_nil ?_
      refine vc_seq ?_
      refine vc_seq ?_
      refine vc_region ?_
      refine oq (qv_mv (.int .i64 (aniV x.s g)) rfl) ?_
      refine oq (qv_neq rfl rfl) ?_
      refine ops_nil ?_
      refine vc_if_t rfl g3 ?_
      refine vc_seq ?_
      refine vc_region ?_
      refine oq (qv_as (Value.bool false) rfl) ?_
      refine ops_nil ?_
      refine vc_seq ?_
      refine vc_region ?_
      refine oq (qv_mv tv rfl) ?_
      refine oq (qv_mv (.int .i64 (aniV x.s g)) rfl) ?_
      refine oq (qv_fa (off := 0) Try.field66_1 rfl) ?_
      refine oq (qv_ldp (v := (.int .i64 x.j)) Try.plain3 rfl (inOc (k := 0) rfl) rfl) ?_
      refine oq (qv_sub rfl rfl (by omega)) ?_
      refine oq (qv_call (v := (.tuple #[(.int .i64 ((kmA T (x.j - 1, aniV x.s g)).getD 0)), (.bool (decide ((kmA T (x.j - 1, aniV x.s g)).isSome = true)))])) (entry_c ht ho) rfl rfl) ?_
      refine oq (qv_mv (.tuple #[(.int .i64 ((kmA T (x.j - 1, aniV x.s g)).getD 0)), (.bool (decide ((kmA T (x.j - 1, aniV x.s g)).isSome = true)))]) rfl) ?_
      refine oq (qv_ext (.int .i64 ((kmA T (x.j - 1, aniV x.s g)).getD 0)) rfl rfl) ?_
      refine oq (qv_ext (.bool (decide ((kmA T (x.j - 1, aniV x.s g)).isSome = true))) rfl rfl) ?_
      refine oq (qv_as (.int .i64 ((kmA T (x.j - 1, aniV x.s g)).getD 0)) rfl) ?_
      refine oq (qv_as (.bool (decide ((kmA T (x.j - 1, aniV x.s g)).isSome = true))) rfl) ?_
      refine ops_nil ?_
      refine vc_seq ?_
      refine vc_region ?_
      refine oq (qv_mv (.bool (decide ((kmA T (x.j - 1, aniV x.s g)).isSome = true))) rfl) ?_
      refine oq (qv_not rfl) ?_
      refine ops_nil ?_
      refine vc_if rfl (fun c3 => ?_) (fun c3 => ?_)
      ·
       refine vc_seq ?_
       refine vc_region ?_
       refine oq (qv_as (Value.bool false) rfl) ?_
       refine ops_nil ?_
       refine vc_drop [] [(Arr 66 b1 [(.int .i64 x.s), (.int .i64 x.j), (.int .i64 x.v)])] (.refl _) ?_
       refine vc_ret ?_
       refine blockQ_ret ?_
       refine blockQ_ret ?_
       exact rq1 (.bool (decide (Jst (kmA T) L x))) (congrArg Value.bool (decide_eq_false (show ¬ (Jst (kmA T) L x) from by exact ju_fail (by omega) (by omega) (by omega) (by assumption) (by first | exact cw1 (by assumption) (by omega) (by first | assumption | exact Decidable.not_not.1 (by assumption)) | exact cw2 (by assumption) (by omega) (by first | assumption | exact Decidable.not_not.1 (by assumption)) (by assumption) | exact cw4 (ju_same (by omega) (by omega) (by omega) (by omega) (by omega) (by omega)) (by assumption)))).symm) rfl
      ·
       refine vc_skip ?_
       refine vc_seq ?_
       have gb := grp_bd hg g
       have kb := get_bd (k := (x.j - 1, aniV x.s g)) (D := kmA T) (fun _ _ q => km_bd hr q)
       refine vc_region_any Try.mixed (by kernel_rfl) ?_
       refine qq (qv_fa (off := 0) Try.field66_2 rfl) ?_
       refine qq (qv_ldp (v := (.int .i64 x.v)) Try.plain3 rfl (inOc (k := 0) rfl) rfl) ?_
       refine qq (qv_mv (.int .i64 ((kmA T (x.j - 1, aniV x.s g)).getD 0)) rfl) ?_
       refine qq (qv_mv l rfl) ?_
       refine qq (qv_mv (Value.int .i64 g) rfl) ?_
       refine qq (qv_call (v := (.int .i64 (grpV L g))) (group_c hl hg (by omega)) rfl rfl) ?_
       refine qq (qv_add rfl rfl (by omega)) ?_
       refine qq (qv_gtr rfl rfl) ?_
       refine qops_nil ?_
       refine vc_if rfl (fun c4 => ?_) (fun c4 => ?_)
       ·
        refine vc_seq ?_
        refine vc_region ?_
        refine oq (qv_as (Value.bool false) rfl) ?_
        refine ops_nil ?_
        refine vc_drop [] [(Arr 66 b1 [(.int .i64 x.s), (.int .i64 x.j), (.int .i64 x.v)])] (.refl _) ?_
        refine vc_ret ?_
        refine blockQ_ret ?_
        refine blockQ_ret ?_
        exact rq1 (.bool (decide (Jst (kmA T) L x))) (congrArg Value.bool (decide_eq_false (show ¬ (Jst (kmA T) L x) from by exact ju_fail (by omega) (by omega) (by omega) (by assumption) (by first | exact cw1 (by assumption) (by omega) (by first | assumption | exact Decidable.not_not.1 (by assumption)) | exact cw2 (by assumption) (by omega) (by first | assumption | exact Decidable.not_not.1 (by assumption)) (by assumption) | exact cw4 (ju_same (by omega) (by omega) (by omega) (by omega) (by omega) (by omega)) (by assumption)))).symm) rfl
       ·
        refine vc_skip ?_
        refine vc_region ?_
        refine oq (qv_mv (Value.int .i64 g) rfl) ?_
        refine oq (qv_add rfl rfl (by omega)) ?_
        refine oq (qv_as (.int .i64 (g + 1)) rfl) ?_
        refine ops_nil ?_
        refine ⟨(g + 1), ⟨rfl, rfl, rfl, rfl, (congrArg (Value.int .i64) (show (g + 1) = ((g + 1)) from by omega)), trivial⟩, ⟨rfl, rfl, by omega, by omega, by first | exact ju_snoc hq (fun a b => absurd a (by omega)) | exact ju_snoc hq (fun a b => absurd (by assumption) b) | exact ju_snoc hq (fun _ _ => cw0 (by assumption) (by assumption)) | exact ju_snoc hq (fun _ _ => cw3 (by assumption) (by first | assumption | exact Decidable.not_not.1 (by assumption)) (by assumption)) | exact ju_snoc hq (fun _ _ => cw5 (ju_same (by omega) (by omega) (by omega) (by omega) (by omega) (by omega)) (by assumption))⟩, by omega⟩
    ·
     refine os (want_tn g3 rfl rfl rfl) ?_
     refine os (want_tn g3 rfl rfl rfl) ?_
     refine os (want_tn g3 rfl rfl rfl) ?_
     refine og (qv_pick_f g3 rfl (rfl : ev _ _ = (Value.bool false))) (want_f g2 rfl rfl rfl) ?_
     refine oq (qv_pick_f g2 rfl (rfl : ev _ _ = (Value.bool false))) ?_
     refine ops_nil ?_
     refine vc_ff rfl ?_
     refine vc_skip ?_
     refine vc_seq ?_
     refine vc_region ?_
     refine oq (qv_as (Value.int .i64 0) rfl) ?_
     refine ops_nil ?_
     refine vc_seq ?_
     refine vc_seq ?_
     refine vc_region ?_
     refine oq (qv_mv (.int .i64 (aniV x.s g)) rfl) ?_
     refine oq (qv_neq rfl rfl) ?_
     refine ops_nil ?_
     refine vc_if_f rfl g3 ?_
     refine vc_skip ?_
     refine vc_seq ?_
     have gb := grp_bd hg g
     have kb := get_bd (k := (x.j - 1, aniV x.s g)) (D := kmA T) (fun _ _ q => km_bd hr q)
     refine vc_region_any Try.mixed (by kernel_rfl) ?_
     refine qq (qv_fa (off := 0) Try.field66_2 rfl) ?_
     refine qq (qv_ldp (v := (.int .i64 x.v)) Try.plain3 rfl (inOc (k := 0) rfl) rfl) ?_
     refine qq (qv_mv (Value.int .i64 0) rfl) ?_
     refine qq (qv_mv l rfl) ?_
     refine qq (qv_mv (Value.int .i64 g) rfl) ?_
     refine qq (qv_call (v := (.int .i64 (grpV L g))) (group_c hl hg (by omega)) rfl rfl) ?_
     refine qq (qv_add rfl rfl (by omega)) ?_
     refine qq (qv_gtr rfl rfl) ?_
     refine qops_nil ?_
     refine vc_if rfl (fun c5 => ?_) (fun c5 => ?_)
     ·
      refine vc_seq ?_
      refine vc_region ?_
      refine oq (qv_as (Value.bool false) rfl) ?_
      refine ops_nil ?_
      refine vc_drop [] [(Arr 66 b1 [(.int .i64 x.s), (.int .i64 x.j), (.int .i64 x.v)])] (.refl _) ?_
      refine vc_ret ?_
      refine blockQ_ret ?_
      refine blockQ_ret ?_
      exact rq1 (.bool (decide (Jst (kmA T) L x))) (congrArg Value.bool (decide_eq_false (show ¬ (Jst (kmA T) L x) from by exact ju_fail (by omega) (by omega) (by omega) (by assumption) (by first | exact cw1 (by assumption) (by omega) (by first | assumption | exact Decidable.not_not.1 (by assumption)) | exact cw2 (by assumption) (by omega) (by first | assumption | exact Decidable.not_not.1 (by assumption)) (by assumption) | exact cw4 (ju_same (by omega) (by omega) (by omega) (by omega) (by omega) (by omega)) (by assumption)))).symm) rfl
     ·
      refine vc_skip ?_
      refine vc_region ?_
      refine oq (qv_mv (Value.int .i64 g) rfl) ?_
      refine oq (qv_add rfl rfl (by omega)) ?_
      refine oq (qv_as (.int .i64 (g + 1)) rfl) ?_
      refine ops_nil ?_
      refine ⟨(g + 1), ⟨rfl, rfl, rfl, rfl, (congrArg (Value.int .i64) (show (g + 1) = ((g + 1)) from by omega)), trivial⟩, ⟨rfl, rfl, by omega, by omega, by first | exact ju_snoc hq (fun a b => absurd a (by omega)) | exact ju_snoc hq (fun a b => absurd (by assumption) b) | exact ju_snoc hq (fun _ _ => cw0 (by assumption) (by assumption)) | exact ju_snoc hq (fun _ _ => cw3 (by assumption) (by first | assumption | exact Decidable.not_not.1 (by assumption)) (by assumption)) | exact ju_snoc hq (fun _ _ => cw5 (ju_same (by omega) (by omega) (by omega) (by omega) (by omega) (by omega)) (by assumption))⟩, by omega⟩
 ·
  refine vc_exit ?_
  refine blockQ_hit ?_
  refine vc_seq ?_
  refine vc_region ?_
  refine oq (qv_as (Value.bool true) rfl) ?_
  refine ops_nil ?_
  refine vc_drop [] [(Arr 66 b1 [(.int .i64 x.s), (.int .i64 x.j), (.int .i64 x.v)])] (.refl _) ?_
  refine vc_ret ?_
  exact rq1 (.bool (decide (Jst (kmA T) L x))) (congrArg Value.bool (decide_eq_true (show (Jst (kmA T) L x) from by exact ju_all hq (by omega))).symm) rfl

set_option maxRecDepth 100000 in
set_option maxHeartbeats 4000000 in
theorem provedAny_c {V : HV} {l : Value} {rv : List Value} {L : List (List Int)} {tv : Value} {T : List Be} {k c : Int} (hl : Mat .i64 V l rv L) (ht : Bes V tv T) (hg : Good L) (h6 : L.length ≤ 6) (hk2 : 1 ≤ k ∧ k ≤ 32) :
    FnC Try.prog 25 [l, (Value.int .i64 k), tv, (Value.int .i64 c)] V [] (fun v _ _ => v = (.int .i64 (pvE L k T c))) := by
 refine fn_intro (N := 130) Try.func25 (by kernel_rfl) rfl rfl rfl (Nat.le_of_ble_eq_true rfl) ?_
 intro w0 D
 have hlen := hl.len
 have hpw := pw6 h6
 have hbd := SlS.bound ht
 refine vc_seq ?_
 refine vc_region ?_
 refine oq (qv_as (Value.int .i64 0) rfl) ?_
 refine ops_nil ?_
 refine vc_seq ?_
 refine vc_seq ?_
 refine vc_region ?_
 refine oq (qv_mv tv rfl) ?_
 refine oq (qv_lenSS Try.underlying46 rfl ht) ?_
 refine oq (qv_mv (Value.int .i64 0) rfl) ?_
 refine ops_nil ?_
 refine vc_block ?_
 refine vc_loop (α := Int) (fun (xx : Int) => [(0, l), (1, (Value.int .i64 k)), (2, tv), (3, (Value.int .i64 c)), (16, tv), (17, (.int .i64 ((T.length : Int)))), (18, (Value.int .i64 xx))]) (fun (xx : Int) V' σ' => V = V' ∧ [] = σ' ∧ 0 ≤ xx ∧ xx ≤ T.length ∧ ∀ x : Int, 0 ≤ x → x < xx → RgE L k (be T x)) (fun (xx : Int) => (T.length - xx).toNat) (0) ?_ ?_ ?_
 · exact ⟨rfl, rfl, rfl, rfl, rfl, rfl, rfl, trivial⟩
 · exact ⟨rfl, rfl, by omega, by omega, fun x a b => by omega⟩
 rintro i e1 V0l σ0l hI0
 obtain ⟨rfl, rfl, i1, i2, hR⟩ : V = V0l ∧ [] = σ0l ∧ 0 ≤ i ∧ i ≤ T.length ∧ ∀ x : Int, 0 ≤ x → x < i → RgE L k (be T x) := hI0
 refine vc_seq ?_
 refine vc_region ?_
 refine oq (qv_lss rfl rfl) ?_
 refine ops_nil ?_
 refine vc_seq ?_
 refine vc_if rfl (fun c1 => ?_) (fun c1 => ?_)
 ·
  refine vc_skip ?_
  refine vc_seq ?_
  refine vc_block ?_
  refine vc_seq ?_
  refine vc_region ?_
  refine oq (qv_ias (v := tv) (i := i) Try.underlying46 Try.size66 rfl ht rfl (by omega) (by omega)) ?_
  refine oq (qv_lds (v := tv) (i := i) (vs := [(.int .i64 ((be T (i)).s)), (.int .i64 ((be T (i)).j)), (.int .i64 ((be T (i)).v))]) Try.agg66 rfl ht (by omega) (by omega) (bes_at (by omega) (by omega))) ?_
  refine ops_alloc Try.ti66 rfl (fun b1 => ?_)
  refine ops_stw (k := 0) (vs := [(.int .i64 ((be T (i)).s)), (.int .i64 ((be T (i)).j)), (.int .i64 ((be T (i)).v))]) Try.size66 rfl rfl rfl rfl rfl rfl ?_
  refine ops_nil ?_
  refine vc_seq ?_
  refine vc_res (σ' := [(Arr 66 b1 [(.int .i64 ((be T (i)).s)), (.int .i64 ((be T (i)).j)), (.int .i64 ((be T (i)).v))])]) rfl ?_
  refine vc_region_any Try.mixed (by kernel_rfl) ?_
  refine qq (qv_fa (off := 0) Try.field66_0 rfl) ?_
  refine qq (qv_ldp (v := (.int .i64 ((be T (i)).s))) Try.plain3 rfl (inOc (k := 0) rfl) rfl) ?_
  refine qq (qv_lss rfl rfl) ?_
  refine qq (qv_mv (.bool (decide (((be T (i)).s) < 1))) rfl) ?_
  by_cases g1 : ((be T (i)).s) < 1
  ·
   refine qs (want_fn g1 rfl rfl rfl) ?_
   refine qs (want_fn g1 rfl rfl rfl) ?_
   refine qs (want_fn g1 rfl rfl rfl) ?_
   refine qs (want_fn g1 rfl rfl rfl) ?_
   refine qs (want_fn g1 rfl rfl rfl) ?_
   refine qs (want_fn g1 rfl rfl rfl) ?_
   refine qq (qv_pick_t g1 rfl (rfl : ev _ _ = (Value.bool true))) ?_
   refine qq (qv_mv (Value.bool true) rfl) ?_
   refine qs (want_fnc rfl rfl rfl) ?_
   refine qs (want_fnc rfl rfl rfl) ?_
   refine qs (want_fnc rfl rfl rfl) ?_
   refine qq (qv_pick_tc rfl (rfl : ev _ _ = (Value.bool true))) ?_
   refine qq (qv_mv (Value.bool true) rfl) ?_
   refine qs (want_fnc rfl rfl rfl) ?_
   refine qs (want_fnc rfl rfl rfl) ?_
   refine qs (want_fnc rfl rfl rfl) ?_
   refine qs (want_fnc rfl rfl rfl) ?_
   refine qq (qv_pick_tc rfl (rfl : ev _ _ = (Value.bool true))) ?_
   refine qq (qv_mv (Value.bool true) rfl) ?_
   refine qs (want_fnc rfl rfl rfl) ?_
   refine qs (want_fnc rfl rfl rfl) ?_
   refine qs (want_fnc rfl rfl rfl) ?_
   refine qq (qv_pick_tc rfl (rfl : ev _ _ = (Value.bool true))) ?_
   refine qq (qv_mv (Value.bool true) rfl) ?_
   refine qs (want_fnc rfl rfl rfl) ?_
   refine qs (want_fnc rfl rfl rfl) ?_
   refine qs (want_fnc rfl rfl rfl) ?_
   refine qq (qv_pick_tc rfl (rfl : ev _ _ = (Value.bool true))) ?_
   refine qops_nil ?_
   refine vc_tt rfl ?_
   refine vc_seq ?_
   refine vc_region ?_
   refine oq (qv_as (Value.int .i64 3) rfl) ?_
   refine ops_nil ?_
   refine vc_drop [] [(Arr 66 b1 [(.int .i64 ((be T (i)).s)), (.int .i64 ((be T (i)).j)), (.int .i64 ((be T (i)).v))])] (.refl _) ?_
   refine vc_ret ?_
   refine blockQ_ret ?_
   refine blockQ_ret ?_
   exact rq1 (.int .i64 (pvE L k T c)) (congrArg (Value.int .i64) (show 3 = (pvE L k T c) from by rw [pv_3 (fun q => by have q := q i (by omega) (by omega); unfold RgE at q; omega)])) rfl
  ·
   refine qg (qv_fa (off := 0) Try.field66_0 rfl) (want_f g1 rfl rfl rfl) ?_
   refine qg (qv_ldp (v := (.int .i64 ((be T (i)).s))) Try.plain3 rfl (inOc (k := 0) rfl) rfl) (want_f g1 rfl rfl rfl) ?_
   refine qg (qv_mv l rfl) (want_f g1 rfl rfl rfl) ?_
   refine qg (qv_lenS Try.underlying23 rfl hl.sl) (want_f g1 rfl rfl rfl) ?_
   refine qg (qv_to (by rw [Int.one_mul, show ((rv.length : Int) : Int).toNat = L.length by omega]) (qv_shli rfl rfl (by omega) (by omega) (by rw [show ((rv.length : Int) : Int).toNat = L.length by omega]; omega))) (want_f g1 rfl rfl rfl) ?_
   refine qg (qv_geq rfl rfl) (want_f g1 rfl rfl rfl) ?_
   refine qq (qv_pick_f g1 rfl (rfl : ev _ _ = (.bool (decide (((2 : Int) ^ L.length) ≤ ((be T (i)).s)))))) ?_
   refine qq (qv_mv (.bool (decide (((2 : Int) ^ L.length) ≤ ((be T (i)).s)))) rfl) ?_
   by_cases g2 : ((2 : Int) ^ L.length) ≤ ((be T (i)).s)
   ·
    refine qs (want_fn g2 rfl rfl rfl) ?_
    refine qs (want_fn g2 rfl rfl rfl) ?_
    refine qs (want_fn g2 rfl rfl rfl) ?_
    refine qq (qv_pick_t g2 rfl (rfl : ev _ _ = (Value.bool true))) ?_
    refine qq (qv_mv (Value.bool true) rfl) ?_
    refine qs (want_fnc rfl rfl rfl) ?_
    refine qs (want_fnc rfl rfl rfl) ?_
    refine qs (want_fnc rfl rfl rfl) ?_
    refine qs (want_fnc rfl rfl rfl) ?_
    refine qq (qv_pick_tc rfl (rfl : ev _ _ = (Value.bool true))) ?_
    refine qq (qv_mv (Value.bool true) rfl) ?_
    refine qs (want_fnc rfl rfl rfl) ?_
    refine qs (want_fnc rfl rfl rfl) ?_
    refine qs (want_fnc rfl rfl rfl) ?_
    refine qq (qv_pick_tc rfl (rfl : ev _ _ = (Value.bool true))) ?_
    refine qq (qv_mv (Value.bool true) rfl) ?_
    refine qs (want_fnc rfl rfl rfl) ?_
    refine qs (want_fnc rfl rfl rfl) ?_
    refine qs (want_fnc rfl rfl rfl) ?_
    refine qq (qv_pick_tc rfl (rfl : ev _ _ = (Value.bool true))) ?_
    refine qops_nil ?_
    refine vc_tt rfl ?_
    refine vc_seq ?_
    refine vc_region ?_
    refine oq (qv_as (Value.int .i64 3) rfl) ?_
    refine ops_nil ?_
    refine vc_drop [] [(Arr 66 b1 [(.int .i64 ((be T (i)).s)), (.int .i64 ((be T (i)).j)), (.int .i64 ((be T (i)).v))])] (.refl _) ?_
    refine vc_ret ?_
    refine blockQ_ret ?_
    refine blockQ_ret ?_
    exact rq1 (.int .i64 (pvE L k T c)) (congrArg (Value.int .i64) (show 3 = (pvE L k T c) from by rw [pv_3 (fun q => by have q := q i (by omega) (by omega); unfold RgE at q; omega)])) rfl
   ·
    refine qg (qv_fa (off := 0) Try.field66_1 rfl) (want_f g2 rfl rfl rfl) ?_
    refine qg (qv_ldp (v := (.int .i64 ((be T (i)).j))) Try.plain3 rfl (inOc (k := 0) rfl) rfl) (want_f g2 rfl rfl rfl) ?_
    refine qg (qv_lss rfl rfl) (want_f g2 rfl rfl rfl) ?_
    refine qq (qv_pick_f g2 rfl (rfl : ev _ _ = (.bool (decide (((be T (i)).j) < 1))))) ?_
    refine qq (qv_mv (.bool (decide (((be T (i)).j) < 1))) rfl) ?_
    by_cases g3 : ((be T (i)).j) < 1
    ·
     refine qs (want_fn g3 rfl rfl rfl) ?_
     refine qs (want_fn g3 rfl rfl rfl) ?_
     refine qs (want_fn g3 rfl rfl rfl) ?_
     refine qs (want_fn g3 rfl rfl rfl) ?_
     refine qq (qv_pick_t g3 rfl (rfl : ev _ _ = (Value.bool true))) ?_
     refine qq (qv_mv (Value.bool true) rfl) ?_
     refine qs (want_fnc rfl rfl rfl) ?_
     refine qs (want_fnc rfl rfl rfl) ?_
     refine qs (want_fnc rfl rfl rfl) ?_
     refine qq (qv_pick_tc rfl (rfl : ev _ _ = (Value.bool true))) ?_
     refine qq (qv_mv (Value.bool true) rfl) ?_
     refine qs (want_fnc rfl rfl rfl) ?_
     refine qs (want_fnc rfl rfl rfl) ?_
     refine qs (want_fnc rfl rfl rfl) ?_
     refine qq (qv_pick_tc rfl (rfl : ev _ _ = (Value.bool true))) ?_
     refine qops_nil ?_
     refine vc_tt rfl ?_
     refine vc_seq ?_
     refine vc_region ?_
     refine oq (qv_as (Value.int .i64 3) rfl) ?_
     refine ops_nil ?_
     refine vc_drop [] [(Arr 66 b1 [(.int .i64 ((be T (i)).s)), (.int .i64 ((be T (i)).j)), (.int .i64 ((be T (i)).v))])] (.refl _) ?_
     refine vc_ret ?_
     refine blockQ_ret ?_
     refine blockQ_ret ?_
     exact rq1 (.int .i64 (pvE L k T c)) (congrArg (Value.int .i64) (show 3 = (pvE L k T c) from by rw [pv_3 (fun q => by have q := q i (by omega) (by omega); unfold RgE at q; omega)])) rfl
    ·
     refine qg (qv_fa (off := 0) Try.field66_1 rfl) (want_f g3 rfl rfl rfl) ?_
     refine qg (qv_ldp (v := (.int .i64 ((be T (i)).j))) Try.plain3 rfl (inOc (k := 0) rfl) rfl) (want_f g3 rfl rfl rfl) ?_
     refine qg (qv_mv (Value.int .i64 k) rfl) (want_f g3 rfl rfl rfl) ?_
     refine qg (qv_gtr rfl rfl) (want_f g3 rfl rfl rfl) ?_
     refine qq (qv_pick_f g3 rfl (rfl : ev _ _ = (.bool (decide (k < ((be T (i)).j)))))) ?_
     refine qq (qv_mv (.bool (decide (k < ((be T (i)).j)))) rfl) ?_
     by_cases g4 : k < ((be T (i)).j)
     ·
      refine qs (want_fn g4 rfl rfl rfl) ?_
      refine qs (want_fn g4 rfl rfl rfl) ?_
      refine qs (want_fn g4 rfl rfl rfl) ?_
      refine qq (qv_pick_t g4 rfl (rfl : ev _ _ = (Value.bool true))) ?_
      refine qq (qv_mv (Value.bool true) rfl) ?_
      refine qs (want_fnc rfl rfl rfl) ?_
      refine qs (want_fnc rfl rfl rfl) ?_
      refine qs (want_fnc rfl rfl rfl) ?_
      refine qq (qv_pick_tc rfl (rfl : ev _ _ = (Value.bool true))) ?_
      refine qops_nil ?_
      refine vc_tt rfl ?_
      refine vc_seq ?_
      refine vc_region ?_
      refine oq (qv_as (Value.int .i64 3) rfl) ?_
      refine ops_nil ?_
      refine vc_drop [] [(Arr 66 b1 [(.int .i64 ((be T (i)).s)), (.int .i64 ((be T (i)).j)), (.int .i64 ((be T (i)).v))])] (.refl _) ?_
      refine vc_ret ?_
      refine blockQ_ret ?_
      refine blockQ_ret ?_
      exact rq1 (.int .i64 (pvE L k T c)) (congrArg (Value.int .i64) (show 3 = (pvE L k T c) from by rw [pv_3 (fun q => by have q := q i (by omega) (by omega); unfold RgE at q; omega)])) rfl
     ·
      refine qg (qv_fa (off := 0) Try.field66_2 rfl) (want_f g4 rfl rfl rfl) ?_
      refine qg (qv_ldp (v := (.int .i64 ((be T (i)).v))) Try.plain3 rfl (inOc (k := 0) rfl) rfl) (want_f g4 rfl rfl rfl) ?_
      refine qg (qv_lss rfl rfl) (want_f g4 rfl rfl rfl) ?_
      refine qq (qv_pick_f g4 rfl (rfl : ev _ _ = (.bool (decide (((be T (i)).v) < 0))))) ?_
      refine qq (qv_mv (.bool (decide (((be T (i)).v) < 0))) rfl) ?_
      by_cases g5 : ((be T (i)).v) < 0
      ·
       refine qs (want_fn g5 rfl rfl rfl) ?_
       refine qs (want_fn g5 rfl rfl rfl) ?_
       refine qs (want_fn g5 rfl rfl rfl) ?_
       refine qq (qv_pick_t g5 rfl (rfl : ev _ _ = (Value.bool true))) ?_
       refine qops_nil ?_
       refine vc_tt rfl ?_
       refine vc_seq ?_
       refine vc_region ?_
       refine oq (qv_as (Value.int .i64 3) rfl) ?_
       refine ops_nil ?_
       refine vc_drop [] [(Arr 66 b1 [(.int .i64 ((be T (i)).s)), (.int .i64 ((be T (i)).j)), (.int .i64 ((be T (i)).v))])] (.refl _) ?_
       refine vc_ret ?_
       refine blockQ_ret ?_
       refine blockQ_ret ?_
       exact rq1 (.int .i64 (pvE L k T c)) (congrArg (Value.int .i64) (show 3 = (pvE L k T c) from by rw [pv_3 (fun q => by have q := q i (by omega) (by omega); unfold RgE at q; omega)])) rfl
      ·
       refine qg (qv_fa (off := 0) Try.field66_2 rfl) (want_f g5 rfl rfl rfl) ?_
       refine qg (qv_ldp (v := (.int .i64 ((be T (i)).v))) Try.plain3 rfl (inOc (k := 0) rfl) rfl) (want_f g5 rfl rfl rfl) ?_
       refine qg (qv_gtr rfl rfl) (want_f g5 rfl rfl rfl) ?_
       refine qq (qv_pick_f g5 rfl (rfl : ev _ _ = (.bool (decide (1152921504606846976 < ((be T (i)).v)))))) ?_
       refine qops_nil ?_
       refine vc_if rfl (fun c2 => ?_) (fun c2 => ?_)
       ·
        refine vc_seq ?_
        refine vc_region ?_
        refine oq (qv_as (Value.int .i64 3) rfl) ?_
        refine ops_nil ?_
        refine vc_drop [] [(Arr 66 b1 [(.int .i64 ((be T (i)).s)), (.int .i64 ((be T (i)).j)), (.int .i64 ((be T (i)).v))])] (.refl _) ?_
        refine vc_ret ?_
        refine blockQ_ret ?_
        refine blockQ_ret ?_
        exact rq1 (.int .i64 (pvE L k T c)) (congrArg (Value.int .i64) (show 3 = (pvE L k T c) from by rw [pv_3 (fun q => by have q := q i (by omega) (by omega); unfold RgE at q; omega)])) rfl
       ·
        refine vc_skip ?_
        refine vc_drop [] [(Arr 66 b1 [(Value.int .i64 ((be T (i)).s)), (Value.int .i64 ((be T (i)).j)), (Value.int .i64 ((be T (i)).v))])] ((List.perm_middle (l₁ := []) (l₂ := [])).trans (List.perm_append_comm (l₁ := [(Arr 66 b1 [(Value.int .i64 ((be T (i)).s)), (Value.int .i64 ((be T (i)).j)), (Value.int .i64 ((be T (i)).v))])]))) ?_
        refine vc_region ?_
        refine oq (qv_add rfl rfl (by omega)) ?_
        refine oq (qv_mv (.int .i64 (i + 1)) rfl) ?_
        refine ops_nil ?_
        refine ⟨(i + 1), ⟨rfl, rfl, rfl, rfl, rfl, rfl, (congrArg (Value.int .i64) (show (i + 1) = ((i + 1)) from by omega)), trivial⟩, ⟨rfl, rfl, by omega, by omega, all_snoc hR ⟨⟨by omega, by omega⟩, ⟨by omega, by omega⟩, by omega, by omega⟩⟩, by omega⟩
 ·
  refine vc_exit ?_
  refine blockQ_hit ?_
  refine vc_seq ?_
  refine vc_seq ?_
  have hRg : Rg L k T := fun x a b => hR x a (by omega)
  refine vc_region ?_
  refine oq (qv_as (Value.int .i64 1) rfl) ?_
  refine ops_nil ?_
  refine vc_block ?_
  refine vc_loop (α := Int) (fun (xx : Int) => [(0, l), (1, (Value.int .i64 k)), (2, tv), (3, (Value.int .i64 c)), (16, tv), (17, (.int .i64 ((T.length : Int)))), (18, (Value.int .i64 i)), (19, (.bool (decide (i < ((T.length : Int)))))), (11, (Value.int .i64 xx))]) (fun (xx : Int) V' σ' => V = V' ∧ [] = σ' ∧ 1 ≤ xx ∧ ∀ x : Int, 0 < x → x < xx → Lx (be T (x - 1)) (be T x)) (fun (xx : Int) => (T.length - xx).toNat) (1) ?_ ?_ ?_
  · exact ⟨rfl, rfl, rfl, rfl, rfl, rfl, rfl, rfl, rfl, trivial⟩
  · exact ⟨rfl, rfl, by omega, fun x a b => by omega⟩
  rintro o e2 V1l σ1l hI1
  obtain ⟨rfl, rfl, i3, hO⟩ : V = V1l ∧ [] = σ1l ∧ 1 ≤ o ∧ ∀ x : Int, 0 < x → x < o → Lx (be T (x - 1)) (be T x) := hI1
  refine vc_seq ?_
  refine vc_seq ?_
  refine vc_region ?_
  refine oq (qv_mv (Value.int .i64 o) rfl) ?_
  refine oq (qv_mv tv rfl) ?_
  refine oq (qv_lenSS Try.underlying46 rfl ht) ?_
  refine oq (qv_lss rfl rfl) ?_
  refine ops_nil ?_
  refine vc_if rfl (fun c3 => ?_) (fun c3 => ?_)
  ·
   refine vc_skip ?_
   refine vc_seq ?_
   refine vc_block ?_
   refine vc_seq ?_
   refine vc_region_any Try.mixed (by kernel_rfl) ?_
   refine qq (qv_mv tv rfl) ?_
   refine qq (qv_mv (Value.int .i64 o) rfl) ?_
   refine qq (qv_ias (v := tv) (i := o) Try.underlying46 Try.size66 rfl ht rfl (by omega) (by omega)) ?_
   refine qq (qv_fas Try.field66_1 rfl ht (by omega) (by omega)) ?_
   refine qq (qv_ldf (u := (.int .i64 ((be T (o)).j))) (v := tv) (i := o) Try.plain3 rfl ht (by omega) (by omega) (by omega) (bes_el (o := 1) (by omega) (by omega) (by omega) rfl)) ?_
   refine qq (qv_mv tv rfl) ?_
   refine qq (qv_mv (Value.int .i64 o) rfl) ?_
   refine qq (qv_sub rfl rfl (by omega)) ?_
   refine qq (qv_ias (v := tv) (i := o - 1) Try.underlying46 Try.size66 rfl ht rfl (by omega) (by omega)) ?_
   refine qq (qv_fas Try.field66_1 rfl ht (by omega) (by omega)) ?_
   refine qq (qv_ldf (u := (.int .i64 ((be T (o - 1)).j))) (v := tv) (i := o - 1) Try.plain3 rfl ht (by omega) (by omega) (by omega) (bes_el (o := 1) (by omega) (by omega) (by omega) rfl)) ?_
   refine qq (qv_gtr rfl rfl) ?_
   refine qq (qv_mv (.bool (decide (((be T (o - 1)).j) < ((be T (o)).j)))) rfl) ?_
   by_cases g6 : ((be T (o - 1)).j) < ((be T (o)).j)
   ·
    refine qs (want_fn g6 rfl rfl rfl) ?_
    refine qs (want_fn g6 rfl rfl rfl) ?_
    refine qs (want_fn g6 rfl rfl rfl) ?_
    refine qs (want_fn g6 rfl rfl rfl) ?_
    refine qs (want_fn g6 rfl rfl rfl) ?_
    refine qs (want_fn g6 rfl rfl rfl) ?_
    refine qs (want_fn g6 rfl rfl rfl) ?_
    refine qs (want_fn g6 rfl rfl rfl) ?_
    refine qs (want_fn g6 rfl rfl rfl) ?_
    refine qs (want_fn g6 rfl rfl rfl) ?_
    refine qs (want_fn g6 rfl rfl rfl) ?_
    refine qs (want_fn g6 rfl rfl rfl) ?_
    refine qs (want_fn g6 rfl rfl rfl) ?_
    refine qs (want_u rfl rfl rfl) ?_
    refine qs (want_u rfl rfl rfl) ?_
    refine qs (want_u rfl rfl rfl) ?_
    refine qs (want_u rfl rfl rfl) ?_
    refine qs (want_u rfl rfl rfl) ?_
    refine qs (want_u rfl rfl rfl) ?_
    refine qs (want_u rfl rfl rfl) ?_
    refine qs (want_u rfl rfl rfl) ?_
    refine qs (want_u rfl rfl rfl) ?_
    refine qs (want_u rfl rfl rfl) ?_
    refine qs (want_u rfl rfl rfl) ?_
    refine qs (want_u rfl rfl rfl) ?_
    refine qs (want_fn g6 rfl rfl rfl) ?_
    refine qq (qv_pick_t g6 rfl (rfl : ev _ _ = (Value.bool true))) ?_
    refine qops_nil ?_
    refine vc_tt rfl ?_
    refine vc_seq ?_
    refine vc_region ?_
    refine oq (qv_as (Value.int .i64 10) rfl) ?_
    refine ops_nil ?_
    refine vc_ret ?_
    refine blockQ_ret ?_
    refine blockQ_ret ?_
    exact rq1 (.int .i64 (pvE L k T c)) (congrArg (Value.int .i64) (show 10 = (pvE L k T c) from by rw [pv_10 hRg (fun q => by have q := q o (by omega) (by omega); unfold Lx at q; omega)])) rfl
   ·
    refine qg (qv_mv tv rfl) (want_f g6 rfl rfl rfl) ?_
    refine qg (qv_mv (Value.int .i64 o) rfl) (want_f g6 rfl rfl rfl) ?_
    refine qg (qv_ias (v := tv) (i := o) Try.underlying46 Try.size66 rfl ht rfl (by omega) (by omega)) (want_f g6 rfl rfl rfl) ?_
    refine qg (qv_fas Try.field66_1 rfl ht (by omega) (by omega)) (want_f g6 rfl rfl rfl) ?_
    refine qg (qv_ldf (u := (.int .i64 ((be T (o)).j))) (v := tv) (i := o) Try.plain3 rfl ht (by omega) (by omega) (by omega) (bes_el (o := 1) (by omega) (by omega) (by omega) rfl)) (want_f g6 rfl rfl rfl) ?_
    refine qg (qv_mv tv rfl) (want_f g6 rfl rfl rfl) ?_
    refine qg (qv_mv (Value.int .i64 o) rfl) (want_f g6 rfl rfl rfl) ?_
    refine qg (qv_sub rfl rfl (by omega)) (want_f g6 rfl rfl rfl) ?_
    refine qg (qv_ias (v := tv) (i := o - 1) Try.underlying46 Try.size66 rfl ht rfl (by omega) (by omega)) (want_f g6 rfl rfl rfl) ?_
    refine qg (qv_fas Try.field66_1 rfl ht (by omega) (by omega)) (want_f g6 rfl rfl rfl) ?_
    refine qg (qv_ldf (u := (.int .i64 ((be T (o - 1)).j))) (v := tv) (i := o - 1) Try.plain3 rfl ht (by omega) (by omega) (by omega) (bes_el (o := 1) (by omega) (by omega) (by omega) rfl)) (want_f g6 rfl rfl rfl) ?_
    refine qg (qv_eql rfl rfl) (want_f g6 rfl rfl rfl) ?_
    refine qg (qv_mv (.bool (decide (((be T (o)).j) = ((be T (o - 1)).j)))) rfl) (want_f g6 rfl rfl rfl) ?_
    by_cases g7 : ((be T (o)).j) = ((be T (o - 1)).j)
    ·
     refine qg (qv_mv tv rfl) (want_t g7 rfl rfl rfl) ?_
     refine qg (qv_mv (Value.int .i64 o) rfl) (want_t g7 rfl rfl rfl) ?_
     refine qg (qv_ias (v := tv) (i := o) Try.underlying46 Try.size66 rfl ht rfl (by omega) (by omega)) (want_t g7 rfl rfl rfl) ?_
     refine qg (qv_fas Try.field66_0 rfl ht (by omega) (by omega)) (want_t g7 rfl rfl rfl) ?_
     refine qg (qv_ldf (u := (.int .i64 ((be T (o)).s))) (v := tv) (i := o) Try.plain3 rfl ht (by omega) (by omega) (by omega) (bes_el (o := 0) (by omega) (by omega) (by omega) rfl)) (want_t g7 rfl rfl rfl) ?_
     refine qg (qv_mv tv rfl) (want_t g7 rfl rfl rfl) ?_
     refine qg (qv_mv (Value.int .i64 o) rfl) (want_t g7 rfl rfl rfl) ?_
     refine qg (qv_sub rfl rfl (by omega)) (want_t g7 rfl rfl rfl) ?_
     refine qg (qv_ias (v := tv) (i := o - 1) Try.underlying46 Try.size66 rfl ht rfl (by omega) (by omega)) (want_t g7 rfl rfl rfl) ?_
     refine qg (qv_fas Try.field66_0 rfl ht (by omega) (by omega)) (want_t g7 rfl rfl rfl) ?_
     refine qg (qv_ldf (u := (.int .i64 ((be T (o - 1)).s))) (v := tv) (i := o - 1) Try.plain3 rfl ht (by omega) (by omega) (by omega) (bes_el (o := 0) (by omega) (by omega) (by omega) rfl)) (want_t g7 rfl rfl rfl) ?_
     refine qg (qv_leq rfl rfl) (want_t g7 rfl rfl rfl) ?_
     refine qg (qv_pick_t g7 rfl (rfl : ev _ _ = (.bool (decide (((be T (o)).s) ≤ ((be T (o - 1)).s)))))) (want_f g6 rfl rfl rfl) ?_
     refine qq (qv_pick_f g6 rfl (rfl : ev _ _ = (.bool (decide (((be T (o)).s) ≤ ((be T (o - 1)).s)))))) ?_
     refine qops_nil ?_
     refine vc_if rfl (fun c4 => ?_) (fun c4 => ?_)
     ·
      refine vc_seq ?_
      refine vc_region ?_
      refine oq (qv_as (Value.int .i64 10) rfl) ?_
      refine ops_nil ?_
      refine vc_ret ?_
      refine blockQ_ret ?_
      refine blockQ_ret ?_
      exact rq1 (.int .i64 (pvE L k T c)) (congrArg (Value.int .i64) (show 10 = (pvE L k T c) from by rw [pv_10 hRg (fun q => by have q := q o (by omega) (by omega); unfold Lx at q; omega)])) rfl
     ·
      refine vc_skip ?_
      refine vc_region ?_
      refine oq (qv_mv (Value.int .i64 o) rfl) ?_
      refine oq (qv_add rfl rfl (by omega)) ?_
      refine oq (qv_as (.int .i64 (o + 1)) rfl) ?_
      refine ops_nil ?_
      refine ⟨(o + 1), ⟨rfl, rfl, rfl, rfl, rfl, rfl, rfl, rfl, (congrArg (Value.int .i64) (show (o + 1) = ((o + 1)) from by omega)), trivial⟩, ⟨rfl, rfl, by omega, ord_snoc hO (fun _ => by unfold Lx; omega)⟩, by omega⟩
    ·
     refine qs (want_tn g7 rfl rfl rfl) ?_
     refine qs (want_tn g7 rfl rfl rfl) ?_
     refine qs (want_tn g7 rfl rfl rfl) ?_
     refine qs (want_tn g7 rfl rfl rfl) ?_
     refine qs (want_tn g7 rfl rfl rfl) ?_
     refine qs (want_tn g7 rfl rfl rfl) ?_
     refine qs (want_tn g7 rfl rfl rfl) ?_
     refine qs (want_tn g7 rfl rfl rfl) ?_
     refine qs (want_tn g7 rfl rfl rfl) ?_
     refine qs (want_tn g7 rfl rfl rfl) ?_
     refine qs (want_tn g7 rfl rfl rfl) ?_
     refine qs (want_tn g7 rfl rfl rfl) ?_
     refine qg (qv_pick_f g7 rfl (rfl : ev _ _ = (Value.bool false))) (want_f g6 rfl rfl rfl) ?_
     refine qq (qv_pick_f g6 rfl (rfl : ev _ _ = (Value.bool false))) ?_
     refine qops_nil ?_
     refine vc_ff rfl ?_
     refine vc_skip ?_
     refine vc_region ?_
     refine oq (qv_mv (Value.int .i64 o) rfl) ?_
     refine oq (qv_add rfl rfl (by omega)) ?_
     refine oq (qv_as (.int .i64 (o + 1)) rfl) ?_
     refine ops_nil ?_
     refine ⟨(o + 1), ⟨rfl, rfl, rfl, rfl, rfl, rfl, rfl, rfl, (congrArg (Value.int .i64) (show (o + 1) = ((o + 1)) from by omega)), trivial⟩, ⟨rfl, rfl, by omega, ord_snoc hO (fun _ => by unfold Lx; omega)⟩, by omega⟩
  ·
   refine vc_exit ?_
   refine blockQ_hit ?_
   refine vc_seq ?_
   refine vc_seq ?_
   have hOd : Ord T := fun x a b => hO x a (by omega)
   refine vc_region ?_
   refine oq (qv_mv tv rfl) ?_
   refine oq (qv_lenSS Try.underlying46 rfl ht) ?_
   refine oq (qv_mv (Value.int .i64 0) rfl) ?_
   refine ops_nil ?_
   refine vc_block ?_
   refine vc_loop (α := Int) (fun (xx : Int) => [(0, l), (1, (Value.int .i64 k)), (2, tv), (3, (Value.int .i64 c)), (11, (Value.int .i64 o)), (16, tv), (17, (.int .i64 ((T.length : Int)))), (18, (Value.int .i64 i)), (19, (.bool (decide (i < ((T.length : Int)))))), (58, (.bool (decide (o < ((T.length : Int)))))), (101, tv), (102, (.int .i64 ((T.length : Int)))), (103, (Value.int .i64 xx))]) (fun (xx : Int) V' σ' => V = V' ∧ [] = σ' ∧ 0 ≤ xx ∧ xx ≤ T.length ∧ ∀ x : Int, 0 ≤ x → x < xx → Jst (kmA T) L (be T x)) (fun (xx : Int) => (T.length - xx).toNat) (0) ?_ ?_ ?_
   · exact ⟨rfl, rfl, rfl, rfl, rfl, rfl, rfl, rfl, rfl, rfl, rfl, rfl, rfl, trivial⟩
   · exact ⟨rfl, rfl, by omega, by omega, fun x a b => by omega⟩
   rintro z e3 V2l σ2l hI2
   obtain ⟨rfl, rfl, i4, i5, hJ⟩ : V = V2l ∧ [] = σ2l ∧ 0 ≤ z ∧ z ≤ T.length ∧ ∀ x : Int, 0 ≤ x → x < z → Jst (kmA T) L (be T x) := hI2
   refine vc_seq ?_
   refine vc_region ?_
   refine oq (qv_lss rfl rfl) ?_
   refine ops_nil ?_
   refine vc_seq ?_
   refine vc_if rfl (fun c5 => ?_) (fun c5 => ?_)
   ·
    refine vc_skip ?_
    refine vc_seq ?_
    refine vc_block ?_
    refine vc_seq ?_
    refine vc_region ?_
    refine oq (qv_ias (v := tv) (i := z) Try.underlying46 Try.size66 rfl ht rfl (by omega) (by omega)) ?_
    refine oq (qv_lds (v := tv) (i := z) (vs := [(.int .i64 ((be T (z)).s)), (.int .i64 ((be T (z)).j)), (.int .i64 ((be T (z)).v))]) Try.agg66 rfl ht (by omega) (by omega) (bes_at (by omega) (by omega))) ?_
    refine ops_alloc Try.ti66 rfl (fun b2 => ?_)
    refine ops_stw (k := 0) (vs := [(.int .i64 ((be T (z)).s)), (.int .i64 ((be T (z)).j)), (.int .i64 ((be T (z)).v))]) Try.size66 rfl rfl rfl rfl rfl rfl ?_
    refine ops_nil ?_
    refine vc_seq ?_
    refine vc_res (σ' := [(Arr 66 b2 [(.int .i64 ((be T (z)).s)), (.int .i64 ((be T (z)).j)), (.int .i64 ((be T (z)).v))])]) rfl ?_
    refine vc_region ?_
    refine oq (qv_mv l rfl) ?_
    refine oq (qv_mv tv rfl) ?_
    refine oq (qv_ldm (vs := [(.int .i64 ((be T (z)).s)), (.int .i64 ((be T (z)).j)), (.int .i64 ((be T (z)).v))]) Try.agg66 rfl (inOc (k := 0) rfl) rfl rfl) ?_
    refine oq (qv_call (v := (.bool (decide (Jst (kmA T) L (be T (z)))))) (justified_c (x := be T (z)) hl hg ht hOd hRg (hRg z (by omega) (by omega)).1.1 (by have q := (hRg z (by omega) (by omega)).1.2; omega) (by have q := (hRg z (by omega) (by omega)).2.1; omega)) rfl rfl) ?_
    refine oq (qv_not rfl) ?_
    refine ops_nil ?_
    refine vc_if rfl (fun c6 => ?_) (fun c6 => ?_)
    ·
     refine vc_seq ?_
     refine vc_region ?_
     refine oq (qv_as (Value.int .i64 13) rfl) ?_
     refine ops_nil ?_
     refine vc_drop [] [(Arr 66 b2 [(.int .i64 ((be T (z)).s)), (.int .i64 ((be T (z)).j)), (.int .i64 ((be T (z)).v))])] (.refl _) ?_
     refine vc_ret ?_
     refine blockQ_ret ?_
     refine blockQ_ret ?_
     exact rq1 (.int .i64 (pvE L k T c)) (congrArg (Value.int .i64) (show 13 = (pvE L k T c) from by first | rw [pv_13 hRg hOd (fun q => absurd (q.1 z (by omega) (by omega)) (by assumption))] | rw [pv_13 hRg hOd (fun q => fn_no (by assumption) q.2)] | rw [pv_13 hRg hOd (fun q => fn_lt (by assumption) q.2)])) rfl
    ·
     refine vc_skip ?_
     refine vc_drop [] [(Arr 66 b2 [(Value.int .i64 ((be T (z)).s)), (Value.int .i64 ((be T (z)).j)), (Value.int .i64 ((be T (z)).v))])] ((List.perm_middle (l₁ := []) (l₂ := [])).trans (List.perm_append_comm (l₁ := [(Arr 66 b2 [(Value.int .i64 ((be T (z)).s)), (Value.int .i64 ((be T (z)).j)), (Value.int .i64 ((be T (z)).v))])]))) ?_
     refine vc_region ?_
     refine oq (qv_add rfl rfl (by omega)) ?_
     refine oq (qv_mv (.int .i64 (z + 1)) rfl) ?_
     refine ops_nil ?_
     refine ⟨(z + 1), ⟨rfl, rfl, rfl, rfl, rfl, rfl, rfl, rfl, rfl, rfl, rfl, rfl, (congrArg (Value.int .i64) (show (z + 1) = ((z + 1)) from by omega)), trivial⟩, ⟨rfl, rfl, by omega, by omega, all_snoc hJ (Decidable.not_not.1 (by assumption))⟩, by omega⟩
   ·
    refine vc_exit ?_
    refine blockQ_hit ?_
    refine vc_seq ?_
    have hJs : Jsts L T := fun x a b => hJ x a (by omega)
    refine vc_region ?_
    refine oq (qv_mv tv rfl) ?_
    refine oq (qv_mv l rfl) ?_
    refine oq (qv_lenS Try.underlying23 rfl hl.sl) ?_
    refine oq (qv_to (by rw [Int.one_mul, show ((rv.length : Int) : Int).toNat = L.length by omega]) (qv_shli rfl rfl (by omega) (by omega) (by rw [show ((rv.length : Int) : Int).toNat = L.length by omega]; omega))) ?_
    refine oq (qv_sub rfl rfl (by omega)) ?_
    refine oq (qv_mv (Value.int .i64 k) rfl) ?_
    refine oq (qv_call (v := (.tuple #[(.int .i64 ((kmA T (k, ((2 : Int) ^ L.length) - 1)).getD 0)), (.bool (decide ((kmA T (k, ((2 : Int) ^ L.length) - 1)).isSome = true)))])) (entry_c ht hOd) rfl rfl) ?_
    refine oq (qv_mv (.tuple #[(.int .i64 ((kmA T (k, ((2 : Int) ^ L.length) - 1)).getD 0)), (.bool (decide ((kmA T (k, ((2 : Int) ^ L.length) - 1)).isSome = true)))]) rfl) ?_
    refine oq (qv_ext (.int .i64 ((kmA T (k, ((2 : Int) ^ L.length) - 1)).getD 0)) rfl rfl) ?_
    refine oq (qv_ext (.bool (decide ((kmA T (k, ((2 : Int) ^ L.length) - 1)).isSome = true))) rfl rfl) ?_
    refine oq (qv_as (.int .i64 ((kmA T (k, ((2 : Int) ^ L.length) - 1)).getD 0)) rfl) ?_
    refine oq (qv_as (.bool (decide ((kmA T (k, ((2 : Int) ^ L.length) - 1)).isSome = true))) rfl) ?_
    refine ops_nil ?_
    refine vc_seq ?_
    refine vc_seq ?_
    refine vc_region ?_
    refine oq (qv_mv (.bool (decide ((kmA T (k, ((2 : Int) ^ L.length) - 1)).isSome = true))) rfl) ?_
    refine oq (qv_not rfl) ?_
    refine oq (qv_mv (.bool (decide (¬ ((kmA T (k, ((2 : Int) ^ L.length) - 1)).isSome = true)))) rfl) ?_
    by_cases g8 : ¬ ((kmA T (k, ((2 : Int) ^ L.length) - 1)).isSome = true)
    ·
     refine os (want_fn g8 rfl rfl rfl) ?_
     refine os (want_fn g8 rfl rfl rfl) ?_
     refine os (want_fn g8 rfl rfl rfl) ?_
     refine oq (qv_pick_t g8 rfl (rfl : ev _ _ = (Value.bool true))) ?_
     refine ops_nil ?_
     refine vc_tt rfl ?_
     refine vc_seq ?_
     refine vc_region ?_
     refine oq (qv_as (Value.int .i64 13) rfl) ?_
     refine ops_nil ?_
     refine vc_ret ?_
     exact rq1 (.int .i64 (pvE L k T c)) (congrArg (Value.int .i64) (show 13 = (pvE L k T c) from by first | rw [pv_13 hRg hOd (fun q => absurd (q.1 z (by omega) (by omega)) (by assumption))] | rw [pv_13 hRg hOd (fun q => fn_no (by assumption) q.2)] | rw [pv_13 hRg hOd (fun q => fn_lt (by assumption) q.2)])) rfl
    ·
     refine og (qv_mv (.int .i64 ((kmA T (k, ((2 : Int) ^ L.length) - 1)).getD 0)) rfl) (want_f g8 rfl rfl rfl) ?_
     refine og (qv_mv (Value.int .i64 c) rfl) (want_f g8 rfl rfl rfl) ?_
     refine og (qv_lss rfl rfl) (want_f g8 rfl rfl rfl) ?_
     refine oq (qv_pick_f g8 rfl (rfl : ev _ _ = (.bool (decide (((kmA T (k, ((2 : Int) ^ L.length) - 1)).getD 0) < c))))) ?_
     refine ops_nil ?_
     refine vc_if rfl (fun c7 => ?_) (fun c7 => ?_)
     ·
      refine vc_seq ?_
      refine vc_region ?_
      refine oq (qv_as (Value.int .i64 13) rfl) ?_
      refine ops_nil ?_
      refine vc_ret ?_
      exact rq1 (.int .i64 (pvE L k T c)) (congrArg (Value.int .i64) (show 13 = (pvE L k T c) from by first | rw [pv_13 hRg hOd (fun q => absurd (q.1 z (by omega) (by omega)) (by assumption))] | rw [pv_13 hRg hOd (fun q => fn_no (by assumption) q.2)] | rw [pv_13 hRg hOd (fun q => fn_lt (by assumption) q.2)])) rfl
     ·
      refine vc_skip ?_
      refine vc_seq ?_
      refine vc_region ?_
      refine oq (qv_as (Value.int .i64 0) rfl) ?_
      refine ops_nil ?_
      refine vc_ret ?_
      exact rq1 (.int .i64 (pvE L k T c)) (congrArg (Value.int .i64) (show 0 = (pvE L k T c) from by rw [pv_0 hRg hOd ⟨hJs, fn_yes (by first | assumption | exact Decidable.not_not.1 (by assumption)) (by assumption)⟩])) rfl

end Go.Proofs.Ytmkbjhligjnagaa
