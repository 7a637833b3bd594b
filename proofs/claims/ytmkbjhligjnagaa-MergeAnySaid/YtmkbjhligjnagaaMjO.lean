/- Walks of merge: what each function returns. Printed by a program out of notes. -/
import Derived.Test.YtmkbjhligjnagaaMiC
import Derived.Test.YtmkbjhligjnagaaMjM
import Derived.Test.YtmkbjhligjnagaaTy
namespace Go.Proofs.Ytmkbjhligjnagaa
open Go Go.Vc
open Classical
set_option maxRecDepth 100000
theorem bool_dec (b : Bool) : Value.bool b = Value.bool (decide (b = true)) := by cases b <;> rfl
/-- What the search for a grouping reads and never changes. -/
structure FEnv (V : HV) (l : Value) (rv : List Value) (L : List (List Int)) (k goal : Int) (ps gb nb : Nat) : Prop where
  s : Cells V ps [l, .int .i64 k, .int .i64 goal, .slice (some ⟨gb, 0, none⟩) rv.length rv.length, .slice (some ⟨nb, 0, none⟩) rv.length rv.length]
  l : Mat .i64 V l rv L
  gd : Good L
  h6 : L.length ≤ 6
theorem FEnv.mono {V W : HV} {l : Value} {rv : List Value} {L : List (List Int)} {k goal : Int} {ps gb nb : Nat} (h : FEnv V l rv L k goal ps gb nb) (s : Vc.Sub V W) : FEnv W l rv L k goal ps gb nb := ⟨h.s.mono s, h.l.mono s, h.gd, h.h6⟩
def FrC (l : Value) (rv : List Value) (L : List (List Int)) (k goal : Int) (ps gb nb m : Nat) : Prop := ∀ (V : HV) (i cost kinds : Int) (G Nd : List Int), FEnv V l rv L k goal ps gb nb → 0 ≤ i → i + m = L.length → (0 ≤ cost ∧ cost ≤ i * 1048576) → (0 ≤ kinds ∧ kinds ≤ i) → G.length = L.length → Nd.length = L.length → (∀ y : Int, 0 ≤ y → y < L.length → 0 ≤ gi Nd y ∧ gi Nd y ≤ i) →
  FnC Try.prog 53 [pt ps, .int .i64 i, .int .i64 cost, .int .i64 kinds] V [Arr 3 gb (G.map (Value.int .i64)), Arr 3 nb (Nd.map (Value.int .i64))] (fun v _ σ' => ∃ N2 : List Int, v = .bool (decide ((fr L k goal m i cost kinds G Nd).1 = true)) ∧ σ' = [Arr 3 gb ((fr L k goal m i cost kinds G Nd).2.map (Value.int .i64)), Arr 3 nb (N2.map (Value.int .i64))] ∧ ((fr L k goal m i cost kinds G Nd).1 = false → N2 = Nd))

set_option maxRecDepth 100000 in
set_option maxHeartbeats 4000000 in
theorem from_step {V : HV} {l : Value} {rv : List Value} {L : List (List Int)} {k goal i cost kinds : Int} {G Nd : List Int} {ps gb nb m : Nat} (IH : ∀ q : Nat, m = q + 1 → FrC l rv L k goal ps gb nb q) (hE : FEnv V l rv L k goal ps gb nb) (h0 : 0 ≤ i) (him : i + m = L.length) (hc : 0 ≤ cost ∧ cost ≤ i * 1048576) (hk : 0 ≤ kinds ∧ kinds ≤ i) (hG0 : G.length = L.length) (hNl : Nd.length = L.length) (hb : ∀ y : Int, 0 ≤ y → y < L.length → 0 ≤ gi Nd y ∧ gi Nd y ≤ i) :
    FnC Try.prog 53 [(Value.pointer (some ⟨ps, 0, none⟩)), (Value.int .i64 i), (Value.int .i64 cost), (Value.int .i64 kinds)] V [(Arr 3 gb (G.map (Value.int .i64))), (Arr 3 nb (Nd.map (Value.int .i64)))] (fun v _ σ' => ∃ N2 : List Int, v = .bool (decide ((fr L k goal m i cost kinds G Nd).1 = true)) ∧ σ' = [Arr 3 gb ((fr L k goal m i cost kinds G Nd).2.map (Value.int .i64)), Arr 3 nb (N2.map (Value.int .i64))] ∧ ((fr L k goal m i cost kinds G Nd).1 = false → N2 = Nd)) := by
 refine fn_intro (N := 157) Try.func53 (by kernel_rfl) rfl rfl rfl (Nat.le_of_ble_eq_true rfl) ?_
 intro w0 D
 have hlen := hE.l.len
 have h6 := hE.h6
 refine vc_seq ?_
 refine vc_res (σ' := [(Arr 3 gb (G.map (Value.int .i64))), (Arr 3 nb (Nd.map (Value.int .i64)))]) rfl ?_
 refine vc_region ?_
 refine oq (qv_as (Value.bool false) rfl) ?_
 refine ops_nil ?_
 refine vc_seq ?_
 refine vc_block ?_
 refine vc_seq ?_
 refine vc_region ?_
 refine oq (qv_mv (Value.int .i64 cost) rfl) ?_
 refine oq (qv_mv (Value.pointer (some ⟨ps, 0, none⟩)) rfl) ?_
 refine oq (qv_nilck rfl) ?_
 refine oq (qv_fa (off := 0) Try.field86_2 rfl) ?_
 refine oq (qv_ldp (v := (Value.int .i64 goal)) Try.plain3 rfl (inVc hE.s) rfl) ?_
 refine oq (qv_gtr rfl rfl) ?_
 refine oq (qv_mv (.bool (decide (goal < cost))) rfl) ?_
 by_cases g1 : goal < cost
 ·
  refine os (want_fn g1 rfl rfl rfl) ?_
  refine os (want_fn g1 rfl rfl rfl) ?_
  refine os (want_fn g1 rfl rfl rfl) ?_
  refine os (want_fn g1 rfl rfl rfl) ?_
  refine os (want_fn g1 rfl rfl rfl) ?_
  refine os (want_fn g1 rfl rfl rfl) ?_
  refine oq (qv_pick_t g1 rfl (rfl : ev _ _ = (Value.bool true))) ?_
  refine oq (qv_as (Value.bool true) rfl) ?_
  refine ops_nil ?_
  refine vc_tt rfl ?_
  refine vc_seq ?_
  refine vc_region ?_
  refine oq (qv_as (Value.bool false) rfl) ?_
  refine ops_nil ?_
  refine vc_ret ?_
  refine blockQ_ret ?_
  refine rq1 (Value.bool false) rfl ?_
  rw [fr_prune (by omega)]
  exact ⟨Nd, rfl, rfl, fun _ => rfl⟩
 ·
  refine og (qv_mv (Value.int .i64 kinds) rfl) (want_f g1 rfl rfl rfl) ?_
  refine og (qv_mv (Value.pointer (some ⟨ps, 0, none⟩)) rfl) (want_f g1 rfl rfl rfl) ?_
  refine og (qv_nilck rfl) (want_f g1 rfl rfl rfl) ?_
  refine og (qv_fa (off := 0) Try.field86_1 rfl) (want_f g1 rfl rfl rfl) ?_
  refine og (qv_ldp (v := (Value.int .i64 k)) Try.plain3 rfl (inVc hE.s) rfl) (want_f g1 rfl rfl rfl) ?_
  refine og (qv_gtr rfl rfl) (want_f g1 rfl rfl rfl) ?_
  refine oq (qv_pick_f g1 rfl (rfl : ev _ _ = (.bool (decide (k < kinds))))) ?_
  refine oq (qv_as (.bool (decide (k < kinds))) rfl) ?_
  refine ops_nil ?_
  refine vc_if rfl (fun c1 => ?_) (fun c1 => ?_)
  ·
   refine vc_seq ?_
   refine vc_region ?_
   refine oq (qv_as (Value.bool false) rfl) ?_
   refine ops_nil ?_
   refine vc_ret ?_
   refine blockQ_ret ?_
   refine rq1 (Value.bool false) rfl ?_
   rw [fr_prune (by omega)]
   exact ⟨Nd, rfl, rfl, fun _ => rfl⟩
  ·
   refine vc_seq ?_
   refine vc_region ?_
   refine oq (qv_mv (Value.int .i64 i) rfl) ?_
   refine oq (qv_mv (Value.pointer (some ⟨ps, 0, none⟩)) rfl) ?_
   refine oq (qv_nilck rfl) ?_
   refine oq (qv_fa (off := 0) Try.field86_0 rfl) ?_
   refine oq (qv_ldp (v := l) Try.plain23 rfl (inVc hE.s) rfl) ?_
   refine oq (qv_lenS Try.underlying23 rfl hE.l.sl) ?_
   refine oq (qv_eql rfl rfl) ?_
   refine oq (qv_as (.bool (decide (i = ((rv.length : Int))))) rfl) ?_
   refine ops_nil ?_
   refine vc_if rfl (fun c2 => ?_) (fun c2 => ?_)
   ·
    refine vc_seq ?_
    refine vc_region ?_
    refine oq (qv_mv (Value.int .i64 cost) rfl) ?_
    refine oq (qv_mv (Value.pointer (some ⟨ps, 0, none⟩)) rfl) ?_
    refine oq (qv_nilck rfl) ?_
    refine oq (qv_fa (off := 0) Try.field86_2 rfl) ?_
    refine oq (qv_ldp (v := (Value.int .i64 goal)) Try.plain3 rfl (inVc hE.s) rfl) ?_
    refine oq (qv_eql rfl rfl) ?_
    refine oq (qv_as (.bool (decide (cost = goal))) rfl) ?_
    refine ops_nil ?_
    refine vc_ret ?_
    refine blockQ_ret ?_
    refine rq1 (.bool (decide (cost = goal))) rfl ?_
    have hm0 : m = 0 := by omega
    subst hm0
    rw [fr_0 (by omega)]
    exact ⟨Nd, by first | rfl | simp, rfl, fun _ => rfl⟩
   ·
    refine vc_skip ?_
    refine vc_seq ?_
    refine vc_seq ?_
    have hpr : ¬ (goal < cost ∨ k < kinds) := by omega
    obtain ⟨m, rfl⟩ : ∃ q, m = q + 1 := ⟨m - 1, by omega⟩
    refine vc_region ?_
    refine oq (qv_mv (Value.pointer (some ⟨ps, 0, none⟩)) rfl) ?_
    refine oq (qv_nilck rfl) ?_
    refine oq (qv_fa (off := 0) Try.field86_0 rfl) ?_
    refine oq (qv_ldp (v := l) Try.plain23 rfl (inVc hE.s) rfl) ?_
    refine oq (qv_lenS Try.underlying23 rfl hE.l.sl) ?_
    refine oq (qv_mv (Value.int .i64 0) rfl) ?_
    refine ops_nil ?_
    refine vc_block ?_
    refine vc_loop (α := Int × List Int) (fun (xx : Int × List Int) => [(0, (Value.pointer (some ⟨ps, 0, none⟩))), (1, (Value.int .i64 i)), (2, (Value.int .i64 cost)), (3, (Value.int .i64 kinds)), (11, (.bool (decide (k < kinds)))), (26, (.bool (decide (i = ((rv.length : Int)))))), (44, (.int .i64 ((rv.length : Int)))), (45, (Value.int .i64 xx.1))]) (fun (xx : Int × List Int) V' σ' => [(Arr 3 gb (xx.2.map (Value.int .i64))), (Arr 3 nb (Nd.map (Value.int .i64)))] = σ' ∧ FEnv V' l rv L k goal ps gb nb ∧ 0 ≤ xx.1 ∧ xx.1 ≤ L.length ∧ xx.2.length = L.length ∧ frL L (fr L k goal m (i + 1)) i cost kinds Nd (L.length - (0 : Int).toNat) 0 G = frL L (fr L k goal m (i + 1)) i cost kinds Nd (L.length - xx.1.toNat) xx.1 xx.2) (fun (xx : Int × List Int) => (L.length - xx.1).toNat) (0, G) ?_ ?_ ?_
    · exact ⟨rfl, rfl, rfl, rfl, rfl, rfl, rfl, rfl, trivial⟩
    · exact ⟨(show [(Arr 3 gb ((G : List Int).map (Value.int .i64))), (Arr 3 nb (Nd.map (Value.int .i64)))] = [(Arr 3 gb (G.map (Value.int .i64))), (Arr 3 nb (Nd.map (Value.int .i64)))] from by rfl), hE, by omega, by omega, hG0, rfl⟩
    rintro ⟨r, Gc⟩ e1 V0l σ0l hI0
    obtain ⟨rfl, hE, i1, i2, hGl, hq⟩ : [(Arr 3 gb (Gc.map (Value.int .i64))), (Arr 3 nb (Nd.map (Value.int .i64)))] = σ0l ∧ FEnv V0l l rv L k goal ps gb nb ∧ 0 ≤ r ∧ r ≤ L.length ∧ Gc.length = L.length ∧ frL L (fr L k goal m (i + 1)) i cost kinds Nd (L.length - (0 : Int).toNat) 0 G = frL L (fr L k goal m (i + 1)) i cost kinds Nd (L.length - r.toNat) r Gc := hI0
    change VC _ _ _ _ _ _ (upds 157 [(0, (Value.pointer (some ⟨ps, 0, none⟩))), (1, (Value.int .i64 i)), (2, (Value.int .i64 cost)), (3, (Value.int .i64 kinds)), (11, (.bool (decide (k < kinds)))), (26, (.bool (decide (i = ((rv.length : Int)))))), (44, (.int .i64 ((rv.length : Int)))), (45, (Value.int .i64 r))] e1) _ _
    refine vc_seq ?_
    refine vc_res (σ' := [(Arr 3 gb (Gc.map (Value.int .i64))), (Arr 3 nb (Nd.map (Value.int .i64)))]) rfl ?_
    refine vc_region ?_
    refine oq (qv_lss rfl rfl) ?_
    refine ops_nil ?_
    refine vc_seq ?_
    refine vc_if rfl (fun c3 => ?_) (fun c3 => ?_)
    ·
     refine vc_skip ?_
     refine vc_seq ?_
     refine vc_block ?_
     refine vc_seq ?_
     refine vc_region ?_
     refine oq (qv_mv (Value.int .i64 r) rfl) ?_
     refine oq (qv_as (Value.int .i64 r) rfl) ?_
     refine ops_nil ?_
     refine vc_seq ?_
     refine vc_seq ?_
     have hbi := hb i (by omega) (by omega)
     have hbr := hb r (by omega) (by omega)
     refine vc_region ?_
     refine oq (qv_mv (Value.int .i64 r) rfl) ?_
     refine oq (qv_mv (Value.int .i64 i) rfl) ?_
     refine oq (qv_neq rfl rfl) ?_
     refine oq (qv_mv (.bool (decide (r ≠ i))) rfl) ?_
     by_cases g2 : r ≠ i
     ·
      refine og (qv_mv (Value.pointer (some ⟨ps, 0, none⟩)) rfl) (want_t g2 rfl rfl rfl) ?_
      refine og (qv_nilck rfl) (want_t g2 rfl rfl rfl) ?_
      refine og (qv_fa (off := 0) Try.field86_4 rfl) (want_t g2 rfl rfl rfl) ?_
      refine og (qv_ldp (v := (.slice (some ⟨nb, 0, none⟩) rv.length rv.length)) Try.plain29 rfl (inVc hE.s) rfl) (want_t g2 rfl rfl rfl) ?_
      refine og (qv_mv (Value.int .i64 i) rfl) (want_t g2 rfl rfl rfl) ?_
      refine og (qv_ia (v := (.slice (some ⟨nb, 0, none⟩) rv.length rv.length)) (i := i) Try.underlying29 Try.size3 rfl (inO (k := 1) rfl (by simp only [List.length_map]; omega) (Nat.le_refl _) (by omega)) rfl (by omega) (by simp only [List.length_map]; omega)) (want_t g2 rfl rfl rfl) ?_
      refine og (qv_ldv (u := (.int .i64 (gi Nd (i)))) (v := (.slice (some ⟨nb, 0, none⟩) rv.length rv.length)) (i := i) Try.plain3 rfl (inO (k := 1) rfl (by simp only [List.length_map]; omega) (Nat.le_refl _) (by omega)) (by omega) (by simp only [List.length_map]; omega) (gv_ints (by omega) (by omega))) (want_t g2 rfl rfl rfl) ?_
      refine og (qv_gtr rfl rfl) (want_t g2 rfl rfl rfl) ?_
      refine oq (qv_pick_t g2 rfl (rfl : ev _ _ = (.bool (decide (0 < (gi Nd (i))))))) ?_
      refine oq (qv_mv (.bool (decide (0 < (gi Nd (i))))) rfl) ?_
      by_cases g3 : 0 < (gi Nd (i))
      ·
       refine os (want_fn g3 rfl rfl rfl) ?_
       refine os (want_fn g3 rfl rfl rfl) ?_
       refine os (want_fn g3 rfl rfl rfl) ?_
       refine os (want_fn g3 rfl rfl rfl) ?_
       refine os (want_u rfl rfl rfl) ?_
       refine os (want_u rfl rfl rfl) ?_
       refine os (want_u rfl rfl rfl) ?_
       refine os (want_u rfl rfl rfl) ?_
       refine os (want_u rfl rfl rfl) ?_
       refine os (want_u rfl rfl rfl) ?_
       refine os (want_u rfl rfl rfl) ?_
       refine os (want_u rfl rfl rfl) ?_
       refine os (want_u rfl rfl rfl) ?_
       refine os (want_fn g3 rfl rfl rfl) ?_
       refine oq (qv_pick_t g3 rfl (rfl : ev _ _ = (Value.bool true))) ?_
       refine ops_nil ?_
       refine vc_tt rfl ?_
       refine vc_exit ?_
       refine blockQ_hit ?_
       refine vc_region ?_
       refine oq (qv_add rfl rfl (by omega)) ?_
       refine oq (qv_mv (.int .i64 (r + 1)) rfl) ?_
       refine ops_nil ?_
       refine ⟨(r + 1, Gc), ⟨rfl, rfl, rfl, rfl, rfl, rfl, rfl, (congrArg (Value.int .i64) (show (r + 1) = ((r + 1)) from by omega)), trivial⟩, ⟨(show [(Arr 3 gb ((Gc : List Int).map (Value.int .i64))), (Arr 3 nb (Nd.map (Value.int .i64)))] = [(Arr 3 gb (Gc.map (Value.int .i64))), (Arr 3 nb (Nd.map (Value.int .i64)))] from by first | rfl | (rw [nd_back (by omega) (by omega) hN3]; done) | (rw [hN3]; done)), hE, by omega, by omega, hGl, by rw [hq, frL_skip (by omega) (by omega) (by unfold Skp; omega)]⟩, by omega⟩
      ·
       refine og (qv_mv (Value.int .i64 r) rfl) (want_f g3 rfl rfl rfl) ?_
       refine og (qv_mv (Value.int .i64 i) rfl) (want_f g3 rfl rfl rfl) ?_
       refine og (qv_lss rfl rfl) (want_f g3 rfl rfl rfl) ?_
       refine og (qv_mv (.bool (decide (r < i))) rfl) (want_f g3 rfl rfl rfl) ?_
       by_cases g4 : r < i
       ·
        refine og (qv_mv (Value.pointer (some ⟨ps, 0, none⟩)) rfl) (want_t g4 rfl rfl rfl) ?_
        refine og (qv_nilck rfl) (want_t g4 rfl rfl rfl) ?_
        refine og (qv_fa (off := 0) Try.field86_3 rfl) (want_t g4 rfl rfl rfl) ?_
        refine og (qv_ldp (v := (.slice (some ⟨gb, 0, none⟩) rv.length rv.length)) Try.plain30 rfl (inVc hE.s) rfl) (want_t g4 rfl rfl rfl) ?_
        refine og (qv_mv (Value.int .i64 r) rfl) (want_t g4 rfl rfl rfl) ?_
        refine og (qv_ia (v := (.slice (some ⟨gb, 0, none⟩) rv.length rv.length)) (i := r) Try.underlying30 Try.size3 rfl (inO (k := 0) rfl (by simp only [List.length_map]; omega) (Nat.le_refl _) (by omega)) rfl (by omega) (by simp only [List.length_map]; omega)) (want_t g4 rfl rfl rfl) ?_
        refine og (qv_ldv (u := (.int .i64 (gi Gc (r)))) (v := (.slice (some ⟨gb, 0, none⟩) rv.length rv.length)) (i := r) Try.plain3 rfl (inO (k := 0) rfl (by simp only [List.length_map]; omega) (Nat.le_refl _) (by omega)) (by omega) (by simp only [List.length_map]; omega) (gv_ints (by omega) (by omega))) (want_t g4 rfl rfl rfl) ?_
        refine og (qv_mv (Value.int .i64 r) rfl) (want_t g4 rfl rfl rfl) ?_
        refine og (qv_neq rfl rfl) (want_t g4 rfl rfl rfl) ?_
        refine og (qv_pick_t g4 rfl (rfl : ev _ _ = (.bool (decide ((gi Gc (r)) ≠ r))))) (want_f g3 rfl rfl rfl) ?_
        refine oq (qv_pick_f g3 rfl (rfl : ev _ _ = (.bool (decide ((gi Gc (r)) ≠ r))))) ?_
        refine ops_nil ?_
        refine vc_if rfl (fun c4 => ?_) (fun c4 => ?_)
        ·
         refine vc_exit ?_
         refine blockQ_hit ?_
         refine vc_region ?_
         refine oq (qv_add rfl rfl (by omega)) ?_
         refine oq (qv_mv (.int .i64 (r + 1)) rfl) ?_
         refine ops_nil ?_
         refine ⟨(r + 1, Gc), ⟨rfl, rfl, rfl, rfl, rfl, rfl, rfl, (congrArg (Value.int .i64) (show (r + 1) = ((r + 1)) from by omega)), trivial⟩, ⟨(show [(Arr 3 gb ((Gc : List Int).map (Value.int .i64))), (Arr 3 nb (Nd.map (Value.int .i64)))] = [(Arr 3 gb (Gc.map (Value.int .i64))), (Arr 3 nb (Nd.map (Value.int .i64)))] from by first | rfl | (rw [nd_back (by omega) (by omega) hN3]; done) | (rw [hN3]; done)), hE, by omega, by omega, hGl, by rw [hq, frL_skip (by omega) (by omega) (by unfold Skp; omega)]⟩, by omega⟩
        ·
         refine vc_skip ?_
         refine vc_seq ?_
         refine vc_region ?_
         refine oq (qv_mv (Value.int .i64 kinds) rfl) ?_
         refine oq (qv_as (Value.int .i64 kinds) rfl) ?_
         refine ops_nil ?_
         refine vc_seq ?_
         refine vc_seq ?_
         refine vc_region ?_
         refine oq (qv_mv (Value.int .i64 r) rfl) ?_
         refine oq (qv_mv (Value.int .i64 i) rfl) ?_
         refine oq (qv_eql rfl rfl) ?_
         refine oq (qv_mv (.bool (decide (r = i))) rfl) ?_
         by_cases g5 : r = i
         ·
          omega
         ·
          refine os (want_tn g5 rfl rfl rfl) ?_
          refine os (want_tn g5 rfl rfl rfl) ?_
          refine os (want_tn g5 rfl rfl rfl) ?_
          refine os (want_tn g5 rfl rfl rfl) ?_
          refine os (want_tn g5 rfl rfl rfl) ?_
          refine os (want_tn g5 rfl rfl rfl) ?_
          refine os (want_tn g5 rfl rfl rfl) ?_
          refine os (want_tn g5 rfl rfl rfl) ?_
          refine oq (qv_pick_f g5 rfl (rfl : ev _ _ = (Value.bool false))) ?_
          refine oq (qv_mv (Value.bool false) rfl) ?_
          refine og (qv_mv (Value.int .i64 r) rfl) (want_fc rfl rfl rfl) ?_
          refine og (qv_mv (Value.int .i64 i) rfl) (want_fc rfl rfl rfl) ?_
          refine og (qv_gtr rfl rfl) (want_fc rfl rfl rfl) ?_
          refine og (qv_mv (.bool (decide (i < r))) rfl) (want_fc rfl rfl rfl) ?_
          by_cases g6 : i < r
          ·
           omega
          ·
           refine os (want_tn g6 rfl rfl rfl) ?_
           refine os (want_tn g6 rfl rfl rfl) ?_
           refine os (want_tn g6 rfl rfl rfl) ?_
           refine os (want_tn g6 rfl rfl rfl) ?_
           refine os (want_tn g6 rfl rfl rfl) ?_
           refine os (want_tn g6 rfl rfl rfl) ?_
           refine os (want_tn g6 rfl rfl rfl) ?_
           refine os (want_tn g6 rfl rfl rfl) ?_
           refine og (qv_pick_f g6 rfl (rfl : ev _ _ = (Value.bool false))) (want_fc rfl rfl rfl) ?_
           refine oq (qv_pick_fc rfl (rfl : ev _ _ = (Value.bool false))) ?_
           refine ops_nil ?_
           refine vc_ff rfl ?_
           refine vc_skip ?_
           refine vc_seq ?_
           refine vc_region ?_
           refine oq (qv_mv (Value.pointer (some ⟨ps, 0, none⟩)) rfl) ?_
           refine oq (qv_nilck rfl) ?_
           refine oq (qv_fa (off := 0) Try.field86_3 rfl) ?_
           refine oq (qv_ldp (v := (.slice (some ⟨gb, 0, none⟩) rv.length rv.length)) Try.plain30 rfl (inVc hE.s) rfl) ?_
           refine oq (qv_mv (Value.int .i64 i) rfl) ?_
           refine oq (qv_mv (Value.int .i64 r) rfl) ?_
           refine oq (qv_ia (v := (.slice (some ⟨gb, 0, none⟩) rv.length rv.length)) (i := i) Try.underlying30 Try.size3 rfl (inO (k := 0) rfl (by simp only [List.length_map]; omega) (Nat.le_refl _) (by omega)) rfl (by omega) (by simp only [List.length_map]; omega)) ?_
           refine ops_ste (k := 0) (b := gb) (n := rv.length) (c := rv.length) (i := i) (cs := (Gc.map (Value.int .i64))) Try.size3 rfl (rfl : ev _ _ = (Value.int .i64 r)) rfl rfl (by omega) (by simp only [List.length_map]; omega) ?_
           refine ops_nil ?_
           refine vc_seq ?_
           refine vc_seq ?_
           refine vc_res (σ' := [(Arr 3 gb (((Gc.map (Value.int .i64))).set (i).toNat (Value.int .i64 r))), (Arr 3 nb (Nd.map (Value.int .i64)))]) rfl ?_
           refine vc_region ?_
           refine oq (qv_mv (Value.int .i64 r) rfl) ?_
           refine oq (qv_mv (Value.int .i64 i) rfl) ?_
           refine oq (qv_gtr rfl rfl) ?_
           refine ops_nil ?_
           refine vc_if_f rfl g6 ?_
           refine vc_skip ?_
           refine vc_seq ?_
           refine vc_seq ?_
           refine vc_res (σ' := [(Arr 3 gb ((Gc.set i.toNat r).map (Value.int .i64))), (Arr 3 nb (Nd.map (Value.int .i64)))]) (by first | rw [mset, mset] | rw [mset]) ?_
           have hmo : (if More Nd i r then kinds + 1 else kinds) = kinds := by
             unfold More
             first | rw [if_pos (by omega)] | rw [if_neg (by omega)]
           have hn1 : (if i < r then Nd.set r.toNat (gi Nd r + 1) else Nd) = Nd := by first | exact if_pos (by omega) | exact if_neg (by omega)
           have hel := hE.gd.el i r (by omega) (by omega) (by omega) (by omega)
           have hrow := hE.gd.row i (by omega) (by omega)
           obtain ⟨x, hx⟩ : ∃ x, x = fr L k goal m (i + 1) (cost + gi (gr L i) r) (kinds) (Gc.set i.toNat r) Nd := ⟨_, rfl⟩
           have hgo := frL_go (cost := cost) (rec := fr L k goal m (i + 1)) (by omega) (by omega) (by unfold Skp; omega) hmo hn1 hx
           have hxl : x.2.length = L.length := by rw [hx, fr_len, List.length_set]; exact hGl
           have hnb : ∀ y : Int, 0 ≤ y → y < L.length → 0 ≤ gi Nd y ∧ gi Nd y ≤ i + 1 := nd_keep hb
           refine vc_region ?_
           refine oq (qv_mv (Value.pointer (some ⟨ps, 0, none⟩)) rfl) ?_
           refine oq (qv_mv (Value.int .i64 i) rfl) ?_
           refine oq (qv_add rfl rfl (by omega)) ?_
           refine oq (qv_mv (Value.int .i64 cost) rfl) ?_
           refine oq (qv_mv (Value.pointer (some ⟨ps, 0, none⟩)) rfl) ?_
           refine oq (qv_nilck rfl) ?_
           refine oq (qv_fa (off := 0) Try.field86_0 rfl) ?_
           refine oq (qv_ldp (v := l) Try.plain23 rfl (inVc hE.s) rfl) ?_
           refine oq (qv_mv (Value.int .i64 i) rfl) ?_
           refine oq (qv_ia (v := l) (i := i) Try.underlying23 Try.size29 rfl (inV hE.l.sl) rfl (by omega) (by omega)) ?_
           refine oq (qv_ld (v := l) (i := i) Try.plain29 rfl (inV hE.l.sl) (by omega) (by omega)) ?_
           refine oq (qv_mv (Value.int .i64 r) rfl) ?_
           refine oq (qv_iai (v := (gv rv (i))) (i := r) Try.underlying29 Try.size3 rfl (inVi (hE.l.row (i) (by omega) (by omega))) rfl (by omega) (by omega)) ?_
           refine oq (qv_ldi (v := (gv rv (i))) (i := r) Try.plain3 rfl (inVi (hE.l.row (i) (by omega) (by omega))) (by omega) (by omega)) ?_
           refine oq (qv_add rfl rfl (by omega)) ?_
           refine oq (qv_mv (Value.int .i64 kinds) rfl) ?_
           refine ops_call (σa := [(Arr 3 gb ((Gc.set i.toNat r).map (Value.int .i64))), (Arr 3 nb (Nd.map (Value.int .i64)))]) (σr := []) (by have h := IH m rfl _ (i + 1) (cost + gi (gr L i) r) (kinds) (Gc.set i.toNat r) Nd hE (by omega) (by omega) (by omega) (by omega) (by rw [List.length_set]; exact hGl) (by first | exact hNl | (rw [List.length_set]; exact hNl)) hnb; rw [← hx] at h; exact h) rfl rfl (.refl _) (fun r1 V1 sg1 hV1 hp1 => ?_)
           obtain ⟨N2, rfl, rfl, hN2⟩ := hp1
           have hE := hE.mono hV1
           refine ops_nil ?_
           refine vc_if rfl (fun c5 => ?_) (fun c5 => ?_)
           ·
            refine vc_seq ?_
            refine vc_res (σ' := [(Arr 3 gb (x.2.map (Value.int .i64))), (Arr 3 nb (N2.map (Value.int .i64)))]) rfl ?_
            refine vc_region ?_
            refine oq (qv_as (Value.bool true) rfl) ?_
            refine ops_nil ?_
            refine vc_ret ?_
            refine blockQ_ret ?_
            refine blockQ_ret ?_
            refine rq1 (Value.bool true) rfl ?_
            have ez : fr L k goal (m + 1) i cost kinds G Nd = x := by rw [fr_s hpr, hq, hgo, if_pos c5]
            rw [ez]
            exact ⟨N2, congrArg Value.bool (decide_eq_true c5).symm, rfl, fun q => absurd c5 (by rw [q]; exact Bool.false_ne_true)⟩
           ·
            refine vc_skip ?_
            refine vc_seq ?_
            refine vc_res (σ' := [(Arr 3 gb (x.2.map (Value.int .i64))), (Arr 3 nb (N2.map (Value.int .i64)))]) rfl ?_
            have hN3 := hN2 (by cases hx1 : x.1 <;> simp_all)
            refine vc_region ?_
            refine oq (qv_mv (Value.int .i64 r) rfl) ?_
            refine oq (qv_mv (Value.int .i64 i) rfl) ?_
            refine oq (qv_gtr rfl rfl) ?_
            refine ops_nil ?_
            refine vc_if_f rfl g6 ?_
            refine vc_skip ?_
            refine vc_region ?_
            refine oq (qv_add rfl rfl (by omega)) ?_
            refine oq (qv_mv (.int .i64 (r + 1)) rfl) ?_
            refine ops_nil ?_
            refine ⟨(r + 1, x.2), ⟨rfl, rfl, rfl, rfl, rfl, rfl, rfl, (congrArg (Value.int .i64) (show (r + 1) = ((r + 1)) from by omega)), trivial⟩, ⟨(show [(Arr 3 gb ((x.2 : List Int).map (Value.int .i64))), (Arr 3 nb (Nd.map (Value.int .i64)))] = [(Arr 3 gb (x.2.map (Value.int .i64))), (Arr 3 nb (N2.map (Value.int .i64)))] from by first | rfl | (rw [nd_back (by omega) (by omega) hN3]; done) | (rw [hN3]; done)), hE, by omega, by omega, hxl, by rw [hq, hgo, if_neg c5]⟩, by omega⟩
       ·
        refine os (want_tn g4 rfl rfl rfl) ?_
        refine os (want_tn g4 rfl rfl rfl) ?_
        refine os (want_tn g4 rfl rfl rfl) ?_
        refine os (want_tn g4 rfl rfl rfl) ?_
        refine os (want_tn g4 rfl rfl rfl) ?_
        refine os (want_tn g4 rfl rfl rfl) ?_
        refine os (want_tn g4 rfl rfl rfl) ?_
        refine os (want_tn g4 rfl rfl rfl) ?_
        refine os (want_tn g4 rfl rfl rfl) ?_
        refine og (qv_pick_f g4 rfl (rfl : ev _ _ = (Value.bool false))) (want_f g3 rfl rfl rfl) ?_
        refine oq (qv_pick_f g3 rfl (rfl : ev _ _ = (Value.bool false))) ?_
        refine ops_nil ?_
        refine vc_ff rfl ?_
        refine vc_skip ?_
        refine vc_seq ?_
        refine vc_region ?_
        refine oq (qv_mv (Value.int .i64 kinds) rfl) ?_
        refine oq (qv_as (Value.int .i64 kinds) rfl) ?_
        refine ops_nil ?_
        refine vc_seq ?_
        refine vc_seq ?_
        refine vc_region ?_
        refine oq (qv_mv (Value.int .i64 r) rfl) ?_
        refine oq (qv_mv (Value.int .i64 i) rfl) ?_
        refine oq (qv_eql rfl rfl) ?_
        refine oq (qv_mv (.bool (decide (r = i))) rfl) ?_
        by_cases g7 : r = i
        ·
         omega
        ·
         refine os (want_tn g7 rfl rfl rfl) ?_
         refine os (want_tn g7 rfl rfl rfl) ?_
         refine os (want_tn g7 rfl rfl rfl) ?_
         refine os (want_tn g7 rfl rfl rfl) ?_
         refine os (want_tn g7 rfl rfl rfl) ?_
         refine os (want_tn g7 rfl rfl rfl) ?_
         refine os (want_tn g7 rfl rfl rfl) ?_
         refine os (want_tn g7 rfl rfl rfl) ?_
         refine oq (qv_pick_f g7 rfl (rfl : ev _ _ = (Value.bool false))) ?_
         refine oq (qv_mv (Value.bool false) rfl) ?_
         refine og (qv_mv (Value.int .i64 r) rfl) (want_fc rfl rfl rfl) ?_
         refine og (qv_mv (Value.int .i64 i) rfl) (want_fc rfl rfl rfl) ?_
         refine og (qv_gtr rfl rfl) (want_fc rfl rfl rfl) ?_
         refine og (qv_mv (.bool (decide (i < r))) rfl) (want_fc rfl rfl rfl) ?_
         by_cases g8 : i < r
         ·
          refine og (qv_mv (Value.pointer (some ⟨ps, 0, none⟩)) rfl) (want_t g8 rfl rfl rfl) ?_
          refine og (qv_nilck rfl) (want_t g8 rfl rfl rfl) ?_
          refine og (qv_fa (off := 0) Try.field86_4 rfl) (want_t g8 rfl rfl rfl) ?_
          refine og (qv_ldp (v := (.slice (some ⟨nb, 0, none⟩) rv.length rv.length)) Try.plain29 rfl (inVc hE.s) rfl) (want_t g8 rfl rfl rfl) ?_
          refine og (qv_mv (Value.int .i64 r) rfl) (want_t g8 rfl rfl rfl) ?_
          refine og (qv_ia (v := (.slice (some ⟨nb, 0, none⟩) rv.length rv.length)) (i := r) Try.underlying29 Try.size3 rfl (inO (k := 1) rfl (by simp only [List.length_map]; omega) (Nat.le_refl _) (by omega)) rfl (by omega) (by simp only [List.length_map]; omega)) (want_t g8 rfl rfl rfl) ?_
          refine og (qv_ldv (u := (.int .i64 (gi Nd (r)))) (v := (.slice (some ⟨nb, 0, none⟩) rv.length rv.length)) (i := r) Try.plain3 rfl (inO (k := 1) rfl (by simp only [List.length_map]; omega) (Nat.le_refl _) (by omega)) (by omega) (by simp only [List.length_map]; omega) (gv_ints (by omega) (by omega))) (want_t g8 rfl rfl rfl) ?_
          refine og (qv_eql rfl rfl) (want_t g8 rfl rfl rfl) ?_
          refine og (qv_pick_t g8 rfl (rfl : ev _ _ = (.bool (decide ((gi Nd (r)) = 0))))) (want_fc rfl rfl rfl) ?_
          refine oq (qv_pick_fc rfl (rfl : ev _ _ = (.bool (decide ((gi Nd (r)) = 0))))) ?_
          refine ops_nil ?_
          refine vc_if rfl (fun c6 => ?_) (fun c6 => ?_)
          ·
           refine vc_region ?_
           refine oq (qv_mv (Value.int .i64 kinds) rfl) ?_
           refine oq (qv_add rfl rfl (by omega)) ?_
           refine oq (qv_as (.int .i64 (kinds + 1)) rfl) ?_
           refine ops_nil ?_
           refine vc_seq ?_
           refine vc_region ?_
           refine oq (qv_mv (Value.pointer (some ⟨ps, 0, none⟩)) rfl) ?_
           refine oq (qv_nilck rfl) ?_
           refine oq (qv_fa (off := 0) Try.field86_3 rfl) ?_
           refine oq (qv_ldp (v := (.slice (some ⟨gb, 0, none⟩) rv.length rv.length)) Try.plain30 rfl (inVc hE.s) rfl) ?_
           refine oq (qv_mv (Value.int .i64 i) rfl) ?_
           refine oq (qv_mv (Value.int .i64 r) rfl) ?_
           refine oq (qv_ia (v := (.slice (some ⟨gb, 0, none⟩) rv.length rv.length)) (i := i) Try.underlying30 Try.size3 rfl (inO (k := 0) rfl (by simp only [List.length_map]; omega) (Nat.le_refl _) (by omega)) rfl (by omega) (by simp only [List.length_map]; omega)) ?_
           refine ops_ste (k := 0) (b := gb) (n := rv.length) (c := rv.length) (i := i) (cs := (Gc.map (Value.int .i64))) Try.size3 rfl (rfl : ev _ _ = (Value.int .i64 r)) rfl rfl (by omega) (by simp only [List.length_map]; omega) ?_
           refine ops_nil ?_
           refine vc_seq ?_
           refine vc_seq ?_
           refine vc_res (σ' := [(Arr 3 gb (((Gc.map (Value.int .i64))).set (i).toNat (Value.int .i64 r))), (Arr 3 nb (Nd.map (Value.int .i64)))]) rfl ?_
           refine vc_region ?_
           refine oq (qv_mv (Value.int .i64 r) rfl) ?_
           refine oq (qv_mv (Value.int .i64 i) rfl) ?_
           refine oq (qv_gtr rfl rfl) ?_
           refine ops_nil ?_
           refine vc_if_t rfl g8 ?_
           refine vc_region ?_
           refine oq (qv_mv (Value.pointer (some ⟨ps, 0, none⟩)) rfl) ?_
           refine oq (qv_nilck rfl) ?_
           refine oq (qv_fa (off := 0) Try.field86_4 rfl) ?_
           refine oq (qv_ldp (v := (.slice (some ⟨nb, 0, none⟩) rv.length rv.length)) Try.plain29 rfl (inVc hE.s) rfl) ?_
           refine oq (qv_mv (Value.int .i64 r) rfl) ?_
           refine oq (qv_ia (v := (.slice (some ⟨nb, 0, none⟩) rv.length rv.length)) (i := r) Try.underlying29 Try.size3 rfl (inO (k := 1) rfl (by simp only [List.length_map]; omega) (Nat.le_refl _) (by omega)) rfl (by omega) (by simp only [List.length_map]; omega)) ?_
           refine oq (qv_ldv (u := (.int .i64 (gi Nd (r)))) (v := (.slice (some ⟨nb, 0, none⟩) rv.length rv.length)) (i := r) Try.plain3 rfl (inO (k := 1) rfl (by simp only [List.length_map]; omega) (Nat.le_refl _) (by omega)) (by omega) (by simp only [List.length_map]; omega) (gv_ints (by omega) (by omega))) ?_
           refine oq (qv_add rfl rfl (by omega)) ?_
           refine oq (qv_ia (v := (.slice (some ⟨nb, 0, none⟩) rv.length rv.length)) (i := r) Try.underlying29 Try.size3 rfl (inO (k := 1) rfl (by simp only [List.length_map]; omega) (Nat.le_refl _) (by omega)) rfl (by omega) (by simp only [List.length_map]; omega)) ?_
           refine ops_ste (k := 1) (b := nb) (n := rv.length) (c := rv.length) (i := r) (cs := (Nd.map (Value.int .i64))) Try.size3 rfl (rfl : ev _ _ = (.int .i64 ((gi Nd (r)) + 1))) rfl rfl (by omega) (by simp only [List.length_map]; omega) ?_
           refine ops_nil ?_
           refine vc_seq ?_
           refine vc_seq ?_
           refine vc_res (σ' := [(Arr 3 gb (((Gc.map (Value.int .i64))).set (i).toNat (Value.int .i64 r))), (Arr 3 nb (((Nd.map (Value.int .i64))).set (r).toNat (.int .i64 ((gi Nd (r)) + 1))))]) rfl ?_
           refine vc_res (σ' := [(Arr 3 gb ((Gc.set i.toNat r).map (Value.int .i64))), (Arr 3 nb ((Nd.set r.toNat (gi Nd r + 1)).map (Value.int .i64)))]) (by first | rw [mset, mset] | rw [mset]) ?_
           have hmo : (if More Nd i r then kinds + 1 else kinds) = kinds + 1 := by
             unfold More
             first | rw [if_pos (by omega)] | rw [if_neg (by omega)]
           have hn1 : (if i < r then Nd.set r.toNat (gi Nd r + 1) else Nd) = (Nd.set r.toNat (gi Nd r + 1)) := by first | exact if_pos (by omega) | exact if_neg (by omega)
           have hel := hE.gd.el i r (by omega) (by omega) (by omega) (by omega)
           have hrow := hE.gd.row i (by omega) (by omega)
           obtain ⟨x, hx⟩ : ∃ x, x = fr L k goal m (i + 1) (cost + gi (gr L i) r) (kinds + 1) (Gc.set i.toNat r) (Nd.set r.toNat (gi Nd r + 1)) := ⟨_, rfl⟩
           have hgo := frL_go (cost := cost) (rec := fr L k goal m (i + 1)) (by omega) (by omega) (by unfold Skp; omega) hmo hn1 hx
           have hxl : x.2.length = L.length := by rw [hx, fr_len, List.length_set]; exact hGl
           have hnb : ∀ y : Int, 0 ≤ y → y < L.length → 0 ≤ gi (Nd.set r.toNat (gi Nd r + 1)) y ∧ gi (Nd.set r.toNat (gi Nd r + 1)) y ≤ i + 1 := nd_set (by omega) (by omega) hb (by omega)
           refine vc_region ?_
           refine oq (qv_mv (Value.pointer (some ⟨ps, 0, none⟩)) rfl) ?_
           refine oq (qv_mv (Value.int .i64 i) rfl) ?_
           refine oq (qv_add rfl rfl (by omega)) ?_
           refine oq (qv_mv (Value.int .i64 cost) rfl) ?_
           refine oq (qv_mv (Value.pointer (some ⟨ps, 0, none⟩)) rfl) ?_
           refine oq (qv_nilck rfl) ?_
           refine oq (qv_fa (off := 0) Try.field86_0 rfl) ?_
           refine oq (qv_ldp (v := l) Try.plain23 rfl (inVc hE.s) rfl) ?_
           refine oq (qv_mv (Value.int .i64 i) rfl) ?_
           refine oq (qv_ia (v := l) (i := i) Try.underlying23 Try.size29 rfl (inV hE.l.sl) rfl (by omega) (by omega)) ?_
           refine oq (qv_ld (v := l) (i := i) Try.plain29 rfl (inV hE.l.sl) (by omega) (by omega)) ?_
           refine oq (qv_mv (Value.int .i64 r) rfl) ?_
           refine oq (qv_iai (v := (gv rv (i))) (i := r) Try.underlying29 Try.size3 rfl (inVi (hE.l.row (i) (by omega) (by omega))) rfl (by omega) (by omega)) ?_
           refine oq (qv_ldi (v := (gv rv (i))) (i := r) Try.plain3 rfl (inVi (hE.l.row (i) (by omega) (by omega))) (by omega) (by omega)) ?_
           refine oq (qv_add rfl rfl (by omega)) ?_
           refine oq (qv_mv (.int .i64 (kinds + 1)) rfl) ?_
           refine ops_call (σa := [(Arr 3 gb ((Gc.set i.toNat r).map (Value.int .i64))), (Arr 3 nb ((Nd.set r.toNat (gi Nd r + 1)).map (Value.int .i64)))]) (σr := []) (by have h := IH m rfl _ (i + 1) (cost + gi (gr L i) r) (kinds + 1) (Gc.set i.toNat r) (Nd.set r.toNat (gi Nd r + 1)) hE (by omega) (by omega) (by omega) (by omega) (by rw [List.length_set]; exact hGl) (by first | exact hNl | (rw [List.length_set]; exact hNl)) hnb; rw [← hx] at h; exact h) rfl rfl (.refl _) (fun r2 V2 sg2 hV2 hp2 => ?_)
           obtain ⟨N2, rfl, rfl, hN2⟩ := hp2
           have hE := hE.mono hV2
           refine ops_nil ?_
           refine vc_if rfl (fun c7 => ?_) (fun c7 => ?_)
           ·
            refine vc_seq ?_
            refine vc_res (σ' := [(Arr 3 gb (x.2.map (Value.int .i64))), (Arr 3 nb (N2.map (Value.int .i64)))]) rfl ?_
            refine vc_region ?_
            refine oq (qv_as (Value.bool true) rfl) ?_
            refine ops_nil ?_
            refine vc_ret ?_
            refine blockQ_ret ?_
            refine blockQ_ret ?_
            refine rq1 (Value.bool true) rfl ?_
            have ez : fr L k goal (m + 1) i cost kinds G Nd = x := by rw [fr_s hpr, hq, hgo, if_pos c7]
            rw [ez]
            exact ⟨N2, congrArg Value.bool (decide_eq_true c7).symm, rfl, fun q => absurd c7 (by rw [q]; exact Bool.false_ne_true)⟩
           ·
            refine vc_skip ?_
            refine vc_seq ?_
            refine vc_res (σ' := [(Arr 3 gb (x.2.map (Value.int .i64))), (Arr 3 nb (N2.map (Value.int .i64)))]) rfl ?_
            have hN3 := hN2 (by cases hx1 : x.1 <;> simp_all)
            have hNr := hnb r (by omega) (by omega)
            rw [← hN3] at hNr
            have hN3l : N2.length = L.length := by rw [hN3, List.length_set]; exact hNl
            refine vc_region ?_
            refine oq (qv_mv (Value.int .i64 r) rfl) ?_
            refine oq (qv_mv (Value.int .i64 i) rfl) ?_
            refine oq (qv_gtr rfl rfl) ?_
            refine ops_nil ?_
            refine vc_if_t rfl g8 ?_
            refine vc_region ?_
            refine oq (qv_mv (Value.pointer (some ⟨ps, 0, none⟩)) rfl) ?_
            refine oq (qv_nilck rfl) ?_
            refine oq (qv_fa (off := 0) Try.field86_4 rfl) ?_
            refine oq (qv_ldp (v := (.slice (some ⟨nb, 0, none⟩) rv.length rv.length)) Try.plain29 rfl (inVc hE.s) rfl) ?_
            refine oq (qv_mv (Value.int .i64 r) rfl) ?_
            refine oq (qv_ia (v := (.slice (some ⟨nb, 0, none⟩) rv.length rv.length)) (i := r) Try.underlying29 Try.size3 rfl (inO (k := 1) rfl (by simp only [List.length_map]; omega) (Nat.le_refl _) (by omega)) rfl (by omega) (by simp only [List.length_map]; omega)) ?_
            refine oq (qv_ldv (u := (.int .i64 (gi N2 (r)))) (v := (.slice (some ⟨nb, 0, none⟩) rv.length rv.length)) (i := r) Try.plain3 rfl (inO (k := 1) rfl (by simp only [List.length_map]; omega) (Nat.le_refl _) (by omega)) (by omega) (by simp only [List.length_map]; omega) (gv_ints (by omega) (by omega))) ?_
            refine oq (qv_sub rfl rfl (by omega)) ?_
            refine oq (qv_ia (v := (.slice (some ⟨nb, 0, none⟩) rv.length rv.length)) (i := r) Try.underlying29 Try.size3 rfl (inO (k := 1) rfl (by simp only [List.length_map]; omega) (Nat.le_refl _) (by omega)) rfl (by omega) (by simp only [List.length_map]; omega)) ?_
            refine ops_ste (k := 1) (b := nb) (n := rv.length) (c := rv.length) (i := r) (cs := (N2.map (Value.int .i64))) Try.size3 rfl (rfl : ev _ _ = (.int .i64 ((gi N2 (r)) - 1))) rfl rfl (by omega) (by simp only [List.length_map]; omega) ?_
            refine ops_nil ?_
            refine vc_res (σ' := [(Arr 3 gb (x.2.map (Value.int .i64))), (Arr 3 nb (((N2.map (Value.int .i64))).set (r).toNat (.int .i64 ((gi N2 (r)) - 1))))]) rfl ?_
            refine vc_region ?_
            refine oq (qv_add rfl rfl (by omega)) ?_
            refine oq (qv_mv (.int .i64 (r + 1)) rfl) ?_
            refine ops_nil ?_
            refine ⟨(r + 1, x.2), ⟨rfl, rfl, rfl, rfl, rfl, rfl, rfl, (congrArg (Value.int .i64) (show (r + 1) = ((r + 1)) from by omega)), trivial⟩, ⟨(show [(Arr 3 gb ((x.2 : List Int).map (Value.int .i64))), (Arr 3 nb (Nd.map (Value.int .i64)))] = [(Arr 3 gb (x.2.map (Value.int .i64))), (Arr 3 nb (((N2.map (Value.int .i64))).set (r).toNat (.int .i64 ((gi N2 (r)) - 1))))] from by first | rfl | (rw [nd_back (by omega) (by omega) hN3]; done) | (rw [hN3]; done)), hE, by omega, by omega, hxl, by rw [hq, hgo, if_neg c7]⟩, by omega⟩
          ·
           refine vc_skip ?_
           refine vc_seq ?_
           refine vc_region ?_
           refine oq (qv_mv (Value.pointer (some ⟨ps, 0, none⟩)) rfl) ?_
           refine oq (qv_nilck rfl) ?_
           refine oq (qv_fa (off := 0) Try.field86_3 rfl) ?_
           refine oq (qv_ldp (v := (.slice (some ⟨gb, 0, none⟩) rv.length rv.length)) Try.plain30 rfl (inVc hE.s) rfl) ?_
           refine oq (qv_mv (Value.int .i64 i) rfl) ?_
           refine oq (qv_mv (Value.int .i64 r) rfl) ?_
           refine oq (qv_ia (v := (.slice (some ⟨gb, 0, none⟩) rv.length rv.length)) (i := i) Try.underlying30 Try.size3 rfl (inO (k := 0) rfl (by simp only [List.length_map]; omega) (Nat.le_refl _) (by omega)) rfl (by omega) (by simp only [List.length_map]; omega)) ?_
           refine ops_ste (k := 0) (b := gb) (n := rv.length) (c := rv.length) (i := i) (cs := (Gc.map (Value.int .i64))) Try.size3 rfl (rfl : ev _ _ = (Value.int .i64 r)) rfl rfl (by omega) (by simp only [List.length_map]; omega) ?_
           refine ops_nil ?_
           refine vc_seq ?_
           refine vc_seq ?_
           refine vc_res (σ' := [(Arr 3 gb (((Gc.map (Value.int .i64))).set (i).toNat (Value.int .i64 r))), (Arr 3 nb (Nd.map (Value.int .i64)))]) rfl ?_
           refine vc_region ?_
           refine oq (qv_mv (Value.int .i64 r) rfl) ?_
           refine oq (qv_mv (Value.int .i64 i) rfl) ?_
           refine oq (qv_gtr rfl rfl) ?_
           refine ops_nil ?_
           refine vc_if_t rfl g8 ?_
           refine vc_region ?_
           refine oq (qv_mv (Value.pointer (some ⟨ps, 0, none⟩)) rfl) ?_
           refine oq (qv_nilck rfl) ?_
           refine oq (qv_fa (off := 0) Try.field86_4 rfl) ?_
           refine oq (qv_ldp (v := (.slice (some ⟨nb, 0, none⟩) rv.length rv.length)) Try.plain29 rfl (inVc hE.s) rfl) ?_
           refine oq (qv_mv (Value.int .i64 r) rfl) ?_
           refine oq (qv_ia (v := (.slice (some ⟨nb, 0, none⟩) rv.length rv.length)) (i := r) Try.underlying29 Try.size3 rfl (inO (k := 1) rfl (by simp only [List.length_map]; omega) (Nat.le_refl _) (by omega)) rfl (by omega) (by simp only [List.length_map]; omega)) ?_
           refine oq (qv_ldv (u := (.int .i64 (gi Nd (r)))) (v := (.slice (some ⟨nb, 0, none⟩) rv.length rv.length)) (i := r) Try.plain3 rfl (inO (k := 1) rfl (by simp only [List.length_map]; omega) (Nat.le_refl _) (by omega)) (by omega) (by simp only [List.length_map]; omega) (gv_ints (by omega) (by omega))) ?_
           refine oq (qv_add rfl rfl (by omega)) ?_
           refine oq (qv_ia (v := (.slice (some ⟨nb, 0, none⟩) rv.length rv.length)) (i := r) Try.underlying29 Try.size3 rfl (inO (k := 1) rfl (by simp only [List.length_map]; omega) (Nat.le_refl _) (by omega)) rfl (by omega) (by simp only [List.length_map]; omega)) ?_
           refine ops_ste (k := 1) (b := nb) (n := rv.length) (c := rv.length) (i := r) (cs := (Nd.map (Value.int .i64))) Try.size3 rfl (rfl : ev _ _ = (.int .i64 ((gi Nd (r)) + 1))) rfl rfl (by omega) (by simp only [List.length_map]; omega) ?_
           refine ops_nil ?_
           refine vc_seq ?_
           refine vc_seq ?_
           refine vc_res (σ' := [(Arr 3 gb (((Gc.map (Value.int .i64))).set (i).toNat (Value.int .i64 r))), (Arr 3 nb (((Nd.map (Value.int .i64))).set (r).toNat (.int .i64 ((gi Nd (r)) + 1))))]) rfl ?_
           refine vc_res (σ' := [(Arr 3 gb ((Gc.set i.toNat r).map (Value.int .i64))), (Arr 3 nb ((Nd.set r.toNat (gi Nd r + 1)).map (Value.int .i64)))]) (by first | rw [mset, mset] | rw [mset]) ?_
           have hmo : (if More Nd i r then kinds + 1 else kinds) = kinds := by
             unfold More
             first | rw [if_pos (by omega)] | rw [if_neg (by omega)]
           have hn1 : (if i < r then Nd.set r.toNat (gi Nd r + 1) else Nd) = (Nd.set r.toNat (gi Nd r + 1)) := by first | exact if_pos (by omega) | exact if_neg (by omega)
           have hel := hE.gd.el i r (by omega) (by omega) (by omega) (by omega)
           have hrow := hE.gd.row i (by omega) (by omega)
           obtain ⟨x, hx⟩ : ∃ x, x = fr L k goal m (i + 1) (cost + gi (gr L i) r) (kinds) (Gc.set i.toNat r) (Nd.set r.toNat (gi Nd r + 1)) := ⟨_, rfl⟩
           have hgo := frL_go (cost := cost) (rec := fr L k goal m (i + 1)) (by omega) (by omega) (by unfold Skp; omega) hmo hn1 hx
           have hxl : x.2.length = L.length := by rw [hx, fr_len, List.length_set]; exact hGl
           have hnb : ∀ y : Int, 0 ≤ y → y < L.length → 0 ≤ gi (Nd.set r.toNat (gi Nd r + 1)) y ∧ gi (Nd.set r.toNat (gi Nd r + 1)) y ≤ i + 1 := nd_set (by omega) (by omega) hb (by omega)
           refine vc_region ?_
           refine oq (qv_mv (Value.pointer (some ⟨ps, 0, none⟩)) rfl) ?_
           refine oq (qv_mv (Value.int .i64 i) rfl) ?_
           refine oq (qv_add rfl rfl (by omega)) ?_
           refine oq (qv_mv (Value.int .i64 cost) rfl) ?_
           refine oq (qv_mv (Value.pointer (some ⟨ps, 0, none⟩)) rfl) ?_
           refine oq (qv_nilck rfl) ?_
           refine oq (qv_fa (off := 0) Try.field86_0 rfl) ?_
           refine oq (qv_ldp (v := l) Try.plain23 rfl (inVc hE.s) rfl) ?_
           refine oq (qv_mv (Value.int .i64 i) rfl) ?_
           refine oq (qv_ia (v := l) (i := i) Try.underlying23 Try.size29 rfl (inV hE.l.sl) rfl (by omega) (by omega)) ?_
           refine oq (qv_ld (v := l) (i := i) Try.plain29 rfl (inV hE.l.sl) (by omega) (by omega)) ?_
           refine oq (qv_mv (Value.int .i64 r) rfl) ?_
           refine oq (qv_iai (v := (gv rv (i))) (i := r) Try.underlying29 Try.size3 rfl (inVi (hE.l.row (i) (by omega) (by omega))) rfl (by omega) (by omega)) ?_
           refine oq (qv_ldi (v := (gv rv (i))) (i := r) Try.plain3 rfl (inVi (hE.l.row (i) (by omega) (by omega))) (by omega) (by omega)) ?_
           refine oq (qv_add rfl rfl (by omega)) ?_
           refine oq (qv_mv (Value.int .i64 kinds) rfl) ?_
           refine ops_call (σa := [(Arr 3 gb ((Gc.set i.toNat r).map (Value.int .i64))), (Arr 3 nb ((Nd.set r.toNat (gi Nd r + 1)).map (Value.int .i64)))]) (σr := []) (by have h := IH m rfl _ (i + 1) (cost + gi (gr L i) r) (kinds) (Gc.set i.toNat r) (Nd.set r.toNat (gi Nd r + 1)) hE (by omega) (by omega) (by omega) (by omega) (by rw [List.length_set]; exact hGl) (by first | exact hNl | (rw [List.length_set]; exact hNl)) hnb; rw [← hx] at h; exact h) rfl rfl (.refl _) (fun r3 V3 sg3 hV3 hp3 => ?_)
           obtain ⟨N2, rfl, rfl, hN2⟩ := hp3
           have hE := hE.mono hV3
           refine ops_nil ?_
           refine vc_if rfl (fun c8 => ?_) (fun c8 => ?_)
           ·
            refine vc_seq ?_
            refine vc_res (σ' := [(Arr 3 gb (x.2.map (Value.int .i64))), (Arr 3 nb (N2.map (Value.int .i64)))]) rfl ?_
            refine vc_region ?_
            refine oq (qv_as (Value.bool true) rfl) ?_
            refine ops_nil ?_
            refine vc_ret ?_
            refine blockQ_ret ?_
            refine blockQ_ret ?_
            refine rq1 (Value.bool true) rfl ?_
            have ez : fr L k goal (m + 1) i cost kinds G Nd = x := by rw [fr_s hpr, hq, hgo, if_pos c8]
            rw [ez]
            exact ⟨N2, congrArg Value.bool (decide_eq_true c8).symm, rfl, fun q => absurd c8 (by rw [q]; exact Bool.false_ne_true)⟩
           ·
            refine vc_skip ?_
            refine vc_seq ?_
            refine vc_res (σ' := [(Arr 3 gb (x.2.map (Value.int .i64))), (Arr 3 nb (N2.map (Value.int .i64)))]) rfl ?_
            have hN3 := hN2 (by cases hx1 : x.1 <;> simp_all)
            have hNr := hnb r (by omega) (by omega)
            rw [← hN3] at hNr
            have hN3l : N2.length = L.length := by rw [hN3, List.length_set]; exact hNl
            refine vc_region ?_
            refine oq (qv_mv (Value.int .i64 r) rfl) ?_
            refine oq (qv_mv (Value.int .i64 i) rfl) ?_
            refine oq (qv_gtr rfl rfl) ?_
            refine ops_nil ?_
            refine vc_if_t rfl g8 ?_
            refine vc_region ?_
            refine oq (qv_mv (Value.pointer (some ⟨ps, 0, none⟩)) rfl) ?_
            refine oq (qv_nilck rfl) ?_
            refine oq (qv_fa (off := 0) Try.field86_4 rfl) ?_
            refine oq (qv_ldp (v := (.slice (some ⟨nb, 0, none⟩) rv.length rv.length)) Try.plain29 rfl (inVc hE.s) rfl) ?_
            refine oq (qv_mv (Value.int .i64 r) rfl) ?_
            refine oq (qv_ia (v := (.slice (some ⟨nb, 0, none⟩) rv.length rv.length)) (i := r) Try.underlying29 Try.size3 rfl (inO (k := 1) rfl (by simp only [List.length_map]; omega) (Nat.le_refl _) (by omega)) rfl (by omega) (by simp only [List.length_map]; omega)) ?_
            refine oq (qv_ldv (u := (.int .i64 (gi N2 (r)))) (v := (.slice (some ⟨nb, 0, none⟩) rv.length rv.length)) (i := r) Try.plain3 rfl (inO (k := 1) rfl (by simp only [List.length_map]; omega) (Nat.le_refl _) (by omega)) (by omega) (by simp only [List.length_map]; omega) (gv_ints (by omega) (by omega))) ?_
            refine oq (qv_sub rfl rfl (by omega)) ?_
            refine oq (qv_ia (v := (.slice (some ⟨nb, 0, none⟩) rv.length rv.length)) (i := r) Try.underlying29 Try.size3 rfl (inO (k := 1) rfl (by simp only [List.length_map]; omega) (Nat.le_refl _) (by omega)) rfl (by omega) (by simp only [List.length_map]; omega)) ?_
            refine ops_ste (k := 1) (b := nb) (n := rv.length) (c := rv.length) (i := r) (cs := (N2.map (Value.int .i64))) Try.size3 rfl (rfl : ev _ _ = (.int .i64 ((gi N2 (r)) - 1))) rfl rfl (by omega) (by simp only [List.length_map]; omega) ?_
            refine ops_nil ?_
            refine vc_res (σ' := [(Arr 3 gb (x.2.map (Value.int .i64))), (Arr 3 nb (((N2.map (Value.int .i64))).set (r).toNat (.int .i64 ((gi N2 (r)) - 1))))]) rfl ?_
            refine vc_region ?_
            refine oq (qv_add rfl rfl (by omega)) ?_
            refine oq (qv_mv (.int .i64 (r + 1)) rfl) ?_
            refine ops_nil ?_
            refine ⟨(r + 1, x.2), ⟨rfl, rfl, rfl, rfl, rfl, rfl, rfl, (congrArg (Value.int .i64) (show (r + 1) = ((r + 1)) from by omega)), trivial⟩, ⟨(show [(Arr 3 gb ((x.2 : List Int).map (Value.int .i64))), (Arr 3 nb (Nd.map (Value.int .i64)))] = [(Arr 3 gb (x.2.map (Value.int .i64))), (Arr 3 nb (((N2.map (Value.int .i64))).set (r).toNat (.int .i64 ((gi N2 (r)) - 1))))] from by first | rfl | (rw [nd_back (by omega) (by omega) hN3]; done) | (rw [hN3]; done)), hE, by omega, by omega, hxl, by rw [hq, hgo, if_neg c8]⟩, by omega⟩
         ·
          omega
     ·
      refine os (want_tn g2 rfl rfl rfl) ?_
      refine os (want_tn g2 rfl rfl rfl) ?_
      refine os (want_tn g2 rfl rfl rfl) ?_
      refine os (want_tn g2 rfl rfl rfl) ?_
      refine os (want_tn g2 rfl rfl rfl) ?_
      refine os (want_tn g2 rfl rfl rfl) ?_
      refine os (want_tn g2 rfl rfl rfl) ?_
      refine os (want_tn g2 rfl rfl rfl) ?_
      refine oq (qv_pick_f g2 rfl (rfl : ev _ _ = (Value.bool false))) ?_
      refine oq (qv_mv (Value.bool false) rfl) ?_
      refine og (qv_mv (Value.int .i64 r) rfl) (want_fc rfl rfl rfl) ?_
      refine og (qv_mv (Value.int .i64 i) rfl) (want_fc rfl rfl rfl) ?_
      refine og (qv_lss rfl rfl) (want_fc rfl rfl rfl) ?_
      refine og (qv_mv (.bool (decide (r < i))) rfl) (want_fc rfl rfl rfl) ?_
      by_cases g9 : r < i
      ·
       omega
      ·
       refine os (want_tn g9 rfl rfl rfl) ?_
       refine os (want_tn g9 rfl rfl rfl) ?_
       refine os (want_tn g9 rfl rfl rfl) ?_
       refine os (want_tn g9 rfl rfl rfl) ?_
       refine os (want_tn g9 rfl rfl rfl) ?_
       refine os (want_tn g9 rfl rfl rfl) ?_
       refine os (want_tn g9 rfl rfl rfl) ?_
       refine os (want_tn g9 rfl rfl rfl) ?_
       refine os (want_tn g9 rfl rfl rfl) ?_
       refine og (qv_pick_f g9 rfl (rfl : ev _ _ = (Value.bool false))) (want_fc rfl rfl rfl) ?_
       refine oq (qv_pick_fc rfl (rfl : ev _ _ = (Value.bool false))) ?_
       refine ops_nil ?_
       refine vc_ff rfl ?_
       refine vc_skip ?_
       refine vc_seq ?_
       refine vc_region ?_
       refine oq (qv_mv (Value.int .i64 kinds) rfl) ?_
       refine oq (qv_as (Value.int .i64 kinds) rfl) ?_
       refine ops_nil ?_
       refine vc_seq ?_
       refine vc_seq ?_
       refine vc_region ?_
       refine oq (qv_mv (Value.int .i64 r) rfl) ?_
       refine oq (qv_mv (Value.int .i64 i) rfl) ?_
       refine oq (qv_eql rfl rfl) ?_
       refine oq (qv_mv (.bool (decide (r = i))) rfl) ?_
       by_cases g10 : r = i
       ·
        refine og (qv_mv (Value.pointer (some ⟨ps, 0, none⟩)) rfl) (want_t g10 rfl rfl rfl) ?_
        refine og (qv_nilck rfl) (want_t g10 rfl rfl rfl) ?_
        refine og (qv_fa (off := 0) Try.field86_4 rfl) (want_t g10 rfl rfl rfl) ?_
        refine og (qv_ldp (v := (.slice (some ⟨nb, 0, none⟩) rv.length rv.length)) Try.plain29 rfl (inVc hE.s) rfl) (want_t g10 rfl rfl rfl) ?_
        refine og (qv_mv (Value.int .i64 i) rfl) (want_t g10 rfl rfl rfl) ?_
        refine og (qv_ia (v := (.slice (some ⟨nb, 0, none⟩) rv.length rv.length)) (i := i) Try.underlying29 Try.size3 rfl (inO (k := 1) rfl (by simp only [List.length_map]; omega) (Nat.le_refl _) (by omega)) rfl (by omega) (by simp only [List.length_map]; omega)) (want_t g10 rfl rfl rfl) ?_
        refine og (qv_ldv (u := (.int .i64 (gi Nd (i)))) (v := (.slice (some ⟨nb, 0, none⟩) rv.length rv.length)) (i := i) Try.plain3 rfl (inO (k := 1) rfl (by simp only [List.length_map]; omega) (Nat.le_refl _) (by omega)) (by omega) (by simp only [List.length_map]; omega) (gv_ints (by omega) (by omega))) (want_t g10 rfl rfl rfl) ?_
        refine og (qv_eql rfl rfl) (want_t g10 rfl rfl rfl) ?_
        refine oq (qv_pick_t g10 rfl (rfl : ev _ _ = (.bool (decide ((gi Nd (i)) = 0))))) ?_
        refine oq (qv_mv (.bool (decide ((gi Nd (i)) = 0))) rfl) ?_
        by_cases g11 : (gi Nd (i)) = 0
        ·
         refine os (want_fn g11 rfl rfl rfl) ?_
         refine os (want_fn g11 rfl rfl rfl) ?_
         refine os (want_fn g11 rfl rfl rfl) ?_
         refine os (want_fn g11 rfl rfl rfl) ?_
         refine os (want_u rfl rfl rfl) ?_
         refine os (want_u rfl rfl rfl) ?_
         refine os (want_u rfl rfl rfl) ?_
         refine os (want_u rfl rfl rfl) ?_
         refine os (want_u rfl rfl rfl) ?_
         refine os (want_u rfl rfl rfl) ?_
         refine os (want_u rfl rfl rfl) ?_
         refine os (want_u rfl rfl rfl) ?_
         refine os (want_fn g11 rfl rfl rfl) ?_
         refine oq (qv_pick_t g11 rfl (rfl : ev _ _ = (Value.bool true))) ?_
         refine ops_nil ?_
         refine vc_tt rfl ?_
         refine vc_region ?_
         refine oq (qv_mv (Value.int .i64 kinds) rfl) ?_
         refine oq (qv_add rfl rfl (by omega)) ?_
         refine oq (qv_as (.int .i64 (kinds + 1)) rfl) ?_
         refine ops_nil ?_
         refine vc_seq ?_
         refine vc_region ?_
         refine oq (qv_mv (Value.pointer (some ⟨ps, 0, none⟩)) rfl) ?_
         refine oq (qv_nilck rfl) ?_
         refine oq (qv_fa (off := 0) Try.field86_3 rfl) ?_
         refine oq (qv_ldp (v := (.slice (some ⟨gb, 0, none⟩) rv.length rv.length)) Try.plain30 rfl (inVc hE.s) rfl) ?_
         refine oq (qv_mv (Value.int .i64 i) rfl) ?_
         refine oq (qv_mv (Value.int .i64 r) rfl) ?_
         refine oq (qv_ia (v := (.slice (some ⟨gb, 0, none⟩) rv.length rv.length)) (i := i) Try.underlying30 Try.size3 rfl (inO (k := 0) rfl (by simp only [List.length_map]; omega) (Nat.le_refl _) (by omega)) rfl (by omega) (by simp only [List.length_map]; omega)) ?_
         refine ops_ste (k := 0) (b := gb) (n := rv.length) (c := rv.length) (i := i) (cs := (Gc.map (Value.int .i64))) Try.size3 rfl (rfl : ev _ _ = (Value.int .i64 r)) rfl rfl (by omega) (by simp only [List.length_map]; omega) ?_
         refine ops_nil ?_
         refine vc_seq ?_
         refine vc_seq ?_
         refine vc_res (σ' := [(Arr 3 gb (((Gc.map (Value.int .i64))).set (i).toNat (Value.int .i64 r))), (Arr 3 nb (Nd.map (Value.int .i64)))]) rfl ?_
         refine vc_region ?_
         refine oq (qv_mv (Value.int .i64 r) rfl) ?_
         refine oq (qv_mv (Value.int .i64 i) rfl) ?_
         refine oq (qv_gtr rfl rfl) ?_
         refine ops_nil ?_
         refine vc_if rfl (fun c9 => ?_) (fun c9 => ?_)
         ·
          omega
         ·
          refine vc_skip ?_
          refine vc_seq ?_
          refine vc_seq ?_
          refine vc_res (σ' := [(Arr 3 gb ((Gc.set i.toNat r).map (Value.int .i64))), (Arr 3 nb (Nd.map (Value.int .i64)))]) (by first | rw [mset, mset] | rw [mset]) ?_
          have hmo : (if More Nd i r then kinds + 1 else kinds) = kinds + 1 := by
            unfold More
            first | rw [if_pos (by omega)] | rw [if_neg (by omega)]
          have hn1 : (if i < r then Nd.set r.toNat (gi Nd r + 1) else Nd) = Nd := by first | exact if_pos (by omega) | exact if_neg (by omega)
          have hel := hE.gd.el i r (by omega) (by omega) (by omega) (by omega)
          have hrow := hE.gd.row i (by omega) (by omega)
          obtain ⟨x, hx⟩ : ∃ x, x = fr L k goal m (i + 1) (cost + gi (gr L i) r) (kinds + 1) (Gc.set i.toNat r) Nd := ⟨_, rfl⟩
          have hgo := frL_go (cost := cost) (rec := fr L k goal m (i + 1)) (by omega) (by omega) (by unfold Skp; omega) hmo hn1 hx
          have hxl : x.2.length = L.length := by rw [hx, fr_len, List.length_set]; exact hGl
          have hnb : ∀ y : Int, 0 ≤ y → y < L.length → 0 ≤ gi Nd y ∧ gi Nd y ≤ i + 1 := nd_keep hb
          refine vc_region ?_
          refine oq (qv_mv (Value.pointer (some ⟨ps, 0, none⟩)) rfl) ?_
          refine oq (qv_mv (Value.int .i64 i) rfl) ?_
          refine oq (qv_add rfl rfl (by omega)) ?_
          refine oq (qv_mv (Value.int .i64 cost) rfl) ?_
          refine oq (qv_mv (Value.pointer (some ⟨ps, 0, none⟩)) rfl) ?_
          refine oq (qv_nilck rfl) ?_
          refine oq (qv_fa (off := 0) Try.field86_0 rfl) ?_
          refine oq (qv_ldp (v := l) Try.plain23 rfl (inVc hE.s) rfl) ?_
          refine oq (qv_mv (Value.int .i64 i) rfl) ?_
          refine oq (qv_ia (v := l) (i := i) Try.underlying23 Try.size29 rfl (inV hE.l.sl) rfl (by omega) (by omega)) ?_
          refine oq (qv_ld (v := l) (i := i) Try.plain29 rfl (inV hE.l.sl) (by omega) (by omega)) ?_
          refine oq (qv_mv (Value.int .i64 r) rfl) ?_
          refine oq (qv_iai (v := (gv rv (i))) (i := r) Try.underlying29 Try.size3 rfl (inVi (hE.l.row (i) (by omega) (by omega))) rfl (by omega) (by omega)) ?_
          refine oq (qv_ldi (v := (gv rv (i))) (i := r) Try.plain3 rfl (inVi (hE.l.row (i) (by omega) (by omega))) (by omega) (by omega)) ?_
          refine oq (qv_add rfl rfl (by omega)) ?_
          refine oq (qv_mv (.int .i64 (kinds + 1)) rfl) ?_
          refine ops_call (σa := [(Arr 3 gb ((Gc.set i.toNat r).map (Value.int .i64))), (Arr 3 nb (Nd.map (Value.int .i64)))]) (σr := []) (by have h := IH m rfl _ (i + 1) (cost + gi (gr L i) r) (kinds + 1) (Gc.set i.toNat r) Nd hE (by omega) (by omega) (by omega) (by omega) (by rw [List.length_set]; exact hGl) (by first | exact hNl | (rw [List.length_set]; exact hNl)) hnb; rw [← hx] at h; exact h) rfl rfl (.refl _) (fun r4 V4 sg4 hV4 hp4 => ?_)
          obtain ⟨N2, rfl, rfl, hN2⟩ := hp4
          have hE := hE.mono hV4
          refine ops_nil ?_
          refine vc_if rfl (fun c10 => ?_) (fun c10 => ?_)
          ·
           refine vc_seq ?_
           refine vc_res (σ' := [(Arr 3 gb (x.2.map (Value.int .i64))), (Arr 3 nb (N2.map (Value.int .i64)))]) rfl ?_
           refine vc_region ?_
           refine oq (qv_as (Value.bool true) rfl) ?_
           refine ops_nil ?_
           refine vc_ret ?_
           refine blockQ_ret ?_
           refine blockQ_ret ?_
           refine rq1 (Value.bool true) rfl ?_
           have ez : fr L k goal (m + 1) i cost kinds G Nd = x := by rw [fr_s hpr, hq, hgo, if_pos c10]
           rw [ez]
           exact ⟨N2, congrArg Value.bool (decide_eq_true c10).symm, rfl, fun q => absurd c10 (by rw [q]; exact Bool.false_ne_true)⟩
          ·
           refine vc_skip ?_
           refine vc_seq ?_
           refine vc_res (σ' := [(Arr 3 gb (x.2.map (Value.int .i64))), (Arr 3 nb (N2.map (Value.int .i64)))]) rfl ?_
           have hN3 := hN2 (by cases hx1 : x.1 <;> simp_all)
           refine vc_region ?_
           refine oq (qv_mv (Value.int .i64 r) rfl) ?_
           refine oq (qv_mv (Value.int .i64 i) rfl) ?_
           refine oq (qv_gtr rfl rfl) ?_
           refine ops_nil ?_
           refine vc_if_f rfl c9 ?_
           refine vc_skip ?_
           refine vc_region ?_
           refine oq (qv_add rfl rfl (by omega)) ?_
           refine oq (qv_mv (.int .i64 (r + 1)) rfl) ?_
           refine ops_nil ?_
           refine ⟨(r + 1, x.2), ⟨rfl, rfl, rfl, rfl, rfl, rfl, rfl, (congrArg (Value.int .i64) (show (r + 1) = ((r + 1)) from by omega)), trivial⟩, ⟨(show [(Arr 3 gb ((x.2 : List Int).map (Value.int .i64))), (Arr 3 nb (Nd.map (Value.int .i64)))] = [(Arr 3 gb (x.2.map (Value.int .i64))), (Arr 3 nb (N2.map (Value.int .i64)))] from by first | rfl | (rw [nd_back (by omega) (by omega) hN3]; done) | (rw [hN3]; done)), hE, by omega, by omega, hxl, by rw [hq, hgo, if_neg c10]⟩, by omega⟩
        ·
         refine og (qv_mv (Value.int .i64 r) rfl) (want_f g11 rfl rfl rfl) ?_
         refine og (qv_mv (Value.int .i64 i) rfl) (want_f g11 rfl rfl rfl) ?_
         refine og (qv_gtr rfl rfl) (want_f g11 rfl rfl rfl) ?_
         refine og (qv_mv (.bool (decide (i < r))) rfl) (want_f g11 rfl rfl rfl) ?_
         by_cases g12 : i < r
         ·
          omega
         ·
          refine os (want_tn g12 rfl rfl rfl) ?_
          refine os (want_tn g12 rfl rfl rfl) ?_
          refine os (want_tn g12 rfl rfl rfl) ?_
          refine os (want_tn g12 rfl rfl rfl) ?_
          refine os (want_tn g12 rfl rfl rfl) ?_
          refine os (want_tn g12 rfl rfl rfl) ?_
          refine os (want_tn g12 rfl rfl rfl) ?_
          refine os (want_tn g12 rfl rfl rfl) ?_
          refine og (qv_pick_f g12 rfl (rfl : ev _ _ = (Value.bool false))) (want_f g11 rfl rfl rfl) ?_
          refine oq (qv_pick_f g11 rfl (rfl : ev _ _ = (Value.bool false))) ?_
          refine ops_nil ?_
          refine vc_ff rfl ?_
          refine vc_skip ?_
          refine vc_seq ?_
          refine vc_region ?_
          refine oq (qv_mv (Value.pointer (some ⟨ps, 0, none⟩)) rfl) ?_
          refine oq (qv_nilck rfl) ?_
          refine oq (qv_fa (off := 0) Try.field86_3 rfl) ?_
          refine oq (qv_ldp (v := (.slice (some ⟨gb, 0, none⟩) rv.length rv.length)) Try.plain30 rfl (inVc hE.s) rfl) ?_
          refine oq (qv_mv (Value.int .i64 i) rfl) ?_
          refine oq (qv_mv (Value.int .i64 r) rfl) ?_
          refine oq (qv_ia (v := (.slice (some ⟨gb, 0, none⟩) rv.length rv.length)) (i := i) Try.underlying30 Try.size3 rfl (inO (k := 0) rfl (by simp only [List.length_map]; omega) (Nat.le_refl _) (by omega)) rfl (by omega) (by simp only [List.length_map]; omega)) ?_
          refine ops_ste (k := 0) (b := gb) (n := rv.length) (c := rv.length) (i := i) (cs := (Gc.map (Value.int .i64))) Try.size3 rfl (rfl : ev _ _ = (Value.int .i64 r)) rfl rfl (by omega) (by simp only [List.length_map]; omega) ?_
          refine ops_nil ?_
          refine vc_seq ?_
          refine vc_seq ?_
          refine vc_res (σ' := [(Arr 3 gb (((Gc.map (Value.int .i64))).set (i).toNat (Value.int .i64 r))), (Arr 3 nb (Nd.map (Value.int .i64)))]) rfl ?_
          refine vc_region ?_
          refine oq (qv_mv (Value.int .i64 r) rfl) ?_
          refine oq (qv_mv (Value.int .i64 i) rfl) ?_
          refine oq (qv_gtr rfl rfl) ?_
          refine ops_nil ?_
          refine vc_if_f rfl g12 ?_
          refine vc_skip ?_
          refine vc_seq ?_
          refine vc_seq ?_
          refine vc_res (σ' := [(Arr 3 gb ((Gc.set i.toNat r).map (Value.int .i64))), (Arr 3 nb (Nd.map (Value.int .i64)))]) (by first | rw [mset, mset] | rw [mset]) ?_
          have hmo : (if More Nd i r then kinds + 1 else kinds) = kinds := by
            unfold More
            first | rw [if_pos (by omega)] | rw [if_neg (by omega)]
          have hn1 : (if i < r then Nd.set r.toNat (gi Nd r + 1) else Nd) = Nd := by first | exact if_pos (by omega) | exact if_neg (by omega)
          have hel := hE.gd.el i r (by omega) (by omega) (by omega) (by omega)
          have hrow := hE.gd.row i (by omega) (by omega)
          obtain ⟨x, hx⟩ : ∃ x, x = fr L k goal m (i + 1) (cost + gi (gr L i) r) (kinds) (Gc.set i.toNat r) Nd := ⟨_, rfl⟩
          have hgo := frL_go (cost := cost) (rec := fr L k goal m (i + 1)) (by omega) (by omega) (by unfold Skp; omega) hmo hn1 hx
          have hxl : x.2.length = L.length := by rw [hx, fr_len, List.length_set]; exact hGl
          have hnb : ∀ y : Int, 0 ≤ y → y < L.length → 0 ≤ gi Nd y ∧ gi Nd y ≤ i + 1 := nd_keep hb
          refine vc_region ?_
          refine oq (qv_mv (Value.pointer (some ⟨ps, 0, none⟩)) rfl) ?_
          refine oq (qv_mv (Value.int .i64 i) rfl) ?_
          refine oq (qv_add rfl rfl (by omega)) ?_
          refine oq (qv_mv (Value.int .i64 cost) rfl) ?_
          refine oq (qv_mv (Value.pointer (some ⟨ps, 0, none⟩)) rfl) ?_
          refine oq (qv_nilck rfl) ?_
          refine oq (qv_fa (off := 0) Try.field86_0 rfl) ?_
          refine oq (qv_ldp (v := l) Try.plain23 rfl (inVc hE.s) rfl) ?_
          refine oq (qv_mv (Value.int .i64 i) rfl) ?_
          refine oq (qv_ia (v := l) (i := i) Try.underlying23 Try.size29 rfl (inV hE.l.sl) rfl (by omega) (by omega)) ?_
          refine oq (qv_ld (v := l) (i := i) Try.plain29 rfl (inV hE.l.sl) (by omega) (by omega)) ?_
          refine oq (qv_mv (Value.int .i64 r) rfl) ?_
          refine oq (qv_iai (v := (gv rv (i))) (i := r) Try.underlying29 Try.size3 rfl (inVi (hE.l.row (i) (by omega) (by omega))) rfl (by omega) (by omega)) ?_
          refine oq (qv_ldi (v := (gv rv (i))) (i := r) Try.plain3 rfl (inVi (hE.l.row (i) (by omega) (by omega))) (by omega) (by omega)) ?_
          refine oq (qv_add rfl rfl (by omega)) ?_
          refine oq (qv_mv (Value.int .i64 kinds) rfl) ?_
          refine ops_call (σa := [(Arr 3 gb ((Gc.set i.toNat r).map (Value.int .i64))), (Arr 3 nb (Nd.map (Value.int .i64)))]) (σr := []) (by have h := IH m rfl _ (i + 1) (cost + gi (gr L i) r) (kinds) (Gc.set i.toNat r) Nd hE (by omega) (by omega) (by omega) (by omega) (by rw [List.length_set]; exact hGl) (by first | exact hNl | (rw [List.length_set]; exact hNl)) hnb; rw [← hx] at h; exact h) rfl rfl (.refl _) (fun r5 V5 sg5 hV5 hp5 => ?_)
          obtain ⟨N2, rfl, rfl, hN2⟩ := hp5
          have hE := hE.mono hV5
          refine ops_nil ?_
          refine vc_if rfl (fun c11 => ?_) (fun c11 => ?_)
          ·
           refine vc_seq ?_
           refine vc_res (σ' := [(Arr 3 gb (x.2.map (Value.int .i64))), (Arr 3 nb (N2.map (Value.int .i64)))]) rfl ?_
           refine vc_region ?_
           refine oq (qv_as (Value.bool true) rfl) ?_
           refine ops_nil ?_
           refine vc_ret ?_
           refine blockQ_ret ?_
           refine blockQ_ret ?_
           refine rq1 (Value.bool true) rfl ?_
           have ez : fr L k goal (m + 1) i cost kinds G Nd = x := by rw [fr_s hpr, hq, hgo, if_pos c11]
           rw [ez]
           exact ⟨N2, congrArg Value.bool (decide_eq_true c11).symm, rfl, fun q => absurd c11 (by rw [q]; exact Bool.false_ne_true)⟩
          ·
           refine vc_skip ?_
           refine vc_seq ?_
           refine vc_res (σ' := [(Arr 3 gb (x.2.map (Value.int .i64))), (Arr 3 nb (N2.map (Value.int .i64)))]) rfl ?_
           have hN3 := hN2 (by cases hx1 : x.1 <;> simp_all)
           refine vc_region ?_
           refine oq (qv_mv (Value.int .i64 r) rfl) ?_
           refine oq (qv_mv (Value.int .i64 i) rfl) ?_
           refine oq (qv_gtr rfl rfl) ?_
           refine ops_nil ?_
           refine vc_if_f rfl g12 ?_
           refine vc_skip ?_
           refine vc_region ?_
           refine oq (qv_add rfl rfl (by omega)) ?_
           refine oq (qv_mv (.int .i64 (r + 1)) rfl) ?_
           refine ops_nil ?_
           refine ⟨(r + 1, x.2), ⟨rfl, rfl, rfl, rfl, rfl, rfl, rfl, (congrArg (Value.int .i64) (show (r + 1) = ((r + 1)) from by omega)), trivial⟩, ⟨(show [(Arr 3 gb ((x.2 : List Int).map (Value.int .i64))), (Arr 3 nb (Nd.map (Value.int .i64)))] = [(Arr 3 gb (x.2.map (Value.int .i64))), (Arr 3 nb (N2.map (Value.int .i64)))] from by first | rfl | (rw [nd_back (by omega) (by omega) hN3]; done) | (rw [hN3]; done)), hE, by omega, by omega, hxl, by rw [hq, hgo, if_neg c11]⟩, by omega⟩
       ·
        omega
    ·
     refine vc_exit ?_
     refine blockQ_hit ?_
     refine vc_seq ?_
     refine vc_region ?_
     refine oq (qv_as (Value.bool false) rfl) ?_
     refine ops_nil ?_
     refine vc_ret ?_
     refine rq1 (Value.bool false) rfl ?_
     have ez : fr L k goal (m + 1) i cost kinds G Nd = (false, Gc) := by rw [fr_s hpr, hq, frL_end (by omega)]
     rw [ez]
     exact ⟨Nd, rfl, rfl, fun _ => rfl⟩

theorem from_c {l : Value} {rv : List Value} {L : List (List Int)} {k goal : Int} {ps gb nb : Nat} : ∀ m, FrC l rv L k goal ps gb nb m
  | 0 => fun V i cost kinds G Nd hE h0 him hc hk hG hN hb => from_step (fun q e => by omega) hE h0 him hc hk hG hN hb
  | m + 1 => fun V i cost kinds G Nd hE h0 him hc hk hG hN hb => from_step (fun q e => (show q = m by omega) ▸ from_c m) hE h0 him hc hk hG hN hb
end Go.Proofs.Ytmkbjhligjnagaa
