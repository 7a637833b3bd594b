/- Walks of merge: what each function returns. Printed by a program out of notes. -/
import Derived.Test.YtmkbjhligjnagaaMiB
namespace Go.Proofs.Ytmkbjhligjnagaa
open Go Go.Vc
open Classical
set_option maxRecDepth 100000
theorem k2_key : KeyT Try.prog 67 k2v := KeyT.arr Try.underlying67 Try.underlying3 Try.ti3 kl2 (fun _ => rfl) fun a b h => by
  simp [kl2] at h
  exact Prod.ext h.1 h.2

set_option maxRecDepth 100000 in
set_option maxHeartbeats 4000000 in
theorem pa1_c {V : HV} {x : Be} {L : List (List Int)} {C : List Int} {Dm : Int × Int → Option Int} {cv : Value} {pb po pc pk bm : Nat} (hb : Cells V pb [.int .i64 x.s, .int .i64 x.j, .int .i64 x.v]) (hc : Cells V pc [cv]) (hC : Ints .i64 V cv C) (hk : Cells V pk [.map (some bm)]) (gd : Good L) (hS : StL L C) (h0 : 1 ≤ x.s) (h1 : x.s < 64) (h2 : x.s < 2 ^ L.length) (hj : 1 ≤ x.j ∧ x.j ≤ 32) (hD : ∀ k w, Dm k = some w → 0 ≤ w ∧ w ≤ 1152921504606846976) {p : Prop} {g : Int} (g0 : 1 ≤ g) (g1 : g ≤ x.s) :
    FnC Try.prog 46 [(Value.int .i64 g), (Value.pointer (some ⟨pb, 0, none⟩)), (Value.pointer (some ⟨po, 0, none⟩)), (Value.pointer (some ⟨pc, 0, none⟩)), (Value.pointer (some ⟨pk, 0, none⟩))] V [(Arr 4 po [(.bool (decide (p)))]), (Mf bm k2v (Value.int .i64) Dm)] (fun v _ σ' => v = .tuple #[] ∧ σ' = [Arr 4 po [.bool (decide (p ∧ cnd Dm L x g))], Mf bm k2v (Value.int .i64) Dm]) := by
 refine fn_intro (N := 55) Try.func46 (by kernel_rfl) rfl rfl rfl (Nat.le_of_ble_eq_true rfl) ?_
 intro w0 D
 have hcb := cost_bd gd hS g0 (by omega)
 have hgd := get_bd (k := (x.j - 1, aniV x.s g)) hD
 have hcl := hS.1
 have hcb1 := hcb.2
 refine vc_block ?_
 refine vc_seq ?_
 refine vc_res (σ' := [(Arr 4 po [(.bool (decide (p)))]), (Mf bm k2v (Value.int .i64) Dm)]) rfl ?_
 refine vc_region ?_
 refine oq (qv_mv (Value.int .i64 g) rfl) ?_
 refine oq (qv_fa (off := 0) Try.field66_0 rfl) ?_
 refine oq (qv_ldp (v := (.int .i64 x.s)) Try.plain3 rfl (inVc hb) rfl) ?_
 refine oq (qv_eql rfl rfl) ?_
 refine oq (qv_as (.bool (decide (g = x.s))) rfl) ?_
 refine ops_nil ?_
 refine vc_if rfl (fun c1 => ?_) (fun c1 => ?_)
 ·
  refine vc_region_order (τ := []) [(0, false), (1, false), (2, false), (3, false), (4, false), (5, false), (6, false), (7, false), (8, false), (9, false), (10, true)] [(Arr 4 po [(.bool (decide (p)))]), (Mf bm k2v (Value.int .i64) Dm)] Try.mixed (perm_nil _) (by kernel_rfl) ?_
  refine rq rfl (qv_ldp (v := (.bool (decide (p)))) Try.plain4 rfl (inOc (k := 0) rfl) rfl) ?_
  refine rq rfl (qv_mv (.bool (decide (p))) rfl) ?_
  by_cases g1 : p
  ·
   refine re rfl (qv_fa (off := 0) Try.field66_2 rfl) (want_t g1 rfl rfl rfl) ?_
   refine re rfl (qv_ldp (v := (.int .i64 x.v)) Try.plain3 rfl (inVc hb) rfl) (want_t g1 rfl rfl rfl) ?_
   refine re rfl (qv_ldp (v := cv) Try.plain29 rfl (inVc hc) rfl) (want_t g1 rfl rfl rfl) ?_
   refine re rfl (qv_mv (Value.int .i64 g) rfl) (want_t g1 rfl rfl rfl) ?_
   refine re rfl (qv_iai (v := cv) (i := g) Try.underlying29 Try.size3 rfl (inVi hC) rfl (by omega) (by omega)) (want_t g1 rfl rfl rfl) ?_
   refine re rfl (qv_ldi (v := cv) (i := g) Try.plain3 rfl (inVi hC) (by omega) (by omega)) (want_t g1 rfl rfl rfl) ?_
   refine re rfl (qv_leq rfl rfl) (want_t g1 rfl rfl rfl) ?_
   refine rq rfl (qv_pick_t g1 rfl (rfl : ev _ _ = (.bool (decide (x.v ≤ (gi C (g))))))) ?_
   refine rl1 (by kernel_rfl) rfl ?_
   refine ops_stp (k := 0) (off := 0) (cs := [(.bool (decide (p)))]) Try.size4 rfl (rfl : ev _ _ = (.bool (decide (x.v ≤ (gi C (g)))))) rfl rfl (Nat.le_of_ble_eq_true rfl) ?_
   refine ops_nil ⟨[(Arr 4 po [(.bool (decide (x.v ≤ (gi C (g)))))]), (Mf bm k2v (Value.int .i64) Dm)], [], perm_nil _, ?_⟩
   refine rnil ?_
   refine ret0 ?_
   exact ⟨rfl, congrArg (fun z => [Arr 4 po [Value.bool z], Mf bm k2v (Value.int .i64) Dm]) (decide_eq_decide.2 (show (x.v ≤ (gi C (g))) ↔ (p ∧ cnd Dm L x g) from by first | exact cn0 (by assumption) (by assumption) | exact cn1 (by assumption) hcb.1 (by assumption) | exact cn2 (by assumption) (by assumption) hcb.1 (by assumption) (by assumption)))⟩
  ·
   refine rs rfl (want_tn g1 rfl rfl rfl) ?_
   refine rs rfl (want_tn g1 rfl rfl rfl) ?_
   refine rs rfl (want_tn g1 rfl rfl rfl) ?_
   refine rs rfl (want_tn g1 rfl rfl rfl) ?_
   refine rs rfl (want_tn g1 rfl rfl rfl) ?_
   refine rs rfl (want_tn g1 rfl rfl rfl) ?_
   refine rs rfl (want_tn g1 rfl rfl rfl) ?_
   refine rq rfl (qv_pick_f g1 rfl (rfl : ev _ _ = (Value.bool false))) ?_
   refine rl1 (by kernel_rfl) rfl ?_
   refine ops_stp (k := 0) (off := 0) (cs := [(.bool (decide (p)))]) Try.size4 rfl (rfl : ev _ _ = (Value.bool false)) rfl rfl (Nat.le_of_ble_eq_true rfl) ?_
   refine ops_nil ⟨[(Arr 4 po [(Value.bool false)]), (Mf bm k2v (Value.int .i64) Dm)], [], perm_nil _, ?_⟩
   refine rnil ?_
   refine ret0 ?_
   exact ⟨rfl, congrArg (fun z => [Arr 4 po [Value.bool z], Mf bm k2v (Value.int .i64) Dm]) ((decide_eq_false (show ¬ (p ∧ cnd Dm L x g) from by first | exact fun q => absurd q.1 (by assumption) | exact cn3 (by assumption) (by assumption) (by assumption))).symm)⟩
 ·
  refine vc_seq ?_
  refine vc_region ?_
  refine oq (qv_fa (off := 0) Try.field66_1 rfl) ?_
  refine oq (qv_ldp (v := (.int .i64 x.j)) Try.plain3 rfl (inVc hb) rfl) ?_
  refine oq (qv_gtr rfl rfl) ?_
  refine oq (qv_as (.bool (decide (1 < x.j))) rfl) ?_
  refine ops_nil ?_
  refine vc_if rfl (fun c2 => ?_) (fun c2 => ?_)
  ·
   refine vc_seq ?_
   refine vc_region ?_
   refine oq (qv_ldp (v := (Value.map (some bm))) Try.plain64 rfl (inVc hk) rfl) ?_
   refine oq (qv_fa (off := 0) Try.field66_1 rfl) ?_
   refine oq (qv_ldp (v := (.int .i64 x.j)) Try.plain3 rfl (inVc hb) rfl) ?_
   refine oq (qv_sub rfl rfl (by omega)) ?_
   refine oq (qv_fa (off := 0) Try.field66_0 rfl) ?_
   refine oq (qv_ldp (v := (.int .i64 x.s)) Try.plain3 rfl (inVc hb) rfl) ?_
   refine oq (qv_mv (Value.int .i64 g) rfl) ?_
   refine oq (qv_ani rfl rfl (b_an h0 h1 g0 g1)) ?_
   refine oq (qv_build (out := [(.int .i64 (x.j - 1)), (.int .i64 (aniV x.s g))]) Try.build67 [(0, [(.int .i64 (x.j - 1))]), (1, [(.int .i64 (aniV x.s g))])] rfl rfl) ?_
   refine oq (qv_look (a0 := 0) (key := ((x.j - 1, aniV x.s g) : Int × Int)) (k := 1) Try.underlying64 k2_key Try.ti3 rfl rfl rfl) ?_
   refine oq (qv_mv (.tuple #[(.int .i64 ((Dm (((x.j - 1, aniV x.s g) : Int × Int))).getD 0)), (.bool (decide ((Dm (((x.j - 1, aniV x.s g) : Int × Int))).isSome = true)))]) rfl) ?_
   refine oq (qv_ext (.int .i64 ((Dm (((x.j - 1, aniV x.s g) : Int × Int))).getD 0)) rfl rfl) ?_
   refine oq (qv_ext (.bool (decide ((Dm (((x.j - 1, aniV x.s g) : Int × Int))).isSome = true))) rfl rfl) ?_
   refine oq (qv_as (.int .i64 ((Dm (((x.j - 1, aniV x.s g) : Int × Int))).getD 0)) rfl) ?_
   refine oq (qv_as (.bool (decide ((Dm (((x.j - 1, aniV x.s g) : Int × Int))).isSome = true))) rfl) ?_
   refine ops_nil ?_
   refine vc_region_order (τ := []) [(0, false), (1, false), (2, false), (3, false), (4, false), (5, false), (6, false), (7, false), (8, false), (9, false), (10, false), (11, false), (12, false), (13, false), (14, false), (15, true)] [(Arr 4 po [(.bool (decide (p)))]), (Mf bm k2v (Value.int .i64) Dm)] Try.mixed (perm_nil _) (by kernel_rfl) ?_
   refine rq rfl (qv_ldp (v := (.bool (decide (p)))) Try.plain4 rfl (inOc (k := 0) rfl) rfl) ?_
   refine rq rfl (qv_mv (.bool (decide (p))) rfl) ?_
   by_cases g2 : p
   ·
    refine re rfl (qv_mv (.bool (decide ((Dm (((x.j - 1, aniV x.s g) : Int × Int))).isSome = true))) rfl) (want_t g2 rfl rfl rfl) ?_
    refine rq rfl (qv_pick_t g2 rfl (rfl : ev _ _ = (.bool (decide ((Dm (((x.j - 1, aniV x.s g) : Int × Int))).isSome = true))))) ?_
    refine rq rfl (qv_mv (.bool (decide ((Dm (((x.j - 1, aniV x.s g) : Int × Int))).isSome = true))) rfl) ?_
    by_cases g3 : (Dm (((x.j - 1, aniV x.s g) : Int × Int))).isSome = true
    ·
     refine re rfl (qv_fa (off := 0) Try.field66_2 rfl) (want_t g3 rfl rfl rfl) ?_
     refine re rfl (qv_ldp (v := (.int .i64 x.v)) Try.plain3 rfl (inVc hb) rfl) (want_t g3 rfl rfl rfl) ?_
     refine re rfl (qv_mv (.int .i64 ((Dm (((x.j - 1, aniV x.s g) : Int × Int))).getD 0)) rfl) (want_t g3 rfl rfl rfl) ?_
     refine re rfl (qv_ldp (v := cv) Try.plain29 rfl (inVc hc) rfl) (want_t g3 rfl rfl rfl) ?_
     refine re rfl (qv_mv (Value.int .i64 g) rfl) (want_t g3 rfl rfl rfl) ?_
     refine re rfl (qv_iai (v := cv) (i := g) Try.underlying29 Try.size3 rfl (inVi hC) rfl (by omega) (by omega)) (want_t g3 rfl rfl rfl) ?_
     refine re rfl (qv_ldi (v := cv) (i := g) Try.plain3 rfl (inVi hC) (by omega) (by omega)) (want_t g3 rfl rfl rfl) ?_
     refine re rfl (qv_add rfl rfl (by omega)) (want_t g3 rfl rfl rfl) ?_
     refine re rfl (qv_leq rfl rfl) (want_t g3 rfl rfl rfl) ?_
     refine rq rfl (qv_pick_t g3 rfl (rfl : ev _ _ = (.bool (decide (x.v ≤ (((Dm (((x.j - 1, aniV x.s g) : Int × Int))).getD 0) + (gi C (g)))))))) ?_
     refine rl1 (by kernel_rfl) rfl ?_
     refine ops_stp (k := 0) (off := 0) (cs := [(.bool (decide (p)))]) Try.size4 rfl (rfl : ev _ _ = (.bool (decide (x.v ≤ (((Dm (((x.j - 1, aniV x.s g) : Int × Int))).getD 0) + (gi C (g))))))) rfl rfl (Nat.le_of_ble_eq_true rfl) ?_
     refine ops_nil ⟨[(Arr 4 po [(.bool (decide (x.v ≤ (((Dm (((x.j - 1, aniV x.s g) : Int × Int))).getD 0) + (gi C (g))))))]), (Mf bm k2v (Value.int .i64) Dm)], [], perm_nil _, ?_⟩
     refine rnil ?_
     refine ret0 ?_
     exact ⟨rfl, congrArg (fun z => [Arr 4 po [Value.bool z], Mf bm k2v (Value.int .i64) Dm]) (decide_eq_decide.2 (show (x.v ≤ (((Dm (((x.j - 1, aniV x.s g) : Int × Int))).getD 0) + (gi C (g)))) ↔ (p ∧ cnd Dm L x g) from by first | exact cn0 (by assumption) (by assumption) | exact cn1 (by assumption) hcb.1 (by assumption) | exact cn2 (by assumption) (by assumption) hcb.1 (by assumption) (by assumption)))⟩
    ·
     refine rs rfl (want_tn g3 rfl rfl rfl) ?_
     refine rs rfl (want_tn g3 rfl rfl rfl) ?_
     refine rs rfl (want_tn g3 rfl rfl rfl) ?_
     refine rs rfl (want_tn g3 rfl rfl rfl) ?_
     refine rs rfl (want_tn g3 rfl rfl rfl) ?_
     refine rs rfl (want_tn g3 rfl rfl rfl) ?_
     refine rs rfl (want_tn g3 rfl rfl rfl) ?_
     refine rs rfl (want_tn g3 rfl rfl rfl) ?_
     refine rs rfl (want_tn g3 rfl rfl rfl) ?_
     refine rq rfl (qv_pick_f g3 rfl (rfl : ev _ _ = (Value.bool false))) ?_
     refine rl1 (by kernel_rfl) rfl ?_
     refine ops_stp (k := 0) (off := 0) (cs := [(.bool (decide (p)))]) Try.size4 rfl (rfl : ev _ _ = (Value.bool false)) rfl rfl (Nat.le_of_ble_eq_true rfl) ?_
     refine ops_nil ⟨[(Arr 4 po [(Value.bool false)]), (Mf bm k2v (Value.int .i64) Dm)], [], perm_nil _, ?_⟩
     refine rnil ?_
     refine ret0 ?_
     exact ⟨rfl, congrArg (fun z => [Arr 4 po [Value.bool z], Mf bm k2v (Value.int .i64) Dm]) ((decide_eq_false (show ¬ (p ∧ cnd Dm L x g) from by first | exact fun q => absurd q.1 (by assumption) | exact cn3 (by assumption) (by assumption) (by assumption))).symm)⟩
   ·
    refine rs rfl (want_tn g2 rfl rfl rfl) ?_
    refine rq rfl (qv_pick_f g2 rfl (rfl : ev _ _ = (Value.bool false))) ?_
    refine rq rfl (qv_mv (Value.bool false) rfl) ?_
    refine rs rfl (want_tnc rfl rfl rfl) ?_
    refine rs rfl (want_tnc rfl rfl rfl) ?_
    refine rs rfl (want_tnc rfl rfl rfl) ?_
    refine rs rfl (want_tnc rfl rfl rfl) ?_
    refine rs rfl (want_tnc rfl rfl rfl) ?_
    refine rs rfl (want_tnc rfl rfl rfl) ?_
    refine rs rfl (want_tnc rfl rfl rfl) ?_
    refine rs rfl (want_tnc rfl rfl rfl) ?_
    refine rs rfl (want_tnc rfl rfl rfl) ?_
    refine rq rfl (qv_pick_fc rfl (rfl : ev _ _ = (Value.bool false))) ?_
    refine rl1 (by kernel_rfl) rfl ?_
    refine ops_stp (k := 0) (off := 0) (cs := [(.bool (decide (p)))]) Try.size4 rfl (rfl : ev _ _ = (Value.bool false)) rfl rfl (Nat.le_of_ble_eq_true rfl) ?_
    refine ops_nil ⟨[(Arr 4 po [(Value.bool false)]), (Mf bm k2v (Value.int .i64) Dm)], [], perm_nil _, ?_⟩
    refine rnil ?_
    refine ret0 ?_
    exact ⟨rfl, congrArg (fun z => [Arr 4 po [Value.bool z], Mf bm k2v (Value.int .i64) Dm]) ((decide_eq_false (show ¬ (p ∧ cnd Dm L x g) from by first | exact fun q => absurd q.1 (by assumption) | exact cn3 (by assumption) (by assumption) (by assumption))).symm)⟩
  ·
   refine vc_skip ?_
   refine ret0 ?_
   exact ⟨rfl, congrArg (fun z => [Arr 4 po [Value.bool z], Mf bm k2v (Value.int .i64) Dm]) (decide_eq_decide.2 (show (p) ↔ (p ∧ cnd Dm L x g) from by first | exact cn0 (by assumption) (by assumption) | exact cn1 (by assumption) hcb.1 (by assumption) | exact cn2 (by assumption) (by assumption) hcb.1 (by assumption) (by assumption)))⟩

theorem pa_firsts {V : HV} {x : Be} {L : List (List Int)} {C : List Int} {Dm : Int × Int → Option Int} {cv : Value} {pb po pc pk bm : Nat} (hb : Cells V pb [.int .i64 x.s, .int .i64 x.j, .int .i64 x.v]) (hc : Cells V pc [cv]) (hC : Ints .i64 V cv C) (hk : Cells V pk [.map (some bm)]) (gd : Good L) (hS : StL L C) (h0 : 1 ≤ x.s) (h1 : x.s < 64) (h2 : x.s < 2 ^ L.length) (hj : 1 ≤ x.j ∧ x.j ≤ 32) (hD : ∀ k w, Dm k = some w → 0 ≤ w ∧ w ≤ 1152921504606846976) : FnC Try.prog 45 [.int .i64 x.s, .func (.func 46) #[] #[pt pb, pt po, pt pc, pt pk]] V [Arr 4 po [.bool true], Mf bm k2v (Value.int .i64) Dm] (fun v _ σ' => v = .tuple #[] ∧ σ' = [Arr 4 po [.bool (decide (Jst Dm L x))], Mf bm k2v (Value.int .i64) Dm]) := by
  have h := firsts_c (V := V) (s := x.s) (fid := 46) (fcaps := [pt pb, pt po, pt pc, pt pk]) (T := 4) (b := po) (mb := bm) (ek := k2v) (vl := Value.int .i64) (Inv := fun g u F => F = Dm ∧ u = .bool (decide (Vis Dm L x g))) (Aft := fun g u F => F = Dm ∧ u = .bool (decide (Vis Dm L x g ∧ cnd Dm L x (oriV g (lw x.s))))) h0 h1
    (fun W q g u F g0 hg hI => by
      rw [hI.1, hI.2]
      have f := (fst_or h0 h1 g0 hg).1
      exact (pa1_c (g := oriV g (lw x.s)) (p := Vis Dm L x g) (hb.mono q) (hc.mono q) (hC.mono q) (hk.mono q) gd hS h0 h1 h2 hj hD f.1 f.2).mono fun v V' σ' _ h => ⟨h.1, _, _, h.2, rfl, rfl⟩)
    (fun g u F g0 hg h => ⟨h.1, h.2.trans (congrArg Value.bool (decide_eq_decide.2 (vis_s h0 h1 g0 (g_le h0 h1 (by omega) hg).2 hg)))⟩)
    (u := .bool true) (F := Dm) ⟨rfl, congrArg Value.bool (decide_eq_true (vis_0 h0 h1)).symm⟩
  refine h.mono fun v V' σ' _ hh => ?_
  obtain ⟨e, u', F', rfl, rfl, rfl⟩ := hh
  exact ⟨e, congrArg (fun z => [Arr 4 po [Value.bool z], Mf bm k2v (Value.int .i64) F']) (decide_eq_decide.2 (vis_end h0 h1))⟩

set_option maxRecDepth 100000 in
set_option maxHeartbeats 4000000 in
theorem ProveAny_c {V : HV} {l : Value} {rv : List Value} {L : List (List Int)} {tv : Value} {T : List Be} {k c : Int} (hl : Mat .i64 V l rv L) (ht : Bes V tv T) (h6 : L.length ≤ 6) :
    FnC Try.prog 24 [l, (Value.int .i64 k), tv, (Value.int .i64 c)] V [] (fun v _ _ => v = (.int .i64 (paE L k T c))) := by
 refine fn_intro (N := 135) Try.func24 (by kernel_rfl) rfl rfl rfl (Nat.le_of_ble_eq_true rfl) ?_
 intro w0 D
 have hlen := hl.len
 have hpw := pw6 h6
 have hbd := SlS.bound ht
 refine vc_seq ?_
 refine vc_region ?_
 refine oq (qv_as (Value.int .i64 0) rfl) ?_
 refine ops_nil ?_
 refine vc_seq ?_
 refine vc_seq ?_
 refine vc_region ?_
 refine oq (qv_mv l rfl) ?_
 refine oq (qv_call (v := (.int .i64 (chk L))) (Check_c hl) rfl rfl) ?_
 refine oq (qv_as (.int .i64 (chk L)) rfl) ?_
 refine ops_nil ?_
 refine vc_seq ?_
 refine vc_region ?_
 refine oq (qv_mv (.int .i64 (chk L)) rfl) ?_
 refine oq (qv_neq rfl rfl) ?_
 refine ops_nil ?_
 refine vc_if rfl (fun c1 => ?_) (fun c1 => ?_)
 ·
  refine vc_seq ?_
  refine vc_region ?_
  refine oq (qv_mv (.int .i64 (chk L)) rfl) ?_
  refine oq (qv_as (.int .i64 (chk L)) rfl) ?_
  refine ops_nil ?_
  refine vc_ret ?_
  exact rq1 (.int .i64 (paE L k T c)) (congrArg (Value.int .i64) (show (chk L) = (paE L k T c) from by rw [pa_c (by omega)])) rfl
 ·
  refine vc_skip ?_
  refine vc_seq ?_
  have hch : chk L = 0 := by omega
  have hg := good_of_chk hch
  refine vc_region ?_
  refine oq (qv_mv l rfl) ?_
  refine oq (qv_lenS Try.underlying23 rfl hl.sl) ?_
  refine oq (qv_as (.int .i64 ((rv.length : Int))) rfl) ?_
  refine ops_nil ?_
  refine vc_seq ?_
  refine vc_block ?_
  refine vc_seq ?_
  refine vc_region ?_
  refine oq (qv_mv (.int .i64 ((rv.length : Int))) rfl) ?_
  refine oq (qv_gtr rfl rfl) ?_
  refine oq (qv_as (.bool (decide (8 < ((rv.length : Int))))) rfl) ?_
  refine ops_nil ?_
  refine vc_if rfl (fun c2 => ?_) (fun c2 => ?_)
  ·
   refine vc_seq ?_
   refine vc_region ?_
   refine oq (qv_as (Value.int .i64 4) rfl) ?_
   refine ops_nil ?_
   refine vc_ret ?_
   refine blockQ_ret ?_
   exact rq1 (.int .i64 (paE L k T c)) (congrArg (Value.int .i64) (show 4 = (paE L k T c) from by exact absurd h6 (by omega))) rfl
  ·
   refine vc_seq ?_
   refine vc_region ?_
   refine oq (qv_mv (Value.int .i64 k) rfl) ?_
   refine oq (qv_call (v := (.bool (decide (1 ≤ k ∧ k ≤ 32)))) (groups_c) rfl rfl) ?_
   refine oq (qv_not rfl) ?_
   refine oq (qv_as (.bool (decide (¬ (1 ≤ k ∧ k ≤ 32)))) rfl) ?_
   refine ops_nil ?_
   refine vc_if rfl (fun c3 => ?_) (fun c3 => ?_)
   ·
    refine vc_seq ?_
    refine vc_region ?_
    refine oq (qv_as (Value.int .i64 3) rfl) ?_
    refine ops_nil ?_
    refine vc_ret ?_
    refine blockQ_ret ?_
    exact rq1 (.int .i64 (paE L k T c)) (congrArg (Value.int .i64) (show 3 = (paE L k T c) from by first | rw [pa_3 hch (by omega)] | rw [pa_v hch hk2, pv_3 (fun q => by have q := q i (by omega) (by omega); unfold RgE at q; omega)])) rfl
   ·
    refine vc_skip ?_
    refine vc_seq ?_
    have hk2 : 1 ≤ k ∧ k ≤ 32 := by omega
    refine vc_region ?_
    refine ops_mkmap0 k2v (Value.int .i64) (fun b1 => ?_)
    refine ops_alloc Try.ti64 rfl (fun b2 => ?_)
    refine ops_stp (k := 1) (off := 0) (cs := [(Value.map none)]) Try.size64 rfl (rfl : ev _ _ = (Value.map (some b1))) rfl rfl (Nat.le_of_ble_eq_true rfl) ?_
    refine ops_nil ?_
    refine vc_seq ?_
    refine vc_seq ?_
    refine vc_res (σ' := [(Mf b1 k2v (Value.int .i64) (fun _ => none)), (Arr 64 b2 [(Value.map (some b1))])]) rfl ?_
    refine vc_region ?_
    refine oq (qv_mv tv rfl) ?_
    refine oq (qv_lenSS Try.underlying46 rfl ht) ?_
    refine oq (qv_mv (Value.int .i64 0) rfl) ?_
    refine ops_nil ?_
    refine vc_block ?_
    refine vc_loop (α := Int) (fun (xx : Int) => [(0, l), (1, (Value.int .i64 k)), (2, tv), (3, (Value.int .i64 c)), (9, (.int .i64 (chk L))), (10, (.int .i64 ((rv.length : Int)))), (11, (Value.pointer (some ⟨b2, 0, none⟩))), (24, (.bool (decide ((chk L) ≠ 0)))), (28, (.bool (decide (8 < ((rv.length : Int)))))), (31, (.bool (decide (¬ (1 ≤ k ∧ k ≤ 32))))), (36, tv), (37, (.int .i64 ((T.length : Int)))), (38, (Value.int .i64 xx))]) (fun (xx : Int) V' σ' => V = V' ∧ [(Mf b1 k2v (Value.int .i64) (kmF T xx.toNat)), (Arr 64 b2 [(Value.map (some b1))])] = σ' ∧ 0 ≤ xx ∧ xx ≤ T.length ∧ ∀ x : Int, 0 ≤ x → x < xx → RgE L k (be T x)) (fun (xx : Int) => (T.length - xx).toNat) (0) ?_ ?_ ?_
    · exact ⟨rfl, rfl, rfl, rfl, rfl, rfl, rfl, rfl, rfl, rfl, rfl, rfl, rfl, trivial⟩
    · exact ⟨rfl, (show [(Mf b1 k2v (Value.int .i64) (kmF T (0 : Int).toNat)), (Arr 64 b2 [(Value.map (some b1))])] = [(Mf b1 k2v (Value.int .i64) (fun _ => none)), (Arr 64 b2 [(Value.map (some b1))])] from by rfl), by omega, by omega, fun x a b => by omega⟩
    rintro i e1 V0l σ0l hI0
    obtain ⟨rfl, rfl, i1, i2, hR⟩ : V = V0l ∧ [(Mf b1 k2v (Value.int .i64) (kmF T i.toNat)), (Arr 64 b2 [(Value.map (some b1))])] = σ0l ∧ 0 ≤ i ∧ i ≤ T.length ∧ ∀ x : Int, 0 ≤ x → x < i → RgE L k (be T x) := hI0
    refine vc_seq ?_
    refine vc_res (σ' := [(Mf b1 k2v (Value.int .i64) (kmF T i.toNat)), (Arr 64 b2 [(Value.map (some b1))])]) rfl ?_
    refine vc_region ?_
    refine oq (qv_lss rfl rfl) ?_
    refine ops_nil ?_
    refine vc_seq ?_
    refine vc_if rfl (fun c4 => ?_) (fun c4 => ?_)
    ·
     refine vc_skip ?_
     refine vc_seq ?_
     refine vc_block ?_
     refine vc_seq ?_
     refine vc_region ?_
     refine oq (qv_ias (v := tv) (i := i) Try.underlying46 Try.size66 rfl ht rfl (by omega) (by omega)) ?_
     refine oq (qv_lds (v := tv) (i := i) (vs := [(.int .i64 ((be T (i)).s)), (.int .i64 ((be T (i)).j)), (.int .i64 ((be T (i)).v))]) Try.agg66 rfl ht (by omega) (by omega) (bes_at (by omega) (by omega))) ?_
     refine ops_alloc Try.ti66 rfl (fun b3 => ?_)
     refine ops_stw (k := 2) (vs := [(.int .i64 ((be T (i)).s)), (.int .i64 ((be T (i)).j)), (.int .i64 ((be T (i)).v))]) Try.size66 rfl rfl rfl rfl rfl rfl ?_
     refine ops_nil ?_
     refine vc_seq ?_
     refine vc_seq ?_
     refine vc_res (σ' := [(Mf b1 k2v (Value.int .i64) (kmF T i.toNat)), (Arr 64 b2 [(Value.map (some b1))]), (Arr 66 b3 [(.int .i64 ((be T (i)).s)), (.int .i64 ((be T (i)).j)), (.int .i64 ((be T (i)).v))])]) rfl ?_
     refine vc_region_any Try.mixed (by kernel_rfl) ?_
     refine qq (qv_fa (off := 0) Try.field66_0 rfl) ?_
     refine qq (qv_ldp (v := (.int .i64 ((be T (i)).s))) Try.plain3 rfl (inOc (k := 2) rfl) rfl) ?_
     refine qq (qv_lss rfl rfl) ?_
     refine qq (qv_mv (.bool (decide (((be T (i)).s) < 1))) rfl) ?_
     by_cases g1 : ((be T (i)).s) < 1
     ·
      refine qs (want_fn g1 rfl rfl rfl) ?_
      refine qs (want_fn g1 rfl rfl rfl) ?_
      refine qs (want_fn g1 rfl rfl rfl) ?_
      refine qs (want_fn g1 rfl rfl rfl) ?_
      refine qs (want_fn g1 rfl rfl rfl) ?_
      refine qq (qv_pick_t g1 rfl (rfl : ev _ _ = (Value.bool true))) ?_
      refine qq (qv_mv (Value.bool true) rfl) ?_
      refine qs (want_fnc rfl rfl rfl) ?_
      refine qs (want_fnc rfl rfl rfl) ?_
      refine qs (want_fnc rfl rfl rfl) ?_
      refine qq (qv_pick_tc rfl (rfl : ev _ _ = (Value.bool true))) ?_
      refine qq (qv_mv (Value.bool true) rfl) ?_
      refine qs (want_fnc rfl rfl rfl) ?_
      refine qs (want_fnc rfl rfl rfl) ?_
      refine qs (want_fnc rfl rfl rfl) ?_
      refine qs (want_fnc rfl rfl rfl) ?_
      refine qq (qv_pick_tc rfl (rfl : ev _ _ = (Value.bool true))) ?_
      refine qq (qv_mv (Value.bool true) rfl) ?_
      refine qs (want_fnc rfl rfl rfl) ?_
      refine qs (want_fnc rfl rfl rfl) ?_
      refine qs (want_fnc rfl rfl rfl) ?_
      refine qq (qv_pick_tc rfl (rfl : ev _ _ = (Value.bool true))) ?_
      refine qq (qv_mv (Value.bool true) rfl) ?_
      refine qs (want_fnc rfl rfl rfl) ?_
      refine qs (want_fnc rfl rfl rfl) ?_
      refine qs (want_fnc rfl rfl rfl) ?_
      refine qq (qv_pick_tc rfl (rfl : ev _ _ = (Value.bool true))) ?_
      refine qops_nil ?_
      refine vc_tt rfl ?_
      refine vc_seq ?_
      refine vc_region ?_
      refine oq (qv_as (Value.int .i64 3) rfl) ?_
      refine ops_nil ?_
      refine vc_drop [] [(Mf b1 k2v (Value.int .i64) (kmF T i.toNat)), (Arr 64 b2 [(Value.map (some b1))]), (Arr 66 b3 [(.int .i64 ((be T (i)).s)), (.int .i64 ((be T (i)).j)), (.int .i64 ((be T (i)).v))])] (.refl _) ?_
      refine vc_ret ?_
      refine blockQ_ret ?_
      refine blockQ_ret ?_
      exact rq1 (.int .i64 (paE L k T c)) (congrArg (Value.int .i64) (show 3 = (paE L k T c) from by first | rw [pa_3 hch (by omega)] | rw [pa_v hch hk2, pv_3 (fun q => by have q := q i (by omega) (by omega); unfold RgE at q; omega)])) rfl
     ·
      refine qg (qv_fa (off := 0) Try.field66_0 rfl) (want_f g1 rfl rfl rfl) ?_
      refine qg (qv_ldp (v := (.int .i64 ((be T (i)).s))) Try.plain3 rfl (inOc (k := 2) rfl) rfl) (want_f g1 rfl rfl rfl) ?_
      refine qg (qv_mv (.int .i64 ((rv.length : Int))) rfl) (want_f g1 rfl rfl rfl) ?_
      refine qg (qv_to (by rw [Int.one_mul, show ((rv.length : Int) : Int).toNat = L.length by omega]) (qv_shli rfl rfl (by omega) (by omega) (by rw [show ((rv.length : Int) : Int).toNat = L.length by omega]; omega))) (want_f g1 rfl rfl rfl) ?_
      refine qg (qv_geq rfl rfl) (want_f g1 rfl rfl rfl) ?_
      refine qq (qv_pick_f g1 rfl (rfl : ev _ _ = (.bool (decide (((2 : Int) ^ L.length) ≤ ((be T (i)).s)))))) ?_
      refine qq (qv_mv (.bool (decide (((2 : Int) ^ L.length) ≤ ((be T (i)).s)))) rfl) ?_
      by_cases g2 : ((2 : Int) ^ L.length) ≤ ((be T (i)).s)
      ·
       refine qs (want_fn g2 rfl rfl rfl) ?_
       refine qs (want_fn g2 rfl rfl rfl) ?_
       refine qs (want_fn g2 rfl rfl rfl) ?_
       refine qq (qv_pick_t g2 rfl (rfl : ev _ _ = (Value.bool true))) ?_
       refine qq (qv_mv (Value.bool true) rfl) ?_
       refine qs (want_fnc rfl rfl rfl) ?_
       refine qs (want_fnc rfl rfl rfl) ?_
       refine qs (want_fnc rfl rfl rfl) ?_
       refine qs (want_fnc rfl rfl rfl) ?_
       refine qq (qv_pick_tc rfl (rfl : ev _ _ = (Value.bool true))) ?_
       refine qq (qv_mv (Value.bool true) rfl) ?_
       refine qs (want_fnc rfl rfl rfl) ?_
       refine qs (want_fnc rfl rfl rfl) ?_
       refine qs (want_fnc rfl rfl rfl) ?_
       refine qq (qv_pick_tc rfl (rfl : ev _ _ = (Value.bool true))) ?_
       refine qq (qv_mv (Value.bool true) rfl) ?_
       refine qs (want_fnc rfl rfl rfl) ?_
       refine qs (want_fnc rfl rfl rfl) ?_
       refine qs (want_fnc rfl rfl rfl) ?_
       refine qq (qv_pick_tc rfl (rfl : ev _ _ = (Value.bool true))) ?_
       refine qops_nil ?_
       refine vc_tt rfl ?_
       refine vc_seq ?_
       refine vc_region ?_
       refine oq (qv_as (Value.int .i64 3) rfl) ?_
       refine ops_nil ?_
       refine vc_drop [] [(Mf b1 k2v (Value.int .i64) (kmF T i.toNat)), (Arr 64 b2 [(Value.map (some b1))]), (Arr 66 b3 [(.int .i64 ((be T (i)).s)), (.int .i64 ((be T (i)).j)), (.int .i64 ((be T (i)).v))])] (.refl _) ?_
       refine vc_ret ?_
       refine blockQ_ret ?_
       refine blockQ_ret ?_
       exact rq1 (.int .i64 (paE L k T c)) (congrArg (Value.int .i64) (show 3 = (paE L k T c) from by first | rw [pa_3 hch (by omega)] | rw [pa_v hch hk2, pv_3 (fun q => by have q := q i (by omega) (by omega); unfold RgE at q; omega)])) rfl
      ·
       refine qg (qv_fa (off := 0) Try.field66_1 rfl) (want_f g2 rfl rfl rfl) ?_
       refine qg (qv_ldp (v := (.int .i64 ((be T (i)).j))) Try.plain3 rfl (inOc (k := 2) rfl) rfl) (want_f g2 rfl rfl rfl) ?_
       refine qg (qv_lss rfl rfl) (want_f g2 rfl rfl rfl) ?_
       refine qq (qv_pick_f g2 rfl (rfl : ev _ _ = (.bool (decide (((be T (i)).j) < 1))))) ?_
       refine qq (qv_mv (.bool (decide (((be T (i)).j) < 1))) rfl) ?_
       by_cases g3 : ((be T (i)).j) < 1
       ·
        refine qs (want_fn g3 rfl rfl rfl) ?_
        refine qs (want_fn g3 rfl rfl rfl) ?_
        refine qs (want_fn g3 rfl rfl rfl) ?_
        refine qs (want_fn g3 rfl rfl rfl) ?_
        refine qq (qv_pick_t g3 rfl (rfl : ev _ _ = (Value.bool true))) ?_
        refine qq (qv_mv (Value.bool true) rfl) ?_
        refine qs (want_fnc rfl rfl rfl) ?_
        refine qs (want_fnc rfl rfl rfl) ?_
        refine qs (want_fnc rfl rfl rfl) ?_
        refine qq (qv_pick_tc rfl (rfl : ev _ _ = (Value.bool true))) ?_
        refine qq (qv_mv (Value.bool true) rfl) ?_
        refine qs (want_fnc rfl rfl rfl) ?_
        refine qs (want_fnc rfl rfl rfl) ?_
        refine qs (want_fnc rfl rfl rfl) ?_
        refine qq (qv_pick_tc rfl (rfl : ev _ _ = (Value.bool true))) ?_
        refine qops_nil ?_
        refine vc_tt rfl ?_
        refine vc_seq ?_
        refine vc_region ?_
        refine oq (qv_as (Value.int .i64 3) rfl) ?_
        refine ops_nil ?_
        refine vc_drop [] [(Mf b1 k2v (Value.int .i64) (kmF T i.toNat)), (Arr 64 b2 [(Value.map (some b1))]), (Arr 66 b3 [(.int .i64 ((be T (i)).s)), (.int .i64 ((be T (i)).j)), (.int .i64 ((be T (i)).v))])] (.refl _) ?_
        refine vc_ret ?_
        refine blockQ_ret ?_
        refine blockQ_ret ?_
        exact rq1 (.int .i64 (paE L k T c)) (congrArg (Value.int .i64) (show 3 = (paE L k T c) from by first | rw [pa_3 hch (by omega)] | rw [pa_v hch hk2, pv_3 (fun q => by have q := q i (by omega) (by omega); unfold RgE at q; omega)])) rfl
       ·
        refine qg (qv_fa (off := 0) Try.field66_1 rfl) (want_f g3 rfl rfl rfl) ?_
        refine qg (qv_ldp (v := (.int .i64 ((be T (i)).j))) Try.plain3 rfl (inOc (k := 2) rfl) rfl) (want_f g3 rfl rfl rfl) ?_
        refine qg (qv_mv (Value.int .i64 k) rfl) (want_f g3 rfl rfl rfl) ?_
        refine qg (qv_gtr rfl rfl) (want_f g3 rfl rfl rfl) ?_
        refine qq (qv_pick_f g3 rfl (rfl : ev _ _ = (.bool (decide (k < ((be T (i)).j)))))) ?_
        refine qq (qv_mv (.bool (decide (k < ((be T (i)).j)))) rfl) ?_
        by_cases g4 : k < ((be T (i)).j)
        ·
         refine qs (want_fn g4 rfl rfl rfl) ?_
         refine qs (want_fn g4 rfl rfl rfl) ?_
         refine qs (want_fn g4 rfl rfl rfl) ?_
         refine qq (qv_pick_t g4 rfl (rfl : ev _ _ = (Value.bool true))) ?_
         refine qq (qv_mv (Value.bool true) rfl) ?_
         refine qs (want_fnc rfl rfl rfl) ?_
         refine qs (want_fnc rfl rfl rfl) ?_
         refine qs (want_fnc rfl rfl rfl) ?_
         refine qq (qv_pick_tc rfl (rfl : ev _ _ = (Value.bool true))) ?_
         refine qops_nil ?_
         refine vc_tt rfl ?_
         refine vc_seq ?_
         refine vc_region ?_
         refine oq (qv_as (Value.int .i64 3) rfl) ?_
         refine ops_nil ?_
         refine vc_drop [] [(Mf b1 k2v (Value.int .i64) (kmF T i.toNat)), (Arr 64 b2 [(Value.map (some b1))]), (Arr 66 b3 [(.int .i64 ((be T (i)).s)), (.int .i64 ((be T (i)).j)), (.int .i64 ((be T (i)).v))])] (.refl _) ?_
         refine vc_ret ?_
         refine blockQ_ret ?_
         refine blockQ_ret ?_
         exact rq1 (.int .i64 (paE L k T c)) (congrArg (Value.int .i64) (show 3 = (paE L k T c) from by first | rw [pa_3 hch (by omega)] | rw [pa_v hch hk2, pv_3 (fun q => by have q := q i (by omega) (by omega); unfold RgE at q; omega)])) rfl
        ·
         refine qg (qv_fa (off := 0) Try.field66_2 rfl) (want_f g4 rfl rfl rfl) ?_
         refine qg (qv_ldp (v := (.int .i64 ((be T (i)).v))) Try.plain3 rfl (inOc (k := 2) rfl) rfl) (want_f g4 rfl rfl rfl) ?_
         refine qg (qv_lss rfl rfl) (want_f g4 rfl rfl rfl) ?_
         refine qq (qv_pick_f g4 rfl (rfl : ev _ _ = (.bool (decide (((be T (i)).v) < 0))))) ?_
         refine qq (qv_mv (.bool (decide (((be T (i)).v) < 0))) rfl) ?_
         by_cases g5 : ((be T (i)).v) < 0
         ·
          refine qs (want_fn g5 rfl rfl rfl) ?_
          refine qs (want_fn g5 rfl rfl rfl) ?_
          refine qs (want_fn g5 rfl rfl rfl) ?_
          refine qq (qv_pick_t g5 rfl (rfl : ev _ _ = (Value.bool true))) ?_
          refine qops_nil ?_
          refine vc_tt rfl ?_
          refine vc_seq ?_
          refine vc_region ?_
          refine oq (qv_as (Value.int .i64 3) rfl) ?_
          refine ops_nil ?_
          refine vc_drop [] [(Mf b1 k2v (Value.int .i64) (kmF T i.toNat)), (Arr 64 b2 [(Value.map (some b1))]), (Arr 66 b3 [(.int .i64 ((be T (i)).s)), (.int .i64 ((be T (i)).j)), (.int .i64 ((be T (i)).v))])] (.refl _) ?_
          refine vc_ret ?_
          refine blockQ_ret ?_
          refine blockQ_ret ?_
          exact rq1 (.int .i64 (paE L k T c)) (congrArg (Value.int .i64) (show 3 = (paE L k T c) from by first | rw [pa_3 hch (by omega)] | rw [pa_v hch hk2, pv_3 (fun q => by have q := q i (by omega) (by omega); unfold RgE at q; omega)])) rfl
         ·
          refine qg (qv_fa (off := 0) Try.field66_2 rfl) (want_f g5 rfl rfl rfl) ?_
          refine qg (qv_ldp (v := (.int .i64 ((be T (i)).v))) Try.plain3 rfl (inOc (k := 2) rfl) rfl) (want_f g5 rfl rfl rfl) ?_
          refine qg (qv_gtr rfl rfl) (want_f g5 rfl rfl rfl) ?_
          refine qq (qv_pick_f g5 rfl (rfl : ev _ _ = (.bool (decide (1152921504606846976 < ((be T (i)).v)))))) ?_
          refine qops_nil ?_
          refine vc_if rfl (fun c5 => ?_) (fun c5 => ?_)
          ·
           refine vc_seq ?_
           refine vc_region ?_
           refine oq (qv_as (Value.int .i64 3) rfl) ?_
           refine ops_nil ?_
           refine vc_drop [] [(Mf b1 k2v (Value.int .i64) (kmF T i.toNat)), (Arr 64 b2 [(Value.map (some b1))]), (Arr 66 b3 [(.int .i64 ((be T (i)).s)), (.int .i64 ((be T (i)).j)), (.int .i64 ((be T (i)).v))])] (.refl _) ?_
           refine vc_ret ?_
           refine blockQ_ret ?_
           refine blockQ_ret ?_
           exact rq1 (.int .i64 (paE L k T c)) (congrArg (Value.int .i64) (show 3 = (paE L k T c) from by first | rw [pa_3 hch (by omega)] | rw [pa_v hch hk2, pv_3 (fun q => by have q := q i (by omega) (by omega); unfold RgE at q; omega)])) rfl
          ·
           refine vc_skip ?_
           refine vc_region ?_
           refine oq (qv_ldp (v := (Value.map (some b1))) Try.plain64 rfl (inOc (k := 1) rfl) rfl) ?_
           refine oq (qv_fa (off := 0) Try.field66_1 rfl) ?_
           refine oq (qv_ldp (v := (.int .i64 ((be T (i)).j))) Try.plain3 rfl (inOc (k := 2) rfl) rfl) ?_
           refine oq (qv_fa (off := 0) Try.field66_0 rfl) ?_
           refine oq (qv_ldp (v := (.int .i64 ((be T (i)).s))) Try.plain3 rfl (inOc (k := 2) rfl) rfl) ?_
           refine oq (qv_build (out := [(.int .i64 ((be T (i)).j)), (.int .i64 ((be T (i)).s))]) Try.build67 [(0, [(.int .i64 ((be T (i)).j))]), (1, [(.int .i64 ((be T (i)).s))])] rfl rfl) ?_
           refine oq (qv_fa (off := 0) Try.field66_2 rfl) ?_
           refine oq (qv_ldp (v := (.int .i64 ((be T (i)).v))) Try.plain3 rfl (inOc (k := 2) rfl) rfl) ?_
           refine ops_mapset (k := 0) (key := (((be T (i)).j, (be T (i)).s) : Int × Int)) (v := (be T (i)).v) Try.underlying64 k2_key rfl rfl rfl rfl ?_
           refine ops_nil ?_
           refine vc_res (σ' := [(Mf b1 k2v (Value.int .i64) (setF (kmF T i.toNat) ((((be T (i)).j, (be T (i)).s) : Int × Int)) ((be T (i)).v))), (Arr 64 b2 [(Value.map (some b1))]), (Arr 66 b3 [(.int .i64 ((be T (i)).s)), (.int .i64 ((be T (i)).j)), (.int .i64 ((be T (i)).v))])]) rfl ?_
           refine vc_drop [(Mf b1 k2v (Value.int .i64) (setF (kmF T i.toNat) ((((be T (i)).j, (be T (i)).s) : Int × Int)) ((be T (i)).v))), (Arr 64 b2 [(Value.map (some b1))])] [(Arr 66 b3 [(Value.int .i64 ((be T (i)).s)), (Value.int .i64 ((be T (i)).j)), (Value.int .i64 ((be T (i)).v))])] ((List.perm_middle (l₁ := [(Mf b1 k2v (Value.int .i64) (setF (kmF T i.toNat) ((((be T (i)).j, (be T (i)).s) : Int × Int)) ((be T (i)).v))), (Arr 64 b2 [(Value.map (some b1))])]) (l₂ := [])).trans (List.perm_append_comm (l₁ := [(Arr 66 b3 [(Value.int .i64 ((be T (i)).s)), (Value.int .i64 ((be T (i)).j)), (Value.int .i64 ((be T (i)).v))])]))) ?_
           refine vc_region ?_
           refine oq (qv_add rfl rfl (by omega)) ?_
           refine oq (qv_mv (.int .i64 (i + 1)) rfl) ?_
           refine ops_nil ?_
           refine ⟨(i + 1), ⟨rfl, rfl, rfl, rfl, rfl, rfl, rfl, rfl, rfl, rfl, rfl, rfl, (congrArg (Value.int .i64) (show (i + 1) = ((i + 1)) from by omega)), trivial⟩, ⟨rfl, (show [(Mf b1 k2v (Value.int .i64) (kmF T (i + 1 : Int).toNat)), (Arr 64 b2 [(Value.map (some b1))])] = [(Mf b1 k2v (Value.int .i64) (setF (kmF T i.toNat) ((((be T (i)).j, (be T (i)).s) : Int × Int)) ((be T (i)).v))), (Arr 64 b2 [(Value.map (some b1))])] from by rw [kmF_s (by omega)]), by omega, by omega, all_snoc hR ⟨⟨by omega, by omega⟩, ⟨by omega, by omega⟩, by omega, by omega⟩⟩, by omega⟩
    ·
     refine vc_exit ?_
     refine blockQ_hit ?_
     refine vc_seq ?_
     refine vc_seq ?_
     have hRg : Rg L k T := fun x a b => hR x a (by omega)
     have hkm : kmF T i.toNat = kmA T := by rw [show i.toNat = T.length by omega]
     refine vc_region ?_
     refine oq (qv_mv tv rfl) ?_
     refine oq (qv_lenSS Try.underlying46 rfl ht) ?_
     refine oq (qv_mv (Value.int .i64 0) rfl) ?_
     refine ops_nil ?_
     refine vc_block ?_
     refine vc_loop (α := Int) (fun (xx : Int) => [(0, l), (1, (Value.int .i64 k)), (2, tv), (3, (Value.int .i64 c)), (9, (.int .i64 (chk L))), (10, (.int .i64 ((rv.length : Int)))), (11, (Value.pointer (some ⟨b2, 0, none⟩))), (24, (.bool (decide ((chk L) ≠ 0)))), (28, (.bool (decide (8 < ((rv.length : Int)))))), (31, (.bool (decide (¬ (1 ≤ k ∧ k ≤ 32))))), (36, tv), (37, (.int .i64 ((T.length : Int)))), (38, (Value.int .i64 i)), (39, (.bool (decide (i < ((T.length : Int)))))), (83, (.int .i64 ((T.length : Int)))), (84, (Value.int .i64 xx))]) (fun (xx : Int) V' σ' => V = V' ∧ [(Mf b1 k2v (Value.int .i64) (kmA T)), (Arr 64 b2 [(Value.map (some b1))])] = σ' ∧ 0 ≤ xx ∧ xx ≤ T.length ∧ ∀ x : Int, 0 < x → x < xx → Lx (be T (x - 1)) (be T x)) (fun (xx : Int) => (T.length - xx).toNat) (0) ?_ ?_ ?_
     · exact ⟨rfl, rfl, rfl, rfl, rfl, rfl, rfl, rfl, rfl, rfl, rfl, rfl, rfl, rfl, rfl, rfl, trivial⟩
     · exact ⟨rfl, (show [(Mf b1 k2v (Value.int .i64) (kmA T)), (Arr 64 b2 [(Value.map (some b1))])] = [(Mf b1 k2v (Value.int .i64) (kmF T i.toNat)), (Arr 64 b2 [(Value.map (some b1))])] from by rw [hkm]), by omega, by omega, fun x a b => by omega⟩
     rintro o e2 V1l σ1l hI1
     obtain ⟨rfl, rfl, i3, i4, hO⟩ : V = V1l ∧ [(Mf b1 k2v (Value.int .i64) (kmA T)), (Arr 64 b2 [(Value.map (some b1))])] = σ1l ∧ 0 ≤ o ∧ o ≤ T.length ∧ ∀ x : Int, 0 < x → x < o → Lx (be T (x - 1)) (be T x) := hI1
     refine vc_seq ?_
     refine vc_res (σ' := [(Mf b1 k2v (Value.int .i64) (kmA T)), (Arr 64 b2 [(Value.map (some b1))])]) rfl ?_
     refine vc_region ?_
     refine oq (qv_lss rfl rfl) ?_
     refine ops_nil ?_
     refine vc_seq ?_
     refine vc_if rfl (fun c6 => ?_) (fun c6 => ?_)
     ·
      refine vc_skip ?_
      refine vc_seq ?_
      refine vc_block ?_
      refine vc_seq ?_
      refine vc_region ?_
      refine oq (qv_mv (Value.int .i64 o) rfl) ?_
      refine oq (qv_as (Value.int .i64 o) rfl) ?_
      refine ops_nil ?_
      refine vc_seq ?_
      refine vc_region_any Try.mixed (by kernel_rfl) ?_
      refine qq (qv_mv (Value.int .i64 o) rfl) ?_
      refine qq (qv_gtr rfl rfl) ?_
      refine qq (qv_mv (.bool (decide (0 < o))) rfl) ?_
      by_cases g6 : 0 < o
      ·
       refine qg (qv_mv tv rfl) (want_t g6 rfl rfl rfl) ?_
       refine qg (qv_mv (Value.int .i64 o) rfl) (want_t g6 rfl rfl rfl) ?_
       refine qg (qv_sub rfl rfl (by omega)) (want_t g6 rfl rfl rfl) ?_
       refine qg (qv_ias (v := tv) (i := o - 1) Try.underlying46 Try.size66 rfl ht rfl (by omega) (by omega)) (want_t g6 rfl rfl rfl) ?_
       refine qg (qv_lds (v := tv) (i := o - 1) (vs := [(.int .i64 ((be T (o - 1)).s)), (.int .i64 ((be T (o - 1)).j)), (.int .i64 ((be T (o - 1)).v))]) Try.agg66 rfl ht (by omega) (by omega) (bes_at (by omega) (by omega))) (want_t g6 rfl rfl rfl) ?_
       refine qg (qv_mv tv rfl) (want_t g6 rfl rfl rfl) ?_
       refine qg (qv_mv (Value.int .i64 o) rfl) (want_t g6 rfl rfl rfl) ?_
       refine qg (qv_ias (v := tv) (i := o) Try.underlying46 Try.size66 rfl ht rfl (by omega) (by omega)) (want_t g6 rfl rfl rfl) ?_
       refine qg (qv_lds (v := tv) (i := o) (vs := [(.int .i64 ((be T (o)).s)), (.int .i64 ((be T (o)).j)), (.int .i64 ((be T (o)).v))]) Try.agg66 rfl ht (by omega) (by omega) (bes_at (by omega) (by omega))) (want_t g6 rfl rfl rfl) ?_
       refine qg (qv_call (v := (.int .i64 (ordF (be T (o - 1)) (be T (o))))) (order_c (x := be T (o - 1)) (y := be T (o))) rfl rfl) (want_t g6 rfl rfl rfl) ?_
       refine qg (qv_geq rfl rfl) (want_t g6 rfl rfl rfl) ?_
       refine qq (qv_pick_t g6 rfl (rfl : ev _ _ = (.bool (decide (0 ≤ (ordF (be T (o - 1)) (be T (o)))))))) ?_
       refine qops_nil ?_
       refine vc_if rfl (fun c7 => ?_) (fun c7 => ?_)
       ·
        refine vc_seq ?_
        refine vc_region ?_
        refine oq (qv_as (Value.int .i64 10) rfl) ?_
        refine ops_nil ?_
        refine vc_drop [] [(Mf b1 k2v (Value.int .i64) (kmA T)), (Arr 64 b2 [(Value.map (some b1))])] (.refl _) ?_
        refine vc_ret ?_
        refine blockQ_ret ?_
        refine blockQ_ret ?_
        exact rq1 (.int .i64 (paE L k T c)) (congrArg (Value.int .i64) (show 10 = (paE L k T c) from by rw [pa_v hch hk2, pv_10 hRg (fun q => absurd (q o (by omega) (by omega)) (fun z => (ordF_lx.2 z) (by assumption)))])) rfl
       ·
        refine vc_skip ?_
        refine vc_region ?_
        refine oq (qv_add rfl rfl (by omega)) ?_
        refine oq (qv_mv (.int .i64 (o + 1)) rfl) ?_
        refine ops_nil ?_
        refine ⟨(o + 1), ⟨rfl, rfl, rfl, rfl, rfl, rfl, rfl, rfl, rfl, rfl, rfl, rfl, rfl, rfl, rfl, (congrArg (Value.int .i64) (show (o + 1) = ((o + 1)) from by omega)), trivial⟩, ⟨rfl, rfl, by omega, by omega, ord_snoc hO (by first | exact fun q => absurd q (by assumption) | exact fun _ => ordF_lx.1 (by assumption))⟩, by omega⟩
      ·
       refine qs (want_tn g6 rfl rfl rfl) ?_
       refine qs (want_tn g6 rfl rfl rfl) ?_
       refine qs (want_tn g6 rfl rfl rfl) ?_
       refine qs (want_tn g6 rfl rfl rfl) ?_
       refine qs (want_tn g6 rfl rfl rfl) ?_
       refine qs (want_tn g6 rfl rfl rfl) ?_
       refine qs (want_tn g6 rfl rfl rfl) ?_
       refine qs (want_tn g6 rfl rfl rfl) ?_
       refine qs (want_tn g6 rfl rfl rfl) ?_
       refine qs (want_tn g6 rfl rfl rfl) ?_
       refine qs (want_tn g6 rfl rfl rfl) ?_
       refine qq (qv_pick_f g6 rfl (rfl : ev _ _ = (Value.bool false))) ?_
       refine qops_nil ?_
       refine vc_ff rfl ?_
       refine vc_skip ?_
       refine vc_region ?_
       refine oq (qv_add rfl rfl (by omega)) ?_
       refine oq (qv_mv (.int .i64 (o + 1)) rfl) ?_
       refine ops_nil ?_
       refine ⟨(o + 1), ⟨rfl, rfl, rfl, rfl, rfl, rfl, rfl, rfl, rfl, rfl, rfl, rfl, rfl, rfl, rfl, (congrArg (Value.int .i64) (show (o + 1) = ((o + 1)) from by omega)), trivial⟩, ⟨rfl, rfl, by omega, by omega, ord_snoc hO (by first | exact fun q => absurd q (by assumption) | exact fun _ => ordF_lx.1 (by assumption))⟩, by omega⟩
     ·
      refine vc_exit ?_
      refine blockQ_hit ?_
      refine vc_seq ?_
      have hOd : Ord T := fun x a b => hO x a (by omega)
      refine vc_region ?_
      refine oq (qv_mv l rfl) ?_
      refine ops_call (σa := []) (σr := [(Mf b1 k2v (Value.int .i64) (kmA T)), (Arr 64 b2 [(Value.map (some b1))])]) (sets_c hl hg h6) rfl rfl (.refl _) (fun r1 V1 sg1 hV1 hp1 => ?_)
      obtain ⟨rfl, C, hC, hS⟩ := hp1
      have hl := hl.mono hV1
      have ht := ht.mono hV1
      refine ops_alloc Try.ti29 rfl (fun b4 => ?_)
      refine ops_stp (k := 2) (off := 0) (cs := [(Value.slice none 0 0)]) Try.size29 rfl (rfl : ev _ _ = r1) (Sl.one hC) rfl (Nat.le_of_ble_eq_true rfl) ?_
      refine ops_nil ?_
      refine vc_seq ?_
      refine vc_seq ?_
      refine vc_res (σ' := [(Mf b1 k2v (Value.int .i64) (kmA T)), (Arr 64 b2 [(Value.map (some b1))]), (Arr 29 b4 [r1])]) rfl ?_
      refine vc_freeze (b := b4) (o := .cells ([r1] : List Value).toArray 29 (0, 0)) (σr := [(Mf b1 k2v (Value.int .i64) (kmA T)), (Arr 64 b2 [(Value.map (some b1))])]) (List.perm_middle (l₁ := [(Mf b1 k2v (Value.int .i64) (kmA T)), (Arr 64 b2 [(Value.map (some b1))])]) (l₂ := [])) (fun Vf1 hVf1 hb1 => ?_)
      have hc1 : Cells Vf1 b4 [r1] := ⟨_, _, hb1⟩
      have hl := hl.mono hVf1
      have ht := ht.mono hVf1
      have hC := hC.mono hVf1
      refine vc_freeze (b := b2) (o := .cells ([(Value.map (some b1))] : List Value).toArray 64 (0, 0)) (σr := [(Mf b1 k2v (Value.int .i64) (kmA T))]) (List.perm_middle (l₁ := [(Mf b1 k2v (Value.int .i64) (kmA T))]) (l₂ := [])) (fun Vf2 hVf2 hb2 => ?_)
      have hc2 : Cells Vf2 b2 [(Value.map (some b1))] := ⟨_, _, hb2⟩
      have hl := hl.mono hVf2
      have ht := ht.mono hVf2
      have hC := hC.mono hVf2
      have hc1 := hc1.mono hVf2
      refine vc_region ?_
      refine oq (qv_mv tv rfl) ?_
      refine oq (qv_lenSS Try.underlying46 rfl ht) ?_
      refine oq (qv_mv (Value.int .i64 0) rfl) ?_
      refine ops_nil ?_
      refine vc_block ?_
      refine vc_loop (α := Int) (fun (xx : Int) => [(0, l), (1, (Value.int .i64 k)), (2, tv), (3, (Value.int .i64 c)), (9, (.int .i64 (chk L))), (10, (.int .i64 ((rv.length : Int)))), (11, (Value.pointer (some ⟨b2, 0, none⟩))), (15, (Value.pointer (some ⟨b4, 0, none⟩))), (24, (.bool (decide ((chk L) ≠ 0)))), (28, (.bool (decide (8 < ((rv.length : Int)))))), (31, (.bool (decide (¬ (1 ≤ k ∧ k ≤ 32))))), (36, tv), (37, (.int .i64 ((T.length : Int)))), (38, (Value.int .i64 i)), (39, (.bool (decide (i < ((T.length : Int)))))), (83, (.int .i64 ((T.length : Int)))), (84, (Value.int .i64 o)), (85, (.bool (decide (o < ((T.length : Int)))))), (105, tv), (106, (.int .i64 ((T.length : Int)))), (107, (Value.int .i64 xx))]) (fun (xx : Int) V' σ' => [(Mf b1 k2v (Value.int .i64) (kmA T))] = σ' ∧ Mat .i64 V' l rv L ∧ Bes V' tv T ∧ Ints .i64 V' r1 C ∧ Cells V' b4 [r1] ∧ Cells V' b2 [(Value.map (some b1))] ∧ 0 ≤ xx ∧ xx ≤ T.length ∧ ∀ x : Int, 0 ≤ x → x < xx → Jst (kmA T) L (be T x)) (fun (xx : Int) => (T.length - xx).toNat) (0) ?_ ?_ ?_
      · exact ⟨rfl, rfl, rfl, rfl, rfl, rfl, rfl, rfl, rfl, rfl, rfl, rfl, rfl, rfl, rfl, rfl, rfl, rfl, rfl, rfl, rfl, trivial⟩
      · exact ⟨rfl, hl, ht, hC, hc1, hc2, by omega, by omega, fun x a b => by omega⟩
      rintro z e3 V2l σ2l hI2
      obtain ⟨rfl, hl, ht, hC, hc1, hc2, i5, i6, hJ⟩ : [(Mf b1 k2v (Value.int .i64) (kmA T))] = σ2l ∧ Mat .i64 V2l l rv L ∧ Bes V2l tv T ∧ Ints .i64 V2l r1 C ∧ Cells V2l b4 [r1] ∧ Cells V2l b2 [(Value.map (some b1))] ∧ 0 ≤ z ∧ z ≤ T.length ∧ ∀ x : Int, 0 ≤ x → x < z → Jst (kmA T) L (be T x) := hI2
      refine vc_seq ?_
      refine vc_res (σ' := [(Mf b1 k2v (Value.int .i64) (kmA T))]) rfl ?_
      refine vc_region ?_
      refine oq (qv_lss rfl rfl) ?_
      refine ops_nil ?_
      refine vc_seq ?_
      refine vc_if rfl (fun c8 => ?_) (fun c8 => ?_)
      ·
       refine vc_skip ?_
       refine vc_seq ?_
       refine vc_block ?_
       refine vc_seq ?_
       refine vc_region ?_
       refine oq (qv_ias (v := tv) (i := z) Try.underlying46 Try.size66 rfl ht rfl (by omega) (by omega)) ?_
       refine oq (qv_lds (v := tv) (i := z) (vs := [(.int .i64 ((be T (z)).s)), (.int .i64 ((be T (z)).j)), (.int .i64 ((be T (z)).v))]) Try.agg66 rfl ht (by omega) (by omega) (bes_at (by omega) (by omega))) ?_
       refine ops_alloc Try.ti66 rfl (fun b5 => ?_)
       refine ops_stw (k := 1) (vs := [(.int .i64 ((be T (z)).s)), (.int .i64 ((be T (z)).j)), (.int .i64 ((be T (z)).v))]) Try.size66 rfl rfl rfl rfl rfl rfl ?_
       refine ops_nil ?_
       refine vc_seq ?_
       refine vc_res (σ' := [(Mf b1 k2v (Value.int .i64) (kmA T)), (Arr 66 b5 [(.int .i64 ((be T (z)).s)), (.int .i64 ((be T (z)).j)), (.int .i64 ((be T (z)).v))])]) rfl ?_
       refine vc_region ?_
       refine ops_alloc Try.ti4 rfl (fun b6 => ?_)
       refine ops_stp (k := 2) (off := 0) (cs := [(Value.bool false)]) Try.size4 rfl (rfl : ev _ _ = (Value.bool true)) rfl rfl (Nat.le_of_ble_eq_true rfl) ?_
       refine ops_nil ?_
       refine vc_seq ?_
       refine vc_res (σ' := [(Mf b1 k2v (Value.int .i64) (kmA T)), (Arr 66 b5 [(.int .i64 ((be T (z)).s)), (.int .i64 ((be T (z)).j)), (.int .i64 ((be T (z)).v))]), (Arr 4 b6 [(Value.bool true)])]) rfl ?_
       refine vc_freeze (b := b5) (o := .cells ([(Value.int .i64 ((be T (z)).s)), (Value.int .i64 ((be T (z)).j)), (Value.int .i64 ((be T (z)).v))] : List Value).toArray 66 (0, 0)) (σr := [(Mf b1 k2v (Value.int .i64) (kmA T)), (Arr 4 b6 [(Value.bool true)])]) (List.perm_middle (l₁ := [(Mf b1 k2v (Value.int .i64) (kmA T))]) (l₂ := [(Arr 4 b6 [(Value.bool true)])])) (fun Vf3 hVf3 hb3 => ?_)
       have hc3 : Cells Vf3 b5 [(.int .i64 ((be T (z)).s)), (.int .i64 ((be T (z)).j)), (.int .i64 ((be T (z)).v))] := ⟨_, _, hb3⟩
       have hl := hl.mono hVf3
       have ht := ht.mono hVf3
       have hC := hC.mono hVf3
       have hc1 := hc1.mono hVf3
       have hc2 := hc2.mono hVf3
       refine vc_region ?_
       refine oq (qv_fa (off := 0) Try.field66_0 rfl) ?_
       refine oq (qv_ldp (v := (.int .i64 ((be T (z)).s))) Try.plain3 rfl (inVc hc3) rfl) ?_
       refine oq (qv_func (cs := [(Value.pointer (some ⟨b5, 0, none⟩)), (Value.pointer (some ⟨b6, 0, none⟩)), (Value.pointer (some ⟨b4, 0, none⟩)), (Value.pointer (some ⟨b2, 0, none⟩))]) rfl) ?_
       refine ops_call (σa := [(Arr 4 b6 [(Value.bool true)]), (Mf b1 k2v (Value.int .i64) (kmA T))]) (σr := []) (pa_firsts (x := be T (z)) (Dm := kmA T) hc3 hc1 hC hc2 hg hS (hRg z (by omega) (by omega)).1.1 (by have q := (hRg z (by omega) (by omega)).1.2; omega) (hRg z (by omega) (by omega)).1.2 (by have q := (hRg z (by omega) (by omega)).2.1; omega) (fun _ _ q => km_bd hRg q)) rfl rfl (perm_idx _ _ [1, 0] rfl rfl) (fun r2 V2 sg2 hV2 hp2 => ?_)
       obtain ⟨rfl, rfl⟩ := hp2
       have hl := hl.mono hV2
       have ht := ht.mono hV2
       have hC := hC.mono hV2
       have hc1 := hc1.mono hV2
       have hc2 := hc2.mono hV2
       have hc3 := hc3.mono hV2
       refine ops_nil ?_
       refine vc_seq ?_
       refine vc_res (σ' := [(Arr 4 b6 [(.bool (decide (Jst (kmA T) L (be T (z)))))]), (Mf b1 k2v (Value.int .i64) (kmA T))]) rfl ?_
       refine vc_region ?_
       refine oq (qv_ldp (v := (.bool (decide (Jst (kmA T) L (be T (z)))))) Try.plain4 rfl (inOc (k := 0) rfl) rfl) ?_
       refine oq (qv_not rfl) ?_
       refine ops_nil ?_
       refine vc_if rfl (fun c9 => ?_) (fun c9 => ?_)
       ·
        refine vc_seq ?_
        refine vc_region ?_
        refine oq (qv_as (Value.int .i64 13) rfl) ?_
        refine ops_nil ?_
        refine vc_drop [] [(Arr 4 b6 [(.bool (decide (Jst (kmA T) L (be T (z)))))]), (Mf b1 k2v (Value.int .i64) (kmA T))] (.refl _) ?_
        refine vc_ret ?_
        refine blockQ_ret ?_
        refine blockQ_ret ?_
        exact rq1 (.int .i64 (paE L k T c)) (congrArg (Value.int .i64) (show 13 = (paE L k T c) from by first | rw [pa_v hch hk2, pv_13 hRg hOd (fun q => absurd (q.1 z (by omega) (by omega)) (by assumption))] | rw [pa_v hch hk2, pv_13 hRg hOd (fun q => fn_no (by assumption) q.2)] | rw [pa_v hch hk2, pv_13 hRg hOd (fun q => fn_lt (by assumption) q.2)])) rfl
       ·
        refine vc_skip ?_
        refine vc_drop [(Mf b1 k2v (Value.int .i64) (kmA T))] [(Arr 4 b6 [(Value.bool (decide (Jst (kmA T) L (be T (z)))))])] ((List.perm_middle (l₁ := []) (l₂ := [(Mf b1 k2v (Value.int .i64) (kmA T))])).trans (List.perm_append_comm (l₁ := [(Arr 4 b6 [(Value.bool (decide (Jst (kmA T) L (be T (z)))))])]))) ?_
        refine vc_region ?_
        refine oq (qv_add rfl rfl (by omega)) ?_
        refine oq (qv_mv (.int .i64 (z + 1)) rfl) ?_
        refine ops_nil ?_
        refine ⟨(z + 1), ⟨rfl, rfl, rfl, rfl, rfl, rfl, rfl, rfl, rfl, rfl, rfl, rfl, rfl, rfl, rfl, rfl, rfl, rfl, rfl, rfl, (congrArg (Value.int .i64) (show (z + 1) = ((z + 1)) from by omega)), trivial⟩, ⟨rfl, hl, ht, hC, hc1, hc2, by omega, by omega, all_snoc hJ (Decidable.not_not.1 (by assumption))⟩, by omega⟩
      ·
       refine vc_exit ?_
       refine blockQ_hit ?_
       refine vc_seq ?_
       refine vc_seq ?_
       have hJs : Jsts L T := fun x a b => hJ x a (by omega)
       refine vc_region_any Try.mixed (by kernel_rfl) ?_
       refine qq (qv_ldp (v := (Value.map (some b1))) Try.plain64 rfl (inVc hc2) rfl) ?_
       refine qq (qv_mv (Value.int .i64 k) rfl) ?_
       refine qq (qv_mv (.int .i64 ((rv.length : Int))) rfl) ?_
       refine qq (qv_to (by rw [Int.one_mul, show ((rv.length : Int) : Int).toNat = L.length by omega]) (qv_shli rfl rfl (by omega) (by omega) (by rw [show ((rv.length : Int) : Int).toNat = L.length by omega]; omega))) ?_
       refine qq (qv_sub rfl rfl (by omega)) ?_
       refine qq (qv_build (out := [(Value.int .i64 k), (.int .i64 (((2 : Int) ^ L.length) - 1))]) Try.build67 [(0, [(Value.int .i64 k)]), (1, [(.int .i64 (((2 : Int) ^ L.length) - 1))])] rfl rfl) ?_
       refine qq (qv_look (a0 := 0) (key := ((k, ((2 : Int) ^ L.length) - 1) : Int × Int)) (k := 0) Try.underlying64 k2_key Try.ti3 rfl rfl rfl) ?_
       refine qq (qv_mv (.tuple #[(.int .i64 (((kmA T) (((k, ((2 : Int) ^ L.length) - 1) : Int × Int))).getD 0)), (.bool (decide (((kmA T) (((k, ((2 : Int) ^ L.length) - 1) : Int × Int))).isSome = true)))]) rfl) ?_
       refine qq (qv_ext (.int .i64 (((kmA T) (((k, ((2 : Int) ^ L.length) - 1) : Int × Int))).getD 0)) rfl rfl) ?_
       refine qq (qv_ext (.bool (decide (((kmA T) (((k, ((2 : Int) ^ L.length) - 1) : Int × Int))).isSome = true))) rfl rfl) ?_
       refine qq (qv_as (.int .i64 (((kmA T) (((k, ((2 : Int) ^ L.length) - 1) : Int × Int))).getD 0)) rfl) ?_
       refine qq (qv_as (.bool (decide (((kmA T) (((k, ((2 : Int) ^ L.length) - 1) : Int × Int))).isSome = true))) rfl) ?_
       refine qops_nil ?_
       refine vc_seq ?_
       refine vc_region ?_
       refine oq (qv_mv (.bool (decide (((kmA T) (((k, ((2 : Int) ^ L.length) - 1) : Int × Int))).isSome = true))) rfl) ?_
       refine oq (qv_not rfl) ?_
       refine oq (qv_mv (.bool (decide (¬ (((kmA T) (((k, ((2 : Int) ^ L.length) - 1) : Int × Int))).isSome = true)))) rfl) ?_
       by_cases g7 : ¬ (((kmA T) (((k, ((2 : Int) ^ L.length) - 1) : Int × Int))).isSome = true)
       ·
        refine os (want_fn g7 rfl rfl rfl) ?_
        refine os (want_fn g7 rfl rfl rfl) ?_
        refine os (want_fn g7 rfl rfl rfl) ?_
        refine oq (qv_pick_t g7 rfl (rfl : ev _ _ = (Value.bool true))) ?_
        refine ops_nil ?_
        refine vc_tt rfl ?_
        refine vc_seq ?_
        refine vc_region ?_
        refine oq (qv_as (Value.int .i64 13) rfl) ?_
        refine ops_nil ?_
        refine vc_drop [] [(Mf b1 k2v (Value.int .i64) (kmA T))] (.refl _) ?_
        refine vc_ret ?_
        exact rq1 (.int .i64 (paE L k T c)) (congrArg (Value.int .i64) (show 13 = (paE L k T c) from by first | rw [pa_v hch hk2, pv_13 hRg hOd (fun q => absurd (q.1 z (by omega) (by omega)) (by assumption))] | rw [pa_v hch hk2, pv_13 hRg hOd (fun q => fn_no (by assumption) q.2)] | rw [pa_v hch hk2, pv_13 hRg hOd (fun q => fn_lt (by assumption) q.2)])) rfl
       ·
        refine og (qv_mv (.int .i64 (((kmA T) (((k, ((2 : Int) ^ L.length) - 1) : Int × Int))).getD 0)) rfl) (want_f g7 rfl rfl rfl) ?_
        refine og (qv_mv (Value.int .i64 c) rfl) (want_f g7 rfl rfl rfl) ?_
        refine og (qv_lss rfl rfl) (want_f g7 rfl rfl rfl) ?_
        refine oq (qv_pick_f g7 rfl (rfl : ev _ _ = (.bool (decide ((((kmA T) (((k, ((2 : Int) ^ L.length) - 1) : Int × Int))).getD 0) < c))))) ?_
        refine ops_nil ?_
        refine vc_if rfl (fun c10 => ?_) (fun c10 => ?_)
        ·
         refine vc_seq ?_
         refine vc_region ?_
         refine oq (qv_as (Value.int .i64 13) rfl) ?_
         refine ops_nil ?_
         refine vc_drop [] [(Mf b1 k2v (Value.int .i64) (kmA T))] (.refl _) ?_
         refine vc_ret ?_
         exact rq1 (.int .i64 (paE L k T c)) (congrArg (Value.int .i64) (show 13 = (paE L k T c) from by first | rw [pa_v hch hk2, pv_13 hRg hOd (fun q => absurd (q.1 z (by omega) (by omega)) (by assumption))] | rw [pa_v hch hk2, pv_13 hRg hOd (fun q => fn_no (by assumption) q.2)] | rw [pa_v hch hk2, pv_13 hRg hOd (fun q => fn_lt (by assumption) q.2)])) rfl
        ·
         refine vc_skip ?_
         refine vc_seq ?_
         refine vc_region ?_
         refine oq (qv_as (Value.int .i64 0) rfl) ?_
         refine ops_nil ?_
         refine vc_drop [] [(Mf b1 k2v (Value.int .i64) (kmA T))] (.refl _) ?_
         refine vc_ret ?_
         exact rq1 (.int .i64 (paE L k T c)) (congrArg (Value.int .i64) (show 0 = (paE L k T c) from by rw [pa_v hch hk2, pv_0 hRg hOd ⟨hJs, fn_yes (by first | assumption | exact Decidable.not_not.1 (by assumption)) (by assumption)⟩])) rfl

end Go.Proofs.Ytmkbjhligjnagaa
