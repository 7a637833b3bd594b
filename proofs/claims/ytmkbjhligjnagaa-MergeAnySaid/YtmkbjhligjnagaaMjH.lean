/- Walks of merge: what each function returns. Printed by a program out of notes. -/
import Derived.Test.YtmkbjhligjnagaaMiC
import Derived.Test.YtmkbjhligjnagaaMjG
namespace Go.Proofs.Ytmkbjhligjnagaa
open Go Go.Vc
open Classical
set_option maxRecDepth 100000
/-- What the search for values reads and never changes. -/
structure VEnv (V : HV) (L : List (List Int)) (K : Int) (C : List Int) (cv : Value) (pg bm : Nat) : Prop where
  g : Cells V pg [cv, .map (some bm)]
  c : Ints .i64 V cv C
  st : StL L C
  gd : Good L
  h6 : L.length ≤ 6
  hK : K ≤ 32
theorem VEnv.mono {V W : HV} {L : List (List Int)} {K : Int} {C : List Int} {cv : Value} {pg bm : Nat} (h : VEnv V L K C cv pg bm) (s : Vc.Sub V W) : VEnv W L K C cv pg bm := ⟨h.g.mono s, h.c.mono s, h.st, h.gd, h.h6, h.hK⟩
def ValC (L : List (List Int)) (K : Int) (C : List Int) (cv : Value) (pg bm n : Nat) : Prop := ∀ (V : HV) (s j : Int) (F : Int × Int → Option Int), VEnv V L K C cv pg bm → 1 ≤ s → s < 2 ^ L.length → 1 ≤ j → j ≤ K → j ≤ n → VOk L K F →
  FnC Try.prog 52 [pt pg, .int .i64 s, .int .i64 j] V [Mf bm k2v (Value.int .i64) F] (fun v _ σ' => ∃ F', v = .int .i64 (VA L (j - 1).toNat s) ∧ σ' = [Mf bm k2v (Value.int .i64) F'] ∧ VPost L K F F' s j)

set_option maxRecDepth 100000 in
set_option maxHeartbeats 4000000 in
theorem val1_c {V : HV} {L : List (List Int)} {K : Int} {C : List Int} {cv : Value} {pg bm n : Nat} (IH : ValC L K C cv pg bm n) {s j g b : Int} {F0 F : Int × Int → Option Int} {ps pb pq pj : Nat} (hE : VEnv V L K C cv pg bm) (hps : Cells V ps [.int .i64 s]) (hpq : Cells V pq [pt pg]) (hpj : Cells V pj [.int .i64 j]) (h0 : 1 ≤ s) (h1 : s < 2 ^ L.length) (hj : 1 < j ∧ j ≤ K) (hn : j ≤ n + 1) (g0 : 0 ≤ g) (hg : andV g (rsv s) = g) (hI : VInv L K F0 s j g (.int .i64 b) F) :
    FnC Try.prog 66 [(.int .i64 (oriV g (lw s))), (Value.pointer (some ⟨ps, 0, none⟩)), (Value.pointer (some ⟨pb, 0, none⟩)), (Value.pointer (some ⟨pq, 0, none⟩)), (Value.pointer (some ⟨pj, 0, none⟩))] V [(Arr 3 pb [(Value.int .i64 b)]), (Mf bm k2v (Value.int .i64) F)] (fun v _ σ' => v = .tuple #[] ∧ ∃ u' F', σ' = [Arr 3 pb [u'], Mf bm k2v (Value.int .i64) F'] ∧ VAft L K F0 s j g u' F') := by
 refine fn_intro (N := 26) Try.func66 (by kernel_rfl) rfl rfl rfl (Nat.le_of_ble_eq_true rfl) ?_
 intro w0 D
 have p6 := pw6 hE.h6
 have hK := hE.hK
 have hp := fst_prt h0 (by omega) g0 hg
 have hcb := cost_bd hE.gd hE.st hp.1.1 (by have := hp.1.2; omega)
 have hcl := hE.st.1
 have hpp := hp.1
 refine vc_seq ?_
 refine vc_res (σ' := [(Arr 3 pb [(Value.int .i64 b)]), (Mf bm k2v (Value.int .i64) F)]) rfl ?_
 refine vc_region ?_
 refine oq (qv_mv (.int .i64 (oriV g (lw s))) rfl) ?_
 refine oq (qv_ldp (v := (Value.int .i64 s)) Try.plain3 rfl (inVc hps) rfl) ?_
 refine oq (qv_neq rfl rfl) ?_
 refine ops_nil ?_
 refine vc_if rfl (fun c1 => ?_) (fun c1 => ?_)
 ·
  have hne : oriV g (lw s) ≠ s := by assumption
  have r := rest_ok h0 (by omega) hp hne
  have hvb := va_bd hE.gd hE.h6 (k := (j - 1 - 1).toNat) r.1 (by omega)
  have hok : VOk L K F := by obtain ⟨_, _, a, _⟩ := hI; exact a
  refine vc_region_order (τ := [(Mf bm k2v (Value.int .i64) F)]) [(0, false), (1, false), (2, false), (3, false), (4, false), (5, false), (6, false), (7, false), (8, false), (9, false), (10, false), (11, false), (12, false), (13, false), (14, true), (15, false), (16, false), (17, true)] [(Arr 3 pb [(Value.int .i64 b)])] Try.mixed (perm_idx _ _ [0, 1] rfl rfl) (by kernel_rfl) ?_
  refine rq rfl (qv_ldp (v := (Value.int .i64 b)) Try.plain3 rfl (inOc (k := 0) rfl) rfl) ?_
  refine rq rfl (qv_ldp (v := (Value.pointer (some ⟨pg, 0, none⟩))) Try.plain80 rfl (inVc hpq) rfl) ?_
  refine rq rfl (qv_nilck rfl) ?_
  refine rq rfl (qv_fa (off := 0) Try.field82_0 rfl) ?_
  refine rq rfl (qv_ldp (v := cv) Try.plain29 rfl (inVc hE.g) rfl) ?_
  refine rq rfl (qv_mv (.int .i64 (oriV g (lw s))) rfl) ?_
  refine rq rfl (qv_iai (v := cv) (i := oriV g (lw s)) Try.underlying29 Try.size3 rfl (inVi hE.c) rfl (by omega) (by omega)) ?_
  refine rq rfl (qv_ldi (v := cv) (i := oriV g (lw s)) Try.plain3 rfl (inVi hE.c) (by omega) (by omega)) ?_
  refine rq rfl (qv_ldp (v := (Value.pointer (some ⟨pg, 0, none⟩))) Try.plain80 rfl (inVc hpq) rfl) ?_
  refine rq rfl (qv_ldp (v := (Value.int .i64 s)) Try.plain3 rfl (inVc hps) rfl) ?_
  refine rq rfl (qv_mv (.int .i64 (oriV g (lw s))) rfl) ?_
  refine rq rfl (qv_ani rfl rfl (b_an' (by omega) (by omega) (by omega) (by omega))) ?_
  refine rq rfl (qv_ldp (v := (Value.int .i64 j)) Try.plain3 rfl (inVc hpj) rfl) ?_
  refine rq rfl (qv_sub rfl rfl (by omega)) ?_
  refine rl rfl ?_
  refine ops_call (σa := [(Mf bm k2v (Value.int .i64) F)]) (σr := [(Arr 3 pb [(Value.int .i64 b)])]) (IH _ (aniV s (oriV g (lw s))) (j - 1) F hE r.1 (by omega) (by omega) (by omega) (by omega) hok) rfl rfl (perm_idx _ _ [1, 0] rfl rfl) (fun r1 V1 sg1 hV1 hp1 => ?_)
  obtain ⟨F1, rfl, rfl, hP⟩ := hp1
  have hE := hE.mono hV1
  refine ops_perm (σ' := [(Arr 3 pb [(Value.int .i64 b)]), (Mf bm k2v (Value.int .i64) F1)]) (perm_idx _ _ [1, 0] rfl rfl) ?_
  refine ops_nil ⟨[(Arr 3 pb [(Value.int .i64 b)])], [(Mf bm k2v (Value.int .i64) F1)], hV1, (perm_idx _ _ [0, 1] rfl rfl), ⟨[], .refl _⟩, ?_⟩
  refine rq rfl (qv_add rfl rfl (by omega)) ?_
  refine rq rfl (qv_min rfl rfl) ?_
  refine rl1 (by kernel_rfl) rfl ?_
  refine ops_stp (k := 0) (off := 0) (cs := [(Value.int .i64 b)]) Try.size3 rfl (rfl : ev _ _ = (.int .i64 (if ((gi C (oriV g (lw s))) + (VA L (j - 1 - 1).toNat (aniV s (oriV g (lw s))))) < b then (gi C (oriV g (lw s))) + (VA L (j - 1 - 1).toNat (aniV s (oriV g (lw s)))) else b))) rfl rfl (Nat.le_of_ble_eq_true rfl) ?_
  refine ops_nil ⟨[(Arr 3 pb [(.int .i64 (if ((gi C (oriV g (lw s))) + (VA L (j - 1 - 1).toNat (aniV s (oriV g (lw s))))) < b then (gi C (oriV g (lw s))) + (VA L (j - 1 - 1).toNat (aniV s (oriV g (lw s)))) else b))])], [(Mf bm k2v (Value.int .i64) F1)], (perm_idx _ _ [0, 1] rfl rfl), ?_⟩
  refine rnil ?_
  refine ret0 ?_
  have w := vaft_step hE.gd hE.h6 h0 h1 g0 hg hne hI hP
  rw [hcb.1, show j - 1 - 1 = j - 2 by omega]
  exact ⟨rfl, _, _, rfl, w⟩
 ·
  refine vc_skip ?_
  refine ret0 ?_
  exact ⟨rfl, _, _, rfl, vaft_self (Decidable.not_not.1 (by assumption)) hI⟩

theorem val_firsts {V : HV} {L : List (List Int)} {K : Int} {C : List Int} {cv : Value} {pg bm n : Nat} (IH : ValC L K C cv pg bm n) {s j : Int} {F : Int × Int → Option Int} {ps pb pq pj : Nat} (hE : VEnv V L K C cv pg bm) (hps : Cells V ps [.int .i64 s]) (hpq : Cells V pq [pt pg]) (hpj : Cells V pj [.int .i64 j]) (h0 : 1 ≤ s) (h1 : s < 2 ^ L.length) (hj : 1 < j ∧ j ≤ K) (hn : j ≤ n + 1) (hF : VOk L K F) :
    FnC Try.prog 45 [.int .i64 s, .func (.func 66) #[] #[pt ps, pt pb, pt pq, pt pj]] V [Arr 3 pb [.int .i64 (grpV L s)], Mf bm k2v (Value.int .i64) F] (fun v _ σ' => v = .tuple #[] ∧ ∃ F', σ' = [Arr 3 pb [.int .i64 (VA L (j - 1).toNat s)], Mf bm k2v (Value.int .i64) F'] ∧ VOk L K F' ∧ Ge F F' ∧ ∀ p, Prt s p → p ≠ s → F' (j - 1, aniV s p) ≠ none) := by
  have p6 := pw6 hE.h6
  have h := firsts_c (V := V) (s := s) (fid := 66) (fcaps := [pt ps, pt pb, pt pq, pt pj]) (T := 3) (b := pb) (mb := bm) (ek := k2v) (vl := Value.int .i64) (Inv := VInv L K F s j) (Aft := VAft L K F s j) h0 (by omega)
    (fun W q g u F1 g0 hg hI => by
      obtain ⟨b, rfl, hI'⟩ := hI
      exact val1_c IH (hE.mono q) (hps.mono q) (hpq.mono q) (hpj.mono q) h0 h1 hj hn g0 hg ⟨b, rfl, hI'⟩)
    (fun g u F1 g0 hg h => vinv_n h0 (by omega) g0 hg h) (u := .int .i64 (grpV L s)) (F := F) (vinv_0 hE.gd hE.h6 h0 h1 hF)
  refine h.mono fun v V' σ' _ hh => ?_
  obtain ⟨e, u', F', rfl, hA⟩ := hh
  obtain ⟨rfl, a, b, c⟩ := vinv_end h0 (by omega) hj.1 hA
  exact ⟨e, F', rfl, a, b, c⟩

set_option maxRecDepth 100000 in
set_option maxHeartbeats 4000000 in
theorem val_step {V : HV} {L : List (List Int)} {K : Int} {C : List Int} {cv : Value} {pg bm n : Nat} (IH : ValC L K C cv pg bm n) {s j : Int} {F : Int × Int → Option Int} (hE : VEnv V L K C cv pg bm) (h0 : 1 ≤ s) (h1 : s < 2 ^ L.length) (hj0 : 1 ≤ j) (hj1 : j ≤ K) (hn : j ≤ n + 1) (hF : VOk L K F) :
    FnC Try.prog 52 [(Value.pointer (some ⟨pg, 0, none⟩)), (Value.int .i64 s), (Value.int .i64 j)] V [(Mf bm k2v (Value.int .i64) F)] (fun v _ σ' => ∃ F', v = .int .i64 (VA L (j - 1).toNat s) ∧ σ' = [Mf bm k2v (Value.int .i64) F'] ∧ VPost L K F F' s j) := by
 refine fn_intro (N := 44) Try.func52 (by kernel_rfl) rfl rfl rfl (Nat.le_of_ble_eq_true rfl) ?_
 intro w0 D
 have p6 := pw6 hE.h6
 have hK := hE.hK
 have hcb := cost_bd hE.gd hE.st h0 h1
 have hgs : gi C s = grpV L s := hcb.1
 have hcl := hE.st.1
 refine vc_seq ?_
 refine vc_res (σ' := [(Mf bm k2v (Value.int .i64) F)]) rfl ?_
 refine vc_region ?_
 refine ops_box (v := (Value.pointer (some ⟨pg, 0, none⟩))) (cs := [(Value.pointer (some ⟨pg, 0, none⟩))]) rfl rfl (fun b1 => ?_)
 refine ops_box (v := (Value.int .i64 s)) (cs := [(Value.int .i64 s)]) rfl rfl (fun b2 => ?_)
 refine ops_box (v := (Value.int .i64 j)) (cs := [(Value.int .i64 j)]) rfl rfl (fun b3 => ?_)
 refine oq (qv_as (Value.int .i64 0) rfl) ?_
 refine ops_nil ?_
 refine vc_seq ?_
 refine vc_res (σ' := [(Mf bm k2v (Value.int .i64) F), (Arr 80 b1 [(Value.pointer (some ⟨pg, 0, none⟩))]), (Arr 3 b2 [(Value.int .i64 s)]), (Arr 3 b3 [(Value.int .i64 j)])]) rfl ?_
 refine vc_region ?_
 refine oq (qv_ldp (v := (Value.int .i64 j)) Try.plain3 rfl (inOc (k := 3) rfl) rfl) ?_
 refine oq (qv_ldp (v := (Value.int .i64 s)) Try.plain3 rfl (inOc (k := 2) rfl) rfl) ?_
 refine oq (qv_build (out := [(Value.int .i64 j), (Value.int .i64 s)]) Try.build67 [(0, [(Value.int .i64 j)]), (1, [(Value.int .i64 s)])] rfl rfl) ?_
 refine ops_alloc Try.ti67 rfl (fun b4 => ?_)
 refine ops_stw (k := 4) (vs := [(Value.int .i64 j), (Value.int .i64 s)]) Try.size67 rfl rfl rfl rfl rfl rfl ?_
 refine ops_nil ?_
 refine vc_seq ?_
 refine vc_seq ?_
 refine vc_res (σ' := [(Mf bm k2v (Value.int .i64) F), (Arr 80 b1 [(Value.pointer (some ⟨pg, 0, none⟩))]), (Arr 3 b2 [(Value.int .i64 s)]), (Arr 3 b3 [(Value.int .i64 j)]), (Arr 67 b4 [(Value.int .i64 j), (Value.int .i64 s)])]) rfl ?_
 refine vc_region_any Try.mixed (by kernel_rfl) ?_
 refine qq (qv_ldp (v := (Value.pointer (some ⟨pg, 0, none⟩))) Try.plain80 rfl (inOc (k := 1) rfl) rfl) ?_
 refine qq (qv_nilck rfl) ?_
 refine qq (qv_fa (off := 0) Try.field82_1 rfl) ?_
 refine qq (qv_ldp (v := (Value.map (some bm))) Try.plain64 rfl (inVc hE.g) rfl) ?_
 refine qq (qv_ldm (vs := [(Value.int .i64 j), (Value.int .i64 s)]) Try.agg67 rfl (inOc (k := 4) rfl) rfl rfl) ?_
 refine qq (qv_look (a0 := 0) (key := ((j, s) : Int × Int)) (k := 0) Try.underlying64 k2_key Try.ti3 rfl rfl rfl) ?_
 refine qq (qv_mv (.tuple #[(.int .i64 ((F (((j, s) : Int × Int))).getD 0)), (.bool (decide ((F (((j, s) : Int × Int))).isSome = true)))]) rfl) ?_
 refine qq (qv_ext (.int .i64 ((F (((j, s) : Int × Int))).getD 0)) rfl rfl) ?_
 refine qq (qv_ext (.bool (decide ((F (((j, s) : Int × Int))).isSome = true))) rfl rfl) ?_
 refine qq (qv_as (.int .i64 ((F (((j, s) : Int × Int))).getD 0)) rfl) ?_
 refine qq (qv_as (.bool (decide ((F (((j, s) : Int × Int))).isSome = true))) rfl) ?_
 refine qops_nil ?_
 refine vc_seq ?_
 refine vc_region ?_
 refine oq (qv_mv (.bool (decide ((F (((j, s) : Int × Int))).isSome = true))) rfl) ?_
 refine ops_nil ?_
 refine vc_if rfl (fun c1 => ?_) (fun c1 => ?_)
 ·
  refine vc_seq ?_
  refine vc_region ?_
  refine oq (qv_mv (.int .i64 ((F (((j, s) : Int × Int))).getD 0)) rfl) ?_
  refine oq (qv_as (.int .i64 ((F (((j, s) : Int × Int))).getD 0)) rfl) ?_
  refine ops_nil ?_
  refine vc_drop [(Mf bm k2v (Value.int .i64) F), (Arr 80 b1 [(Value.pointer (some ⟨pg, 0, none⟩))]), (Arr 3 b2 [(Value.int .i64 s)]), (Arr 3 b3 [(Value.int .i64 j)])] [(Arr 67 b4 [(Value.int .i64 j), (Value.int .i64 s)])] ((List.perm_middle (l₁ := [(Mf bm k2v (Value.int .i64) F), (Arr 80 b1 [(Value.pointer (some ⟨pg, 0, none⟩))]), (Arr 3 b2 [(Value.int .i64 s)]), (Arr 3 b3 [(Value.int .i64 j)])]) (l₂ := [])).trans (List.perm_append_comm (l₁ := [(Arr 67 b4 [(Value.int .i64 j), (Value.int .i64 s)])]))) ?_
  refine vc_drop [(Mf bm k2v (Value.int .i64) F), (Arr 80 b1 [(Value.pointer (some ⟨pg, 0, none⟩))]), (Arr 3 b2 [(Value.int .i64 s)])] [(Arr 3 b3 [(Value.int .i64 j)])] ((List.perm_middle (l₁ := [(Mf bm k2v (Value.int .i64) F), (Arr 80 b1 [(Value.pointer (some ⟨pg, 0, none⟩))]), (Arr 3 b2 [(Value.int .i64 s)])]) (l₂ := [])).trans (List.perm_append_comm (l₁ := [(Arr 3 b3 [(Value.int .i64 j)])]))) ?_
  refine vc_drop [(Mf bm k2v (Value.int .i64) F), (Arr 80 b1 [(Value.pointer (some ⟨pg, 0, none⟩))])] [(Arr 3 b2 [(Value.int .i64 s)])] ((List.perm_middle (l₁ := [(Mf bm k2v (Value.int .i64) F), (Arr 80 b1 [(Value.pointer (some ⟨pg, 0, none⟩))])]) (l₂ := [])).trans (List.perm_append_comm (l₁ := [(Arr 3 b2 [(Value.int .i64 s)])]))) ?_
  refine vc_drop [(Mf bm k2v (Value.int .i64) F)] [(Arr 80 b1 [(Value.pointer (some ⟨pg, 0, none⟩))])] ((List.perm_middle (l₁ := [(Mf bm k2v (Value.int .i64) F)]) (l₂ := [])).trans (List.perm_append_comm (l₁ := [(Arr 80 b1 [(Value.pointer (some ⟨pg, 0, none⟩))])]))) ?_
  refine vc_ret ?_
  refine rq1 (.int .i64 ((F (((j, s) : Int × Int))).getD 0)) rfl ?_
  obtain ⟨w, hw⟩ := Option.isSome_iff_exists.1 c1
  have q := hF.ok _ _ _ hw
  exact ⟨F, by rw [hw]; show Value.int .i64 w = _; rw [q.2.2], rfl, hF, Ge.refl _, by rw [hw, q.2.2]⟩
 ·
  refine vc_skip ?_
  refine vc_seq ?_
  refine vc_region_order (τ := []) [(0, false), (1, false), (2, false), (3, false), (4, false), (5, false), (6, false), (7, true), (8, true)] [(Mf bm k2v (Value.int .i64) F), (Arr 80 b1 [(Value.pointer (some ⟨pg, 0, none⟩))]), (Arr 3 b2 [(Value.int .i64 s)]), (Arr 3 b3 [(Value.int .i64 j)]), (Arr 67 b4 [(Value.int .i64 j), (Value.int .i64 s)])] Try.mixed (perm_nil _) (by kernel_rfl) ?_
  refine rq rfl (qv_ldp (v := (Value.pointer (some ⟨pg, 0, none⟩))) Try.plain80 rfl (inOc (k := 1) rfl) rfl) ?_
  refine rq rfl (qv_nilck rfl) ?_
  refine rq rfl (qv_fa (off := 0) Try.field82_0 rfl) ?_
  refine rq rfl (qv_ldp (v := cv) Try.plain29 rfl (inVc hE.g) rfl) ?_
  refine rq rfl (qv_ldp (v := (Value.int .i64 s)) Try.plain3 rfl (inOc (k := 2) rfl) rfl) ?_
  refine rq rfl (qv_iai (v := cv) (i := s) Try.underlying29 Try.size3 rfl (inVi hE.c) rfl (by omega) (by omega)) ?_
  refine rq rfl (qv_ldi (v := cv) (i := s) Try.plain3 rfl (inVi hE.c) (by omega) (by omega)) ?_
  refine rl rfl ?_
  refine ops_alloc Try.ti3 rfl (fun b5 => ?_)
  refine ops_nil ⟨[(Mf bm k2v (Value.int .i64) F), (Arr 80 b1 [(Value.pointer (some ⟨pg, 0, none⟩))]), (Arr 3 b2 [(Value.int .i64 s)]), (Arr 3 b3 [(Value.int .i64 j)]), (Arr 67 b4 [(Value.int .i64 j), (Value.int .i64 s)]), (Arr 3 b5 [(Value.int .i64 0)])], [], (Sub.refl _), perm_nil _, ⟨[(Arr 3 b5 [(Value.int .i64 0)])], (.refl _)⟩, ?_⟩
  refine rl1 (by kernel_rfl) rfl ?_
  refine ops_stp (k := 5) (off := 0) (cs := [(Value.int .i64 0)]) Try.size3 rfl (rfl : ev _ _ = (.int .i64 (gi C (s)))) rfl rfl (Nat.le_of_ble_eq_true rfl) ?_
  refine ops_nil ⟨[(Mf bm k2v (Value.int .i64) F), (Arr 80 b1 [(Value.pointer (some ⟨pg, 0, none⟩))]), (Arr 3 b2 [(Value.int .i64 s)]), (Arr 3 b3 [(Value.int .i64 j)]), (Arr 67 b4 [(Value.int .i64 j), (Value.int .i64 s)]), (Arr 3 b5 [(.int .i64 (gi C (s)))])], [], perm_nil _, ?_⟩
  refine rnil ?_
  refine vc_seq ?_
  refine vc_seq ?_
  refine vc_res (σ' := [(Mf bm k2v (Value.int .i64) F), (Arr 80 b1 [(Value.pointer (some ⟨pg, 0, none⟩))]), (Arr 3 b2 [(Value.int .i64 s)]), (Arr 3 b3 [(Value.int .i64 j)]), (Arr 67 b4 [(Value.int .i64 j), (Value.int .i64 s)]), (Arr 3 b5 [(.int .i64 (gi C (s)))])]) rfl ?_
  refine vc_region ?_
  refine oq (qv_ldp (v := (Value.int .i64 j)) Try.plain3 rfl (inOc (k := 3) rfl) rfl) ?_
  refine oq (qv_gtr rfl rfl) ?_
  refine ops_nil ?_
  refine vc_if rfl (fun c2 => ?_) (fun c2 => ?_)
  ·
   refine vc_freeze (b := b2) (o := .cells ([(Value.int .i64 s)] : List Value).toArray 3 (0, 0)) (σr := [(Mf bm k2v (Value.int .i64) F), (Arr 80 b1 [(Value.pointer (some ⟨pg, 0, none⟩))]), (Arr 3 b3 [(Value.int .i64 j)]), (Arr 67 b4 [(Value.int .i64 j), (Value.int .i64 s)]), (Arr 3 b5 [(Value.int .i64 (gi C (s)))])]) (List.perm_middle (l₁ := [(Mf bm k2v (Value.int .i64) F), (Arr 80 b1 [(Value.pointer (some ⟨pg, 0, none⟩))])]) (l₂ := [(Arr 3 b3 [(Value.int .i64 j)]), (Arr 67 b4 [(Value.int .i64 j), (Value.int .i64 s)]), (Arr 3 b5 [(Value.int .i64 (gi C (s)))])])) (fun Vf1 hVf1 hb1 => ?_)
   have hc1 : Cells Vf1 b2 [(Value.int .i64 s)] := ⟨_, _, hb1⟩
   have hE := hE.mono hVf1
   refine vc_freeze (b := b1) (o := .cells ([(Value.pointer (some ⟨pg, 0, none⟩))] : List Value).toArray 80 (0, 0)) (σr := [(Mf bm k2v (Value.int .i64) F), (Arr 3 b3 [(Value.int .i64 j)]), (Arr 67 b4 [(Value.int .i64 j), (Value.int .i64 s)]), (Arr 3 b5 [(Value.int .i64 (gi C (s)))])]) (List.perm_middle (l₁ := [(Mf bm k2v (Value.int .i64) F)]) (l₂ := [(Arr 3 b3 [(Value.int .i64 j)]), (Arr 67 b4 [(Value.int .i64 j), (Value.int .i64 s)]), (Arr 3 b5 [(Value.int .i64 (gi C (s)))])])) (fun Vf2 hVf2 hb2 => ?_)
   have hc2 : Cells Vf2 b1 [(Value.pointer (some ⟨pg, 0, none⟩))] := ⟨_, _, hb2⟩
   have hE := hE.mono hVf2
   have hc1 := hc1.mono hVf2
   refine vc_freeze (b := b3) (o := .cells ([(Value.int .i64 j)] : List Value).toArray 3 (0, 0)) (σr := [(Mf bm k2v (Value.int .i64) F), (Arr 67 b4 [(Value.int .i64 j), (Value.int .i64 s)]), (Arr 3 b5 [(Value.int .i64 (gi C (s)))])]) (List.perm_middle (l₁ := [(Mf bm k2v (Value.int .i64) F)]) (l₂ := [(Arr 67 b4 [(Value.int .i64 j), (Value.int .i64 s)]), (Arr 3 b5 [(Value.int .i64 (gi C (s)))])])) (fun Vf3 hVf3 hb3 => ?_)
   have hc3 : Cells Vf3 b3 [(Value.int .i64 j)] := ⟨_, _, hb3⟩
   have hE := hE.mono hVf3
   have hc1 := hc1.mono hVf3
   have hc2 := hc2.mono hVf3
   refine vc_region ?_
   refine oq (qv_ldp (v := (Value.int .i64 s)) Try.plain3 rfl (inVc hc1) rfl) ?_
   refine oq (qv_func (cs := [(Value.pointer (some ⟨b2, 0, none⟩)), (Value.pointer (some ⟨b5, 0, none⟩)), (Value.pointer (some ⟨b1, 0, none⟩)), (Value.pointer (some ⟨b3, 0, none⟩))]) rfl) ?_
   refine ops_call (σa := [(Arr 3 b5 [(.int .i64 (gi C (s)))]), (Mf bm k2v (Value.int .i64) F)]) (σr := [(Arr 67 b4 [(Value.int .i64 j), (Value.int .i64 s)])]) (by have h := val_firsts IH hE hc1 hc2 hc3 h0 h1 ⟨by omega, by omega⟩ (by omega) hF (pb := b5); rw [← hgs] at h; exact h) rfl rfl (perm_idx _ _ [2, 0, 1] rfl rfl) (fun r1 V1 sg1 hV1 hp1 => ?_)
   obtain ⟨rfl, F1, rfl, hv1, hg1, hq1⟩ := hp1
   have hE := hE.mono hV1
   have hc1 := hc1.mono hV1
   have hc2 := hc2.mono hV1
   have hc3 := hc3.mono hV1
   refine ops_nil ?_
   refine vc_seq ?_
   refine vc_res (σ' := [(Arr 3 b5 [(.int .i64 (VA L (j - 1).toNat s))]), (Mf bm k2v (Value.int .i64) F1), (Arr 67 b4 [(Value.int .i64 j), (Value.int .i64 s)])]) rfl ?_
   refine vc_region_order (τ := []) [(0, false), (1, false), (2, false), (3, false), (4, false), (5, false), (6, true)] [(Arr 3 b5 [(.int .i64 (VA L (j - 1).toNat s))]), (Mf bm k2v (Value.int .i64) F1), (Arr 67 b4 [(Value.int .i64 j), (Value.int .i64 s)])] Try.mixed (perm_nil _) (by kernel_rfl) ?_
   refine rq rfl (qv_ldp (v := (Value.pointer (some ⟨pg, 0, none⟩))) Try.plain80 rfl (inVc hc2) rfl) ?_
   refine rq rfl (qv_nilck rfl) ?_
   refine rq rfl (qv_fa (off := 0) Try.field82_1 rfl) ?_
   refine rq rfl (qv_ldp (v := (Value.map (some bm))) Try.plain64 rfl (inVc hE.g) rfl) ?_
   refine rq rfl (qv_ldm (vs := [(Value.int .i64 j), (Value.int .i64 s)]) Try.agg67 rfl (inOc (k := 2) rfl) rfl rfl) ?_
   refine rq rfl (qv_ldp (v := (.int .i64 (VA L (j - 1).toNat s))) Try.plain3 rfl (inOc (k := 0) rfl) rfl) ?_
   refine rl1 (by kernel_rfl) rfl ?_
   refine ops_mapset (k := 1) (key := ((j, s) : Int × Int)) (v := VA L (j - 1).toNat s) Try.underlying64 k2_key rfl rfl rfl rfl ?_
   refine ops_nil ⟨[(Arr 3 b5 [(.int .i64 (VA L (j - 1).toNat s))]), (Mf bm k2v (Value.int .i64) (setF F1 (((j, s) : Int × Int)) (VA L (j - 1).toNat s))), (Arr 67 b4 [(Value.int .i64 j), (Value.int .i64 s)])], [], perm_nil _, ?_⟩
   refine rnil ?_
   refine vc_seq ?_
   refine vc_res (σ' := [(Arr 3 b5 [(.int .i64 (VA L (j - 1).toNat s))]), (Mf bm k2v (Value.int .i64) (setF F1 (((j, s) : Int × Int)) (VA L (j - 1).toNat s))), (Arr 67 b4 [(Value.int .i64 j), (Value.int .i64 s)])]) rfl ?_
   refine vc_region ?_
   refine oq (qv_ldp (v := (.int .i64 (VA L (j - 1).toNat s))) Try.plain3 rfl (inOc (k := 0) rfl) rfl) ?_
   refine oq (qv_as (.int .i64 (VA L (j - 1).toNat s)) rfl) ?_
   refine ops_nil ?_
   refine vc_drop [(Arr 3 b5 [(Value.int .i64 (VA L (j - 1).toNat s))]), (Mf bm k2v (Value.int .i64) (setF F1 (((j, s) : Int × Int)) (VA L (j - 1).toNat s)))] [(Arr 67 b4 [(Value.int .i64 j), (Value.int .i64 s)])] ((List.perm_middle (l₁ := [(Arr 3 b5 [(Value.int .i64 (VA L (j - 1).toNat s))]), (Mf bm k2v (Value.int .i64) (setF F1 (((j, s) : Int × Int)) (VA L (j - 1).toNat s)))]) (l₂ := [])).trans (List.perm_append_comm (l₁ := [(Arr 67 b4 [(Value.int .i64 j), (Value.int .i64 s)])]))) ?_
   refine vc_drop [(Mf bm k2v (Value.int .i64) (setF F1 (((j, s) : Int × Int)) (VA L (j - 1).toNat s)))] [(Arr 3 b5 [(Value.int .i64 (VA L (j - 1).toNat s))])] ((List.perm_middle (l₁ := []) (l₂ := [(Mf bm k2v (Value.int .i64) (setF F1 (((j, s) : Int × Int)) (VA L (j - 1).toNat s)))])).trans (List.perm_append_comm (l₁ := [(Arr 3 b5 [(Value.int .i64 (VA L (j - 1).toNat s))])]))) ?_
   refine vc_ret ?_
   refine rq1 (.int .i64 (VA L (j - 1).toNat s)) rfl ?_
   exact ⟨_, rfl, rfl, vok_set hv1 ⟨by omega, by omega⟩ ⟨h0, h1⟩ (fun _ => hq1), hg1.trans (ge_set hv1), setF_same⟩
  ·
   refine vc_skip ?_
   refine vc_seq ?_
   refine vc_region_order (τ := []) [(0, false), (1, false), (2, false), (3, false), (4, false), (5, false), (6, true)] [(Mf bm k2v (Value.int .i64) F), (Arr 80 b1 [(Value.pointer (some ⟨pg, 0, none⟩))]), (Arr 3 b2 [(Value.int .i64 s)]), (Arr 3 b3 [(Value.int .i64 j)]), (Arr 67 b4 [(Value.int .i64 j), (Value.int .i64 s)]), (Arr 3 b5 [(.int .i64 (gi C (s)))])] Try.mixed (perm_nil _) (by kernel_rfl) ?_
   refine rq rfl (qv_ldp (v := (Value.pointer (some ⟨pg, 0, none⟩))) Try.plain80 rfl (inOc (k := 1) rfl) rfl) ?_
   refine rq rfl (qv_nilck rfl) ?_
   refine rq rfl (qv_fa (off := 0) Try.field82_1 rfl) ?_
   refine rq rfl (qv_ldp (v := (Value.map (some bm))) Try.plain64 rfl (inVc hE.g) rfl) ?_
   refine rq rfl (qv_ldm (vs := [(Value.int .i64 j), (Value.int .i64 s)]) Try.agg67 rfl (inOc (k := 4) rfl) rfl rfl) ?_
   refine rq rfl (qv_ldp (v := (.int .i64 (gi C (s)))) Try.plain3 rfl (inOc (k := 5) rfl) rfl) ?_
   refine rl1 (by kernel_rfl) rfl ?_
   refine ops_mapset (k := 0) (key := ((j, s) : Int × Int)) (v := gi C (s)) Try.underlying64 k2_key rfl rfl rfl rfl ?_
   refine ops_nil ⟨[(Mf bm k2v (Value.int .i64) (setF F (((j, s) : Int × Int)) (gi C (s)))), (Arr 80 b1 [(Value.pointer (some ⟨pg, 0, none⟩))]), (Arr 3 b2 [(Value.int .i64 s)]), (Arr 3 b3 [(Value.int .i64 j)]), (Arr 67 b4 [(Value.int .i64 j), (Value.int .i64 s)]), (Arr 3 b5 [(.int .i64 (gi C (s)))])], [], perm_nil _, ?_⟩
   refine rnil ?_
   refine vc_seq ?_
   refine vc_res (σ' := [(Mf bm k2v (Value.int .i64) (setF F (((j, s) : Int × Int)) (gi C (s)))), (Arr 80 b1 [(Value.pointer (some ⟨pg, 0, none⟩))]), (Arr 3 b2 [(Value.int .i64 s)]), (Arr 3 b3 [(Value.int .i64 j)]), (Arr 67 b4 [(Value.int .i64 j), (Value.int .i64 s)]), (Arr 3 b5 [(.int .i64 (gi C (s)))])]) rfl ?_
   refine vc_region ?_
   refine oq (qv_ldp (v := (.int .i64 (gi C (s)))) Try.plain3 rfl (inOc (k := 5) rfl) rfl) ?_
   refine oq (qv_as (.int .i64 (gi C (s))) rfl) ?_
   refine ops_nil ?_
   refine vc_drop [(Mf bm k2v (Value.int .i64) (setF F (((j, s) : Int × Int)) (gi C (s)))), (Arr 80 b1 [(Value.pointer (some ⟨pg, 0, none⟩))]), (Arr 3 b2 [(Value.int .i64 s)]), (Arr 3 b3 [(Value.int .i64 j)]), (Arr 67 b4 [(Value.int .i64 j), (Value.int .i64 s)])] [(Arr 3 b5 [(Value.int .i64 (gi C (s)))])] ((List.perm_middle (l₁ := [(Mf bm k2v (Value.int .i64) (setF F (((j, s) : Int × Int)) (gi C (s)))), (Arr 80 b1 [(Value.pointer (some ⟨pg, 0, none⟩))]), (Arr 3 b2 [(Value.int .i64 s)]), (Arr 3 b3 [(Value.int .i64 j)]), (Arr 67 b4 [(Value.int .i64 j), (Value.int .i64 s)])]) (l₂ := [])).trans (List.perm_append_comm (l₁ := [(Arr 3 b5 [(Value.int .i64 (gi C (s)))])]))) ?_
   refine vc_drop [(Mf bm k2v (Value.int .i64) (setF F (((j, s) : Int × Int)) (gi C (s)))), (Arr 80 b1 [(Value.pointer (some ⟨pg, 0, none⟩))]), (Arr 3 b2 [(Value.int .i64 s)]), (Arr 3 b3 [(Value.int .i64 j)])] [(Arr 67 b4 [(Value.int .i64 j), (Value.int .i64 s)])] ((List.perm_middle (l₁ := [(Mf bm k2v (Value.int .i64) (setF F (((j, s) : Int × Int)) (gi C (s)))), (Arr 80 b1 [(Value.pointer (some ⟨pg, 0, none⟩))]), (Arr 3 b2 [(Value.int .i64 s)]), (Arr 3 b3 [(Value.int .i64 j)])]) (l₂ := [])).trans (List.perm_append_comm (l₁ := [(Arr 67 b4 [(Value.int .i64 j), (Value.int .i64 s)])]))) ?_
   refine vc_drop [(Mf bm k2v (Value.int .i64) (setF F (((j, s) : Int × Int)) (gi C (s)))), (Arr 80 b1 [(Value.pointer (some ⟨pg, 0, none⟩))]), (Arr 3 b2 [(Value.int .i64 s)])] [(Arr 3 b3 [(Value.int .i64 j)])] ((List.perm_middle (l₁ := [(Mf bm k2v (Value.int .i64) (setF F (((j, s) : Int × Int)) (gi C (s)))), (Arr 80 b1 [(Value.pointer (some ⟨pg, 0, none⟩))]), (Arr 3 b2 [(Value.int .i64 s)])]) (l₂ := [])).trans (List.perm_append_comm (l₁ := [(Arr 3 b3 [(Value.int .i64 j)])]))) ?_
   refine vc_drop [(Mf bm k2v (Value.int .i64) (setF F (((j, s) : Int × Int)) (gi C (s)))), (Arr 80 b1 [(Value.pointer (some ⟨pg, 0, none⟩))])] [(Arr 3 b2 [(Value.int .i64 s)])] ((List.perm_middle (l₁ := [(Mf bm k2v (Value.int .i64) (setF F (((j, s) : Int × Int)) (gi C (s)))), (Arr 80 b1 [(Value.pointer (some ⟨pg, 0, none⟩))])]) (l₂ := [])).trans (List.perm_append_comm (l₁ := [(Arr 3 b2 [(Value.int .i64 s)])]))) ?_
   refine vc_drop [(Mf bm k2v (Value.int .i64) (setF F (((j, s) : Int × Int)) (gi C (s))))] [(Arr 80 b1 [(Value.pointer (some ⟨pg, 0, none⟩))])] ((List.perm_middle (l₁ := [(Mf bm k2v (Value.int .i64) (setF F (((j, s) : Int × Int)) (gi C (s))))]) (l₂ := [])).trans (List.perm_append_comm (l₁ := [(Arr 80 b1 [(Value.pointer (some ⟨pg, 0, none⟩))])]))) ?_
   refine vc_ret ?_
   refine rq1 (.int .i64 (gi C (s))) rfl ?_
   have e : gi C s = VA L (j - 1).toNat s := by rw [hgs, show (j - 1).toNat = 0 by omega]; rfl
   rw [e]
   exact ⟨_, rfl, rfl, vok_set hF ⟨by omega, by omega⟩ ⟨h0, h1⟩ (fun q => by omega), ge_set hF, setF_same⟩

theorem val_c {L : List (List Int)} {K : Int} {C : List Int} {cv : Value} {pg bm : Nat} : ∀ n, ValC L K C cv pg bm n
  | 0 => fun V s j F _ _ _ h2 _ h4 _ => by omega
  | n + 1 => fun V s j F hE h0 h1 h2 h3 h4 hF => val_step (val_c n) hE h0 h1 h2 h3 (by omega) hF
end Go.Proofs.Ytmkbjhligjnagaa
