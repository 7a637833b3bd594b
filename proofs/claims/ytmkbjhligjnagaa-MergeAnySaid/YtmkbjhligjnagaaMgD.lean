/- Walks of merge: what each function returns. Printed by a program out of notes. -/
import Derived.Test.YtmkbjhligjnagaaMgC
import Derived.Test.YtmkbjhligjnagaaMgX
namespace Go.Proofs.Ytmkbjhligjnagaa
open Go.Vc
open Classical

set_option maxRecDepth 100000 in
theorem least_c {V : HV} {l : Value} {rv : List Value} {L : List (List Int)} {k : Int} {o : Prop} (hl : Mat .i64 V l rv L) (hg : Good L) (hn : L.length ≤ 100) :
    FnC Try.prog 16 [l, (Value.int .i64 k), (Value.bool (decide (o)))] V [] (fun v V' σ' => σ' = [] ∧ ∃ (best : Int) (fv : Value) (F : List Int), v = .tuple #[.int .i64 best, fv] ∧ Ints .i64 V' fv F ∧ Best (Ok L k o) L (fun _ => True) best F) := by
  refine fn_intro (N := 55) Try.func16 (by kernel_rfl) rfl rfl rfl (Nat.le_of_ble_eq_true rfl) ?_
  intro w0 D
  have hlen := hl.len
  have hpos := hg.pos
  refine vc_seq ?_
  refine vc_region ?_
  refine oq (qv_as (Value.int .i64 0) rfl) ?_
  refine oq (qv_as (Value.slice none 0 0) rfl) ?_
  refine ops_nil ?_
  refine vc_seq ?_
  refine vc_region ?_
  refine oq (qv_as (Value.int .i64 ((-1))) rfl) ?_
  refine ops_nil ?_
  refine vc_seq ?_
  refine vc_region ?_
  refine oq (qv_as (Value.slice none 0 0) rfl) ?_
  refine ops_nil ?_
  refine vc_seq ?_
  refine vc_region ?_
  refine oq (qv_mv l rfl) ?_
  refine oq (qv_lenS Try.underlying23 rfl hl.sl) ?_
  refine ops_make (n := (rv.length : Int)) Try.underlying29 Try.ti3 rfl rfl rfl rfl (by omega) (by omega) (by omega) (fun b1 => ?_)
  refine oq (qv_as (Value.slice (some ⟨b1, 0, none⟩) rv.length rv.length) rfl) ?_
  refine ops_nil ?_
  refine vc_seq ?_
  refine vc_seq ?_
  refine vc_nil 3 1 ?_
  refine vc_region ?_
  refine oq (qv_as (Value.bool true) rfl) ?_
  refine ops_nil ?_
  refine vc_block ?_
  refine vc_loop (α := Int × Int × Value × List Int × List Int) (fun (xx : Int × Int × Value × List Int × List Int) => [(0, l), (1, (Value.int .i64 k)), (2, (Value.bool (decide (o)))), (6, (Value.int .i64 0)), (7, (Value.slice none 0 0)), (10, (Value.slice (some ⟨b1, 0, none⟩) rv.length rv.length)), (8, (Value.int .i64 xx.2.1)), (9, xx.2.2.1), (11, (Value.bool (decide (xx.1 = 1))))]) (fun (xx : Int × Int × Value × List Int × List Int) V' σ' => [(Arr 3 b1 (xx.2.2.2.2.map (Value.int .i64))), (Gr 3 1 xx.2.2.1 xx.2.2.2.1.length ((xx.2.2.2.1.map (Value.int .i64))))] = σ' ∧ Mat .i64 V' l rv L ∧ xx.2.2.2.2.length = rv.length ∧ (xx.1 = 1 → InR rv.length xx.2.2.2.2) ∧ xx.2.2.2.1.length ≤ rv.length ∧ Best (Ok L k o) L (fun H => xx.1 = 1 → Lex L.length H xx.2.2.2.2) xx.2.1 xx.2.2.2.1) (fun (xx : Int × Int × Value × List Int × List Int) => (if xx.1 = 1 then rv.length ^ rv.length - spell rv.length xx.2.2.2.2 rv.length + 1 else 0)) (1, -1, (Value.slice none 0 0), [], (List.replicate rv.length 0)) ?_ ?_ ?_
  · exact ⟨rfl, rfl, rfl, rfl, rfl, rfl, rfl, (by first | rfl | (first | omega | simp)), (congrArg Value.bool (decide_eq_true (show (1 = 1) from by first | omega | simp)).symm), trivial⟩
  · exact (show [(Arr 3 b1 (((List.replicate rv.length 0) : List Int).map (Value.int .i64))), (Gr 3 1 ((Value.slice none 0 0) : Value) ([] : List Int).length ((([] : List Int).map (Value.int .i64))))] = [(Arr 3 b1 (List.replicate ((rv.length : Int)).toNat (Value.int .i64 0))), (Gr 3 1 ((Value.slice none 0 0)) 0 ([]))] ∧ Mat .i64 V l rv L ∧ ((List.replicate rv.length 0) : List Int).length = rv.length ∧ ((1 : Int) = 1 → InR rv.length ((List.replicate rv.length 0) : List Int)) ∧ ([] : List Int).length ≤ rv.length ∧ Best (Ok L k o) L (fun H => (1 : Int) = 1 → Lex L.length H ((List.replicate rv.length 0) : List Int)) (-1 : Int) ([] : List Int) from ⟨(show [(Arr 3 b1 (((List.replicate rv.length 0) : List Int).map (Value.int .i64))), (Gr 3 1 ((Value.slice none 0 0)) ([] : List Int).length ((([] : List Int).map (Value.int .i64))))] = [(Arr 3 b1 (List.replicate ((rv.length : Int)).toNat (Value.int .i64 0))), (Gr 3 1 ((Value.slice none 0 0)) 0 ([]))] from by simp [List.map_replicate]), hl, List.length_replicate, fun _ => inr_zero (by omega), Nat.zero_le _, Or.inl ⟨rfl, rfl, fun H q x => absurd (x rfl) (by rintro ⟨p, p0, p1, p2, p3⟩; have := q.inr.2 p p0 p1; have : gi (List.replicate rv.length 0) p = 0 := (by unfold gi; simp [List.getElem?_replicate]; split <;> rfl); omega)⟩⟩)
  rintro ⟨m, best, fv, F, G⟩ e1 V0l σ0l hI0
  obtain ⟨rfl, hl, hG, hr, hF, hB⟩ : [(Arr 3 b1 (G.map (Value.int .i64))), (Gr 3 1 fv F.length ((F.map (Value.int .i64))))] = σ0l ∧ Mat .i64 V0l l rv L ∧ G.length = rv.length ∧ (m = 1 → InR rv.length G) ∧ F.length ≤ rv.length ∧ Best (Ok L k o) L (fun H => m = 1 → Lex L.length H G) best F := hI0
  change VC _ _ _ _ _ _ (upds 55 [(0, l), (1, (Value.int .i64 k)), (2, (Value.bool (decide (o)))), (6, (Value.int .i64 0)), (7, (Value.slice none 0 0)), (10, (Value.slice (some ⟨b1, 0, none⟩) rv.length rv.length)), (8, (Value.int .i64 best)), (9, fv), (11, (Value.bool (decide (m = 1))))] e1) _ _
  refine vc_seq ?_
  refine vc_seq ?_
  refine vc_region ?_
  refine oq (qv_mv (Value.bool (decide (m = 1))) rfl) ?_
  refine ops_nil ?_
  refine vc_if rfl (fun c1 => ?_) (fun c1 => ?_)
  ·
    refine vc_skip ?_
    refine vc_seq ?_
    refine vc_block ?_
    refine vc_seq ?_
    have hm : m = 1 := by omega
    have hB1 : Best (Ok L k o) L (fun H => Lex L.length H G) best F := best_skip hB (fun H _ x _ => x) (fun H x => x hm)
    refine vc_region ?_
    refine oq (qv_mv l rfl) ?_
    refine oq (qv_mv (Value.slice (some ⟨b1, 0, none⟩) rv.length rv.length) rfl) ?_
    refine oq (qv_call_own (v := (Value.tuple #[(Value.int .i64 (gN L G)), (Value.int .i64 (gE L G))])) (k := 0) (b := b1) rfl (fun Vo hVo hbo => lcost_c (hl.mono hVo) (sl_own hbo (by simp only [List.length_map]; omega) (Nat.le_refl _) (by omega)) hg) rfl rfl) ?_
    refine oq (qv_mv (Value.tuple #[(Value.int .i64 (gN L G)), (Value.int .i64 (gE L G))]) rfl) ?_
    refine oq (qv_ext (Value.int .i64 (gN L G)) rfl rfl) ?_
    refine oq (qv_ext (Value.int .i64 (gE L G)) rfl rfl) ?_
    refine oq (qv_as (Value.int .i64 (gN L G)) rfl) ?_
    refine oq (qv_as (Value.int .i64 (gE L G)) rfl) ?_
    refine ops_nil ?_
    refine vc_seq ?_
    refine vc_seq ?_
    refine vc_region ?_
    refine oq (qv_mv (Value.int .i64 (gE L G)) rfl) ?_
    refine oq (qv_neq rfl rfl) ?_
    refine oq (qv_mv (Value.bool (decide ((gE L G) ≠ 0))) rfl) ?_
    by_cases g1 : (gE L G) ≠ 0
    ·
      refine os (want_fn g1 rfl rfl rfl) ?_
      refine os (want_fn g1 rfl rfl rfl) ?_
      refine os (want_fn g1 rfl rfl rfl) ?_
      refine os (want_fn g1 rfl rfl rfl) ?_
      refine oq (qv_pick_t g1 rfl (rfl : ev _ _ = (Value.bool true))) ?_
      refine oq (qv_mv (Value.bool true) rfl) ?_
      refine os (want_fnc rfl rfl rfl) ?_
      refine os (want_fnc rfl rfl rfl) ?_
      refine os (want_u rfl rfl rfl) ?_
      refine os (want_u rfl rfl rfl) ?_
      refine os (want_u rfl rfl rfl) ?_
      refine os (want_fnc rfl rfl rfl) ?_
      refine oq (qv_pick_tc rfl (rfl : ev _ _ = (Value.bool true))) ?_
      refine ops_nil ?_
      refine vc_tt rfl ?_
      refine vc_exit ?_
      refine blockQ_hit ?_
      have hB2 := best_no hB1 (fun ⟨a, b, c⟩ => by first | exact absurd a (by assumption) | omega | exact absurd (c (by assumption)) (by assumption))
      refine vc_region ?_
      refine oq (qv_mv (Value.slice (some ⟨b1, 0, none⟩) rv.length rv.length) rfl) ?_
      refine ops_call (σa := [(Arr 3 b1 (G.map (Value.int .i64)))]) (σr := [(Gr 3 1 fv F.length ((F.map (Value.int .i64))))]) (lnext_c hG (by omega) (hr hm)) rfl rfl (.refl _) (fun r1 V1 sg1 hV1 hp1 => ?_)
      obtain ⟨m1, D1, rfl, rfl, hD1, hD2, hD3⟩ := hp1
      have hl := hl.mono hV1
      refine oq (qv_as (Value.bool (decide (m1 = 1))) rfl) ?_
      refine ops_nil ?_
      refine ⟨(m1, best, fv, F, D1), ⟨rfl, rfl, rfl, rfl, rfl, rfl, rfl, rfl, rfl, trivial⟩, (show [(Arr 3 b1 (D1.map (Value.int .i64))), (Gr 3 1 fv F.length ((F.map (Value.int .i64))))] = [(Arr 3 b1 (D1.map (Value.int .i64))), (Gr 3 1 fv F.length ((F.map (Value.int .i64))))] ∧ Mat .i64 V1 l rv L ∧ D1.length = rv.length ∧ (m1 = 1 → InR rv.length D1) ∧ F.length ≤ rv.length ∧ Best (Ok L k o) L (fun H => m1 = 1 → Lex L.length H D1) best F from ⟨(show [(Arr 3 b1 ((D1 : List Int).map (Value.int .i64))), (Gr 3 1 fv (F : List Int).length (((F : List Int).map (Value.int .i64))))] = [(Arr 3 b1 (D1.map (Value.int .i64))), (Gr 3 1 fv F.length ((F.map (Value.int .i64))))] from by first | rfl | rw [List.nil_append, Nat.zero_add, hG]), hl, hD1, fun h => up_inr (hD2 h) (hr hm), by omega, best_round hlen hB2 hG (fun H q => q.inr) hD2 hD3⟩), show (if m1 = 1 then rv.length ^ rv.length - spell rv.length D1 rv.length + 1 else 0) < (if m = 1 then rv.length ^ rv.length - spell rv.length G rv.length + 1 else 0) from up_mu hm (hr hm) hD2⟩
    ·
      refine og (qv_mv (Value.slice (some ⟨b1, 0, none⟩) rv.length rv.length) rfl) (want_f g1 rfl rfl rfl) ?_
      refine og (qv_call_own (v := (Value.int .i64 (kindsN G G.length))) (k := 0) (b := b1) rfl (fun Vo hVo hbo => kinds_c (sl_own hbo (by simp only [List.length_map]; omega) (Nat.le_refl _) (by omega))) rfl rfl) (want_f g1 rfl rfl rfl) ?_
      refine og (qv_mv (Value.int .i64 k) rfl) (want_f g1 rfl rfl rfl) ?_
      refine og (qv_gtr rfl rfl) (want_f g1 rfl rfl rfl) ?_
      refine oq (qv_pick_f g1 rfl (rfl : ev _ _ = (Value.bool (decide (k < (kindsN G G.length)))))) ?_
      refine oq (qv_mv (Value.bool (decide (k < (kindsN G G.length)))) rfl) ?_
      by_cases g2 : k < (kindsN G G.length)
      ·
        refine os (want_fn g2 rfl rfl rfl) ?_
        refine os (want_fn g2 rfl rfl rfl) ?_
        refine os (want_u rfl rfl rfl) ?_
        refine os (want_u rfl rfl rfl) ?_
        refine os (want_u rfl rfl rfl) ?_
        refine os (want_fn g2 rfl rfl rfl) ?_
        refine oq (qv_pick_t g2 rfl (rfl : ev _ _ = (Value.bool true))) ?_
        refine ops_nil ?_
        refine vc_tt rfl ?_
        refine vc_exit ?_
        refine blockQ_hit ?_
        have hB2 := best_no hB1 (fun ⟨a, b, c⟩ => by first | exact absurd a (by assumption) | omega | exact absurd (c (by assumption)) (by assumption))
        refine vc_region ?_
        refine oq (qv_mv (Value.slice (some ⟨b1, 0, none⟩) rv.length rv.length) rfl) ?_
        refine ops_call (σa := [(Arr 3 b1 (G.map (Value.int .i64)))]) (σr := [(Gr 3 1 fv F.length ((F.map (Value.int .i64))))]) (lnext_c hG (by omega) (hr hm)) rfl rfl (.refl _) (fun r2 V2 sg2 hV2 hp2 => ?_)
        obtain ⟨m1, D1, rfl, rfl, hD1, hD2, hD3⟩ := hp2
        have hl := hl.mono hV2
        refine oq (qv_as (Value.bool (decide (m1 = 1))) rfl) ?_
        refine ops_nil ?_
        refine ⟨(m1, best, fv, F, D1), ⟨rfl, rfl, rfl, rfl, rfl, rfl, rfl, rfl, rfl, trivial⟩, (show [(Arr 3 b1 (D1.map (Value.int .i64))), (Gr 3 1 fv F.length ((F.map (Value.int .i64))))] = [(Arr 3 b1 (D1.map (Value.int .i64))), (Gr 3 1 fv F.length ((F.map (Value.int .i64))))] ∧ Mat .i64 V2 l rv L ∧ D1.length = rv.length ∧ (m1 = 1 → InR rv.length D1) ∧ F.length ≤ rv.length ∧ Best (Ok L k o) L (fun H => m1 = 1 → Lex L.length H D1) best F from ⟨(show [(Arr 3 b1 ((D1 : List Int).map (Value.int .i64))), (Gr 3 1 fv (F : List Int).length (((F : List Int).map (Value.int .i64))))] = [(Arr 3 b1 (D1.map (Value.int .i64))), (Gr 3 1 fv F.length ((F.map (Value.int .i64))))] from by first | rfl | rw [List.nil_append, Nat.zero_add, hG]), hl, hD1, fun h => up_inr (hD2 h) (hr hm), by omega, best_round hlen hB2 hG (fun H q => q.inr) hD2 hD3⟩), show (if m1 = 1 then rv.length ^ rv.length - spell rv.length D1 rv.length + 1 else 0) < (if m = 1 then rv.length ^ rv.length - spell rv.length G rv.length + 1 else 0) from up_mu hm (hr hm) hD2⟩
      ·
        refine og (qv_mv (Value.bool (decide (o))) rfl) (want_f g2 rfl rfl rfl) ?_
        refine og (qv_mv (Value.bool (decide (o))) rfl) (want_f g2 rfl rfl rfl) ?_
        by_cases g3 : o
        ·
          refine og (qv_mv (Value.slice (some ⟨b1, 0, none⟩) rv.length rv.length) rfl) (want_t g3 rfl rfl rfl) ?_
          refine og (qv_call_own (v := (Value.bool (decide (runsN G G.length = kindsN G G.length)))) (k := 0) (b := b1) rfl (fun Vo hVo hbo => lintervals_c (sl_own hbo (by simp only [List.length_map]; omega) (Nat.le_refl _) (by omega))) rfl rfl) (want_t g3 rfl rfl rfl) ?_
          refine og (qv_not rfl) (want_t g3 rfl rfl rfl) ?_
          refine og (qv_pick_t g3 rfl (rfl : ev _ _ = (Value.bool (decide (¬ (runsN G G.length = kindsN G G.length)))))) (want_f g2 rfl rfl rfl) ?_
          refine oq (qv_pick_f g2 rfl (rfl : ev _ _ = (Value.bool (decide (¬ (runsN G G.length = kindsN G G.length)))))) ?_
          refine ops_nil ?_
          refine vc_if rfl (fun c2 => ?_) (fun c2 => ?_)
          ·
            refine vc_exit ?_
            refine blockQ_hit ?_
            have hB2 := best_no hB1 (fun ⟨a, b, c⟩ => by first | exact absurd a (by assumption) | omega | exact absurd (c (by assumption)) (by assumption))
            refine vc_region ?_
            refine oq (qv_mv (Value.slice (some ⟨b1, 0, none⟩) rv.length rv.length) rfl) ?_
            refine ops_call (σa := [(Arr 3 b1 (G.map (Value.int .i64)))]) (σr := [(Gr 3 1 fv F.length ((F.map (Value.int .i64))))]) (lnext_c hG (by omega) (hr hm)) rfl rfl (.refl _) (fun r3 V3 sg3 hV3 hp3 => ?_)
            obtain ⟨m1, D1, rfl, rfl, hD1, hD2, hD3⟩ := hp3
            have hl := hl.mono hV3
            refine oq (qv_as (Value.bool (decide (m1 = 1))) rfl) ?_
            refine ops_nil ?_
            refine ⟨(m1, best, fv, F, D1), ⟨rfl, rfl, rfl, rfl, rfl, rfl, rfl, rfl, rfl, trivial⟩, (show [(Arr 3 b1 (D1.map (Value.int .i64))), (Gr 3 1 fv F.length ((F.map (Value.int .i64))))] = [(Arr 3 b1 (D1.map (Value.int .i64))), (Gr 3 1 fv F.length ((F.map (Value.int .i64))))] ∧ Mat .i64 V3 l rv L ∧ D1.length = rv.length ∧ (m1 = 1 → InR rv.length D1) ∧ F.length ≤ rv.length ∧ Best (Ok L k o) L (fun H => m1 = 1 → Lex L.length H D1) best F from ⟨(show [(Arr 3 b1 ((D1 : List Int).map (Value.int .i64))), (Gr 3 1 fv (F : List Int).length (((F : List Int).map (Value.int .i64))))] = [(Arr 3 b1 (D1.map (Value.int .i64))), (Gr 3 1 fv F.length ((F.map (Value.int .i64))))] from by first | rfl | rw [List.nil_append, Nat.zero_add, hG]), hl, hD1, fun h => up_inr (hD2 h) (hr hm), by omega, best_round hlen hB2 hG (fun H q => q.inr) hD2 hD3⟩), show (if m1 = 1 then rv.length ^ rv.length - spell rv.length D1 rv.length + 1 else 0) < (if m = 1 then rv.length ^ rv.length - spell rv.length G rv.length + 1 else 0) from up_mu hm (hr hm) hD2⟩
          ·
            refine vc_skip ?_
            refine vc_seq ?_
            have hOk : Ok L k o G := ⟨by omega, by omega, fun ho => by first | assumption | exact Decidable.not_not.1 (by assumption) | exact absurd ho (by assumption)⟩
            have hgn := gN_good hOk.1
            have hNo : ¬ Out L G := fun ⟨x, a, b, c⟩ => by have := (grp_of hOk.1).rng x a (by have := hOk.inr.1; omega); omega
            refine vc_region ?_
            refine oq (qv_mv (Value.int .i64 best) rfl) ?_
            refine oq (qv_lss rfl rfl) ?_
            refine oq (qv_mv (Value.bool (decide (best < 0))) rfl) ?_
            by_cases g4 : best < 0
            ·
              refine os (want_fn g4 rfl rfl rfl) ?_
              refine os (want_fn g4 rfl rfl rfl) ?_
              refine os (want_fn g4 rfl rfl rfl) ?_
              refine oq (qv_pick_t g4 rfl (rfl : ev _ _ = (Value.bool true))) ?_
              refine ops_nil ?_
              refine vc_tt rfl ?_
              refine vc_region ?_
              refine oq (qv_mv (Value.int .i64 (gN L G)) rfl) ?_
              refine ops_lit (n := 0) (s := 1) (cs := []) Try.underlying29 Try.ti3 (Nat.le_of_ble_eq_true rfl) rfl rfl rfl (Nat.le_of_ble_eq_true rfl) rfl (fun b2 => ?_)
              refine oq (qv_mv (Value.slice (some ⟨b1, 0, none⟩) rv.length rv.length) rfl) ?_
              refine ops_to_gr (k := 2) (b := b2) (n := 0) (cap := 0) (cs := #[]) 1 [] rfl rfl (Nat.le_refl _) (Nat.zero_le _) rfl rfl ?_
              refine ops_append (k := 2) (n := 0) (s := 1) (m := rv.length) (v := (Value.slice (some ⟨b2, 0, none⟩) 0 0)) (xs := []) (news := (G.map (Value.int .i64))) Try.underlying29 Try.ti3 rfl (Nat.le_of_ble_eq_true rfl) rfl rfl rfl (by simp only [List.length_map]; omega) (news_own (j := 0) rfl) (by simp [Value.oneCell']) (by omega) (by simp only [maxLen]; omega) (fun v1 hn1 => ?_)
              refine oq (qv_as (Value.int .i64 (gN L G)) rfl) ?_
              refine oq (qv_as v1 rfl) ?_
              refine ops_nil ?_
              have hB2 := best_new hB1 hOk (by have := (csum_bd hg hNo G.length (by omega) (by omega)).1; exact this) (by first | exact Or.inl (by assumption) | exact Or.inr (by rw [← hgn]; assumption))
              refine vc_drop [(Arr 3 b1 (G.map (Value.int .i64))), (Gr 3 1 v1 ((0 + rv.length)) (([] ++ (G.map (Value.int .i64)))))] [(Gr 3 1 fv F.length ((F.map (Value.int .i64))))] ((List.perm_middle (l₁ := [(Arr 3 b1 (G.map (Value.int .i64)))]) (l₂ := [(Gr 3 1 v1 ((0 + rv.length)) (([] ++ (G.map (Value.int .i64)))))])).trans (List.perm_append_comm (l₁ := [(Gr 3 1 fv F.length ((F.map (Value.int .i64))))]))) ?_
              refine vc_region ?_
              refine oq (qv_mv (Value.slice (some ⟨b1, 0, none⟩) rv.length rv.length) rfl) ?_
              refine ops_call (σa := [(Arr 3 b1 (G.map (Value.int .i64)))]) (σr := [(Gr 3 1 v1 ((0 + rv.length)) (([] ++ (G.map (Value.int .i64)))))]) (lnext_c hG (by omega) (hr hm)) rfl rfl (.refl _) (fun r4 V4 sg4 hV4 hp4 => ?_)
              obtain ⟨m1, D1, rfl, rfl, hD1, hD2, hD3⟩ := hp4
              have hl := hl.mono hV4
              refine oq (qv_as (Value.bool (decide (m1 = 1))) rfl) ?_
              refine ops_nil ?_
              refine ⟨(m1, gN L G, v1, G, D1), ⟨rfl, rfl, rfl, rfl, rfl, rfl, (congrArg (Value.int .i64) (show (gN L G) = ((gN L G)) from by omega)), rfl, rfl, trivial⟩, (show [(Arr 3 b1 (D1.map (Value.int .i64))), (Gr 3 1 v1 G.length ((G.map (Value.int .i64))))] = [(Arr 3 b1 (D1.map (Value.int .i64))), (Gr 3 1 v1 ((0 + rv.length)) (([] ++ (G.map (Value.int .i64)))))] ∧ Mat .i64 V4 l rv L ∧ D1.length = rv.length ∧ (m1 = 1 → InR rv.length D1) ∧ G.length ≤ rv.length ∧ Best (Ok L k o) L (fun H => m1 = 1 → Lex L.length H D1) (gN L G : Int) G from ⟨(show [(Arr 3 b1 ((D1 : List Int).map (Value.int .i64))), (Gr 3 1 v1 (G : List Int).length (((G : List Int).map (Value.int .i64))))] = [(Arr 3 b1 (D1.map (Value.int .i64))), (Gr 3 1 v1 ((0 + rv.length)) (([] ++ (G.map (Value.int .i64)))))] from by first | rfl | rw [List.nil_append, Nat.zero_add, hG]), hl, hD1, fun h => up_inr (hD2 h) (hr hm), by omega, (by rw [hgn]; exact best_round hlen hB2 hG (fun H q => q.inr) hD2 hD3)⟩), show (if m1 = 1 then rv.length ^ rv.length - spell rv.length D1 rv.length + 1 else 0) < (if m = 1 then rv.length ^ rv.length - spell rv.length G rv.length + 1 else 0) from up_mu hm (hr hm) hD2⟩
            ·
              refine og (qv_mv (Value.int .i64 (gN L G)) rfl) (want_f g4 rfl rfl rfl) ?_
              refine og (qv_mv (Value.int .i64 best) rfl) (want_f g4 rfl rfl rfl) ?_
              refine og (qv_lss rfl rfl) (want_f g4 rfl rfl rfl) ?_
              refine oq (qv_pick_f g4 rfl (rfl : ev _ _ = (Value.bool (decide ((gN L G) < best))))) ?_
              refine ops_nil ?_
              refine vc_if rfl (fun c3 => ?_) (fun c3 => ?_)
              ·
                refine vc_region ?_
                refine oq (qv_mv (Value.int .i64 (gN L G)) rfl) ?_
                refine ops_lit (n := 0) (s := 1) (cs := []) Try.underlying29 Try.ti3 (Nat.le_of_ble_eq_true rfl) rfl rfl rfl (Nat.le_of_ble_eq_true rfl) rfl (fun b3 => ?_)
                refine oq (qv_mv (Value.slice (some ⟨b1, 0, none⟩) rv.length rv.length) rfl) ?_
                refine ops_to_gr (k := 2) (b := b3) (n := 0) (cap := 0) (cs := #[]) 1 [] rfl rfl (Nat.le_refl _) (Nat.zero_le _) rfl rfl ?_
                refine ops_append (k := 2) (n := 0) (s := 1) (m := rv.length) (v := (Value.slice (some ⟨b3, 0, none⟩) 0 0)) (xs := []) (news := (G.map (Value.int .i64))) Try.underlying29 Try.ti3 rfl (Nat.le_of_ble_eq_true rfl) rfl rfl rfl (by simp only [List.length_map]; omega) (news_own (j := 0) rfl) (by simp [Value.oneCell']) (by omega) (by simp only [maxLen]; omega) (fun v2 hn2 => ?_)
                refine oq (qv_as (Value.int .i64 (gN L G)) rfl) ?_
                refine oq (qv_as v2 rfl) ?_
                refine ops_nil ?_
                have hB2 := best_new hB1 hOk (by have := (csum_bd hg hNo G.length (by omega) (by omega)).1; exact this) (by first | exact Or.inl (by assumption) | exact Or.inr (by rw [← hgn]; assumption))
                refine vc_drop [(Arr 3 b1 (G.map (Value.int .i64))), (Gr 3 1 v2 ((0 + rv.length)) (([] ++ (G.map (Value.int .i64)))))] [(Gr 3 1 fv F.length ((F.map (Value.int .i64))))] ((List.perm_middle (l₁ := [(Arr 3 b1 (G.map (Value.int .i64)))]) (l₂ := [(Gr 3 1 v2 ((0 + rv.length)) (([] ++ (G.map (Value.int .i64)))))])).trans (List.perm_append_comm (l₁ := [(Gr 3 1 fv F.length ((F.map (Value.int .i64))))]))) ?_
                refine vc_region ?_
                refine oq (qv_mv (Value.slice (some ⟨b1, 0, none⟩) rv.length rv.length) rfl) ?_
                refine ops_call (σa := [(Arr 3 b1 (G.map (Value.int .i64)))]) (σr := [(Gr 3 1 v2 ((0 + rv.length)) (([] ++ (G.map (Value.int .i64)))))]) (lnext_c hG (by omega) (hr hm)) rfl rfl (.refl _) (fun r5 V5 sg5 hV5 hp5 => ?_)
                obtain ⟨m1, D1, rfl, rfl, hD1, hD2, hD3⟩ := hp5
                have hl := hl.mono hV5
                refine oq (qv_as (Value.bool (decide (m1 = 1))) rfl) ?_
                refine ops_nil ?_
                refine ⟨(m1, gN L G, v2, G, D1), ⟨rfl, rfl, rfl, rfl, rfl, rfl, (congrArg (Value.int .i64) (show (gN L G) = ((gN L G)) from by omega)), rfl, rfl, trivial⟩, (show [(Arr 3 b1 (D1.map (Value.int .i64))), (Gr 3 1 v2 G.length ((G.map (Value.int .i64))))] = [(Arr 3 b1 (D1.map (Value.int .i64))), (Gr 3 1 v2 ((0 + rv.length)) (([] ++ (G.map (Value.int .i64)))))] ∧ Mat .i64 V5 l rv L ∧ D1.length = rv.length ∧ (m1 = 1 → InR rv.length D1) ∧ G.length ≤ rv.length ∧ Best (Ok L k o) L (fun H => m1 = 1 → Lex L.length H D1) (gN L G : Int) G from ⟨(show [(Arr 3 b1 ((D1 : List Int).map (Value.int .i64))), (Gr 3 1 v2 (G : List Int).length (((G : List Int).map (Value.int .i64))))] = [(Arr 3 b1 (D1.map (Value.int .i64))), (Gr 3 1 v2 ((0 + rv.length)) (([] ++ (G.map (Value.int .i64)))))] from by first | rfl | rw [List.nil_append, Nat.zero_add, hG]), hl, hD1, fun h => up_inr (hD2 h) (hr hm), by omega, (by rw [hgn]; exact best_round hlen hB2 hG (fun H q => q.inr) hD2 hD3)⟩), show (if m1 = 1 then rv.length ^ rv.length - spell rv.length D1 rv.length + 1 else 0) < (if m = 1 then rv.length ^ rv.length - spell rv.length G rv.length + 1 else 0) from up_mu hm (hr hm) hD2⟩
              ·
                refine vc_skip ?_
                have hB2 := best_old hB1 (by assumption) (by rw [← hgn]; assumption)
                refine vc_region ?_
                refine oq (qv_mv (Value.slice (some ⟨b1, 0, none⟩) rv.length rv.length) rfl) ?_
                refine ops_call (σa := [(Arr 3 b1 (G.map (Value.int .i64)))]) (σr := [(Gr 3 1 fv F.length ((F.map (Value.int .i64))))]) (lnext_c hG (by omega) (hr hm)) rfl rfl (.refl _) (fun r6 V6 sg6 hV6 hp6 => ?_)
                obtain ⟨m1, D1, rfl, rfl, hD1, hD2, hD3⟩ := hp6
                have hl := hl.mono hV6
                refine oq (qv_as (Value.bool (decide (m1 = 1))) rfl) ?_
                refine ops_nil ?_
                refine ⟨(m1, best, fv, F, D1), ⟨rfl, rfl, rfl, rfl, rfl, rfl, rfl, rfl, rfl, trivial⟩, (show [(Arr 3 b1 (D1.map (Value.int .i64))), (Gr 3 1 fv F.length ((F.map (Value.int .i64))))] = [(Arr 3 b1 (D1.map (Value.int .i64))), (Gr 3 1 fv F.length ((F.map (Value.int .i64))))] ∧ Mat .i64 V6 l rv L ∧ D1.length = rv.length ∧ (m1 = 1 → InR rv.length D1) ∧ F.length ≤ rv.length ∧ Best (Ok L k o) L (fun H => m1 = 1 → Lex L.length H D1) best F from ⟨(show [(Arr 3 b1 ((D1 : List Int).map (Value.int .i64))), (Gr 3 1 fv (F : List Int).length (((F : List Int).map (Value.int .i64))))] = [(Arr 3 b1 (D1.map (Value.int .i64))), (Gr 3 1 fv F.length ((F.map (Value.int .i64))))] from by first | rfl | rw [List.nil_append, Nat.zero_add, hG]), hl, hD1, fun h => up_inr (hD2 h) (hr hm), by omega, best_round hlen hB2 hG (fun H q => q.inr) hD2 hD3⟩), show (if m1 = 1 then rv.length ^ rv.length - spell rv.length D1 rv.length + 1 else 0) < (if m = 1 then rv.length ^ rv.length - spell rv.length G rv.length + 1 else 0) from up_mu hm (hr hm) hD2⟩
        ·
          refine os (want_tn g3 rfl rfl rfl) ?_
          refine os (want_tn g3 rfl rfl rfl) ?_
          refine os (want_tn g3 rfl rfl rfl) ?_
          refine og (qv_pick_f g3 rfl (rfl : ev _ _ = (Value.bool false))) (want_f g2 rfl rfl rfl) ?_
          refine oq (qv_pick_f g2 rfl (rfl : ev _ _ = (Value.bool false))) ?_
          refine ops_nil ?_
          refine vc_ff rfl ?_
          refine vc_skip ?_
          refine vc_seq ?_
          have hOk : Ok L k o G := ⟨by omega, by omega, fun ho => by first | assumption | exact Decidable.not_not.1 (by assumption) | exact absurd ho (by assumption)⟩
          have hgn := gN_good hOk.1
          have hNo : ¬ Out L G := fun ⟨x, a, b, c⟩ => by have := (grp_of hOk.1).rng x a (by have := hOk.inr.1; omega); omega
          refine vc_region ?_
          refine oq (qv_mv (Value.int .i64 best) rfl) ?_
          refine oq (qv_lss rfl rfl) ?_
          refine oq (qv_mv (Value.bool (decide (best < 0))) rfl) ?_
          by_cases g5 : best < 0
          ·
            refine os (want_fn g5 rfl rfl rfl) ?_
            refine os (want_fn g5 rfl rfl rfl) ?_
            refine os (want_fn g5 rfl rfl rfl) ?_
            refine oq (qv_pick_t g5 rfl (rfl : ev _ _ = (Value.bool true))) ?_
            refine ops_nil ?_
            refine vc_tt rfl ?_
            refine vc_region ?_
            refine oq (qv_mv (Value.int .i64 (gN L G)) rfl) ?_
            refine ops_lit (n := 0) (s := 1) (cs := []) Try.underlying29 Try.ti3 (Nat.le_of_ble_eq_true rfl) rfl rfl rfl (Nat.le_of_ble_eq_true rfl) rfl (fun b4 => ?_)
            refine oq (qv_mv (Value.slice (some ⟨b1, 0, none⟩) rv.length rv.length) rfl) ?_
            refine ops_to_gr (k := 2) (b := b4) (n := 0) (cap := 0) (cs := #[]) 1 [] rfl rfl (Nat.le_refl _) (Nat.zero_le _) rfl rfl ?_
            refine ops_append (k := 2) (n := 0) (s := 1) (m := rv.length) (v := (Value.slice (some ⟨b4, 0, none⟩) 0 0)) (xs := []) (news := (G.map (Value.int .i64))) Try.underlying29 Try.ti3 rfl (Nat.le_of_ble_eq_true rfl) rfl rfl rfl (by simp only [List.length_map]; omega) (news_own (j := 0) rfl) (by simp [Value.oneCell']) (by omega) (by simp only [maxLen]; omega) (fun v3 hn3 => ?_)
            refine oq (qv_as (Value.int .i64 (gN L G)) rfl) ?_
            refine oq (qv_as v3 rfl) ?_
            refine ops_nil ?_
            have hB2 := best_new hB1 hOk (by have := (csum_bd hg hNo G.length (by omega) (by omega)).1; exact this) (by first | exact Or.inl (by assumption) | exact Or.inr (by rw [← hgn]; assumption))
            refine vc_drop [(Arr 3 b1 (G.map (Value.int .i64))), (Gr 3 1 v3 ((0 + rv.length)) (([] ++ (G.map (Value.int .i64)))))] [(Gr 3 1 fv F.length ((F.map (Value.int .i64))))] ((List.perm_middle (l₁ := [(Arr 3 b1 (G.map (Value.int .i64)))]) (l₂ := [(Gr 3 1 v3 ((0 + rv.length)) (([] ++ (G.map (Value.int .i64)))))])).trans (List.perm_append_comm (l₁ := [(Gr 3 1 fv F.length ((F.map (Value.int .i64))))]))) ?_
            refine vc_region ?_
            refine oq (qv_mv (Value.slice (some ⟨b1, 0, none⟩) rv.length rv.length) rfl) ?_
            refine ops_call (σa := [(Arr 3 b1 (G.map (Value.int .i64)))]) (σr := [(Gr 3 1 v3 ((0 + rv.length)) (([] ++ (G.map (Value.int .i64)))))]) (lnext_c hG (by omega) (hr hm)) rfl rfl (.refl _) (fun r7 V7 sg7 hV7 hp7 => ?_)
            obtain ⟨m1, D1, rfl, rfl, hD1, hD2, hD3⟩ := hp7
            have hl := hl.mono hV7
            refine oq (qv_as (Value.bool (decide (m1 = 1))) rfl) ?_
            refine ops_nil ?_
            refine ⟨(m1, gN L G, v3, G, D1), ⟨rfl, rfl, rfl, rfl, rfl, rfl, (congrArg (Value.int .i64) (show (gN L G) = ((gN L G)) from by omega)), rfl, rfl, trivial⟩, (show [(Arr 3 b1 (D1.map (Value.int .i64))), (Gr 3 1 v3 G.length ((G.map (Value.int .i64))))] = [(Arr 3 b1 (D1.map (Value.int .i64))), (Gr 3 1 v3 ((0 + rv.length)) (([] ++ (G.map (Value.int .i64)))))] ∧ Mat .i64 V7 l rv L ∧ D1.length = rv.length ∧ (m1 = 1 → InR rv.length D1) ∧ G.length ≤ rv.length ∧ Best (Ok L k o) L (fun H => m1 = 1 → Lex L.length H D1) (gN L G : Int) G from ⟨(show [(Arr 3 b1 ((D1 : List Int).map (Value.int .i64))), (Gr 3 1 v3 (G : List Int).length (((G : List Int).map (Value.int .i64))))] = [(Arr 3 b1 (D1.map (Value.int .i64))), (Gr 3 1 v3 ((0 + rv.length)) (([] ++ (G.map (Value.int .i64)))))] from by first | rfl | rw [List.nil_append, Nat.zero_add, hG]), hl, hD1, fun h => up_inr (hD2 h) (hr hm), by omega, (by rw [hgn]; exact best_round hlen hB2 hG (fun H q => q.inr) hD2 hD3)⟩), show (if m1 = 1 then rv.length ^ rv.length - spell rv.length D1 rv.length + 1 else 0) < (if m = 1 then rv.length ^ rv.length - spell rv.length G rv.length + 1 else 0) from up_mu hm (hr hm) hD2⟩
          ·
            refine og (qv_mv (Value.int .i64 (gN L G)) rfl) (want_f g5 rfl rfl rfl) ?_
            refine og (qv_mv (Value.int .i64 best) rfl) (want_f g5 rfl rfl rfl) ?_
            refine og (qv_lss rfl rfl) (want_f g5 rfl rfl rfl) ?_
            refine oq (qv_pick_f g5 rfl (rfl : ev _ _ = (Value.bool (decide ((gN L G) < best))))) ?_
            refine ops_nil ?_
            refine vc_if rfl (fun c4 => ?_) (fun c4 => ?_)
            ·
              refine vc_region ?_
              refine oq (qv_mv (Value.int .i64 (gN L G)) rfl) ?_
              refine ops_lit (n := 0) (s := 1) (cs := []) Try.underlying29 Try.ti3 (Nat.le_of_ble_eq_true rfl) rfl rfl rfl (Nat.le_of_ble_eq_true rfl) rfl (fun b5 => ?_)
              refine oq (qv_mv (Value.slice (some ⟨b1, 0, none⟩) rv.length rv.length) rfl) ?_
              refine ops_to_gr (k := 2) (b := b5) (n := 0) (cap := 0) (cs := #[]) 1 [] rfl rfl (Nat.le_refl _) (Nat.zero_le _) rfl rfl ?_
              refine ops_append (k := 2) (n := 0) (s := 1) (m := rv.length) (v := (Value.slice (some ⟨b5, 0, none⟩) 0 0)) (xs := []) (news := (G.map (Value.int .i64))) Try.underlying29 Try.ti3 rfl (Nat.le_of_ble_eq_true rfl) rfl rfl rfl (by simp only [List.length_map]; omega) (news_own (j := 0) rfl) (by simp [Value.oneCell']) (by omega) (by simp only [maxLen]; omega) (fun v4 hn4 => ?_)
              refine oq (qv_as (Value.int .i64 (gN L G)) rfl) ?_
              refine oq (qv_as v4 rfl) ?_
              refine ops_nil ?_
              have hB2 := best_new hB1 hOk (by have := (csum_bd hg hNo G.length (by omega) (by omega)).1; exact this) (by first | exact Or.inl (by assumption) | exact Or.inr (by rw [← hgn]; assumption))
              refine vc_drop [(Arr 3 b1 (G.map (Value.int .i64))), (Gr 3 1 v4 ((0 + rv.length)) (([] ++ (G.map (Value.int .i64)))))] [(Gr 3 1 fv F.length ((F.map (Value.int .i64))))] ((List.perm_middle (l₁ := [(Arr 3 b1 (G.map (Value.int .i64)))]) (l₂ := [(Gr 3 1 v4 ((0 + rv.length)) (([] ++ (G.map (Value.int .i64)))))])).trans (List.perm_append_comm (l₁ := [(Gr 3 1 fv F.length ((F.map (Value.int .i64))))]))) ?_
              refine vc_region ?_
              refine oq (qv_mv (Value.slice (some ⟨b1, 0, none⟩) rv.length rv.length) rfl) ?_
              refine ops_call (σa := [(Arr 3 b1 (G.map (Value.int .i64)))]) (σr := [(Gr 3 1 v4 ((0 + rv.length)) (([] ++ (G.map (Value.int .i64)))))]) (lnext_c hG (by omega) (hr hm)) rfl rfl (.refl _) (fun r8 V8 sg8 hV8 hp8 => ?_)
              obtain ⟨m1, D1, rfl, rfl, hD1, hD2, hD3⟩ := hp8
              have hl := hl.mono hV8
              refine oq (qv_as (Value.bool (decide (m1 = 1))) rfl) ?_
              refine ops_nil ?_
              refine ⟨(m1, gN L G, v4, G, D1), ⟨rfl, rfl, rfl, rfl, rfl, rfl, (congrArg (Value.int .i64) (show (gN L G) = ((gN L G)) from by omega)), rfl, rfl, trivial⟩, (show [(Arr 3 b1 (D1.map (Value.int .i64))), (Gr 3 1 v4 G.length ((G.map (Value.int .i64))))] = [(Arr 3 b1 (D1.map (Value.int .i64))), (Gr 3 1 v4 ((0 + rv.length)) (([] ++ (G.map (Value.int .i64)))))] ∧ Mat .i64 V8 l rv L ∧ D1.length = rv.length ∧ (m1 = 1 → InR rv.length D1) ∧ G.length ≤ rv.length ∧ Best (Ok L k o) L (fun H => m1 = 1 → Lex L.length H D1) (gN L G : Int) G from ⟨(show [(Arr 3 b1 ((D1 : List Int).map (Value.int .i64))), (Gr 3 1 v4 (G : List Int).length (((G : List Int).map (Value.int .i64))))] = [(Arr 3 b1 (D1.map (Value.int .i64))), (Gr 3 1 v4 ((0 + rv.length)) (([] ++ (G.map (Value.int .i64)))))] from by first | rfl | rw [List.nil_append, Nat.zero_add, hG]), hl, hD1, fun h => up_inr (hD2 h) (hr hm), by omega, (by rw [hgn]; exact best_round hlen hB2 hG (fun H q => q.inr) hD2 hD3)⟩), show (if m1 = 1 then rv.length ^ rv.length - spell rv.length D1 rv.length + 1 else 0) < (if m = 1 then rv.length ^ rv.length - spell rv.length G rv.length + 1 else 0) from up_mu hm (hr hm) hD2⟩
            ·
              refine vc_skip ?_
              have hB2 := best_old hB1 (by assumption) (by rw [← hgn]; assumption)
              refine vc_region ?_
              refine oq (qv_mv (Value.slice (some ⟨b1, 0, none⟩) rv.length rv.length) rfl) ?_
              refine ops_call (σa := [(Arr 3 b1 (G.map (Value.int .i64)))]) (σr := [(Gr 3 1 fv F.length ((F.map (Value.int .i64))))]) (lnext_c hG (by omega) (hr hm)) rfl rfl (.refl _) (fun r9 V9 sg9 hV9 hp9 => ?_)
              obtain ⟨m1, D1, rfl, rfl, hD1, hD2, hD3⟩ := hp9
              have hl := hl.mono hV9
              refine oq (qv_as (Value.bool (decide (m1 = 1))) rfl) ?_
              refine ops_nil ?_
              refine ⟨(m1, best, fv, F, D1), ⟨rfl, rfl, rfl, rfl, rfl, rfl, rfl, rfl, rfl, trivial⟩, (show [(Arr 3 b1 (D1.map (Value.int .i64))), (Gr 3 1 fv F.length ((F.map (Value.int .i64))))] = [(Arr 3 b1 (D1.map (Value.int .i64))), (Gr 3 1 fv F.length ((F.map (Value.int .i64))))] ∧ Mat .i64 V9 l rv L ∧ D1.length = rv.length ∧ (m1 = 1 → InR rv.length D1) ∧ F.length ≤ rv.length ∧ Best (Ok L k o) L (fun H => m1 = 1 → Lex L.length H D1) best F from ⟨(show [(Arr 3 b1 ((D1 : List Int).map (Value.int .i64))), (Gr 3 1 fv (F : List Int).length (((F : List Int).map (Value.int .i64))))] = [(Arr 3 b1 (D1.map (Value.int .i64))), (Gr 3 1 fv F.length ((F.map (Value.int .i64))))] from by first | rfl | rw [List.nil_append, Nat.zero_add, hG]), hl, hD1, fun h => up_inr (hD2 h) (hr hm), by omega, best_round hlen hB2 hG (fun H q => q.inr) hD2 hD3⟩), show (if m1 = 1 then rv.length ^ rv.length - spell rv.length D1 rv.length + 1 else 0) < (if m = 1 then rv.length ^ rv.length - spell rv.length G rv.length + 1 else 0) from up_mu hm (hr hm) hD2⟩
  ·
    refine vc_exit ?_
    refine blockQ_hit ?_
    refine vc_seq ?_
    refine vc_freezeG (v := fv) (E := 3) (n := F.length) (xs := (F.map (Value.int .i64))) (σr := [(Arr 3 b1 (G.map (Value.int .i64)))]) (List.perm_middle (l₁ := [(Arr 3 b1 (G.map (Value.int .i64)))]) (l₂ := [])) (fun Vf1 hVf1 hc1 => ?_)
    have hl := hl.mono hVf1
    refine vc_drop [] [(Arr 3 b1 (G.map (Value.int .i64)))] ((List.perm_middle (l₁ := []) (l₂ := [])).trans (List.perm_append_comm (l₁ := [(Arr 3 b1 (G.map (Value.int .i64)))]))) ?_
    refine vc_region ?_
    refine oq (qv_mv (Value.int .i64 best) rfl) ?_
    refine oq (qv_mv fv rfl) ?_
    refine oq (qv_as (Value.int .i64 best) rfl) ?_
    refine oq (qv_as fv rfl) ?_
    refine ops_nil ?_
    refine vc_ret ?_
    refine rq2 (Value.int .i64 best) fv rfl rfl ?_
    exact ⟨rfl, best, fv, F, rfl, hc1, best_skip hB (fun H _ _ h => absurd h (by assumption)) (fun _ _ => trivial)⟩

end Go.Proofs.Ytmkbjhligjnagaa
