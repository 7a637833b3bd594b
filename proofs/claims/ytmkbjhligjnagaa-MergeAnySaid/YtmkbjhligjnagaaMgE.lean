/- Walks of merge: what each function returns. Printed by a program out of notes. -/
import Derived.Test.YtmkbjhligjnagaaMgD
namespace Go.Proofs.Ytmkbjhligjnagaa
open Go.Vc
open Classical

set_option maxRecDepth 100000 in
theorem MergeOrdered_c {V : HV} {l : Value} {rv : List Value} {L : List (List Int)} {K : Int} (hl : Mat .i64 V l rv L) :
    FnC Try.prog 4 [l, (Value.int .i64 K)] V [] (fun v _ _ => v = (Value.bool true)) := by
  refine fn_intro (N := 97) Try.func4 (by kernel_rfl) rfl rfl rfl (Nat.le_of_ble_eq_true rfl) ?_
  intro w0 D
  have hlen := hl.len
  refine vc_seq ?_
  refine vc_region ?_
  refine oq (qv_as (Value.bool false) rfl) ?_
  refine ops_nil ?_
  refine vc_seq ?_
  refine vc_seq ?_
  refine vc_region ?_
  refine oq (qv_call (v := (Value.bool true)) (known_c) rfl rfl) ?_
  refine oq (qv_notc rfl) ?_
  refine ops_nil ?_
  refine vc_ff rfl ?_
  refine vc_skip ?_
  refine vc_seq ?_
  refine vc_seq ?_
  refine vc_region ?_
  refine oq (qv_mv l rfl) ?_
  refine oq (qv_call (v := (Value.bool (decide (Few L 40)))) (few_c hl) rfl rfl) ?_
  refine oq (qv_not rfl) ?_
  refine ops_nil ?_
  refine vc_if rfl (fun c1 => ?_) (fun c1 => ?_)
  ·
    refine vc_seq ?_
    refine vc_region ?_
    refine oq (qv_as (Value.bool true) rfl) ?_
    refine ops_nil ?_
    refine vc_ret ?_
    exact rq1 (Value.bool true) rfl rfl
  ·
    refine vc_skip ?_
    refine vc_seq ?_
    refine vc_region ?_
    refine oq (qv_mv l rfl) ?_
    refine oq (qv_call (v := (Value.int .i64 (chk L))) (check_c hl) rfl rfl) ?_
    refine oq (qv_as (Value.int .i64 (chk L)) rfl) ?_
    refine ops_nil ?_
    refine vc_seq ?_
    refine vc_seq ?_
    refine vc_region ?_
    refine oq (qv_mv (Value.int .i64 (chk L)) rfl) ?_
    refine oq (qv_eql rfl rfl) ?_
    refine oq (qv_mv (Value.bool (decide ((chk L) = 0))) rfl) ?_
    by_cases g1 : (chk L) = 0
    ·
      refine og (qv_mv (Value.int .i64 K) rfl) (want_t g1 rfl rfl rfl) ?_
      refine og (qv_lss rfl rfl) (want_t g1 rfl rfl rfl) ?_
      refine og (qv_mv (Value.bool (decide (K < 1))) rfl) (want_t g1 rfl rfl rfl) ?_
      by_cases g2 : K < 1
      ·
        refine os (want_fn g2 rfl rfl rfl) ?_
        refine os (want_fn g2 rfl rfl rfl) ?_
        refine og (qv_pick_t g2 rfl (rfl : ev _ _ = (Value.bool true))) (want_t g1 rfl rfl rfl) ?_
        refine oq (qv_pick_t g1 rfl (rfl : ev _ _ = (Value.bool true))) ?_
        refine ops_nil ?_
        refine vc_tt rfl ?_
        refine vc_region ?_
        refine oq (qv_as (Value.int .i64 3) rfl) ?_
        refine ops_nil ?_
        refine vc_seq ?_
        refine vc_seq ?_
        refine vc_region ?_
        refine oq (qv_mv (Value.int .i64 3) rfl) ?_
        refine oq (qv_eql rfl rfl) ?_
        refine oq (qv_mv (Value.bool (decide (3 = 0))) rfl) ?_
        by_cases g3 : 3 = 0
        ·
          omega
        ·
          refine os (want_tn g3 rfl rfl rfl) ?_
          refine os (want_tn g3 rfl rfl rfl) ?_
          refine os (want_tn g3 rfl rfl rfl) ?_
          refine oq (qv_pick_f g3 rfl (rfl : ev _ _ = (Value.bool false))) ?_
          refine ops_nil ?_
          refine vc_ff rfl ?_
          refine vc_skip ?_
          refine vc_seq ?_
          refine vc_region ?_
          refine oq (qv_mv l rfl) ?_
          refine oq (qv_mv (Value.int .i64 K) rfl) ?_
          refine ops_call (σa := []) (σr := []) (Ordered_c (k := K) hl) rfl rfl (.refl _) (fun r1 V1 sg1 hV1 hp1 => ?_)
          obtain ⟨rfl, gg, tt, tv, rfl, hg1, ht⟩ := hp1
          have htl := ht.len
          have hl := hl.mono hV1
          refine oq (qv_mv (Value.tuple #[gg, (Value.int .i64 (oN L K)), tt, (Value.int .i64 (oE L K))]) rfl) ?_
          refine oq (qv_ext gg rfl rfl) ?_
          refine oq (qv_ext (Value.int .i64 (oN L K)) rfl rfl) ?_
          refine oq (qv_ext tt rfl rfl) ?_
          refine oq (qv_ext (Value.int .i64 (oE L K)) rfl rfl) ?_
          refine oq (qv_as gg rfl) ?_
          refine oq (qv_as (Value.int .i64 (oN L K)) rfl) ?_
          refine oq (qv_as tt rfl) ?_
          refine oq (qv_as (Value.int .i64 (oE L K)) rfl) ?_
          refine ops_nil ?_
          refine vc_seq ?_
          refine vc_seq ?_
          refine vc_region ?_
          refine oq (qv_mv (Value.int .i64 3) rfl) ?_
          refine oq (qv_neq rfl rfl) ?_
          refine ops_nil ?_
          refine vc_if rfl (fun c2 => ?_) (fun c2 => ?_)
          ·
            refine vc_seq ?_
            have hoe := oE3 (L := L) (k := K) (by omega) (by omega)
            obtain ⟨b1, b2, b3⟩ := ord_bad (show oE L K ≠ 0 by omega)
            have b4 : (oG L K).length = 0 := by rw [b1]; rfl
            have b5 : (oT L K).length = 0 := by rw [b3]; rfl
            refine vc_region ?_
            refine oq (qv_mv (Value.int .i64 (oE L K)) rfl) ?_
            refine oq (qv_mv (Value.int .i64 3) rfl) ?_
            refine oq (qv_eql rfl rfl) ?_
            refine oq (qv_mv (Value.bool (decide ((oE L K) = 3))) rfl) ?_
            by_cases g4 : (oE L K) = 3
            ·
              refine og (qv_mv (Value.int .i64 (oN L K)) rfl) (want_t g4 rfl rfl rfl) ?_
              refine og (qv_eql rfl rfl) (want_t g4 rfl rfl rfl) ?_
              refine oq (qv_pick_t g4 rfl (rfl : ev _ _ = (Value.bool (decide ((oN L K) = 0))))) ?_
              refine oq (qv_mv (Value.bool (decide ((oN L K) = 0))) rfl) ?_
              by_cases g5 : (oN L K) = 0
              ·
                refine og (qv_mv gg rfl) (want_t g5 rfl rfl rfl) ?_
                refine og (qv_lenI Try.underlying30 rfl hg1) (want_t g5 rfl rfl rfl) ?_
                refine og (qv_eql rfl rfl) (want_t g5 rfl rfl rfl) ?_
                refine oq (qv_pick_t g5 rfl (rfl : ev _ _ = (Value.bool (decide (((((oG L K)).length : Int)) = 0))))) ?_
                refine oq (qv_mv (Value.bool (decide (((((oG L K)).length : Int)) = 0))) rfl) ?_
                by_cases g6 : ((((oG L K)).length : Int)) = 0
                ·
                  refine og (qv_mv tt rfl) (want_t g6 rfl rfl rfl) ?_
                  refine og (qv_lenS Try.underlying31 rfl ht.sl) (want_t g6 rfl rfl rfl) ?_
                  refine og (qv_eql rfl rfl) (want_t g6 rfl rfl rfl) ?_
                  refine oq (qv_pick_t g6 rfl (rfl : ev _ _ = (Value.bool (decide (((tv.length : Int)) = 0))))) ?_
                  refine oq (qv_as (Value.bool (decide (((tv.length : Int)) = 0))) rfl) ?_
                  refine ops_nil ?_
                  refine vc_ret ?_
                  exact rq1 (Value.bool true) (congrArg Value.bool (decide_eq_true (show (((tv.length : Int)) = 0) from by first | omega | rfl | assumption))) rfl
                ·
                  refine os (want_tn g6 rfl rfl rfl) ?_
                  refine os (want_tn g6 rfl rfl rfl) ?_
                  refine os (want_tn g6 rfl rfl rfl) ?_
                  refine oq (qv_pick_f g6 rfl (rfl : ev _ _ = (Value.bool false))) ?_
                  refine oq (qv_as (Value.bool false) rfl) ?_
                  refine ops_nil ?_
                  refine vc_ret ?_
                  exact rq1 (Value.bool true) (by first | rfl | (first | omega | rfl | assumption)) rfl
              ·
                exact absurd b2 g5
            ·
              exact absurd hoe g4
          ·
            omega
      ·
        refine og (qv_mv (Value.int .i64 K) rfl) (want_f g2 rfl rfl rfl) ?_
        refine og (qv_gtr rfl rfl) (want_f g2 rfl rfl rfl) ?_
        refine og (qv_pick_f g2 rfl (rfl : ev _ _ = (Value.bool (decide (32 < K))))) (want_t g1 rfl rfl rfl) ?_
        refine oq (qv_pick_t g1 rfl (rfl : ev _ _ = (Value.bool (decide (32 < K))))) ?_
        refine ops_nil ?_
        refine vc_if rfl (fun c3 => ?_) (fun c3 => ?_)
        ·
          refine vc_region ?_
          refine oq (qv_as (Value.int .i64 3) rfl) ?_
          refine ops_nil ?_
          refine vc_seq ?_
          refine vc_seq ?_
          refine vc_region ?_
          refine oq (qv_mv (Value.int .i64 3) rfl) ?_
          refine oq (qv_eql rfl rfl) ?_
          refine oq (qv_mv (Value.bool (decide (3 = 0))) rfl) ?_
          by_cases g7 : 3 = 0
          ·
            omega
          ·
            refine os (want_tn g7 rfl rfl rfl) ?_
            refine os (want_tn g7 rfl rfl rfl) ?_
            refine os (want_tn g7 rfl rfl rfl) ?_
            refine oq (qv_pick_f g7 rfl (rfl : ev _ _ = (Value.bool false))) ?_
            refine ops_nil ?_
            refine vc_ff rfl ?_
            refine vc_skip ?_
            refine vc_seq ?_
            refine vc_region ?_
            refine oq (qv_mv l rfl) ?_
            refine oq (qv_mv (Value.int .i64 K) rfl) ?_
            refine ops_call (σa := []) (σr := []) (Ordered_c (k := K) hl) rfl rfl (.refl _) (fun r2 V2 sg2 hV2 hp2 => ?_)
            obtain ⟨rfl, gg, tt, tv, rfl, hg1, ht⟩ := hp2
            have htl := ht.len
            have hl := hl.mono hV2
            refine oq (qv_mv (Value.tuple #[gg, (Value.int .i64 (oN L K)), tt, (Value.int .i64 (oE L K))]) rfl) ?_
            refine oq (qv_ext gg rfl rfl) ?_
            refine oq (qv_ext (Value.int .i64 (oN L K)) rfl rfl) ?_
            refine oq (qv_ext tt rfl rfl) ?_
            refine oq (qv_ext (Value.int .i64 (oE L K)) rfl rfl) ?_
            refine oq (qv_as gg rfl) ?_
            refine oq (qv_as (Value.int .i64 (oN L K)) rfl) ?_
            refine oq (qv_as tt rfl) ?_
            refine oq (qv_as (Value.int .i64 (oE L K)) rfl) ?_
            refine ops_nil ?_
            refine vc_seq ?_
            refine vc_seq ?_
            refine vc_region ?_
            refine oq (qv_mv (Value.int .i64 3) rfl) ?_
            refine oq (qv_neq rfl rfl) ?_
            refine ops_nil ?_
            refine vc_if rfl (fun c4 => ?_) (fun c4 => ?_)
            ·
              refine vc_seq ?_
              have hoe := oE3 (L := L) (k := K) (by omega) (by omega)
              obtain ⟨b1, b2, b3⟩ := ord_bad (show oE L K ≠ 0 by omega)
              have b4 : (oG L K).length = 0 := by rw [b1]; rfl
              have b5 : (oT L K).length = 0 := by rw [b3]; rfl
              refine vc_region ?_
              refine oq (qv_mv (Value.int .i64 (oE L K)) rfl) ?_
              refine oq (qv_mv (Value.int .i64 3) rfl) ?_
              refine oq (qv_eql rfl rfl) ?_
              refine oq (qv_mv (Value.bool (decide ((oE L K) = 3))) rfl) ?_
              by_cases g8 : (oE L K) = 3
              ·
                refine og (qv_mv (Value.int .i64 (oN L K)) rfl) (want_t g8 rfl rfl rfl) ?_
                refine og (qv_eql rfl rfl) (want_t g8 rfl rfl rfl) ?_
                refine oq (qv_pick_t g8 rfl (rfl : ev _ _ = (Value.bool (decide ((oN L K) = 0))))) ?_
                refine oq (qv_mv (Value.bool (decide ((oN L K) = 0))) rfl) ?_
                by_cases g9 : (oN L K) = 0
                ·
                  refine og (qv_mv gg rfl) (want_t g9 rfl rfl rfl) ?_
                  refine og (qv_lenI Try.underlying30 rfl hg1) (want_t g9 rfl rfl rfl) ?_
                  refine og (qv_eql rfl rfl) (want_t g9 rfl rfl rfl) ?_
                  refine oq (qv_pick_t g9 rfl (rfl : ev _ _ = (Value.bool (decide (((((oG L K)).length : Int)) = 0))))) ?_
                  refine oq (qv_mv (Value.bool (decide (((((oG L K)).length : Int)) = 0))) rfl) ?_
                  by_cases g10 : ((((oG L K)).length : Int)) = 0
                  ·
                    refine og (qv_mv tt rfl) (want_t g10 rfl rfl rfl) ?_
                    refine og (qv_lenS Try.underlying31 rfl ht.sl) (want_t g10 rfl rfl rfl) ?_
                    refine og (qv_eql rfl rfl) (want_t g10 rfl rfl rfl) ?_
                    refine oq (qv_pick_t g10 rfl (rfl : ev _ _ = (Value.bool (decide (((tv.length : Int)) = 0))))) ?_
                    refine oq (qv_as (Value.bool (decide (((tv.length : Int)) = 0))) rfl) ?_
                    refine ops_nil ?_
                    refine vc_ret ?_
                    exact rq1 (Value.bool true) (congrArg Value.bool (decide_eq_true (show (((tv.length : Int)) = 0) from by first | omega | rfl | assumption))) rfl
                  ·
                    refine os (want_tn g10 rfl rfl rfl) ?_
                    refine os (want_tn g10 rfl rfl rfl) ?_
                    refine os (want_tn g10 rfl rfl rfl) ?_
                    refine oq (qv_pick_f g10 rfl (rfl : ev _ _ = (Value.bool false))) ?_
                    refine oq (qv_as (Value.bool false) rfl) ?_
                    refine ops_nil ?_
                    refine vc_ret ?_
                    exact rq1 (Value.bool true) (by first | rfl | (first | omega | rfl | assumption)) rfl
                ·
                  exact absurd b2 g9
              ·
                exact absurd hoe g8
            ·
              omega
        ·
          refine vc_skip ?_
          refine vc_seq ?_
          refine vc_seq ?_
          refine vc_region ?_
          refine oq (qv_mv (Value.int .i64 (chk L)) rfl) ?_
          refine oq (qv_eql rfl rfl) ?_
          refine oq (qv_mv (Value.bool (decide ((chk L) = 0))) rfl) ?_
          refine og (qv_mv l rfl) (want_t g1 rfl rfl rfl) ?_
          refine og (qv_lenS Try.underlying23 rfl hl.sl) (want_t g1 rfl rfl rfl) ?_
          refine og (qv_gtr rfl rfl) (want_t g1 rfl rfl rfl) ?_
          refine oq (qv_pick_t g1 rfl (rfl : ev _ _ = (Value.bool (decide (5 < ((rv.length : Int))))))) ?_
          refine ops_nil ?_
          refine vc_if rfl (fun c5 => ?_) (fun c5 => ?_)
          ·
            refine vc_seq ?_
            refine vc_region ?_
            refine oq (qv_as (Value.bool true) rfl) ?_
            refine ops_nil ?_
            refine vc_ret ?_
            exact rq1 (Value.bool true) rfl rfl
          ·
            refine vc_skip ?_
            refine vc_seq ?_
            refine vc_region ?_
            refine oq (qv_mv l rfl) ?_
            refine oq (qv_mv (Value.int .i64 K) rfl) ?_
            refine ops_call (σa := []) (σr := []) (Ordered_c (k := K) hl) rfl rfl (.refl _) (fun r3 V3 sg3 hV3 hp3 => ?_)
            obtain ⟨rfl, gg, tt, tv, rfl, hg1, ht⟩ := hp3
            have htl := ht.len
            have hl := hl.mono hV3
            refine oq (qv_mv (Value.tuple #[gg, (Value.int .i64 (oN L K)), tt, (Value.int .i64 (oE L K))]) rfl) ?_
            refine oq (qv_ext gg rfl rfl) ?_
            refine oq (qv_ext (Value.int .i64 (oN L K)) rfl rfl) ?_
            refine oq (qv_ext tt rfl rfl) ?_
            refine oq (qv_ext (Value.int .i64 (oE L K)) rfl rfl) ?_
            refine oq (qv_as gg rfl) ?_
            refine oq (qv_as (Value.int .i64 (oN L K)) rfl) ?_
            refine oq (qv_as tt rfl) ?_
            refine oq (qv_as (Value.int .i64 (oE L K)) rfl) ?_
            refine ops_nil ?_
            refine vc_seq ?_
            refine vc_seq ?_
            refine vc_region ?_
            refine oq (qv_mv (Value.int .i64 (chk L)) rfl) ?_
            refine oq (qv_neq rfl rfl) ?_
            refine ops_nil ?_
            refine vc_if rfl (fun c6 => ?_) (fun c6 => ?_)
            ·
              refine vc_seq ?_
              have hoe := oE1 (k := K) (show chk L ≠ 0 by omega)
              obtain ⟨b1, b2, b3⟩ := ord_bad (show oE L K ≠ 0 by omega)
              have b4 : (oG L K).length = 0 := by rw [b1]; rfl
              have b5 : (oT L K).length = 0 := by rw [b3]; rfl
              refine vc_region ?_
              refine oq (qv_mv (Value.int .i64 (oE L K)) rfl) ?_
              refine oq (qv_mv (Value.int .i64 (chk L)) rfl) ?_
              refine oq (qv_eql rfl rfl) ?_
              refine oq (qv_mv (Value.bool (decide ((oE L K) = (chk L)))) rfl) ?_
              by_cases g11 : (oE L K) = (chk L)
              ·
                refine og (qv_mv (Value.int .i64 (oN L K)) rfl) (want_t g11 rfl rfl rfl) ?_
                refine og (qv_eql rfl rfl) (want_t g11 rfl rfl rfl) ?_
                refine oq (qv_pick_t g11 rfl (rfl : ev _ _ = (Value.bool (decide ((oN L K) = 0))))) ?_
                refine oq (qv_mv (Value.bool (decide ((oN L K) = 0))) rfl) ?_
                by_cases g12 : (oN L K) = 0
                ·
                  refine og (qv_mv gg rfl) (want_t g12 rfl rfl rfl) ?_
                  refine og (qv_lenI Try.underlying30 rfl hg1) (want_t g12 rfl rfl rfl) ?_
                  refine og (qv_eql rfl rfl) (want_t g12 rfl rfl rfl) ?_
                  refine oq (qv_pick_t g12 rfl (rfl : ev _ _ = (Value.bool (decide (((((oG L K)).length : Int)) = 0))))) ?_
                  refine oq (qv_mv (Value.bool (decide (((((oG L K)).length : Int)) = 0))) rfl) ?_
                  by_cases g13 : ((((oG L K)).length : Int)) = 0
                  ·
                    refine og (qv_mv tt rfl) (want_t g13 rfl rfl rfl) ?_
                    refine og (qv_lenS Try.underlying31 rfl ht.sl) (want_t g13 rfl rfl rfl) ?_
                    refine og (qv_eql rfl rfl) (want_t g13 rfl rfl rfl) ?_
                    refine oq (qv_pick_t g13 rfl (rfl : ev _ _ = (Value.bool (decide (((tv.length : Int)) = 0))))) ?_
                    refine oq (qv_as (Value.bool (decide (((tv.length : Int)) = 0))) rfl) ?_
                    refine ops_nil ?_
                    refine vc_ret ?_
                    exact rq1 (Value.bool true) (congrArg Value.bool (decide_eq_true (show (((tv.length : Int)) = 0) from by first | omega | rfl | assumption))) rfl
                  ·
                    refine os (want_tn g13 rfl rfl rfl) ?_
                    refine os (want_tn g13 rfl rfl rfl) ?_
                    refine os (want_tn g13 rfl rfl rfl) ?_
                    refine oq (qv_pick_f g13 rfl (rfl : ev _ _ = (Value.bool false))) ?_
                    refine oq (qv_as (Value.bool false) rfl) ?_
                    refine ops_nil ?_
                    refine vc_ret ?_
                    exact rq1 (Value.bool true) (by first | rfl | (first | omega | rfl | assumption)) rfl
                ·
                  exact absurd b2 g12
              ·
                exact absurd hoe g11
            ·
              refine vc_skip ?_
              refine vc_seq ?_
              have hch : chk L = 0 := by omega
              have hk : 1 ≤ K ∧ K ≤ 32 := by omega
              have hoe := oE0 hch hk
              have hg := good_of_chk hch
              obtain ⟨q1, q2, q3, q4, q5⟩ := ord_final hoe
              refine vc_region ?_
              refine oq (qv_mv l rfl) ?_
              refine oq (qv_mv (Value.int .i64 K) rfl) ?_
              refine ops_call (σa := []) (σr := []) (by have h := least_c (k := K) (o := True) hl hg (by omega); rw [dec_true] at h; exact h) rfl rfl (.refl _) (fun r4 V4 sg4 hV4 hp4 => ?_)
              obtain ⟨rfl, bst, fv, F, rfl, hfv, hB⟩ := hp4
              have hl := hl.mono hV4
              have hg1 := hg1.mono hV4
              have ht := ht.mono hV4
              refine oq (qv_mv (Value.tuple #[(Value.int .i64 bst), fv]) rfl) ?_
              refine oq (qv_ext (Value.int .i64 bst) rfl rfl) ?_
              refine oq (qv_ext fv rfl rfl) ?_
              refine oq (qv_as (Value.int .i64 bst) rfl) ?_
              refine oq (qv_as fv rfl) ?_
              refine ops_nil ?_
              refine vc_seq ?_
              obtain ⟨hb1, hF1⟩ := best_end hoe hB (fun _ _ => trivial)
              refine vc_region ?_
              refine oq (qv_mv (Value.int .i64 (oE L K)) rfl) ?_
              refine oq (qv_eql rfl rfl) ?_
              refine oq (qv_mv (Value.bool (decide ((oE L K) = 0))) rfl) ?_
              by_cases g14 : (oE L K) = 0
              ·
                refine og (qv_mv (Value.int .i64 (oN L K)) rfl) (want_t g14 rfl rfl rfl) ?_
                refine og (qv_mv (Value.int .i64 bst) rfl) (want_t g14 rfl rfl rfl) ?_
                refine og (qv_eql rfl rfl) (want_t g14 rfl rfl rfl) ?_
                refine oq (qv_pick_t g14 rfl (rfl : ev _ _ = (Value.bool (decide ((oN L K) = bst))))) ?_
                refine oq (qv_mv (Value.bool (decide ((oN L K) = bst))) rfl) ?_
                by_cases g15 : (oN L K) = bst
                ·
                  refine og (qv_mv gg rfl) (want_t g15 rfl rfl rfl) ?_
                  refine og (qv_mv fv rfl) (want_t g15 rfl rfl rfl) ?_
                  refine og (qv_call (v := (Value.bool (decide (oG L K = F)))) (Equal_c hg1 hfv) rfl rfl) (want_t g15 rfl rfl rfl) ?_
                  refine oq (qv_pick_t g15 rfl (rfl : ev _ _ = (Value.bool (decide (oG L K = F))))) ?_
                  refine oq (qv_mv (Value.bool (decide (oG L K = F))) rfl) ?_
                  by_cases g16 : oG L K = F
                  ·
                    refine og (qv_mv l rfl) (want_t g16 rfl rfl rfl) ?_
                    refine og (qv_mv (Value.int .i64 K) rfl) (want_t g16 rfl rfl rfl) ?_
                    refine og (qv_mv tt rfl) (want_t g16 rfl rfl rfl) ?_
                    refine og (qv_mv (Value.int .i64 (oN L K)) rfl) (want_t g16 rfl rfl rfl) ?_
                    refine og (qv_call (v := (Value.int .i64 (poE L K (oT L K) (oN L K)))) (proved_c hl ht hch hk) rfl rfl) (want_t g16 rfl rfl rfl) ?_
                    refine og (qv_eql rfl rfl) (want_t g16 rfl rfl rfl) ?_
                    refine oq (qv_pick_t g16 rfl (rfl : ev _ _ = (Value.bool (decide ((poE L K (oT L K) (oN L K)) = 0))))) ?_
                    refine oq (qv_mv (Value.bool (decide ((poE L K (oT L K) (oN L K)) = 0))) rfl) ?_
                    by_cases g17 : (poE L K (oT L K) (oN L K)) = 0
                    ·
                      refine og (qv_mv l rfl) (want_t g17 rfl rfl rfl) ?_
                      refine og (qv_mv (Value.int .i64 K) rfl) (want_t g17 rfl rfl rfl) ?_
                      refine og (qv_mv tt rfl) (want_t g17 rfl rfl rfl) ?_
                      refine og (qv_mv (Value.int .i64 (oN L K)) rfl) (want_t g17 rfl rfl rfl) ?_
                      refine og (qv_call (v := (Value.int .i64 (poE L K (oT L K) (oN L K)))) (ProveOrdered_c hl ht) rfl rfl) (want_t g17 rfl rfl rfl) ?_
                      refine og (qv_eql rfl rfl) (want_t g17 rfl rfl rfl) ?_
                      refine oq (qv_pick_t g17 rfl (rfl : ev _ _ = (Value.bool (decide ((poE L K (oT L K) (oN L K)) = 0))))) ?_
                      refine oq (qv_as (Value.bool (decide ((poE L K (oT L K) (oN L K)) = 0))) rfl) ?_
                      refine ops_nil ?_
                      refine vc_ret ?_
                      exact rq1 (Value.bool true) (congrArg Value.bool (decide_eq_true (show ((poE L K (oT L K) (oN L K)) = 0) from by first | omega | rfl | assumption))) rfl
                    ·
                      exact absurd q5 g17
                  ·
                    exact absurd hF1.symm g16
                ·
                  exact absurd hb1.symm g15
              ·
                exact absurd hoe g14
    ·
      refine os (want_tn g1 rfl rfl rfl) ?_
      refine os (want_tn g1 rfl rfl rfl) ?_
      refine os (want_tn g1 rfl rfl rfl) ?_
      refine os (want_u rfl rfl rfl) ?_
      refine os (want_u rfl rfl rfl) ?_
      refine os (want_tn g1 rfl rfl rfl) ?_
      refine oq (qv_pick_f g1 rfl (rfl : ev _ _ = (Value.bool false))) ?_
      refine ops_nil ?_
      refine vc_ff rfl ?_
      refine vc_skip ?_
      refine vc_seq ?_
      refine vc_seq ?_
      refine vc_region ?_
      refine oq (qv_mv (Value.int .i64 (chk L)) rfl) ?_
      refine oq (qv_eql rfl rfl) ?_
      refine oq (qv_mv (Value.bool (decide ((chk L) = 0))) rfl) ?_
      refine os (want_tn g1 rfl rfl rfl) ?_
      refine os (want_tn g1 rfl rfl rfl) ?_
      refine os (want_tn g1 rfl rfl rfl) ?_
      refine oq (qv_pick_f g1 rfl (rfl : ev _ _ = (Value.bool false))) ?_
      refine ops_nil ?_
      refine vc_ff rfl ?_
      refine vc_skip ?_
      refine vc_seq ?_
      refine vc_region ?_
      refine oq (qv_mv l rfl) ?_
      refine oq (qv_mv (Value.int .i64 K) rfl) ?_
      refine ops_call (σa := []) (σr := []) (Ordered_c (k := K) hl) rfl rfl (.refl _) (fun r5 V5 sg5 hV5 hp5 => ?_)
      obtain ⟨rfl, gg, tt, tv, rfl, hg1, ht⟩ := hp5
      have htl := ht.len
      have hl := hl.mono hV5
      refine oq (qv_mv (Value.tuple #[gg, (Value.int .i64 (oN L K)), tt, (Value.int .i64 (oE L K))]) rfl) ?_
      refine oq (qv_ext gg rfl rfl) ?_
      refine oq (qv_ext (Value.int .i64 (oN L K)) rfl rfl) ?_
      refine oq (qv_ext tt rfl rfl) ?_
      refine oq (qv_ext (Value.int .i64 (oE L K)) rfl rfl) ?_
      refine oq (qv_as gg rfl) ?_
      refine oq (qv_as (Value.int .i64 (oN L K)) rfl) ?_
      refine oq (qv_as tt rfl) ?_
      refine oq (qv_as (Value.int .i64 (oE L K)) rfl) ?_
      refine ops_nil ?_
      refine vc_seq ?_
      refine vc_seq ?_
      refine vc_region ?_
      refine oq (qv_mv (Value.int .i64 (chk L)) rfl) ?_
      refine oq (qv_neq rfl rfl) ?_
      refine ops_nil ?_
      refine vc_if rfl (fun c7 => ?_) (fun c7 => ?_)
      ·
        refine vc_seq ?_
        have hoe := oE1 (k := K) (show chk L ≠ 0 by omega)
        obtain ⟨b1, b2, b3⟩ := ord_bad (show oE L K ≠ 0 by omega)
        have b4 : (oG L K).length = 0 := by rw [b1]; rfl
        have b5 : (oT L K).length = 0 := by rw [b3]; rfl
        refine vc_region ?_
        refine oq (qv_mv (Value.int .i64 (oE L K)) rfl) ?_
        refine oq (qv_mv (Value.int .i64 (chk L)) rfl) ?_
        refine oq (qv_eql rfl rfl) ?_
        refine oq (qv_mv (Value.bool (decide ((oE L K) = (chk L)))) rfl) ?_
        by_cases g18 : (oE L K) = (chk L)
        ·
          refine og (qv_mv (Value.int .i64 (oN L K)) rfl) (want_t g18 rfl rfl rfl) ?_
          refine og (qv_eql rfl rfl) (want_t g18 rfl rfl rfl) ?_
          refine oq (qv_pick_t g18 rfl (rfl : ev _ _ = (Value.bool (decide ((oN L K) = 0))))) ?_
          refine oq (qv_mv (Value.bool (decide ((oN L K) = 0))) rfl) ?_
          by_cases g19 : (oN L K) = 0
          ·
            refine og (qv_mv gg rfl) (want_t g19 rfl rfl rfl) ?_
            refine og (qv_lenI Try.underlying30 rfl hg1) (want_t g19 rfl rfl rfl) ?_
            refine og (qv_eql rfl rfl) (want_t g19 rfl rfl rfl) ?_
            refine oq (qv_pick_t g19 rfl (rfl : ev _ _ = (Value.bool (decide (((((oG L K)).length : Int)) = 0))))) ?_
            refine oq (qv_mv (Value.bool (decide (((((oG L K)).length : Int)) = 0))) rfl) ?_
            by_cases g20 : ((((oG L K)).length : Int)) = 0
            ·
              refine og (qv_mv tt rfl) (want_t g20 rfl rfl rfl) ?_
              refine og (qv_lenS Try.underlying31 rfl ht.sl) (want_t g20 rfl rfl rfl) ?_
              refine og (qv_eql rfl rfl) (want_t g20 rfl rfl rfl) ?_
              refine oq (qv_pick_t g20 rfl (rfl : ev _ _ = (Value.bool (decide (((tv.length : Int)) = 0))))) ?_
              refine oq (qv_as (Value.bool (decide (((tv.length : Int)) = 0))) rfl) ?_
              refine ops_nil ?_
              refine vc_ret ?_
              exact rq1 (Value.bool true) (congrArg Value.bool (decide_eq_true (show (((tv.length : Int)) = 0) from by first | omega | rfl | assumption))) rfl
            ·
              refine os (want_tn g20 rfl rfl rfl) ?_
              refine os (want_tn g20 rfl rfl rfl) ?_
              refine os (want_tn g20 rfl rfl rfl) ?_
              refine oq (qv_pick_f g20 rfl (rfl : ev _ _ = (Value.bool false))) ?_
              refine oq (qv_as (Value.bool false) rfl) ?_
              refine ops_nil ?_
              refine vc_ret ?_
              exact rq1 (Value.bool true) (by first | rfl | (first | omega | rfl | assumption)) rfl
          ·
            exact absurd b2 g19
        ·
          exact absurd hoe g18
      ·
        refine vc_skip ?_
        refine vc_seq ?_
        have hch : chk L = 0 := by omega
        have hk : 1 ≤ K ∧ K ≤ 32 := by omega
        have hoe := oE0 hch hk
        have hg := good_of_chk hch
        obtain ⟨q1, q2, q3, q4, q5⟩ := ord_final hoe
        refine vc_region ?_
        refine oq (qv_mv l rfl) ?_
        refine oq (qv_mv (Value.int .i64 K) rfl) ?_
        refine ops_call (σa := []) (σr := []) (by have h := least_c (k := K) (o := True) hl hg (by omega); rw [dec_true] at h; exact h) rfl rfl (.refl _) (fun r6 V6 sg6 hV6 hp6 => ?_)
        obtain ⟨rfl, bst, fv, F, rfl, hfv, hB⟩ := hp6
        have hl := hl.mono hV6
        have hg1 := hg1.mono hV6
        have ht := ht.mono hV6
        refine oq (qv_mv (Value.tuple #[(Value.int .i64 bst), fv]) rfl) ?_
        refine oq (qv_ext (Value.int .i64 bst) rfl rfl) ?_
        refine oq (qv_ext fv rfl rfl) ?_
        refine oq (qv_as (Value.int .i64 bst) rfl) ?_
        refine oq (qv_as fv rfl) ?_
        refine ops_nil ?_
        refine vc_seq ?_
        obtain ⟨hb1, hF1⟩ := best_end hoe hB (fun _ _ => trivial)
        refine vc_region ?_
        refine oq (qv_mv (Value.int .i64 (oE L K)) rfl) ?_
        refine oq (qv_eql rfl rfl) ?_
        refine oq (qv_mv (Value.bool (decide ((oE L K) = 0))) rfl) ?_
        by_cases g21 : (oE L K) = 0
        ·
          refine og (qv_mv (Value.int .i64 (oN L K)) rfl) (want_t g21 rfl rfl rfl) ?_
          refine og (qv_mv (Value.int .i64 bst) rfl) (want_t g21 rfl rfl rfl) ?_
          refine og (qv_eql rfl rfl) (want_t g21 rfl rfl rfl) ?_
          refine oq (qv_pick_t g21 rfl (rfl : ev _ _ = (Value.bool (decide ((oN L K) = bst))))) ?_
          refine oq (qv_mv (Value.bool (decide ((oN L K) = bst))) rfl) ?_
          by_cases g22 : (oN L K) = bst
          ·
            refine og (qv_mv gg rfl) (want_t g22 rfl rfl rfl) ?_
            refine og (qv_mv fv rfl) (want_t g22 rfl rfl rfl) ?_
            refine og (qv_call (v := (Value.bool (decide (oG L K = F)))) (Equal_c hg1 hfv) rfl rfl) (want_t g22 rfl rfl rfl) ?_
            refine oq (qv_pick_t g22 rfl (rfl : ev _ _ = (Value.bool (decide (oG L K = F))))) ?_
            refine oq (qv_mv (Value.bool (decide (oG L K = F))) rfl) ?_
            by_cases g23 : oG L K = F
            ·
              refine og (qv_mv l rfl) (want_t g23 rfl rfl rfl) ?_
              refine og (qv_mv (Value.int .i64 K) rfl) (want_t g23 rfl rfl rfl) ?_
              refine og (qv_mv tt rfl) (want_t g23 rfl rfl rfl) ?_
              refine og (qv_mv (Value.int .i64 (oN L K)) rfl) (want_t g23 rfl rfl rfl) ?_
              refine og (qv_call (v := (Value.int .i64 (poE L K (oT L K) (oN L K)))) (proved_c hl ht hch hk) rfl rfl) (want_t g23 rfl rfl rfl) ?_
              refine og (qv_eql rfl rfl) (want_t g23 rfl rfl rfl) ?_
              refine oq (qv_pick_t g23 rfl (rfl : ev _ _ = (Value.bool (decide ((poE L K (oT L K) (oN L K)) = 0))))) ?_
              refine oq (qv_mv (Value.bool (decide ((poE L K (oT L K) (oN L K)) = 0))) rfl) ?_
              by_cases g24 : (poE L K (oT L K) (oN L K)) = 0
              ·
                refine og (qv_mv l rfl) (want_t g24 rfl rfl rfl) ?_
                refine og (qv_mv (Value.int .i64 K) rfl) (want_t g24 rfl rfl rfl) ?_
                refine og (qv_mv tt rfl) (want_t g24 rfl rfl rfl) ?_
                refine og (qv_mv (Value.int .i64 (oN L K)) rfl) (want_t g24 rfl rfl rfl) ?_
                refine og (qv_call (v := (Value.int .i64 (poE L K (oT L K) (oN L K)))) (ProveOrdered_c hl ht) rfl rfl) (want_t g24 rfl rfl rfl) ?_
                refine og (qv_eql rfl rfl) (want_t g24 rfl rfl rfl) ?_
                refine oq (qv_pick_t g24 rfl (rfl : ev _ _ = (Value.bool (decide ((poE L K (oT L K) (oN L K)) = 0))))) ?_
                refine oq (qv_as (Value.bool (decide ((poE L K (oT L K) (oN L K)) = 0))) rfl) ?_
                refine ops_nil ?_
                refine vc_ret ?_
                exact rq1 (Value.bool true) (congrArg Value.bool (decide_eq_true (show ((poE L K (oT L K) (oN L K)) = 0) from by first | omega | rfl | assumption))) rfl
              ·
                exact absurd q5 g24
            ·
              exact absurd hF1.symm g23
          ·
            exact absurd hb1.symm g22
        ·
          exact absurd hoe g21

end Go.Proofs.Ytmkbjhligjnagaa
