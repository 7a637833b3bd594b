/- Walks of merge: what each function returns. Printed by a program out of notes. -/
import Derived.Test.YtmkbjhligjnagaaMg9
import Derived.Test.YtmkbjhligjnagaaMgU
namespace Go.Proofs.Ytmkbjhligjnagaa
open Go.Vc
open Classical

set_option maxRecDepth 100000 in
theorem MergeReached_c {V : HV} {l : Value} {rv : List Value} {L : List (List Int)} {K Co : Int} {s : Value} {G : List Int} (hgg : Ints .i64 V s G) (hl : Mat .i64 V l rv L) :
    FnC Try.prog 6 [l, (Value.agg #[(Value.int .i64 K), (Value.int .i64 Co), s])] V [] (fun v _ _ => v = (Value.bool true)) := by
  refine fn_intro (N := 97) Try.func6 (by kernel_rfl) rfl rfl rfl (Nat.le_of_ble_eq_true rfl) ?_
  intro w0 D
  refine vc_seq ?_
  refine vc_region ?_
  refine ops_box (v := (Value.agg #[(Value.int .i64 K), (Value.int .i64 Co), s])) (cs := [(Value.int .i64 K), (Value.int .i64 Co), s]) rfl rfl (fun b1 => ?_)
  refine oq (qv_as (Value.bool false) rfl) ?_
  refine ops_nil ?_
  refine vc_seq ?_
  refine vc_seq ?_
  refine vc_region ?_
  refine oq (qv_call (v := (Value.bool true)) (known_c) rfl rfl) ?_
  refine oq (qv_notc rfl) ?_
  refine ops_nil ?_
  refine vc_ff rfl ?_
  refine vc_skip ?_
  refine vc_seq ?_
  refine vc_seq ?_
  refine vc_region ?_
  refine oq (qv_mv l rfl) ?_
  refine oq (qv_call (v := (Value.bool (decide (Few L 12)))) (few_c hl) rfl rfl) ?_
  refine oq (qv_not rfl) ?_
  refine oq (qv_mv (Value.bool (decide (¬ (Few L 12)))) rfl) ?_
  by_cases g1 : ¬ (Few L 12)
  ·
    refine os (want_fn g1 rfl rfl rfl) ?_
    refine os (want_fn g1 rfl rfl rfl) ?_
    refine os (want_fn g1 rfl rfl rfl) ?_
    refine os (want_fn g1 rfl rfl rfl) ?_
    refine oq (qv_pick_t g1 rfl (rfl : ev _ _ = (Value.bool true))) ?_
    refine ops_nil ?_
    refine vc_tt rfl ?_
    refine vc_seq ?_
    refine vc_region ?_
    refine oq (qv_as (Value.bool true) rfl) ?_
    refine ops_nil ?_
    refine vc_ret ?_
    exact rq1 (Value.bool true) rfl rfl
  ·
    refine og (qv_fa (off := 0) Try.field39_2 rfl) (want_f g1 rfl rfl rfl) ?_
    refine og (qv_ldp (v := s) Try.plain29 rfl (inOc (k := 0) rfl) rfl) (want_f g1 rfl rfl rfl) ?_
    refine og (qv_lenI Try.underlying29 rfl hgg) (want_f g1 rfl rfl rfl) ?_
    refine og (qv_gtr rfl rfl) (want_f g1 rfl rfl rfl) ?_
    refine oq (qv_pick_f g1 rfl (rfl : ev _ _ = (Value.bool (decide (20 < ((G.length : Int))))))) ?_
    refine ops_nil ?_
    refine vc_if rfl (fun c1 => ?_) (fun c1 => ?_)
    ·
      refine vc_seq ?_
      refine vc_region ?_
      refine oq (qv_as (Value.bool true) rfl) ?_
      refine ops_nil ?_
      refine vc_ret ?_
      exact rq1 (Value.bool true) rfl rfl
    ·
      refine vc_skip ?_
      refine vc_seq ?_
      refine vc_region ?_
      refine oq (qv_mv l rfl) ?_
      refine oq (qv_fa (off := 0) Try.field39_0 rfl) ?_
      refine oq (qv_ldp (v := (Value.int .i64 K)) Try.plain3 rfl (inOc (k := 0) rfl) rfl) ?_
      refine ops_call (σa := []) (σr := [(Arr 39 b1 [(Value.int .i64 K), (Value.int .i64 Co), s])]) (Ordered_c (k := K) hl) rfl rfl (.refl _) (fun r1 V1 sg1 hV1 hp1 => ?_)
      obtain ⟨rfl, gg, tt, tv, rfl, hg1, ht⟩ := hp1
      have hl := hl.mono hV1
      have hgg := hgg.mono hV1
      refine oq (qv_mv (Value.tuple #[gg, (Value.int .i64 (oN L K)), tt, (Value.int .i64 (oE L K))]) rfl) ?_
      refine oq (qv_ext gg rfl rfl) ?_
      refine oq (qv_ext (Value.int .i64 (oN L K)) rfl rfl) ?_
      refine oq (qv_ext tt rfl rfl) ?_
      refine oq (qv_ext (Value.int .i64 (oE L K)) rfl rfl) ?_
      refine oq (qv_as gg rfl) ?_
      refine oq (qv_as (Value.int .i64 (oN L K)) rfl) ?_
      refine oq (qv_as tt rfl) ?_
      refine oq (qv_as (Value.int .i64 (oE L K)) rfl) ?_
      refine ops_nil ?_
      refine vc_seq ?_
      refine vc_seq ?_
      refine vc_region ?_
      refine oq (qv_mv (Value.int .i64 (oE L K)) rfl) ?_
      refine oq (qv_neq rfl rfl) ?_
      refine ops_nil ?_
      refine vc_if rfl (fun c2 => ?_) (fun c2 => ?_)
      ·
        refine vc_seq ?_
        refine vc_region ?_
        refine oq (qv_as (Value.bool true) rfl) ?_
        refine ops_nil ?_
        refine vc_ret ?_
        exact rq1 (Value.bool true) rfl rfl
      ·
        refine vc_skip ?_
        refine vc_seq ?_
        have hoe : oE L K = 0 := by omega
        have hg := good_of_chk (oE_inv hoe).1
        obtain ⟨q1, q2, q3, q4, q5⟩ := ord_final hoe
        refine vc_region ?_
        refine oq (qv_mv l rfl) ?_
        refine oq (qv_mv gg rfl) ?_
        refine oq (qv_call (v := (Value.tuple #[(Value.int .i64 (cN L (oG L K))), (Value.int .i64 (cE L (oG L K)))])) (Cost_c hl hg1) rfl rfl) ?_
        refine oq (qv_mv (Value.tuple #[(Value.int .i64 (cN L (oG L K))), (Value.int .i64 (cE L (oG L K)))]) rfl) ?_
        refine oq (qv_ext (Value.int .i64 (cN L (oG L K))) rfl rfl) ?_
        refine oq (qv_ext (Value.int .i64 (cE L (oG L K))) rfl rfl) ?_
        refine oq (qv_as (Value.int .i64 (cN L (oG L K))) rfl) ?_
        refine oq (qv_as (Value.int .i64 (cE L (oG L K))) rfl) ?_
        refine ops_nil ?_
        refine vc_seq ?_
        refine vc_seq ?_
        refine vc_region_any Try.mixed (by kernel_rfl) ?_
        refine qq (qv_mv (Value.int .i64 (cE L (oG L K))) rfl) ?_
        refine qq (qv_neq rfl rfl) ?_
        refine qq (qv_mv (Value.bool (decide ((cE L (oG L K)) ≠ 0))) rfl) ?_
        by_cases g2 : (cE L (oG L K)) ≠ 0
        ·
          exact absurd q1 g2
        ·
          refine qg (qv_mv (Value.int .i64 (cN L (oG L K))) rfl) (want_f g2 rfl rfl rfl) ?_
          refine qg (qv_mv (Value.int .i64 (oN L K)) rfl) (want_f g2 rfl rfl rfl) ?_
          refine qg (qv_neq rfl rfl) (want_f g2 rfl rfl rfl) ?_
          refine qq (qv_pick_f g2 rfl (rfl : ev _ _ = (Value.bool (decide ((cN L (oG L K)) ≠ (oN L K)))))) ?_
          refine qq (qv_mv (Value.bool (decide ((cN L (oG L K)) ≠ (oN L K)))) rfl) ?_
          by_cases g3 : (cN L (oG L K)) ≠ (oN L K)
          ·
            exact absurd q2 g3
          ·
            refine qg (qv_mv gg rfl) (want_f g3 rfl rfl rfl) ?_
            refine qg (qv_call (v := (Value.bool (decide (runsN (oG L K) (oG L K).length = kindsN (oG L K) (oG L K).length)))) (lintervals_c hg1) rfl rfl) (want_f g3 rfl rfl rfl) ?_
            refine qg (qv_not rfl) (want_f g3 rfl rfl rfl) ?_
            refine qq (qv_pick_f g3 rfl (rfl : ev _ _ = (Value.bool (decide (¬ (runsN (oG L K) (oG L K).length = kindsN (oG L K) (oG L K).length)))))) ?_
            refine qq (qv_mv (Value.bool (decide (¬ (runsN (oG L K) (oG L K).length = kindsN (oG L K) (oG L K).length)))) rfl) ?_
            by_cases g4 : ¬ (runsN (oG L K) (oG L K).length = kindsN (oG L K) (oG L K).length)
            ·
              exact absurd q3 g4
            ·
              refine qg (qv_mv gg rfl) (want_f g4 rfl rfl rfl) ?_
              refine qg (qv_call (v := (Value.int .i64 (kindsN (oG L K) (oG L K).length))) (kinds_c hg1) rfl rfl) (want_f g4 rfl rfl rfl) ?_
              refine qg (qv_fa (off := 0) Try.field39_0 rfl) (want_f g4 rfl rfl rfl) ?_
              refine qg (qv_ldp (v := (Value.int .i64 K)) Try.plain3 rfl (inOc (k := 0) rfl) rfl) (want_f g4 rfl rfl rfl) ?_
              refine qg (qv_gtr rfl rfl) (want_f g4 rfl rfl rfl) ?_
              refine qq (qv_pick_f g4 rfl (rfl : ev _ _ = (Value.bool (decide (K < (kindsN (oG L K) (oG L K).length)))))) ?_
              refine qq (qv_mv (Value.bool (decide (K < (kindsN (oG L K) (oG L K).length)))) rfl) ?_
              by_cases g5 : K < (kindsN (oG L K) (oG L K).length)
              ·
                omega
              ·
                refine qg (qv_mv l rfl) (want_f g5 rfl rfl rfl) ?_
                refine qg (qv_fa (off := 0) Try.field39_0 rfl) (want_f g5 rfl rfl rfl) ?_
                refine qg (qv_ldp (v := (Value.int .i64 K)) Try.plain3 rfl (inOc (k := 0) rfl) rfl) (want_f g5 rfl rfl rfl) ?_
                refine qg (qv_mv tt rfl) (want_f g5 rfl rfl rfl) ?_
                refine qg (qv_mv (Value.int .i64 (oN L K)) rfl) (want_f g5 rfl rfl rfl) ?_
                refine qg (qv_call (v := (Value.int .i64 (poE L K (oT L K) (oN L K)))) (ProveOrdered_c hl ht) rfl rfl) (want_f g5 rfl rfl rfl) ?_
                refine qg (qv_neq rfl rfl) (want_f g5 rfl rfl rfl) ?_
                refine qq (qv_pick_f g5 rfl (rfl : ev _ _ = (Value.bool (decide ((poE L K (oT L K) (oN L K)) ≠ 0))))) ?_
                refine qops_nil ?_
                refine vc_if rfl (fun c3 => ?_) (fun c3 => ?_)
                ·
                  exact absurd q5 c3
                ·
                  refine vc_skip ?_
                  refine vc_seq ?_
                  refine vc_region ?_
                  refine oq (qv_mv l rfl) ?_
                  refine oq (qv_fa (off := 0) Try.field39_2 rfl) ?_
                  refine oq (qv_ldp (v := s) Try.plain29 rfl (inOc (k := 0) rfl) rfl) ?_
                  refine oq (qv_call (v := (Value.tuple #[(Value.int .i64 (gN L G)), (Value.int .i64 (gE L G))])) (lcost_c hl hgg hg) rfl rfl) ?_
                  refine oq (qv_mv (Value.tuple #[(Value.int .i64 (gN L G)), (Value.int .i64 (gE L G))]) rfl) ?_
                  refine oq (qv_ext (Value.int .i64 (gN L G)) rfl rfl) ?_
                  refine oq (qv_ext (Value.int .i64 (gE L G)) rfl rfl) ?_
                  refine oq (qv_as (Value.int .i64 (gN L G)) rfl) ?_
                  refine oq (qv_as (Value.int .i64 (gE L G)) rfl) ?_
                  refine ops_nil ?_
                  refine vc_seq ?_
                  refine vc_region_any Try.mixed (by kernel_rfl) ?_
                  refine qq (qv_mv (Value.int .i64 (gE L G)) rfl) ?_
                  refine qq (qv_neq rfl rfl) ?_
                  refine qq (qv_mv (Value.bool (decide ((gE L G) ≠ 0))) rfl) ?_
                  by_cases g6 : (gE L G) ≠ 0
                  ·
                    refine qs (want_fn g6 rfl rfl rfl) ?_
                    refine qs (want_fn g6 rfl rfl rfl) ?_
                    refine qs (want_fn g6 rfl rfl rfl) ?_
                    refine qs (want_fn g6 rfl rfl rfl) ?_
                    refine qq (qv_pick_t g6 rfl (rfl : ev _ _ = (Value.bool true))) ?_
                    refine qq (qv_mv (Value.bool true) rfl) ?_
                    refine qs (want_fnc rfl rfl rfl) ?_
                    refine qs (want_fnc rfl rfl rfl) ?_
                    refine qs (want_fnc rfl rfl rfl) ?_
                    refine qs (want_fnc rfl rfl rfl) ?_
                    refine qs (want_fnc rfl rfl rfl) ?_
                    refine qs (want_fnc rfl rfl rfl) ?_
                    refine qq (qv_pick_tc rfl (rfl : ev _ _ = (Value.bool true))) ?_
                    refine qq (qv_mv (Value.bool true) rfl) ?_
                    refine qs (want_fnc rfl rfl rfl) ?_
                    refine qs (want_fnc rfl rfl rfl) ?_
                    refine qs (want_fnc rfl rfl rfl) ?_
                    refine qq (qv_pick_tc rfl (rfl : ev _ _ = (Value.bool true))) ?_
                    refine qq (qv_as (Value.bool true) rfl) ?_
                    refine qops_nil ?_
                    refine vc_ret ?_
                    exact rq1 (Value.bool true) rfl rfl
                  ·
                    refine qg (qv_fa (off := 0) Try.field39_2 rfl) (want_f g6 rfl rfl rfl) ?_
                    refine qg (qv_ldp (v := s) Try.plain29 rfl (inOc (k := 0) rfl) rfl) (want_f g6 rfl rfl rfl) ?_
                    refine qg (qv_call (v := (Value.bool (decide (runsN G G.length = kindsN G G.length)))) (lintervals_c hgg) rfl rfl) (want_f g6 rfl rfl rfl) ?_
                    refine qg (qv_not rfl) (want_f g6 rfl rfl rfl) ?_
                    refine qq (qv_pick_f g6 rfl (rfl : ev _ _ = (Value.bool (decide (¬ (runsN G G.length = kindsN G G.length)))))) ?_
                    refine qq (qv_mv (Value.bool (decide (¬ (runsN G G.length = kindsN G G.length)))) rfl) ?_
                    by_cases g7 : ¬ (runsN G G.length = kindsN G G.length)
                    ·
                      refine qs (want_fn g7 rfl rfl rfl) ?_
                      refine qs (want_fn g7 rfl rfl rfl) ?_
                      refine qs (want_fn g7 rfl rfl rfl) ?_
                      refine qs (want_fn g7 rfl rfl rfl) ?_
                      refine qs (want_fn g7 rfl rfl rfl) ?_
                      refine qs (want_fn g7 rfl rfl rfl) ?_
                      refine qq (qv_pick_t g7 rfl (rfl : ev _ _ = (Value.bool true))) ?_
                      refine qq (qv_mv (Value.bool true) rfl) ?_
                      refine qs (want_fnc rfl rfl rfl) ?_
                      refine qs (want_fnc rfl rfl rfl) ?_
                      refine qs (want_fnc rfl rfl rfl) ?_
                      refine qq (qv_pick_tc rfl (rfl : ev _ _ = (Value.bool true))) ?_
                      refine qq (qv_as (Value.bool true) rfl) ?_
                      refine qops_nil ?_
                      refine vc_ret ?_
                      exact rq1 (Value.bool true) rfl rfl
                    ·
                      refine qg (qv_fa (off := 0) Try.field39_2 rfl) (want_f g7 rfl rfl rfl) ?_
                      refine qg (qv_ldp (v := s) Try.plain29 rfl (inOc (k := 0) rfl) rfl) (want_f g7 rfl rfl rfl) ?_
                      refine qg (qv_call (v := (Value.int .i64 (kindsN G G.length))) (kinds_c hgg) rfl rfl) (want_f g7 rfl rfl rfl) ?_
                      refine qg (qv_fa (off := 0) Try.field39_0 rfl) (want_f g7 rfl rfl rfl) ?_
                      refine qg (qv_ldp (v := (Value.int .i64 K)) Try.plain3 rfl (inOc (k := 0) rfl) rfl) (want_f g7 rfl rfl rfl) ?_
                      refine qg (qv_gtr rfl rfl) (want_f g7 rfl rfl rfl) ?_
                      refine qq (qv_pick_f g7 rfl (rfl : ev _ _ = (Value.bool (decide (K < (kindsN G G.length)))))) ?_
                      refine qq (qv_mv (Value.bool (decide (K < (kindsN G G.length)))) rfl) ?_
                      by_cases g8 : K < (kindsN G G.length)
                      ·
                        refine qs (want_fn g8 rfl rfl rfl) ?_
                        refine qs (want_fn g8 rfl rfl rfl) ?_
                        refine qs (want_fn g8 rfl rfl rfl) ?_
                        refine qq (qv_pick_t g8 rfl (rfl : ev _ _ = (Value.bool true))) ?_
                        refine qq (qv_as (Value.bool true) rfl) ?_
                        refine qops_nil ?_
                        refine vc_ret ?_
                        exact rq1 (Value.bool true) rfl rfl
                      ·
                        refine qg (qv_mv (Value.int .i64 (gN L G)) rfl) (want_f g8 rfl rfl rfl) ?_
                        refine qg (qv_mv (Value.int .i64 (oN L K)) rfl) (want_f g8 rfl rfl rfl) ?_
                        refine qg (qv_geq rfl rfl) (want_f g8 rfl rfl rfl) ?_
                        refine qq (qv_pick_f g8 rfl (rfl : ev _ _ = (Value.bool (decide ((oN L K) ≤ (gN L G)))))) ?_
                        refine qq (qv_as (Value.bool (decide ((oN L K) ≤ (gN L G)))) rfl) ?_
                        refine qops_nil ?_
                        refine vc_ret ?_
                        exact rq1 (Value.bool true) (congrArg Value.bool (decide_eq_true (show ((oN L K) ≤ (gN L G)) from by rw [gN_good (by omega)]; exact proves_bound q5 (by omega) (by omega) (by omega)))) rfl

end Go.Proofs.Ytmkbjhligjnagaa
