/- Walks of merge: what each function returns. Printed by a program out of notes. -/
import Derived.Test.YtmkbjhligjnagaaMg9
namespace Go.Proofs.Ytmkbjhligjnagaa
open Go.Vc
open Classical

set_option maxRecDepth 100000 in
theorem MergeProofs_c {V : HV} {l : Value} {rv : List Value} {L : List (List Int)} {t : Value} {tv : List Value} {T : List (List Int)} {K Co : Int} {s : Value} {G : List Int} (hgg : Ints .i64 V s G) (hl : Mat .i64 V l rv L) (ht : Mat .i64 V t tv T) :
    FnC Try.prog 5 [l, t, (Value.agg #[(Value.int .i64 K), (Value.int .i64 Co), s])] V [] (fun v _ _ => v = (Value.bool true)) := by
  refine fn_intro (N := 103) Try.func5 (by kernel_rfl) rfl rfl rfl (Nat.le_of_ble_eq_true rfl) ?_
  intro w0 D
  have htl := ht.len
  have hbd := ht.sl.bound
  refine vc_seq ?_
  refine vc_region ?_
  refine ops_box (v := (Value.agg #[(Value.int .i64 K), (Value.int .i64 Co), s])) (cs := [(Value.int .i64 K), (Value.int .i64 Co), s]) rfl rfl (fun b1 => ?_)
  refine oq (qv_as (Value.bool false) rfl) ?_
  refine ops_nil ?_
  refine vc_seq ?_
  refine vc_seq ?_
  refine vc_region ?_
  refine oq (qv_call (v := (Value.bool true)) (known_c) rfl rfl) ?_
  refine oq (qv_notc rfl) ?_
  refine ops_nil ?_
  refine vc_ff rfl ?_
  refine vc_skip ?_
  refine vc_seq ?_
  refine vc_seq ?_
  refine vc_region ?_
  refine oq (qv_mv l rfl) ?_
  refine oq (qv_call (v := (Value.bool (decide (Few L 12)))) (few_c hl) rfl rfl) ?_
  refine oq (qv_not rfl) ?_
  refine oq (qv_mv (Value.bool (decide (¬ (Few L 12)))) rfl) ?_
  by_cases g1 : ¬ (Few L 12)
  ·
    refine os (want_fn g1 rfl rfl rfl) ?_
    refine os (want_fn g1 rfl rfl rfl) ?_
    refine os (want_fn g1 rfl rfl rfl) ?_
    refine oq (qv_pick_t g1 rfl (rfl : ev _ _ = (Value.bool true))) ?_
    refine oq (qv_mv (Value.bool true) rfl) ?_
    refine os (want_fnc rfl rfl rfl) ?_
    refine os (want_fnc rfl rfl rfl) ?_
    refine os (want_fnc rfl rfl rfl) ?_
    refine os (want_fnc rfl rfl rfl) ?_
    refine oq (qv_pick_tc rfl (rfl : ev _ _ = (Value.bool true))) ?_
    refine ops_nil ?_
    refine vc_tt rfl ?_
    refine vc_seq ?_
    refine vc_region ?_
    refine oq (qv_as (Value.bool true) rfl) ?_
    refine ops_nil ?_
    refine vc_ret ?_
    exact rq1 (Value.bool true) rfl rfl
  ·
    refine og (qv_mv t rfl) (want_f g1 rfl rfl rfl) ?_
    refine og (qv_lenS Try.underlying31 rfl ht.sl) (want_f g1 rfl rfl rfl) ?_
    refine og (qv_gtr rfl rfl) (want_f g1 rfl rfl rfl) ?_
    refine oq (qv_pick_f g1 rfl (rfl : ev _ _ = (Value.bool (decide (40 < ((tv.length : Int))))))) ?_
    refine oq (qv_mv (Value.bool (decide (40 < ((tv.length : Int))))) rfl) ?_
    by_cases g2 : 40 < ((tv.length : Int))
    ·
      refine os (want_fn g2 rfl rfl rfl) ?_
      refine os (want_fn g2 rfl rfl rfl) ?_
      refine os (want_fn g2 rfl rfl rfl) ?_
      refine os (want_fn g2 rfl rfl rfl) ?_
      refine oq (qv_pick_t g2 rfl (rfl : ev _ _ = (Value.bool true))) ?_
      refine ops_nil ?_
      refine vc_tt rfl ?_
      refine vc_seq ?_
      refine vc_region ?_
      refine oq (qv_as (Value.bool true) rfl) ?_
      refine ops_nil ?_
      refine vc_ret ?_
      exact rq1 (Value.bool true) rfl rfl
    ·
      refine og (qv_fa (off := 0) Try.field39_2 rfl) (want_f g2 rfl rfl rfl) ?_
      refine og (qv_ldp (v := s) Try.plain29 rfl (inOc (k := 0) rfl) rfl) (want_f g2 rfl rfl rfl) ?_
      refine og (qv_lenI Try.underlying29 rfl hgg) (want_f g2 rfl rfl rfl) ?_
      refine og (qv_gtr rfl rfl) (want_f g2 rfl rfl rfl) ?_
      refine oq (qv_pick_f g2 rfl (rfl : ev _ _ = (Value.bool (decide (20 < ((G.length : Int))))))) ?_
      refine ops_nil ?_
      refine vc_if rfl (fun c1 => ?_) (fun c1 => ?_)
      ·
        refine vc_seq ?_
        refine vc_region ?_
        refine oq (qv_as (Value.bool true) rfl) ?_
        refine ops_nil ?_
        refine vc_ret ?_
        exact rq1 (Value.bool true) rfl rfl
      ·
        refine vc_skip ?_
        refine vc_seq ?_
        refine vc_seq ?_
        refine vc_region ?_
        refine oq (qv_mv t rfl) ?_
        refine oq (qv_lenS Try.underlying31 rfl ht.sl) ?_
        refine oq (qv_mv (Value.int .i64 0) rfl) ?_
        refine ops_nil ?_
        refine vc_block ?_
        refine vc_loop (α := Int) (fun (xx : Int) => [(0, l), (1, t), (2, (Value.agg #[(Value.int .i64 K), (Value.int .i64 Co), s])), (5, (Value.pointer (some ⟨b1, 0, none⟩))), (14, (Value.bool false)), (28, (Value.bool (decide (20 < ((G.length : Int)))))), (29, t), (30, (Value.int .i64 ((tv.length : Int)))), (31, (Value.int .i64 xx))]) (fun (xx : Int) V' σ' => V = V' ∧ [(Arr 39 b1 [(Value.int .i64 K), (Value.int .i64 Co), s])] = σ' ∧ 0 ≤ xx ∧ xx ≤ tv.length) (fun (xx : Int) => (tv.length - xx).toNat) (0) ?_ ?_ ?_
        · exact ⟨rfl, rfl, rfl, rfl, rfl, rfl, rfl, rfl, rfl, trivial⟩
        · exact ⟨rfl, rfl, by omega, by omega⟩
        rintro j e1 V0l σ0l hI0
        obtain ⟨rfl, rfl, i1, i2⟩ : V = V0l ∧ [(Arr 39 b1 [(Value.int .i64 K), (Value.int .i64 Co), s])] = σ0l ∧ 0 ≤ j ∧ j ≤ tv.length := hI0
        refine vc_seq ?_
        refine vc_region ?_
        refine oq (qv_lss rfl rfl) ?_
        refine ops_nil ?_
        refine vc_seq ?_
        refine vc_if rfl (fun c2 => ?_) (fun c2 => ?_)
        ·
          refine vc_skip ?_
          refine vc_seq ?_
          refine vc_block ?_
          refine vc_seq ?_
          refine vc_region ?_
          refine oq (qv_ia (v := t) (i := j) Try.underlying31 Try.size29 rfl (inV ht.sl) rfl (by omega) (by omega)) ?_
          refine oq (qv_ld (v := t) (i := j) Try.plain29 rfl (inV ht.sl) (by omega) (by omega)) ?_
          refine oq (qv_as (gv tv (j)) rfl) ?_
          refine ops_nil ?_
          refine vc_seq ?_
          refine vc_region ?_
          refine oq (qv_mv (gv tv (j)) rfl) ?_
          refine oq (qv_lenI Try.underlying29 rfl (ht.row (j) (by omega) (by omega))) ?_
          refine oq (qv_gtr rfl rfl) ?_
          refine ops_nil ?_
          refine vc_if rfl (fun c3 => ?_) (fun c3 => ?_)
          ·
            refine vc_seq ?_
            refine vc_region ?_
            refine oq (qv_as (Value.bool true) rfl) ?_
            refine ops_nil ?_
            refine vc_ret ?_
            refine blockQ_ret ?_
            refine blockQ_ret ?_
            exact rq1 (Value.bool true) rfl rfl
          ·
            refine vc_skip ?_
            refine vc_region ?_
            refine oq (qv_add rfl rfl (by omega)) ?_
            refine oq (qv_mv (Value.int .i64 (j + 1)) rfl) ?_
            refine ops_nil ?_
            refine ⟨(j + 1), ⟨rfl, rfl, rfl, rfl, rfl, rfl, rfl, rfl, (congrArg (Value.int .i64) (show (j + 1) = ((j + 1)) from by omega)), trivial⟩, ⟨rfl, rfl, by omega, by omega⟩, by omega⟩
        ·
          refine vc_exit ?_
          refine blockQ_hit ?_
          refine vc_seq ?_
          refine vc_region ?_
          refine oq (qv_mv l rfl) ?_
          refine oq (qv_fa (off := 0) Try.field39_0 rfl) ?_
          refine oq (qv_ldp (v := (Value.int .i64 K)) Try.plain3 rfl (inOc (k := 0) rfl) rfl) ?_
          refine oq (qv_mv t rfl) ?_
          refine oq (qv_fa (off := 0) Try.field39_1 rfl) ?_
          refine oq (qv_ldp (v := (Value.int .i64 Co)) Try.plain3 rfl (inOc (k := 0) rfl) rfl) ?_
          refine oq (qv_call (v := (Value.int .i64 (poE L K T Co))) (ProveOrdered_c hl ht) rfl rfl) ?_
          refine oq (qv_as (Value.int .i64 (poE L K T Co)) rfl) ?_
          refine ops_nil ?_
          refine vc_seq ?_
          refine vc_region ?_
          refine oq (qv_mv l rfl) ?_
          refine oq (qv_call (v := (Value.int .i64 (chk L))) (check_c hl) rfl rfl) ?_
          refine oq (qv_as (Value.int .i64 (chk L)) rfl) ?_
          refine ops_nil ?_
          refine vc_seq ?_
          refine vc_seq ?_
          refine vc_region ?_
          refine oq (qv_mv (Value.int .i64 (chk L)) rfl) ?_
          refine oq (qv_eql rfl rfl) ?_
          refine oq (qv_mv (Value.bool (decide ((chk L) = 0))) rfl) ?_
          by_cases g3 : (chk L) = 0
          ·
            refine og (qv_fa (off := 0) Try.field39_0 rfl) (want_t g3 rfl rfl rfl) ?_
            refine og (qv_ldp (v := (Value.int .i64 K)) Try.plain3 rfl (inOc (k := 0) rfl) rfl) (want_t g3 rfl rfl rfl) ?_
            refine og (qv_lss rfl rfl) (want_t g3 rfl rfl rfl) ?_
            refine og (qv_mv (Value.bool (decide (K < 1))) rfl) (want_t g3 rfl rfl rfl) ?_
            by_cases g4 : K < 1
            ·
              refine os (want_fn g4 rfl rfl rfl) ?_
              refine os (want_fn g4 rfl rfl rfl) ?_
              refine os (want_fn g4 rfl rfl rfl) ?_
              refine og (qv_pick_t g4 rfl (rfl : ev _ _ = (Value.bool true))) (want_t g3 rfl rfl rfl) ?_
              refine oq (qv_pick_t g3 rfl (rfl : ev _ _ = (Value.bool true))) ?_
              refine ops_nil ?_
              refine vc_tt rfl ?_
              refine vc_region ?_
              refine oq (qv_as (Value.int .i64 3) rfl) ?_
              refine ops_nil ?_
              refine vc_seq ?_
              refine vc_seq ?_
              refine vc_region ?_
              refine oq (qv_mv (Value.int .i64 3) rfl) ?_
              refine oq (qv_eql rfl rfl) ?_
              refine ops_nil ?_
              refine vc_if rfl (fun c4 => ?_) (fun c4 => ?_)
              ·
                omega
              ·
                refine vc_skip ?_
                refine vc_seq ?_
                refine vc_seq ?_
                refine vc_region ?_
                refine oq (qv_mv (Value.int .i64 (poE L K T Co)) rfl) ?_
                refine oq (qv_mv (Value.int .i64 3) rfl) ?_
                refine oq (qv_neq rfl rfl) ?_
                refine ops_nil ?_
                refine vc_if rfl (fun c5 => ?_) (fun c5 => ?_)
                ·
                  exact absurd (poE_k (by omega) (by omega)) c5
                ·
                  refine vc_skip ?_
                  refine vc_seq ?_
                  refine vc_seq ?_
                  refine vc_region ?_
                  refine oq (qv_mv (Value.int .i64 (poE L K T Co)) rfl) ?_
                  refine oq (qv_neq rfl rfl) ?_
                  refine ops_nil ?_
                  refine vc_if rfl (fun c6 => ?_) (fun c6 => ?_)
                  ·
                    refine vc_seq ?_
                    refine vc_region ?_
                    refine oq (qv_as (Value.bool true) rfl) ?_
                    refine ops_nil ?_
                    refine vc_ret ?_
                    exact rq1 (Value.bool true) rfl rfl
                  ·
                    refine vc_skip ?_
                    refine vc_seq ?_
                    have hpo : poE L K T Co = 0 := by omega
                    have hg := good_of_chk (poE_good hpo)
                    refine vc_region ?_
                    refine oq (qv_mv l rfl) ?_
                    refine oq (qv_fa (off := 0) Try.field39_2 rfl) ?_
                    refine oq (qv_ldp (v := s) Try.plain29 rfl (inOc (k := 0) rfl) rfl) ?_
                    refine oq (qv_call (v := (Value.tuple #[(Value.int .i64 (gN L G)), (Value.int .i64 (gE L G))])) (lcost_c hl hgg hg) rfl rfl) ?_
                    refine oq (qv_mv (Value.tuple #[(Value.int .i64 (gN L G)), (Value.int .i64 (gE L G))]) rfl) ?_
                    refine oq (qv_ext (Value.int .i64 (gN L G)) rfl rfl) ?_
                    refine oq (qv_ext (Value.int .i64 (gE L G)) rfl rfl) ?_
                    refine oq (qv_as (Value.int .i64 (gN L G)) rfl) ?_
                    refine oq (qv_as (Value.int .i64 (gE L G)) rfl) ?_
                    refine ops_nil ?_
                    refine vc_seq ?_
                    refine vc_region_any Try.mixed (by kernel_rfl) ?_
                    refine qq (qv_mv (Value.int .i64 (gE L G)) rfl) ?_
                    refine qq (qv_neq rfl rfl) ?_
                    refine qq (qv_mv (Value.bool (decide ((gE L G) ≠ 0))) rfl) ?_
                    by_cases g5 : (gE L G) ≠ 0
                    ·
                      refine qs (want_fn g5 rfl rfl rfl) ?_
                      refine qs (want_fn g5 rfl rfl rfl) ?_
                      refine qs (want_fn g5 rfl rfl rfl) ?_
                      refine qs (want_fn g5 rfl rfl rfl) ?_
                      refine qq (qv_pick_t g5 rfl (rfl : ev _ _ = (Value.bool true))) ?_
                      refine qq (qv_mv (Value.bool true) rfl) ?_
                      refine qs (want_fnc rfl rfl rfl) ?_
                      refine qs (want_fnc rfl rfl rfl) ?_
                      refine qs (want_fnc rfl rfl rfl) ?_
                      refine qs (want_fnc rfl rfl rfl) ?_
                      refine qs (want_fnc rfl rfl rfl) ?_
                      refine qs (want_fnc rfl rfl rfl) ?_
                      refine qq (qv_pick_tc rfl (rfl : ev _ _ = (Value.bool true))) ?_
                      refine qq (qv_mv (Value.bool true) rfl) ?_
                      refine qs (want_fnc rfl rfl rfl) ?_
                      refine qs (want_fnc rfl rfl rfl) ?_
                      refine qs (want_fnc rfl rfl rfl) ?_
                      refine qs (want_fnc rfl rfl rfl) ?_
                      refine qq (qv_pick_tc rfl (rfl : ev _ _ = (Value.bool true))) ?_
                      refine qq (qv_as (Value.bool true) rfl) ?_
                      refine qops_nil ?_
                      refine vc_ret ?_
                      exact rq1 (Value.bool true) rfl rfl
                    ·
                      refine qg (qv_fa (off := 0) Try.field39_2 rfl) (want_f g5 rfl rfl rfl) ?_
                      refine qg (qv_ldp (v := s) Try.plain29 rfl (inOc (k := 0) rfl) rfl) (want_f g5 rfl rfl rfl) ?_
                      refine qg (qv_call (v := (Value.bool (decide (runsN G G.length = kindsN G G.length)))) (lintervals_c hgg) rfl rfl) (want_f g5 rfl rfl rfl) ?_
                      refine qg (qv_not rfl) (want_f g5 rfl rfl rfl) ?_
                      refine qq (qv_pick_f g5 rfl (rfl : ev _ _ = (Value.bool (decide (¬ (runsN G G.length = kindsN G G.length)))))) ?_
                      refine qq (qv_mv (Value.bool (decide (¬ (runsN G G.length = kindsN G G.length)))) rfl) ?_
                      by_cases g6 : ¬ (runsN G G.length = kindsN G G.length)
                      ·
                        refine qs (want_fn g6 rfl rfl rfl) ?_
                        refine qs (want_fn g6 rfl rfl rfl) ?_
                        refine qs (want_fn g6 rfl rfl rfl) ?_
                        refine qs (want_fn g6 rfl rfl rfl) ?_
                        refine qs (want_fn g6 rfl rfl rfl) ?_
                        refine qs (want_fn g6 rfl rfl rfl) ?_
                        refine qq (qv_pick_t g6 rfl (rfl : ev _ _ = (Value.bool true))) ?_
                        refine qq (qv_mv (Value.bool true) rfl) ?_
                        refine qs (want_fnc rfl rfl rfl) ?_
                        refine qs (want_fnc rfl rfl rfl) ?_
                        refine qs (want_fnc rfl rfl rfl) ?_
                        refine qs (want_fnc rfl rfl rfl) ?_
                        refine qq (qv_pick_tc rfl (rfl : ev _ _ = (Value.bool true))) ?_
                        refine qq (qv_as (Value.bool true) rfl) ?_
                        refine qops_nil ?_
                        refine vc_ret ?_
                        exact rq1 (Value.bool true) rfl rfl
                      ·
                        refine qg (qv_fa (off := 0) Try.field39_2 rfl) (want_f g6 rfl rfl rfl) ?_
                        refine qg (qv_ldp (v := s) Try.plain29 rfl (inOc (k := 0) rfl) rfl) (want_f g6 rfl rfl rfl) ?_
                        refine qg (qv_call (v := (Value.int .i64 (kindsN G G.length))) (kinds_c hgg) rfl rfl) (want_f g6 rfl rfl rfl) ?_
                        refine qg (qv_fa (off := 0) Try.field39_0 rfl) (want_f g6 rfl rfl rfl) ?_
                        refine qg (qv_ldp (v := (Value.int .i64 K)) Try.plain3 rfl (inOc (k := 0) rfl) rfl) (want_f g6 rfl rfl rfl) ?_
                        refine qg (qv_gtr rfl rfl) (want_f g6 rfl rfl rfl) ?_
                        refine qq (qv_pick_f g6 rfl (rfl : ev _ _ = (Value.bool (decide (K < (kindsN G G.length)))))) ?_
                        refine qq (qv_mv (Value.bool (decide (K < (kindsN G G.length)))) rfl) ?_
                        by_cases g7 : K < (kindsN G G.length)
                        ·
                          refine qs (want_fn g7 rfl rfl rfl) ?_
                          refine qs (want_fn g7 rfl rfl rfl) ?_
                          refine qs (want_fn g7 rfl rfl rfl) ?_
                          refine qs (want_fn g7 rfl rfl rfl) ?_
                          refine qq (qv_pick_t g7 rfl (rfl : ev _ _ = (Value.bool true))) ?_
                          refine qq (qv_as (Value.bool true) rfl) ?_
                          refine qops_nil ?_
                          refine vc_ret ?_
                          exact rq1 (Value.bool true) rfl rfl
                        ·
                          refine qg (qv_mv (Value.int .i64 (gN L G)) rfl) (want_f g7 rfl rfl rfl) ?_
                          refine qg (qv_fa (off := 0) Try.field39_1 rfl) (want_f g7 rfl rfl rfl) ?_
                          refine qg (qv_ldp (v := (Value.int .i64 Co)) Try.plain3 rfl (inOc (k := 0) rfl) rfl) (want_f g7 rfl rfl rfl) ?_
                          refine qg (qv_geq rfl rfl) (want_f g7 rfl rfl rfl) ?_
                          refine qq (qv_pick_f g7 rfl (rfl : ev _ _ = (Value.bool (decide (Co ≤ (gN L G)))))) ?_
                          refine qq (qv_as (Value.bool (decide (Co ≤ (gN L G)))) rfl) ?_
                          refine qops_nil ?_
                          refine vc_ret ?_
                          exact rq1 (Value.bool true) (congrArg Value.bool (decide_eq_true (show (Co ≤ (gN L G)) from by rw [gN_good (by omega)]; exact proves_bound hpo (by omega) (by omega) (by omega)))) rfl
            ·
              refine og (qv_fa (off := 0) Try.field39_0 rfl) (want_f g4 rfl rfl rfl) ?_
              refine og (qv_ldp (v := (Value.int .i64 K)) Try.plain3 rfl (inOc (k := 0) rfl) rfl) (want_f g4 rfl rfl rfl) ?_
              refine og (qv_gtr rfl rfl) (want_f g4 rfl rfl rfl) ?_
              refine og (qv_pick_f g4 rfl (rfl : ev _ _ = (Value.bool (decide (32 < K))))) (want_t g3 rfl rfl rfl) ?_
              refine oq (qv_pick_t g3 rfl (rfl : ev _ _ = (Value.bool (decide (32 < K))))) ?_
              refine ops_nil ?_
              refine vc_if rfl (fun c7 => ?_) (fun c7 => ?_)
              ·
                refine vc_region ?_
                refine oq (qv_as (Value.int .i64 3) rfl) ?_
                refine ops_nil ?_
                refine vc_seq ?_
                refine vc_seq ?_
                refine vc_region ?_
                refine oq (qv_mv (Value.int .i64 3) rfl) ?_
                refine oq (qv_eql rfl rfl) ?_
                refine ops_nil ?_
                refine vc_if rfl (fun c8 => ?_) (fun c8 => ?_)
                ·
                  omega
                ·
                  refine vc_skip ?_
                  refine vc_seq ?_
                  refine vc_seq ?_
                  refine vc_region ?_
                  refine oq (qv_mv (Value.int .i64 (poE L K T Co)) rfl) ?_
                  refine oq (qv_mv (Value.int .i64 3) rfl) ?_
                  refine oq (qv_neq rfl rfl) ?_
                  refine ops_nil ?_
                  refine vc_if rfl (fun c9 => ?_) (fun c9 => ?_)
                  ·
                    exact absurd (poE_k (by omega) (by omega)) c9
                  ·
                    refine vc_skip ?_
                    refine vc_seq ?_
                    refine vc_seq ?_
                    refine vc_region ?_
                    refine oq (qv_mv (Value.int .i64 (poE L K T Co)) rfl) ?_
                    refine oq (qv_neq rfl rfl) ?_
                    refine ops_nil ?_
                    refine vc_if rfl (fun c10 => ?_) (fun c10 => ?_)
                    ·
                      refine vc_seq ?_
                      refine vc_region ?_
                      refine oq (qv_as (Value.bool true) rfl) ?_
                      refine ops_nil ?_
                      refine vc_ret ?_
                      exact rq1 (Value.bool true) rfl rfl
                    ·
                      refine vc_skip ?_
                      refine vc_seq ?_
                      have hpo : poE L K T Co = 0 := by omega
                      have hg := good_of_chk (poE_good hpo)
                      refine vc_region ?_
                      refine oq (qv_mv l rfl) ?_
                      refine oq (qv_fa (off := 0) Try.field39_2 rfl) ?_
                      refine oq (qv_ldp (v := s) Try.plain29 rfl (inOc (k := 0) rfl) rfl) ?_
                      refine oq (qv_call (v := (Value.tuple #[(Value.int .i64 (gN L G)), (Value.int .i64 (gE L G))])) (lcost_c hl hgg hg) rfl rfl) ?_
                      refine oq (qv_mv (Value.tuple #[(Value.int .i64 (gN L G)), (Value.int .i64 (gE L G))]) rfl) ?_
                      refine oq (qv_ext (Value.int .i64 (gN L G)) rfl rfl) ?_
                      refine oq (qv_ext (Value.int .i64 (gE L G)) rfl rfl) ?_
                      refine oq (qv_as (Value.int .i64 (gN L G)) rfl) ?_
                      refine oq (qv_as (Value.int .i64 (gE L G)) rfl) ?_
                      refine ops_nil ?_
                      refine vc_seq ?_
                      refine vc_region_any Try.mixed (by kernel_rfl) ?_
                      refine qq (qv_mv (Value.int .i64 (gE L G)) rfl) ?_
                      refine qq (qv_neq rfl rfl) ?_
                      refine qq (qv_mv (Value.bool (decide ((gE L G) ≠ 0))) rfl) ?_
                      by_cases g8 : (gE L G) ≠ 0
                      ·
                        refine qs (want_fn g8 rfl rfl rfl) ?_
                        refine qs (want_fn g8 rfl rfl rfl) ?_
                        refine qs (want_fn g8 rfl rfl rfl) ?_
                        refine qs (want_fn g8 rfl rfl rfl) ?_
                        refine qq (qv_pick_t g8 rfl (rfl : ev _ _ = (Value.bool true))) ?_
                        refine qq (qv_mv (Value.bool true) rfl) ?_
                        refine qs (want_fnc rfl rfl rfl) ?_
                        refine qs (want_fnc rfl rfl rfl) ?_
                        refine qs (want_fnc rfl rfl rfl) ?_
                        refine qs (want_fnc rfl rfl rfl) ?_
                        refine qs (want_fnc rfl rfl rfl) ?_
                        refine qs (want_fnc rfl rfl rfl) ?_
                        refine qq (qv_pick_tc rfl (rfl : ev _ _ = (Value.bool true))) ?_
                        refine qq (qv_mv (Value.bool true) rfl) ?_
                        refine qs (want_fnc rfl rfl rfl) ?_
                        refine qs (want_fnc rfl rfl rfl) ?_
                        refine qs (want_fnc rfl rfl rfl) ?_
                        refine qs (want_fnc rfl rfl rfl) ?_
                        refine qq (qv_pick_tc rfl (rfl : ev _ _ = (Value.bool true))) ?_
                        refine qq (qv_as (Value.bool true) rfl) ?_
                        refine qops_nil ?_
                        refine vc_ret ?_
                        exact rq1 (Value.bool true) rfl rfl
                      ·
                        refine qg (qv_fa (off := 0) Try.field39_2 rfl) (want_f g8 rfl rfl rfl) ?_
                        refine qg (qv_ldp (v := s) Try.plain29 rfl (inOc (k := 0) rfl) rfl) (want_f g8 rfl rfl rfl) ?_
                        refine qg (qv_call (v := (Value.bool (decide (runsN G G.length = kindsN G G.length)))) (lintervals_c hgg) rfl rfl) (want_f g8 rfl rfl rfl) ?_
                        refine qg (qv_not rfl) (want_f g8 rfl rfl rfl) ?_
                        refine qq (qv_pick_f g8 rfl (rfl : ev _ _ = (Value.bool (decide (¬ (runsN G G.length = kindsN G G.length)))))) ?_
                        refine qq (qv_mv (Value.bool (decide (¬ (runsN G G.length = kindsN G G.length)))) rfl) ?_
                        by_cases g9 : ¬ (runsN G G.length = kindsN G G.length)
                        ·
                          refine qs (want_fn g9 rfl rfl rfl) ?_
                          refine qs (want_fn g9 rfl rfl rfl) ?_
                          refine qs (want_fn g9 rfl rfl rfl) ?_
                          refine qs (want_fn g9 rfl rfl rfl) ?_
                          refine qs (want_fn g9 rfl rfl rfl) ?_
                          refine qs (want_fn g9 rfl rfl rfl) ?_
                          refine qq (qv_pick_t g9 rfl (rfl : ev _ _ = (Value.bool true))) ?_
                          refine qq (qv_mv (Value.bool true) rfl) ?_
                          refine qs (want_fnc rfl rfl rfl) ?_
                          refine qs (want_fnc rfl rfl rfl) ?_
                          refine qs (want_fnc rfl rfl rfl) ?_
                          refine qs (want_fnc rfl rfl rfl) ?_
                          refine qq (qv_pick_tc rfl (rfl : ev _ _ = (Value.bool true))) ?_
                          refine qq (qv_as (Value.bool true) rfl) ?_
                          refine qops_nil ?_
                          refine vc_ret ?_
                          exact rq1 (Value.bool true) rfl rfl
                        ·
                          refine qg (qv_fa (off := 0) Try.field39_2 rfl) (want_f g9 rfl rfl rfl) ?_
                          refine qg (qv_ldp (v := s) Try.plain29 rfl (inOc (k := 0) rfl) rfl) (want_f g9 rfl rfl rfl) ?_
                          refine qg (qv_call (v := (Value.int .i64 (kindsN G G.length))) (kinds_c hgg) rfl rfl) (want_f g9 rfl rfl rfl) ?_
                          refine qg (qv_fa (off := 0) Try.field39_0 rfl) (want_f g9 rfl rfl rfl) ?_
                          refine qg (qv_ldp (v := (Value.int .i64 K)) Try.plain3 rfl (inOc (k := 0) rfl) rfl) (want_f g9 rfl rfl rfl) ?_
                          refine qg (qv_gtr rfl rfl) (want_f g9 rfl rfl rfl) ?_
                          refine qq (qv_pick_f g9 rfl (rfl : ev _ _ = (Value.bool (decide (K < (kindsN G G.length)))))) ?_
                          refine qq (qv_mv (Value.bool (decide (K < (kindsN G G.length)))) rfl) ?_
                          by_cases g10 : K < (kindsN G G.length)
                          ·
                            refine qs (want_fn g10 rfl rfl rfl) ?_
                            refine qs (want_fn g10 rfl rfl rfl) ?_
                            refine qs (want_fn g10 rfl rfl rfl) ?_
                            refine qs (want_fn g10 rfl rfl rfl) ?_
                            refine qq (qv_pick_t g10 rfl (rfl : ev _ _ = (Value.bool true))) ?_
                            refine qq (qv_as (Value.bool true) rfl) ?_
                            refine qops_nil ?_
                            refine vc_ret ?_
                            exact rq1 (Value.bool true) rfl rfl
                          ·
                            refine qg (qv_mv (Value.int .i64 (gN L G)) rfl) (want_f g10 rfl rfl rfl) ?_
                            refine qg (qv_fa (off := 0) Try.field39_1 rfl) (want_f g10 rfl rfl rfl) ?_
                            refine qg (qv_ldp (v := (Value.int .i64 Co)) Try.plain3 rfl (inOc (k := 0) rfl) rfl) (want_f g10 rfl rfl rfl) ?_
                            refine qg (qv_geq rfl rfl) (want_f g10 rfl rfl rfl) ?_
                            refine qq (qv_pick_f g10 rfl (rfl : ev _ _ = (Value.bool (decide (Co ≤ (gN L G)))))) ?_
                            refine qq (qv_as (Value.bool (decide (Co ≤ (gN L G)))) rfl) ?_
                            refine qops_nil ?_
                            refine vc_ret ?_
                            exact rq1 (Value.bool true) (congrArg Value.bool (decide_eq_true (show (Co ≤ (gN L G)) from by rw [gN_good (by omega)]; exact proves_bound hpo (by omega) (by omega) (by omega)))) rfl
              ·
                refine vc_skip ?_
                refine vc_seq ?_
                refine vc_seq ?_
                refine vc_region ?_
                refine oq (qv_mv (Value.int .i64 (chk L)) rfl) ?_
                refine oq (qv_eql rfl rfl) ?_
                refine ops_nil ?_
                refine vc_if_t rfl g3 ?_
                refine vc_region ?_
                refine oq (qv_mv l rfl) ?_
                refine oq (qv_fa (off := 0) Try.field39_0 rfl) ?_
                refine oq (qv_ldp (v := (Value.int .i64 K)) Try.plain3 rfl (inOc (k := 0) rfl) rfl) ?_
                refine oq (qv_mv t rfl) ?_
                refine oq (qv_fa (off := 0) Try.field39_1 rfl) ?_
                refine oq (qv_ldp (v := (Value.int .i64 Co)) Try.plain3 rfl (inOc (k := 0) rfl) rfl) ?_
                refine oq (qv_call (v := (Value.int .i64 (poE L K T Co))) (proved_c hl ht (by omega) (by omega)) rfl rfl) ?_
                refine oq (qv_as (Value.int .i64 (poE L K T Co)) rfl) ?_
                refine ops_nil ?_
                refine vc_seq ?_
                refine vc_seq ?_
                refine vc_region ?_
                refine oq (qv_mv (Value.int .i64 (poE L K T Co)) rfl) ?_
                refine oq (qv_mv (Value.int .i64 (poE L K T Co)) rfl) ?_
                refine oq (qv_neq rfl rfl) ?_
                refine ops_nil ?_
                refine vc_if rfl (fun c11 => ?_) (fun c11 => ?_)
                ·
                  exact absurd rfl c11
                ·
                  refine vc_skip ?_
                  refine vc_seq ?_
                  refine vc_seq ?_
                  refine vc_region ?_
                  refine oq (qv_mv (Value.int .i64 (poE L K T Co)) rfl) ?_
                  refine oq (qv_neq rfl rfl) ?_
                  refine ops_nil ?_
                  refine vc_if rfl (fun c12 => ?_) (fun c12 => ?_)
                  ·
                    refine vc_seq ?_
                    refine vc_region ?_
                    refine oq (qv_as (Value.bool true) rfl) ?_
                    refine ops_nil ?_
                    refine vc_ret ?_
                    exact rq1 (Value.bool true) rfl rfl
                  ·
                    refine vc_skip ?_
                    refine vc_seq ?_
                    have hpo : poE L K T Co = 0 := by omega
                    have hg := good_of_chk (poE_good hpo)
                    refine vc_region ?_
                    refine oq (qv_mv l rfl) ?_
                    refine oq (qv_fa (off := 0) Try.field39_2 rfl) ?_
                    refine oq (qv_ldp (v := s) Try.plain29 rfl (inOc (k := 0) rfl) rfl) ?_
                    refine oq (qv_call (v := (Value.tuple #[(Value.int .i64 (gN L G)), (Value.int .i64 (gE L G))])) (lcost_c hl hgg hg) rfl rfl) ?_
                    refine oq (qv_mv (Value.tuple #[(Value.int .i64 (gN L G)), (Value.int .i64 (gE L G))]) rfl) ?_
                    refine oq (qv_ext (Value.int .i64 (gN L G)) rfl rfl) ?_
                    refine oq (qv_ext (Value.int .i64 (gE L G)) rfl rfl) ?_
                    refine oq (qv_as (Value.int .i64 (gN L G)) rfl) ?_
                    refine oq (qv_as (Value.int .i64 (gE L G)) rfl) ?_
                    refine ops_nil ?_
                    refine vc_seq ?_
                    refine vc_region_any Try.mixed (by kernel_rfl) ?_
                    refine qq (qv_mv (Value.int .i64 (gE L G)) rfl) ?_
                    refine qq (qv_neq rfl rfl) ?_
                    refine qq (qv_mv (Value.bool (decide ((gE L G) ≠ 0))) rfl) ?_
                    by_cases g11 : (gE L G) ≠ 0
                    ·
                      refine qs (want_fn g11 rfl rfl rfl) ?_
                      refine qs (want_fn g11 rfl rfl rfl) ?_
                      refine qs (want_fn g11 rfl rfl rfl) ?_
                      refine qs (want_fn g11 rfl rfl rfl) ?_
                      refine qq (qv_pick_t g11 rfl (rfl : ev _ _ = (Value.bool true))) ?_
                      refine qq (qv_mv (Value.bool true) rfl) ?_
                      refine qs (want_fnc rfl rfl rfl) ?_
                      refine qs (want_fnc rfl rfl rfl) ?_
                      refine qs (want_fnc rfl rfl rfl) ?_
                      refine qs (want_fnc rfl rfl rfl) ?_
                      refine qs (want_fnc rfl rfl rfl) ?_
                      refine qs (want_fnc rfl rfl rfl) ?_
                      refine qq (qv_pick_tc rfl (rfl : ev _ _ = (Value.bool true))) ?_
                      refine qq (qv_mv (Value.bool true) rfl) ?_
                      refine qs (want_fnc rfl rfl rfl) ?_
                      refine qs (want_fnc rfl rfl rfl) ?_
                      refine qs (want_fnc rfl rfl rfl) ?_
                      refine qs (want_fnc rfl rfl rfl) ?_
                      refine qq (qv_pick_tc rfl (rfl : ev _ _ = (Value.bool true))) ?_
                      refine qq (qv_as (Value.bool true) rfl) ?_
                      refine qops_nil ?_
                      refine vc_ret ?_
                      exact rq1 (Value.bool true) rfl rfl
                    ·
                      refine qg (qv_fa (off := 0) Try.field39_2 rfl) (want_f g11 rfl rfl rfl) ?_
                      refine qg (qv_ldp (v := s) Try.plain29 rfl (inOc (k := 0) rfl) rfl) (want_f g11 rfl rfl rfl) ?_
                      refine qg (qv_call (v := (Value.bool (decide (runsN G G.length = kindsN G G.length)))) (lintervals_c hgg) rfl rfl) (want_f g11 rfl rfl rfl) ?_
                      refine qg (qv_not rfl) (want_f g11 rfl rfl rfl) ?_
                      refine qq (qv_pick_f g11 rfl (rfl : ev _ _ = (Value.bool (decide (¬ (runsN G G.length = kindsN G G.length)))))) ?_
                      refine qq (qv_mv (Value.bool (decide (¬ (runsN G G.length = kindsN G G.length)))) rfl) ?_
                      by_cases g12 : ¬ (runsN G G.length = kindsN G G.length)
                      ·
                        refine qs (want_fn g12 rfl rfl rfl) ?_
                        refine qs (want_fn g12 rfl rfl rfl) ?_
                        refine qs (want_fn g12 rfl rfl rfl) ?_
                        refine qs (want_fn g12 rfl rfl rfl) ?_
                        refine qs (want_fn g12 rfl rfl rfl) ?_
                        refine qs (want_fn g12 rfl rfl rfl) ?_
                        refine qq (qv_pick_t g12 rfl (rfl : ev _ _ = (Value.bool true))) ?_
                        refine qq (qv_mv (Value.bool true) rfl) ?_
                        refine qs (want_fnc rfl rfl rfl) ?_
                        refine qs (want_fnc rfl rfl rfl) ?_
                        refine qs (want_fnc rfl rfl rfl) ?_
                        refine qs (want_fnc rfl rfl rfl) ?_
                        refine qq (qv_pick_tc rfl (rfl : ev _ _ = (Value.bool true))) ?_
                        refine qq (qv_as (Value.bool true) rfl) ?_
                        refine qops_nil ?_
                        refine vc_ret ?_
                        exact rq1 (Value.bool true) rfl rfl
                      ·
                        refine qg (qv_fa (off := 0) Try.field39_2 rfl) (want_f g12 rfl rfl rfl) ?_
                        refine qg (qv_ldp (v := s) Try.plain29 rfl (inOc (k := 0) rfl) rfl) (want_f g12 rfl rfl rfl) ?_
                        refine qg (qv_call (v := (Value.int .i64 (kindsN G G.length))) (kinds_c hgg) rfl rfl) (want_f g12 rfl rfl rfl) ?_
                        refine qg (qv_fa (off := 0) Try.field39_0 rfl) (want_f g12 rfl rfl rfl) ?_
                        refine qg (qv_ldp (v := (Value.int .i64 K)) Try.plain3 rfl (inOc (k := 0) rfl) rfl) (want_f g12 rfl rfl rfl) ?_
                        refine qg (qv_gtr rfl rfl) (want_f g12 rfl rfl rfl) ?_
                        refine qq (qv_pick_f g12 rfl (rfl : ev _ _ = (Value.bool (decide (K < (kindsN G G.length)))))) ?_
                        refine qq (qv_mv (Value.bool (decide (K < (kindsN G G.length)))) rfl) ?_
                        by_cases g13 : K < (kindsN G G.length)
                        ·
                          refine qs (want_fn g13 rfl rfl rfl) ?_
                          refine qs (want_fn g13 rfl rfl rfl) ?_
                          refine qs (want_fn g13 rfl rfl rfl) ?_
                          refine qs (want_fn g13 rfl rfl rfl) ?_
                          refine qq (qv_pick_t g13 rfl (rfl : ev _ _ = (Value.bool true))) ?_
                          refine qq (qv_as (Value.bool true) rfl) ?_
                          refine qops_nil ?_
                          refine vc_ret ?_
                          exact rq1 (Value.bool true) rfl rfl
                        ·
                          refine qg (qv_mv (Value.int .i64 (gN L G)) rfl) (want_f g13 rfl rfl rfl) ?_
                          refine qg (qv_fa (off := 0) Try.field39_1 rfl) (want_f g13 rfl rfl rfl) ?_
                          refine qg (qv_ldp (v := (Value.int .i64 Co)) Try.plain3 rfl (inOc (k := 0) rfl) rfl) (want_f g13 rfl rfl rfl) ?_
                          refine qg (qv_geq rfl rfl) (want_f g13 rfl rfl rfl) ?_
                          refine qq (qv_pick_f g13 rfl (rfl : ev _ _ = (Value.bool (decide (Co ≤ (gN L G)))))) ?_
                          refine qq (qv_as (Value.bool (decide (Co ≤ (gN L G)))) rfl) ?_
                          refine qops_nil ?_
                          refine vc_ret ?_
                          exact rq1 (Value.bool true) (congrArg Value.bool (decide_eq_true (show (Co ≤ (gN L G)) from by rw [gN_good (by omega)]; exact proves_bound hpo (by omega) (by omega) (by omega)))) rfl
          ·
            refine os (want_tn g3 rfl rfl rfl) ?_
            refine os (want_tn g3 rfl rfl rfl) ?_
            refine os (want_tn g3 rfl rfl rfl) ?_
            refine os (want_tn g3 rfl rfl rfl) ?_
            refine os (want_u rfl rfl rfl) ?_
            refine os (want_u rfl rfl rfl) ?_
            refine os (want_u rfl rfl rfl) ?_
            refine os (want_tn g3 rfl rfl rfl) ?_
            refine oq (qv_pick_f g3 rfl (rfl : ev _ _ = (Value.bool false))) ?_
            refine ops_nil ?_
            refine vc_ff rfl ?_
            refine vc_skip ?_
            refine vc_seq ?_
            refine vc_seq ?_
            refine vc_region ?_
            refine oq (qv_mv (Value.int .i64 (chk L)) rfl) ?_
            refine oq (qv_eql rfl rfl) ?_
            refine ops_nil ?_
            refine vc_if_f rfl g3 ?_
            refine vc_skip ?_
            refine vc_seq ?_
            refine vc_seq ?_
            refine vc_region ?_
            refine oq (qv_mv (Value.int .i64 (poE L K T Co)) rfl) ?_
            refine oq (qv_mv (Value.int .i64 (chk L)) rfl) ?_
            refine oq (qv_neq rfl rfl) ?_
            refine ops_nil ?_
            refine vc_if rfl (fun c13 => ?_) (fun c13 => ?_)
            ·
              exact absurd (poE_chk (by omega)) c13
            ·
              refine vc_skip ?_
              refine vc_seq ?_
              refine vc_seq ?_
              refine vc_region ?_
              refine oq (qv_mv (Value.int .i64 (poE L K T Co)) rfl) ?_
              refine oq (qv_neq rfl rfl) ?_
              refine ops_nil ?_
              refine vc_if rfl (fun c14 => ?_) (fun c14 => ?_)
              ·
                refine vc_seq ?_
                refine vc_region ?_
                refine oq (qv_as (Value.bool true) rfl) ?_
                refine ops_nil ?_
                refine vc_ret ?_
                exact rq1 (Value.bool true) rfl rfl
              ·
                refine vc_skip ?_
                refine vc_seq ?_
                have hpo : poE L K T Co = 0 := by omega
                have hg := good_of_chk (poE_good hpo)
                refine vc_region ?_
                refine oq (qv_mv l rfl) ?_
                refine oq (qv_fa (off := 0) Try.field39_2 rfl) ?_
                refine oq (qv_ldp (v := s) Try.plain29 rfl (inOc (k := 0) rfl) rfl) ?_
                refine oq (qv_call (v := (Value.tuple #[(Value.int .i64 (gN L G)), (Value.int .i64 (gE L G))])) (lcost_c hl hgg hg) rfl rfl) ?_
                refine oq (qv_mv (Value.tuple #[(Value.int .i64 (gN L G)), (Value.int .i64 (gE L G))]) rfl) ?_
                refine oq (qv_ext (Value.int .i64 (gN L G)) rfl rfl) ?_
                refine oq (qv_ext (Value.int .i64 (gE L G)) rfl rfl) ?_
                refine oq (qv_as (Value.int .i64 (gN L G)) rfl) ?_
                refine oq (qv_as (Value.int .i64 (gE L G)) rfl) ?_
                refine ops_nil ?_
                refine vc_seq ?_
                refine vc_region_any Try.mixed (by kernel_rfl) ?_
                refine qq (qv_mv (Value.int .i64 (gE L G)) rfl) ?_
                refine qq (qv_neq rfl rfl) ?_
                refine qq (qv_mv (Value.bool (decide ((gE L G) ≠ 0))) rfl) ?_
                by_cases g14 : (gE L G) ≠ 0
                ·
                  refine qs (want_fn g14 rfl rfl rfl) ?_
                  refine qs (want_fn g14 rfl rfl rfl) ?_
                  refine qs (want_fn g14 rfl rfl rfl) ?_
                  refine qs (want_fn g14 rfl rfl rfl) ?_
                  refine qq (qv_pick_t g14 rfl (rfl : ev _ _ = (Value.bool true))) ?_
                  refine qq (qv_mv (Value.bool true) rfl) ?_
                  refine qs (want_fnc rfl rfl rfl) ?_
                  refine qs (want_fnc rfl rfl rfl) ?_
                  refine qs (want_fnc rfl rfl rfl) ?_
                  refine qs (want_fnc rfl rfl rfl) ?_
                  refine qs (want_fnc rfl rfl rfl) ?_
                  refine qs (want_fnc rfl rfl rfl) ?_
                  refine qq (qv_pick_tc rfl (rfl : ev _ _ = (Value.bool true))) ?_
                  refine qq (qv_mv (Value.bool true) rfl) ?_
                  refine qs (want_fnc rfl rfl rfl) ?_
                  refine qs (want_fnc rfl rfl rfl) ?_
                  refine qs (want_fnc rfl rfl rfl) ?_
                  refine qs (want_fnc rfl rfl rfl) ?_
                  refine qq (qv_pick_tc rfl (rfl : ev _ _ = (Value.bool true))) ?_
                  refine qq (qv_as (Value.bool true) rfl) ?_
                  refine qops_nil ?_
                  refine vc_ret ?_
                  exact rq1 (Value.bool true) rfl rfl
                ·
                  refine qg (qv_fa (off := 0) Try.field39_2 rfl) (want_f g14 rfl rfl rfl) ?_
                  refine qg (qv_ldp (v := s) Try.plain29 rfl (inOc (k := 0) rfl) rfl) (want_f g14 rfl rfl rfl) ?_
                  refine qg (qv_call (v := (Value.bool (decide (runsN G G.length = kindsN G G.length)))) (lintervals_c hgg) rfl rfl) (want_f g14 rfl rfl rfl) ?_
                  refine qg (qv_not rfl) (want_f g14 rfl rfl rfl) ?_
                  refine qq (qv_pick_f g14 rfl (rfl : ev _ _ = (Value.bool (decide (¬ (runsN G G.length = kindsN G G.length)))))) ?_
                  refine qq (qv_mv (Value.bool (decide (¬ (runsN G G.length = kindsN G G.length)))) rfl) ?_
                  by_cases g15 : ¬ (runsN G G.length = kindsN G G.length)
                  ·
                    refine qs (want_fn g15 rfl rfl rfl) ?_
                    refine qs (want_fn g15 rfl rfl rfl) ?_
                    refine qs (want_fn g15 rfl rfl rfl) ?_
                    refine qs (want_fn g15 rfl rfl rfl) ?_
                    refine qs (want_fn g15 rfl rfl rfl) ?_
                    refine qs (want_fn g15 rfl rfl rfl) ?_
                    refine qq (qv_pick_t g15 rfl (rfl : ev _ _ = (Value.bool true))) ?_
                    refine qq (qv_mv (Value.bool true) rfl) ?_
                    refine qs (want_fnc rfl rfl rfl) ?_
                    refine qs (want_fnc rfl rfl rfl) ?_
                    refine qs (want_fnc rfl rfl rfl) ?_
                    refine qs (want_fnc rfl rfl rfl) ?_
                    refine qq (qv_pick_tc rfl (rfl : ev _ _ = (Value.bool true))) ?_
                    refine qq (qv_as (Value.bool true) rfl) ?_
                    refine qops_nil ?_
                    refine vc_ret ?_
                    exact rq1 (Value.bool true) rfl rfl
                  ·
                    refine qg (qv_fa (off := 0) Try.field39_2 rfl) (want_f g15 rfl rfl rfl) ?_
                    refine qg (qv_ldp (v := s) Try.plain29 rfl (inOc (k := 0) rfl) rfl) (want_f g15 rfl rfl rfl) ?_
                    refine qg (qv_call (v := (Value.int .i64 (kindsN G G.length))) (kinds_c hgg) rfl rfl) (want_f g15 rfl rfl rfl) ?_
                    refine qg (qv_fa (off := 0) Try.field39_0 rfl) (want_f g15 rfl rfl rfl) ?_
                    refine qg (qv_ldp (v := (Value.int .i64 K)) Try.plain3 rfl (inOc (k := 0) rfl) rfl) (want_f g15 rfl rfl rfl) ?_
                    refine qg (qv_gtr rfl rfl) (want_f g15 rfl rfl rfl) ?_
                    refine qq (qv_pick_f g15 rfl (rfl : ev _ _ = (Value.bool (decide (K < (kindsN G G.length)))))) ?_
                    refine qq (qv_mv (Value.bool (decide (K < (kindsN G G.length)))) rfl) ?_
                    by_cases g16 : K < (kindsN G G.length)
                    ·
                      refine qs (want_fn g16 rfl rfl rfl) ?_
                      refine qs (want_fn g16 rfl rfl rfl) ?_
                      refine qs (want_fn g16 rfl rfl rfl) ?_
                      refine qs (want_fn g16 rfl rfl rfl) ?_
                      refine qq (qv_pick_t g16 rfl (rfl : ev _ _ = (Value.bool true))) ?_
                      refine qq (qv_as (Value.bool true) rfl) ?_
                      refine qops_nil ?_
                      refine vc_ret ?_
                      exact rq1 (Value.bool true) rfl rfl
                    ·
                      refine qg (qv_mv (Value.int .i64 (gN L G)) rfl) (want_f g16 rfl rfl rfl) ?_
                      refine qg (qv_fa (off := 0) Try.field39_1 rfl) (want_f g16 rfl rfl rfl) ?_
                      refine qg (qv_ldp (v := (Value.int .i64 Co)) Try.plain3 rfl (inOc (k := 0) rfl) rfl) (want_f g16 rfl rfl rfl) ?_
                      refine qg (qv_geq rfl rfl) (want_f g16 rfl rfl rfl) ?_
                      refine qq (qv_pick_f g16 rfl (rfl : ev _ _ = (Value.bool (decide (Co ≤ (gN L G)))))) ?_
                      refine qq (qv_as (Value.bool (decide (Co ≤ (gN L G)))) rfl) ?_
                      refine qops_nil ?_
                      refine vc_ret ?_
                      exact rq1 (Value.bool true) (congrArg Value.bool (decide_eq_true (show (Co ≤ (gN L G)) from by rw [gN_good (by omega)]; exact proves_bound hpo (by omega) (by omega) (by omega)))) rfl

end Go.Proofs.Ytmkbjhligjnagaa
