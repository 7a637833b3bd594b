/- Walks of merge: what each function returns. Printed by a program out of notes. -/
import Derived.Test.YtmkbjhligjnagaaMiD
namespace Go.Proofs.Ytmkbjhligjnagaa
open Go Go.Vc
open Classical
set_option maxRecDepth 100000
set_option maxRecDepth 100000 in
set_option maxHeartbeats 4000000 in
theorem MergeAnyProofs_c {V : HV} {l : Value} {rv : List Value} {L : List (List Int)} {tv : Value} {T : List Be} {K Co : Int} {s : Value} {G : List Int} (hgg : Ints .i64 V s G) (hl : Mat .i64 V l rv L) (ht : Bes V tv T) :
    FnC Try.prog 7 [l, tv, (.agg #[(Value.int .i64 K), (Value.int .i64 Co), s])] V [] (fun v _ _ => v = (Value.bool true)) := by
 refine fn_intro (N := 85) Try.func7 (by kernel_rfl) rfl rfl rfl (Nat.le_of_ble_eq_true rfl) ?_
 intro w0 D
 have hlen := hl.len
 have hbd := SlS.bound ht
 refine vc_seq ?_
 refine vc_region ?_
 refine ops_box (v := (.agg #[(Value.int .i64 K), (Value.int .i64 Co), s])) (cs := [(Value.int .i64 K), (Value.int .i64 Co), s]) rfl rfl (fun b1 => ?_)
 refine oq (qv_as (Value.bool false) rfl) ?_
 refine ops_nil ?_
 refine vc_seq ?_
 refine vc_seq ?_
 refine vc_res (σ' := [(Arr 39 b1 [(Value.int .i64 K), (Value.int .i64 Co), s])]) rfl ?_
 refine vc_region ?_
 refine oq (qv_call (v := (Value.bool true)) (known_c) rfl rfl) ?_
 refine oq (qv_notc rfl) ?_
 refine ops_nil ?_
 refine vc_ff rfl ?_
 refine vc_skip ?_
 refine vc_seq ?_
 refine vc_seq ?_
 refine vc_region ?_
 refine oq (qv_mv l rfl) ?_
 refine oq (qv_call (v := (.bool (decide (Few L 6)))) (few_c hl) rfl rfl) ?_
 refine oq (qv_not rfl) ?_
 refine oq (qv_mv (.bool (decide (¬ (Few L 6)))) rfl) ?_
 by_cases g1 : ¬ (Few L 6)
 ·
  refine os (want_fn g1 rfl rfl rfl) ?_
  refine os (want_fn g1 rfl rfl rfl) ?_
  refine os (want_fn g1 rfl rfl rfl) ?_
  refine oq (qv_pick_t g1 rfl (rfl : ev _ _ = (Value.bool true))) ?_
  refine oq (qv_mv (Value.bool true) rfl) ?_
  refine os (want_fnc rfl rfl rfl) ?_
  refine os (want_fnc rfl rfl rfl) ?_
  refine os (want_fnc rfl rfl rfl) ?_
  refine os (want_fnc rfl rfl rfl) ?_
  refine oq (qv_pick_tc rfl (rfl : ev _ _ = (Value.bool true))) ?_
  refine ops_nil ?_
  refine vc_tt rfl ?_
  refine vc_seq ?_
  refine vc_region ?_
  refine oq (qv_as (Value.bool true) rfl) ?_
  refine ops_nil ?_
  refine vc_ret ?_
  exact rq1 (Value.bool true) rfl rfl
 ·
  refine og (qv_mv tv rfl) (want_f g1 rfl rfl rfl) ?_
  refine og (qv_lenSS Try.underlying46 rfl ht) (want_f g1 rfl rfl rfl) ?_
  refine og (qv_gtr rfl rfl) (want_f g1 rfl rfl rfl) ?_
  refine oq (qv_pick_f g1 rfl (rfl : ev _ _ = (.bool (decide (100 < ((T.length : Int))))))) ?_
  refine oq (qv_mv (.bool (decide (100 < ((T.length : Int))))) rfl) ?_
  by_cases g2 : 100 < ((T.length : Int))
  ·
   refine os (want_fn g2 rfl rfl rfl) ?_
   refine os (want_fn g2 rfl rfl rfl) ?_
   refine os (want_fn g2 rfl rfl rfl) ?_
   refine os (want_fn g2 rfl rfl rfl) ?_
   refine oq (qv_pick_t g2 rfl (rfl : ev _ _ = (Value.bool true))) ?_
   refine ops_nil ?_
   refine vc_tt rfl ?_
   refine vc_seq ?_
   refine vc_region ?_
   refine oq (qv_as (Value.bool true) rfl) ?_
   refine ops_nil ?_
   refine vc_ret ?_
   exact rq1 (Value.bool true) rfl rfl
  ·
   refine og (qv_fa (off := 0) Try.field39_2 rfl) (want_f g2 rfl rfl rfl) ?_
   refine og (qv_ldp (v := s) Try.plain29 rfl (inOc (k := 0) rfl) rfl) (want_f g2 rfl rfl rfl) ?_
   refine og (qv_lenI Try.underlying29 rfl hgg) (want_f g2 rfl rfl rfl) ?_
   refine og (qv_gtr rfl rfl) (want_f g2 rfl rfl rfl) ?_
   refine oq (qv_pick_f g2 rfl (rfl : ev _ _ = (.bool (decide (20 < ((G.length : Int))))))) ?_
   refine ops_nil ?_
   refine vc_if rfl (fun c1 => ?_) (fun c1 => ?_)
   ·
    refine vc_seq ?_
    refine vc_region ?_
    refine oq (qv_as (Value.bool true) rfl) ?_
    refine ops_nil ?_
    refine vc_ret ?_
    exact rq1 (Value.bool true) rfl rfl
   ·
    refine vc_skip ?_
    refine vc_seq ?_
    have h6 : L.length ≤ 6 := by
      have q : Few L 6 := by first | assumption | exact Decidable.not_not.1 (by assumption)
      have := q.1
      omega
    refine vc_region ?_
    refine oq (qv_mv l rfl) ?_
    refine oq (qv_fa (off := 0) Try.field39_0 rfl) ?_
    refine oq (qv_ldp (v := (Value.int .i64 K)) Try.plain3 rfl (inOc (k := 0) rfl) rfl) ?_
    refine oq (qv_mv tv rfl) ?_
    refine oq (qv_fa (off := 0) Try.field39_1 rfl) ?_
    refine oq (qv_ldp (v := (Value.int .i64 Co)) Try.plain3 rfl (inOc (k := 0) rfl) rfl) ?_
    refine oq (qv_call (v := (.int .i64 (paE L K T Co))) (ProveAny_c hl ht h6) rfl rfl) ?_
    refine oq (qv_as (.int .i64 (paE L K T Co)) rfl) ?_
    refine ops_nil ?_
    refine vc_seq ?_
    refine vc_region ?_
    refine oq (qv_mv l rfl) ?_
    refine oq (qv_call (v := (.int .i64 (chk L))) (check_c hl) rfl rfl) ?_
    refine oq (qv_as (.int .i64 (chk L)) rfl) ?_
    refine ops_nil ?_
    refine vc_seq ?_
    refine vc_seq ?_
    refine vc_region ?_
    refine oq (qv_mv (.int .i64 (chk L)) rfl) ?_
    refine oq (qv_eql rfl rfl) ?_
    refine oq (qv_mv (.bool (decide ((chk L) = 0))) rfl) ?_
    by_cases g3 : (chk L) = 0
    ·
     refine og (qv_fa (off := 0) Try.field39_0 rfl) (want_t g3 rfl rfl rfl) ?_
     refine og (qv_ldp (v := (Value.int .i64 K)) Try.plain3 rfl (inOc (k := 0) rfl) rfl) (want_t g3 rfl rfl rfl) ?_
     refine og (qv_lss rfl rfl) (want_t g3 rfl rfl rfl) ?_
     refine og (qv_mv (.bool (decide (K < 1))) rfl) (want_t g3 rfl rfl rfl) ?_
     by_cases g4 : K < 1
     ·
      refine os (want_fn g4 rfl rfl rfl) ?_
      refine os (want_fn g4 rfl rfl rfl) ?_
      refine os (want_fn g4 rfl rfl rfl) ?_
      refine og (qv_pick_t g4 rfl (rfl : ev _ _ = (Value.bool true))) (want_t g3 rfl rfl rfl) ?_
      refine oq (qv_pick_t g3 rfl (rfl : ev _ _ = (Value.bool true))) ?_
      refine ops_nil ?_
      refine vc_tt rfl ?_
      refine vc_region ?_
      refine oq (qv_as (Value.int .i64 3) rfl) ?_
      refine ops_nil ?_
      refine vc_seq ?_
      refine vc_seq ?_
      refine vc_region ?_
      refine oq (qv_mv (Value.int .i64 3) rfl) ?_
      refine oq (qv_eql rfl rfl) ?_
      refine ops_nil ?_
      refine vc_if rfl (fun c2 => ?_) (fun c2 => ?_)
      ·
       omega
      ·
       refine vc_skip ?_
       refine vc_seq ?_
       refine vc_seq ?_
       refine vc_region ?_
       refine oq (qv_mv (.int .i64 (paE L K T Co)) rfl) ?_
       refine oq (qv_mv (Value.int .i64 3) rfl) ?_
       refine oq (qv_neq rfl rfl) ?_
       refine ops_nil ?_
       refine vc_if rfl (fun c3 => ?_) (fun c3 => ?_)
       ·
        exact absurd (pa_3 (by omega) (by omega)) c3
       ·
        refine vc_skip ?_
        refine vc_seq ?_
        refine vc_seq ?_
        refine vc_region ?_
        refine oq (qv_mv (.int .i64 (paE L K T Co)) rfl) ?_
        refine oq (qv_neq rfl rfl) ?_
        refine ops_nil ?_
        refine vc_if rfl (fun c4 => ?_) (fun c4 => ?_)
        ·
         refine vc_seq ?_
         refine vc_region ?_
         refine oq (qv_as (Value.bool true) rfl) ?_
         refine ops_nil ?_
         refine vc_ret ?_
         exact rq1 (Value.bool true) rfl rfl
        ·
         refine vc_skip ?_
         refine vc_seq ?_
         have hpo : paE L K T Co = 0 := by omega
         have hg := good_of_chk (pa_ok hpo).1
         refine vc_region ?_
         refine oq (qv_mv l rfl) ?_
         refine oq (qv_fa (off := 0) Try.field39_2 rfl) ?_
         refine oq (qv_ldp (v := s) Try.plain29 rfl (inOc (k := 0) rfl) rfl) ?_
         refine oq (qv_call (v := (.tuple #[(.int .i64 (gN L G)), (.int .i64 (gE L G))])) (lcost_c hl hgg hg) rfl rfl) ?_
         refine oq (qv_mv (.tuple #[(.int .i64 (gN L G)), (.int .i64 (gE L G))]) rfl) ?_
         refine oq (qv_ext (.int .i64 (gN L G)) rfl rfl) ?_
         refine oq (qv_ext (.int .i64 (gE L G)) rfl rfl) ?_
         refine oq (qv_as (.int .i64 (gN L G)) rfl) ?_
         refine oq (qv_as (.int .i64 (gE L G)) rfl) ?_
         refine ops_nil ?_
         refine vc_seq ?_
         refine vc_region_any Try.mixed (by kernel_rfl) ?_
         refine qq (qv_mv (.int .i64 (gE L G)) rfl) ?_
         refine qq (qv_neq rfl rfl) ?_
         refine qq (qv_mv (.bool (decide ((gE L G) ≠ 0))) rfl) ?_
         by_cases g5 : (gE L G) ≠ 0
         ·
          refine qs (want_fn g5 rfl rfl rfl) ?_
          refine qs (want_fn g5 rfl rfl rfl) ?_
          refine qs (want_fn g5 rfl rfl rfl) ?_
          refine qs (want_fn g5 rfl rfl rfl) ?_
          refine qs (want_fn g5 rfl rfl rfl) ?_
          refine qs (want_fn g5 rfl rfl rfl) ?_
          refine qq (qv_pick_t g5 rfl (rfl : ev _ _ = (Value.bool true))) ?_
          refine qq (qv_mv (Value.bool true) rfl) ?_
          refine qs (want_fnc rfl rfl rfl) ?_
          refine qs (want_fnc rfl rfl rfl) ?_
          refine qs (want_fnc rfl rfl rfl) ?_
          refine qs (want_fnc rfl rfl rfl) ?_
          refine qq (qv_pick_tc rfl (rfl : ev _ _ = (Value.bool true))) ?_
          refine qq (qv_as (Value.bool true) rfl) ?_
          refine qops_nil ?_
          refine vc_ret ?_
          exact rq1 (Value.bool true) rfl rfl
         ·
          refine qg (qv_fa (off := 0) Try.field39_2 rfl) (want_f g5 rfl rfl rfl) ?_
          refine qg (qv_ldp (v := s) Try.plain29 rfl (inOc (k := 0) rfl) rfl) (want_f g5 rfl rfl rfl) ?_
          refine qg (qv_call (v := (.int .i64 (kindsN G G.length))) (kinds_c hgg) rfl rfl) (want_f g5 rfl rfl rfl) ?_
          refine qg (qv_fa (off := 0) Try.field39_0 rfl) (want_f g5 rfl rfl rfl) ?_
          refine qg (qv_ldp (v := (Value.int .i64 K)) Try.plain3 rfl (inOc (k := 0) rfl) rfl) (want_f g5 rfl rfl rfl) ?_
          refine qg (qv_gtr rfl rfl) (want_f g5 rfl rfl rfl) ?_
          refine qq (qv_pick_f g5 rfl (rfl : ev _ _ = (.bool (decide (K < (kindsN G G.length)))))) ?_
          refine qq (qv_mv (.bool (decide (K < (kindsN G G.length)))) rfl) ?_
          by_cases g6 : K < (kindsN G G.length)
          ·
           refine qs (want_fn g6 rfl rfl rfl) ?_
           refine qs (want_fn g6 rfl rfl rfl) ?_
           refine qs (want_fn g6 rfl rfl rfl) ?_
           refine qs (want_fn g6 rfl rfl rfl) ?_
           refine qq (qv_pick_t g6 rfl (rfl : ev _ _ = (Value.bool true))) ?_
           refine qq (qv_as (Value.bool true) rfl) ?_
           refine qops_nil ?_
           refine vc_ret ?_
           exact rq1 (Value.bool true) rfl rfl
          ·
           refine qg (qv_mv (.int .i64 (gN L G)) rfl) (want_f g6 rfl rfl rfl) ?_
           refine qg (qv_fa (off := 0) Try.field39_1 rfl) (want_f g6 rfl rfl rfl) ?_
           refine qg (qv_ldp (v := (Value.int .i64 Co)) Try.plain3 rfl (inOc (k := 0) rfl) rfl) (want_f g6 rfl rfl rfl) ?_
           refine qg (qv_geq rfl rfl) (want_f g6 rfl rfl rfl) ?_
           refine qq (qv_pick_f g6 rfl (rfl : ev _ _ = (.bool (decide (Co ≤ (gN L G)))))) ?_
           refine qq (qv_as (.bool (decide (Co ≤ (gN L G)))) rfl) ?_
           refine qops_nil ?_
           refine vc_ret ?_
           exact rq1 (Value.bool true) (congrArg Value.bool (decide_eq_true (show (Co ≤ (gN L G)) from by rw [gN_good (by omega)]; exact pa_bound hg h6 hpo (by omega) (by omega)))) rfl
     ·
      refine og (qv_fa (off := 0) Try.field39_0 rfl) (want_f g4 rfl rfl rfl) ?_
      refine og (qv_ldp (v := (Value.int .i64 K)) Try.plain3 rfl (inOc (k := 0) rfl) rfl) (want_f g4 rfl rfl rfl) ?_
      refine og (qv_gtr rfl rfl) (want_f g4 rfl rfl rfl) ?_
      refine og (qv_pick_f g4 rfl (rfl : ev _ _ = (.bool (decide (32 < K))))) (want_t g3 rfl rfl rfl) ?_
      refine oq (qv_pick_t g3 rfl (rfl : ev _ _ = (.bool (decide (32 < K))))) ?_
      refine ops_nil ?_
      refine vc_if rfl (fun c5 => ?_) (fun c5 => ?_)
      ·
       refine vc_region ?_
       refine oq (qv_as (Value.int .i64 3) rfl) ?_
       refine ops_nil ?_
       refine vc_seq ?_
       refine vc_seq ?_
       refine vc_region ?_
       refine oq (qv_mv (Value.int .i64 3) rfl) ?_
       refine oq (qv_eql rfl rfl) ?_
       refine ops_nil ?_
       refine vc_if rfl (fun c6 => ?_) (fun c6 => ?_)
       ·
        omega
       ·
        refine vc_skip ?_
        refine vc_seq ?_
        refine vc_seq ?_
        refine vc_region ?_
        refine oq (qv_mv (.int .i64 (paE L K T Co)) rfl) ?_
        refine oq (qv_mv (Value.int .i64 3) rfl) ?_
        refine oq (qv_neq rfl rfl) ?_
        refine ops_nil ?_
        refine vc_if rfl (fun c7 => ?_) (fun c7 => ?_)
        ·
         exact absurd (pa_3 (by omega) (by omega)) c7
        ·
         refine vc_skip ?_
         refine vc_seq ?_
         refine vc_seq ?_
         refine vc_region ?_
         refine oq (qv_mv (.int .i64 (paE L K T Co)) rfl) ?_
         refine oq (qv_neq rfl rfl) ?_
         refine ops_nil ?_
         refine vc_if rfl (fun c8 => ?_) (fun c8 => ?_)
         ·
          refine vc_seq ?_
          refine vc_region ?_
          refine oq (qv_as (Value.bool true) rfl) ?_
          refine ops_nil ?_
          refine vc_ret ?_
          exact rq1 (Value.bool true) rfl rfl
         ·
          refine vc_skip ?_
          refine vc_seq ?_
          have hpo : paE L K T Co = 0 := by omega
          have hg := good_of_chk (pa_ok hpo).1
          refine vc_region ?_
          refine oq (qv_mv l rfl) ?_
          refine oq (qv_fa (off := 0) Try.field39_2 rfl) ?_
          refine oq (qv_ldp (v := s) Try.plain29 rfl (inOc (k := 0) rfl) rfl) ?_
          refine oq (qv_call (v := (.tuple #[(.int .i64 (gN L G)), (.int .i64 (gE L G))])) (lcost_c hl hgg hg) rfl rfl) ?_
          refine oq (qv_mv (.tuple #[(.int .i64 (gN L G)), (.int .i64 (gE L G))]) rfl) ?_
          refine oq (qv_ext (.int .i64 (gN L G)) rfl rfl) ?_
          refine oq (qv_ext (.int .i64 (gE L G)) rfl rfl) ?_
          refine oq (qv_as (.int .i64 (gN L G)) rfl) ?_
          refine oq (qv_as (.int .i64 (gE L G)) rfl) ?_
          refine ops_nil ?_
          refine vc_seq ?_
          refine vc_region_any Try.mixed (by kernel_rfl) ?_
          refine qq (qv_mv (.int .i64 (gE L G)) rfl) ?_
          refine qq (qv_neq rfl rfl) ?_
          refine qq (qv_mv (.bool (decide ((gE L G) ≠ 0))) rfl) ?_
          by_cases g7 : (gE L G) ≠ 0
          ·
           refine qs (want_fn g7 rfl rfl rfl) ?_
           refine qs (want_fn g7 rfl rfl rfl) ?_
           refine qs (want_fn g7 rfl rfl rfl) ?_
           refine qs (want_fn g7 rfl rfl rfl) ?_
           refine qs (want_fn g7 rfl rfl rfl) ?_
           refine qs (want_fn g7 rfl rfl rfl) ?_
           refine qq (qv_pick_t g7 rfl (rfl : ev _ _ = (Value.bool true))) ?_
           refine qq (qv_mv (Value.bool true) rfl) ?_
           refine qs (want_fnc rfl rfl rfl) ?_
           refine qs (want_fnc rfl rfl rfl) ?_
           refine qs (want_fnc rfl rfl rfl) ?_
           refine qs (want_fnc rfl rfl rfl) ?_
           refine qq (qv_pick_tc rfl (rfl : ev _ _ = (Value.bool true))) ?_
           refine qq (qv_as (Value.bool true) rfl) ?_
           refine qops_nil ?_
           refine vc_ret ?_
           exact rq1 (Value.bool true) rfl rfl
          ·
           refine qg (qv_fa (off := 0) Try.field39_2 rfl) (want_f g7 rfl rfl rfl) ?_
           refine qg (qv_ldp (v := s) Try.plain29 rfl (inOc (k := 0) rfl) rfl) (want_f g7 rfl rfl rfl) ?_
           refine qg (qv_call (v := (.int .i64 (kindsN G G.length))) (kinds_c hgg) rfl rfl) (want_f g7 rfl rfl rfl) ?_
           refine qg (qv_fa (off := 0) Try.field39_0 rfl) (want_f g7 rfl rfl rfl) ?_
           refine qg (qv_ldp (v := (Value.int .i64 K)) Try.plain3 rfl (inOc (k := 0) rfl) rfl) (want_f g7 rfl rfl rfl) ?_
           refine qg (qv_gtr rfl rfl) (want_f g7 rfl rfl rfl) ?_
           refine qq (qv_pick_f g7 rfl (rfl : ev _ _ = (.bool (decide (K < (kindsN G G.length)))))) ?_
           refine qq (qv_mv (.bool (decide (K < (kindsN G G.length)))) rfl) ?_
           by_cases g8 : K < (kindsN G G.length)
           ·
            refine qs (want_fn g8 rfl rfl rfl) ?_
            refine qs (want_fn g8 rfl rfl rfl) ?_
            refine qs (want_fn g8 rfl rfl rfl) ?_
            refine qs (want_fn g8 rfl rfl rfl) ?_
            refine qq (qv_pick_t g8 rfl (rfl : ev _ _ = (Value.bool true))) ?_
            refine qq (qv_as (Value.bool true) rfl) ?_
            refine qops_nil ?_
            refine vc_ret ?_
            exact rq1 (Value.bool true) rfl rfl
           ·
            refine qg (qv_mv (.int .i64 (gN L G)) rfl) (want_f g8 rfl rfl rfl) ?_
            refine qg (qv_fa (off := 0) Try.field39_1 rfl) (want_f g8 rfl rfl rfl) ?_
            refine qg (qv_ldp (v := (Value.int .i64 Co)) Try.plain3 rfl (inOc (k := 0) rfl) rfl) (want_f g8 rfl rfl rfl) ?_
            refine qg (qv_geq rfl rfl) (want_f g8 rfl rfl rfl) ?_
            refine qq (qv_pick_f g8 rfl (rfl : ev _ _ = (.bool (decide (Co ≤ (gN L G)))))) ?_
            refine qq (qv_as (.bool (decide (Co ≤ (gN L G)))) rfl) ?_
            refine qops_nil ?_
            refine vc_ret ?_
            exact rq1 (Value.bool true) (congrArg Value.bool (decide_eq_true (show (Co ≤ (gN L G)) from by rw [gN_good (by omega)]; exact pa_bound hg h6 hpo (by omega) (by omega)))) rfl
      ·
       refine vc_skip ?_
       refine vc_seq ?_
       refine vc_seq ?_
       refine vc_region ?_
       refine oq (qv_mv (.int .i64 (chk L)) rfl) ?_
       refine oq (qv_eql rfl rfl) ?_
       refine ops_nil ?_
       refine vc_if_t rfl g3 ?_
       have hch : chk L = 0 := by omega
       have hg := good_of_chk hch
       have hk2 : 1 ≤ K ∧ K ≤ 32 := by omega
       refine vc_region ?_
       refine oq (qv_mv l rfl) ?_
       refine oq (qv_fa (off := 0) Try.field39_0 rfl) ?_
       refine oq (qv_ldp (v := (Value.int .i64 K)) Try.plain3 rfl (inOc (k := 0) rfl) rfl) ?_
       refine oq (qv_mv tv rfl) ?_
       refine oq (qv_fa (off := 0) Try.field39_1 rfl) ?_
       refine oq (qv_ldp (v := (Value.int .i64 Co)) Try.plain3 rfl (inOc (k := 0) rfl) rfl) ?_
       refine oq (qv_call (v := (.int .i64 (pvE L K T Co))) (provedAny_c hl ht hg h6 hk2) rfl rfl) ?_
       refine oq (qv_as (.int .i64 (pvE L K T Co)) rfl) ?_
       refine ops_nil ?_
       refine vc_seq ?_
       refine vc_seq ?_
       refine vc_region ?_
       refine oq (qv_mv (.int .i64 (paE L K T Co)) rfl) ?_
       refine oq (qv_mv (.int .i64 (pvE L K T Co)) rfl) ?_
       refine oq (qv_neq rfl rfl) ?_
       refine ops_nil ?_
       refine vc_if rfl (fun c9 => ?_) (fun c9 => ?_)
       ·
        exact absurd (pa_v (by omega) (by omega)) c9
       ·
        refine vc_skip ?_
        refine vc_seq ?_
        refine vc_seq ?_
        refine vc_region ?_
        refine oq (qv_mv (.int .i64 (paE L K T Co)) rfl) ?_
        refine oq (qv_neq rfl rfl) ?_
        refine ops_nil ?_
        refine vc_if rfl (fun c10 => ?_) (fun c10 => ?_)
        ·
         refine vc_seq ?_
         refine vc_region ?_
         refine oq (qv_as (Value.bool true) rfl) ?_
         refine ops_nil ?_
         refine vc_ret ?_
         exact rq1 (Value.bool true) rfl rfl
        ·
         refine vc_skip ?_
         refine vc_seq ?_
         have hpo : paE L K T Co = 0 := by omega
         have hg := good_of_chk (pa_ok hpo).1
         refine vc_region ?_
         refine oq (qv_mv l rfl) ?_
         refine oq (qv_fa (off := 0) Try.field39_2 rfl) ?_
         refine oq (qv_ldp (v := s) Try.plain29 rfl (inOc (k := 0) rfl) rfl) ?_
         refine oq (qv_call (v := (.tuple #[(.int .i64 (gN L G)), (.int .i64 (gE L G))])) (lcost_c hl hgg hg) rfl rfl) ?_
         refine oq (qv_mv (.tuple #[(.int .i64 (gN L G)), (.int .i64 (gE L G))]) rfl) ?_
         refine oq (qv_ext (.int .i64 (gN L G)) rfl rfl) ?_
         refine oq (qv_ext (.int .i64 (gE L G)) rfl rfl) ?_
         refine oq (qv_as (.int .i64 (gN L G)) rfl) ?_
         refine oq (qv_as (.int .i64 (gE L G)) rfl) ?_
         refine ops_nil ?_
         refine vc_seq ?_
         refine vc_region_any Try.mixed (by kernel_rfl) ?_
         refine qq (qv_mv (.int .i64 (gE L G)) rfl) ?_
         refine qq (qv_neq rfl rfl) ?_
         refine qq (qv_mv (.bool (decide ((gE L G) ≠ 0))) rfl) ?_
         by_cases g9 : (gE L G) ≠ 0
         ·
          refine qs (want_fn g9 rfl rfl rfl) ?_
          refine qs (want_fn g9 rfl rfl rfl) ?_
          refine qs (want_fn g9 rfl rfl rfl) ?_
          refine qs (want_fn g9 rfl rfl rfl) ?_
          refine qs (want_fn g9 rfl rfl rfl) ?_
          refine qs (want_fn g9 rfl rfl rfl) ?_
          refine qq (qv_pick_t g9 rfl (rfl : ev _ _ = (Value.bool true))) ?_
          refine qq (qv_mv (Value.bool true) rfl) ?_
          refine qs (want_fnc rfl rfl rfl) ?_
          refine qs (want_fnc rfl rfl rfl) ?_
          refine qs (want_fnc rfl rfl rfl) ?_
          refine qs (want_fnc rfl rfl rfl) ?_
          refine qq (qv_pick_tc rfl (rfl : ev _ _ = (Value.bool true))) ?_
          refine qq (qv_as (Value.bool true) rfl) ?_
          refine qops_nil ?_
          refine vc_ret ?_
          exact rq1 (Value.bool true) rfl rfl
         ·
          refine qg (qv_fa (off := 0) Try.field39_2 rfl) (want_f g9 rfl rfl rfl) ?_
          refine qg (qv_ldp (v := s) Try.plain29 rfl (inOc (k := 0) rfl) rfl) (want_f g9 rfl rfl rfl) ?_
          refine qg (qv_call (v := (.int .i64 (kindsN G G.length))) (kinds_c hgg) rfl rfl) (want_f g9 rfl rfl rfl) ?_
          refine qg (qv_fa (off := 0) Try.field39_0 rfl) (want_f g9 rfl rfl rfl) ?_
          refine qg (qv_ldp (v := (Value.int .i64 K)) Try.plain3 rfl (inOc (k := 0) rfl) rfl) (want_f g9 rfl rfl rfl) ?_
          refine qg (qv_gtr rfl rfl) (want_f g9 rfl rfl rfl) ?_
          refine qq (qv_pick_f g9 rfl (rfl : ev _ _ = (.bool (decide (K < (kindsN G G.length)))))) ?_
          refine qq (qv_mv (.bool (decide (K < (kindsN G G.length)))) rfl) ?_
          by_cases g10 : K < (kindsN G G.length)
          ·
           refine qs (want_fn g10 rfl rfl rfl) ?_
           refine qs (want_fn g10 rfl rfl rfl) ?_
           refine qs (want_fn g10 rfl rfl rfl) ?_
           refine qs (want_fn g10 rfl rfl rfl) ?_
           refine qq (qv_pick_t g10 rfl (rfl : ev _ _ = (Value.bool true))) ?_
           refine qq (qv_as (Value.bool true) rfl) ?_
           refine qops_nil ?_
           refine vc_ret ?_
           exact rq1 (Value.bool true) rfl rfl
          ·
           refine qg (qv_mv (.int .i64 (gN L G)) rfl) (want_f g10 rfl rfl rfl) ?_
           refine qg (qv_fa (off := 0) Try.field39_1 rfl) (want_f g10 rfl rfl rfl) ?_
           refine qg (qv_ldp (v := (Value.int .i64 Co)) Try.plain3 rfl (inOc (k := 0) rfl) rfl) (want_f g10 rfl rfl rfl) ?_
           refine qg (qv_geq rfl rfl) (want_f g10 rfl rfl rfl) ?_
           refine qq (qv_pick_f g10 rfl (rfl : ev _ _ = (.bool (decide (Co ≤ (gN L G)))))) ?_
           refine qq (qv_as (.bool (decide (Co ≤ (gN L G)))) rfl) ?_
           refine qops_nil ?_
           refine vc_ret ?_
           exact rq1 (Value.bool true) (congrArg Value.bool (decide_eq_true (show (Co ≤ (gN L G)) from by rw [gN_good (by omega)]; exact pa_bound hg h6 hpo (by omega) (by omega)))) rfl
    ·
     refine os (want_tn g3 rfl rfl rfl) ?_
     refine os (want_tn g3 rfl rfl rfl) ?_
     refine os (want_tn g3 rfl rfl rfl) ?_
     refine os (want_tn g3 rfl rfl rfl) ?_
     refine os (want_u rfl rfl rfl) ?_
     refine os (want_u rfl rfl rfl) ?_
     refine os (want_u rfl rfl rfl) ?_
     refine os (want_tn g3 rfl rfl rfl) ?_
     refine oq (qv_pick_f g3 rfl (rfl : ev _ _ = (Value.bool false))) ?_
     refine ops_nil ?_
     refine vc_ff rfl ?_
     refine vc_skip ?_
     refine vc_seq ?_
     refine vc_seq ?_
     refine vc_region ?_
     refine oq (qv_mv (.int .i64 (chk L)) rfl) ?_
     refine oq (qv_eql rfl rfl) ?_
     refine ops_nil ?_
     refine vc_if_f rfl g3 ?_
     refine vc_skip ?_
     refine vc_seq ?_
     refine vc_seq ?_
     refine vc_region ?_
     refine oq (qv_mv (.int .i64 (paE L K T Co)) rfl) ?_
     refine oq (qv_mv (.int .i64 (chk L)) rfl) ?_
     refine oq (qv_neq rfl rfl) ?_
     refine ops_nil ?_
     refine vc_if rfl (fun c11 => ?_) (fun c11 => ?_)
     ·
      exact absurd (pa_c (by omega)) c11
     ·
      refine vc_skip ?_
      refine vc_seq ?_
      refine vc_seq ?_
      refine vc_region ?_
      refine oq (qv_mv (.int .i64 (paE L K T Co)) rfl) ?_
      refine oq (qv_neq rfl rfl) ?_
      refine ops_nil ?_
      refine vc_if rfl (fun c12 => ?_) (fun c12 => ?_)
      ·
       refine vc_seq ?_
       refine vc_region ?_
       refine oq (qv_as (Value.bool true) rfl) ?_
       refine ops_nil ?_
       refine vc_ret ?_
       exact rq1 (Value.bool true) rfl rfl
      ·
       refine vc_skip ?_
       refine vc_seq ?_
       have hpo : paE L K T Co = 0 := by omega
       have hg := good_of_chk (pa_ok hpo).1
       refine vc_region ?_
       refine oq (qv_mv l rfl) ?_
       refine oq (qv_fa (off := 0) Try.field39_2 rfl) ?_
       refine oq (qv_ldp (v := s) Try.plain29 rfl (inOc (k := 0) rfl) rfl) ?_
       refine oq (qv_call (v := (.tuple #[(.int .i64 (gN L G)), (.int .i64 (gE L G))])) (lcost_c hl hgg hg) rfl rfl) ?_
       refine oq (qv_mv (.tuple #[(.int .i64 (gN L G)), (.int .i64 (gE L G))]) rfl) ?_
       refine oq (qv_ext (.int .i64 (gN L G)) rfl rfl) ?_
       refine oq (qv_ext (.int .i64 (gE L G)) rfl rfl) ?_
       refine oq (qv_as (.int .i64 (gN L G)) rfl) ?_
       refine oq (qv_as (.int .i64 (gE L G)) rfl) ?_
       refine ops_nil ?_
       refine vc_seq ?_
       refine vc_region_any Try.mixed (by kernel_rfl) ?_
       refine qq (qv_mv (.int .i64 (gE L G)) rfl) ?_
       refine qq (qv_neq rfl rfl) ?_
       refine qq (qv_mv (.bool (decide ((gE L G) ≠ 0))) rfl) ?_
       by_cases g11 : (gE L G) ≠ 0
       ·
        refine qs (want_fn g11 rfl rfl rfl) ?_
        refine qs (want_fn g11 rfl rfl rfl) ?_
        refine qs (want_fn g11 rfl rfl rfl) ?_
        refine qs (want_fn g11 rfl rfl rfl) ?_
        refine qs (want_fn g11 rfl rfl rfl) ?_
        refine qs (want_fn g11 rfl rfl rfl) ?_
        refine qq (qv_pick_t g11 rfl (rfl : ev _ _ = (Value.bool true))) ?_
        refine qq (qv_mv (Value.bool true) rfl) ?_
        refine qs (want_fnc rfl rfl rfl) ?_
        refine qs (want_fnc rfl rfl rfl) ?_
        refine qs (want_fnc rfl rfl rfl) ?_
        refine qs (want_fnc rfl rfl rfl) ?_
        refine qq (qv_pick_tc rfl (rfl : ev _ _ = (Value.bool true))) ?_
        refine qq (qv_as (Value.bool true) rfl) ?_
        refine qops_nil ?_
        refine vc_ret ?_
        exact rq1 (Value.bool true) rfl rfl
       ·
        refine qg (qv_fa (off := 0) Try.field39_2 rfl) (want_f g11 rfl rfl rfl) ?_
        refine qg (qv_ldp (v := s) Try.plain29 rfl (inOc (k := 0) rfl) rfl) (want_f g11 rfl rfl rfl) ?_
        refine qg (qv_call (v := (.int .i64 (kindsN G G.length))) (kinds_c hgg) rfl rfl) (want_f g11 rfl rfl rfl) ?_
        refine qg (qv_fa (off := 0) Try.field39_0 rfl) (want_f g11 rfl rfl rfl) ?_
        refine qg (qv_ldp (v := (Value.int .i64 K)) Try.plain3 rfl (inOc (k := 0) rfl) rfl) (want_f g11 rfl rfl rfl) ?_
        refine qg (qv_gtr rfl rfl) (want_f g11 rfl rfl rfl) ?_
        refine qq (qv_pick_f g11 rfl (rfl : ev _ _ = (.bool (decide (K < (kindsN G G.length)))))) ?_
        refine qq (qv_mv (.bool (decide (K < (kindsN G G.length)))) rfl) ?_
        by_cases g12 : K < (kindsN G G.length)
        ·
         refine qs (want_fn g12 rfl rfl rfl) ?_
         refine qs (want_fn g12 rfl rfl rfl) ?_
         refine qs (want_fn g12 rfl rfl rfl) ?_
         refine qs (want_fn g12 rfl rfl rfl) ?_
         refine qq (qv_pick_t g12 rfl (rfl : ev _ _ = (Value.bool true))) ?_
         refine qq (qv_as (Value.bool true) rfl) ?_
         refine qops_nil ?_
         refine vc_ret ?_
         exact rq1 (Value.bool true) rfl rfl
        ·
         refine qg (qv_mv (.int .i64 (gN L G)) rfl) (want_f g12 rfl rfl rfl) ?_
         refine qg (qv_fa (off := 0) Try.field39_1 rfl) (want_f g12 rfl rfl rfl) ?_
         refine qg (qv_ldp (v := (Value.int .i64 Co)) Try.plain3 rfl (inOc (k := 0) rfl) rfl) (want_f g12 rfl rfl rfl) ?_
         refine qg (qv_geq rfl rfl) (want_f g12 rfl rfl rfl) ?_
         refine qq (qv_pick_f g12 rfl (rfl : ev _ _ = (.bool (decide (Co ≤ (gN L G)))))) ?_
         refine qq (qv_as (.bool (decide (Co ≤ (gN L G)))) rfl) ?_
         refine qops_nil ?_
         refine vc_ret ?_
         exact rq1 (Value.bool true) (congrArg Value.bool (decide_eq_true (show (Co ≤ (gN L G)) from by rw [gN_good (by omega)]; exact pa_bound hg h6 hpo (by omega) (by omega)))) rfl

end Go.Proofs.Ytmkbjhligjnagaa
