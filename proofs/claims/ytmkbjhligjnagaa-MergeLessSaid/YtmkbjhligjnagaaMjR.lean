/- Walks of merge: what each function returns. Printed by a program out of notes. -/
import Derived.Test.YtmkbjhligjnagaaMjP
import Derived.Test.YtmkbjhligjnagaaMgE
import Derived.Test.YtmkbjhligjnagaaMjC
namespace Go.Proofs.Ytmkbjhligjnagaa
open Go Go.Vc
open Classical
set_option maxRecDepth 100000
set_option maxRecDepth 100000 in
set_option maxHeartbeats 4000000 in
theorem MergeLess_c {V : HV} {l : Value} {rv : List Value} {L : List (List Int)} {K : Int} (hl : Mat .i64 V l rv L) :
    FnC Try.prog 9 [l, (Value.int .i64 K)] V [] (fun v _ _ => v = (Value.bool true)) := by
 refine fn_intro (N := 115) Try.func9 (by kernel_rfl) rfl rfl rfl (Nat.le_of_ble_eq_true rfl) ?_
 intro w0 D
 have hlen := hl.len
 refine vc_seq ?_
 refine vc_region ?_
 refine oq (qv_as (Value.bool false) rfl) ?_
 refine ops_nil ?_
 refine vc_seq ?_
 refine vc_seq ?_
 refine vc_region ?_
 refine oq (qv_call (v := (Value.bool true)) (known_c) rfl rfl) ?_
 refine oq (qv_notc rfl) ?_
 refine ops_nil ?_
 refine vc_ff rfl ?_
 refine vc_skip ?_
 refine vc_seq ?_
 refine vc_seq ?_
 refine vc_region ?_
 refine oq (qv_mv l rfl) ?_
 refine oq (qv_call (v := (.bool (decide (Few L 6)))) (few_c hl) rfl rfl) ?_
 refine oq (qv_not rfl) ?_
 refine oq (qv_mv (.bool (decide (¬ (Few L 6)))) rfl) ?_
 by_cases g1 : ¬ (Few L 6)
 ·
  refine os (want_fn g1 rfl rfl rfl) ?_
  refine os (want_fn g1 rfl rfl rfl) ?_
  refine os (want_fn g1 rfl rfl rfl) ?_
  refine oq (qv_pick_t g1 rfl (rfl : ev _ _ = (Value.bool true))) ?_
  refine oq (qv_mv (Value.bool true) rfl) ?_
  refine os (want_fnc rfl rfl rfl) ?_
  refine os (want_fnc rfl rfl rfl) ?_
  refine oq (qv_pick_tc rfl (rfl : ev _ _ = (Value.bool true))) ?_
  refine oq (qv_mv (Value.bool true) rfl) ?_
  refine os (want_fnc rfl rfl rfl) ?_
  refine os (want_fnc rfl rfl rfl) ?_
  refine oq (qv_pick_tc rfl (rfl : ev _ _ = (Value.bool true))) ?_
  refine ops_nil ?_
  refine vc_tt rfl ?_
  refine vc_seq ?_
  refine vc_region ?_
  refine oq (qv_as (Value.bool true) rfl) ?_
  refine ops_nil ?_
  refine vc_ret ?_
  exact rq1 (Value.bool true) rfl rfl
 ·
  refine og (qv_mv l rfl) (want_f g1 rfl rfl rfl) ?_
  refine og (qv_call (v := (.int .i64 (chk L))) (check_c hl) rfl rfl) (want_f g1 rfl rfl rfl) ?_
  refine og (qv_neq rfl rfl) (want_f g1 rfl rfl rfl) ?_
  refine oq (qv_pick_f g1 rfl (rfl : ev _ _ = (.bool (decide ((chk L) ≠ 0))))) ?_
  refine oq (qv_mv (.bool (decide ((chk L) ≠ 0))) rfl) ?_
  by_cases g2 : (chk L) ≠ 0
  ·
   refine os (want_fn g2 rfl rfl rfl) ?_
   refine os (want_fn g2 rfl rfl rfl) ?_
   refine oq (qv_pick_t g2 rfl (rfl : ev _ _ = (Value.bool true))) ?_
   refine oq (qv_mv (Value.bool true) rfl) ?_
   refine os (want_fnc rfl rfl rfl) ?_
   refine os (want_fnc rfl rfl rfl) ?_
   refine oq (qv_pick_tc rfl (rfl : ev _ _ = (Value.bool true))) ?_
   refine ops_nil ?_
   refine vc_tt rfl ?_
   refine vc_seq ?_
   refine vc_region ?_
   refine oq (qv_as (Value.bool true) rfl) ?_
   refine ops_nil ?_
   refine vc_ret ?_
   exact rq1 (Value.bool true) rfl rfl
  ·
   refine og (qv_mv (Value.int .i64 K) rfl) (want_f g2 rfl rfl rfl) ?_
   refine og (qv_lss rfl rfl) (want_f g2 rfl rfl rfl) ?_
   refine oq (qv_pick_f g2 rfl (rfl : ev _ _ = (.bool (decide (K < 1))))) ?_
   refine oq (qv_mv (.bool (decide (K < 1))) rfl) ?_
   by_cases g3 : K < 1
   ·
    refine os (want_fn g3 rfl rfl rfl) ?_
    refine os (want_fn g3 rfl rfl rfl) ?_
    refine oq (qv_pick_t g3 rfl (rfl : ev _ _ = (Value.bool true))) ?_
    refine ops_nil ?_
    refine vc_tt rfl ?_
    refine vc_seq ?_
    refine vc_region ?_
    refine oq (qv_as (Value.bool true) rfl) ?_
    refine ops_nil ?_
    refine vc_ret ?_
    exact rq1 (Value.bool true) rfl rfl
   ·
    refine og (qv_mv (Value.int .i64 K) rfl) (want_f g3 rfl rfl rfl) ?_
    refine og (qv_gtr rfl rfl) (want_f g3 rfl rfl rfl) ?_
    refine oq (qv_pick_f g3 rfl (rfl : ev _ _ = (.bool (decide (31 < K))))) ?_
    refine ops_nil ?_
    refine vc_if rfl (fun c1 => ?_) (fun c1 => ?_)
    ·
     refine vc_seq ?_
     refine vc_region ?_
     refine oq (qv_as (Value.bool true) rfl) ?_
     refine ops_nil ?_
     refine vc_ret ?_
     exact rq1 (Value.bool true) rfl rfl
    ·
     refine vc_skip ?_
     refine vc_seq ?_
     have h6 : L.length ≤ 6 := by
       have q : Few L 6 := by first | assumption | exact Decidable.not_not.1 (by assumption)
       have := q.1
       omega
     have hch : chk L = 0 := by omega
     have hk : 1 ≤ K ∧ K ≤ 31 := by omega
     have o1 := oE0 hch (k := K) (by omega)
     have o2 := oE0 hch (k := K + 1) (by omega)
     have a1 := anE0 hch (k := K) (by omega) (by omega)
     have a2 := anE0 hch (k := K + 1) (by omega) (by omega)
     have v1 := anV0 a1
     have v2 := anV0 a2
     have l1 := less_any h6 hch (k := K) (by omega)
     have l2 := less_any h6 hch (k := K + 1) (by omega)
     have l3 := less_ord hch hk
     have l4 := less_more (L := L) hk.1
     have l5 := less_all hch (k := K) (by omega)
     unfold anN at l1 l2 l4 v1 v2
     refine vc_region ?_
     refine oq (qv_mv l rfl) ?_
     refine oq (qv_mv (Value.int .i64 K) rfl) ?_
     refine ops_call (σa := []) (σr := []) (Ordered_c (k := K) hl) rfl rfl (.refl _) (fun r1 V1 sg1 hV1 hp1 => ?_)
     obtain ⟨rfl, og1, ot1, ov1, rfl, _, _⟩ := hp1
     have hl := hl.mono hV1
     refine oq (qv_mv (.tuple #[og1, (.int .i64 (oN L (K))), ot1, (.int .i64 (oE L (K)))]) rfl) ?_
     refine oq (qv_ext og1 rfl rfl) ?_
     refine oq (qv_ext (.int .i64 (oN L (K))) rfl rfl) ?_
     refine oq (qv_ext ot1 rfl rfl) ?_
     refine oq (qv_ext (.int .i64 (oE L (K))) rfl rfl) ?_
     refine oq (qv_as og1 rfl) ?_
     refine oq (qv_as (.int .i64 (oN L (K))) rfl) ?_
     refine oq (qv_as ot1 rfl) ?_
     refine oq (qv_as (.int .i64 (oE L (K))) rfl) ?_
     refine ops_nil ?_
     refine vc_seq ?_
     refine vc_region ?_
     refine oq (qv_mv l rfl) ?_
     refine oq (qv_mv (Value.int .i64 K) rfl) ?_
     refine ops_call (σa := []) (σr := []) (Any_c (k := K) hl (fun _ => h6)) rfl rfl (.refl _) (fun r2 V2 sg2 hV2 hp2 => ?_)
     obtain ⟨rfl, gga, Ga, tta, Ta, rfl, hga, hta, hoka⟩ := hp2
     have hl := hl.mono hV2
     refine oq (qv_mv (.tuple #[gga, (.int .i64 (anV L K)), tta, (.int .i64 (anE L K))]) rfl) ?_
     refine oq (qv_ext gga rfl rfl) ?_
     refine oq (qv_ext (.int .i64 (anV L K)) rfl rfl) ?_
     refine oq (qv_ext tta rfl rfl) ?_
     refine oq (qv_ext (.int .i64 (anE L K)) rfl rfl) ?_
     refine oq (qv_as gga rfl) ?_
     refine oq (qv_as (.int .i64 (anV L K)) rfl) ?_
     refine oq (qv_as tta rfl) ?_
     refine oq (qv_as (.int .i64 (anE L K)) rfl) ?_
     refine ops_nil ?_
     refine vc_seq ?_
     refine vc_region ?_
     refine oq (qv_mv l rfl) ?_
     refine oq (qv_mv (Value.int .i64 K) rfl) ?_
     refine oq (qv_add rfl rfl (by omega)) ?_
     refine ops_call (σa := []) (σr := []) (Ordered_c (k := K + 1) hl) rfl rfl (.refl _) (fun r3 V3 sg3 hV3 hp3 => ?_)
     obtain ⟨rfl, og2, ot2, ov2, rfl, _, _⟩ := hp3
     have hl := hl.mono hV3
     have hga := hga.mono hV3
     have hta := hta.mono hV3
     refine oq (qv_mv (.tuple #[og2, (.int .i64 (oN L (K + 1))), ot2, (.int .i64 (oE L (K + 1)))]) rfl) ?_
     refine oq (qv_ext og2 rfl rfl) ?_
     refine oq (qv_ext (.int .i64 (oN L (K + 1))) rfl rfl) ?_
     refine oq (qv_ext ot2 rfl rfl) ?_
     refine oq (qv_ext (.int .i64 (oE L (K + 1))) rfl rfl) ?_
     refine oq (qv_as og2 rfl) ?_
     refine oq (qv_as (.int .i64 (oN L (K + 1))) rfl) ?_
     refine oq (qv_as ot2 rfl) ?_
     refine oq (qv_as (.int .i64 (oE L (K + 1))) rfl) ?_
     refine ops_nil ?_
     refine vc_seq ?_
     refine vc_region ?_
     refine oq (qv_mv l rfl) ?_
     refine oq (qv_mv (Value.int .i64 K) rfl) ?_
     refine oq (qv_add rfl rfl (by omega)) ?_
     refine ops_call (σa := []) (σr := []) (Any_c (k := K + 1) hl (fun _ => h6)) rfl rfl (.refl _) (fun r4 V4 sg4 hV4 hp4 => ?_)
     obtain ⟨rfl, ggb, Gb, ttb, Tb, rfl, hgb, htb, hokb⟩ := hp4
     have hl := hl.mono hV4
     have hga := hga.mono hV4
     have hta := hta.mono hV4
     refine oq (qv_mv (.tuple #[ggb, (.int .i64 (anV L (K + 1))), ttb, (.int .i64 (anE L (K + 1)))]) rfl) ?_
     refine oq (qv_ext ggb rfl rfl) ?_
     refine oq (qv_ext (.int .i64 (anV L (K + 1))) rfl rfl) ?_
     refine oq (qv_ext ttb rfl rfl) ?_
     refine oq (qv_ext (.int .i64 (anE L (K + 1))) rfl rfl) ?_
     refine oq (qv_as ggb rfl) ?_
     refine oq (qv_as (.int .i64 (anV L (K + 1))) rfl) ?_
     refine oq (qv_as ttb rfl) ?_
     refine oq (qv_as (.int .i64 (anE L (K + 1))) rfl) ?_
     refine ops_nil ?_
     refine vc_seq ?_
     refine vc_seq ?_
     refine vc_region ?_
     refine oq (qv_mv (.int .i64 (oE L (K))) rfl) ?_
     refine oq (qv_neq rfl rfl) ?_
     refine oq (qv_mv (.bool (decide ((oE L (K)) ≠ 0))) rfl) ?_
     by_cases g4 : (oE L (K)) ≠ 0
     ·
      omega
     ·
      refine og (qv_mv (.int .i64 (anE L K)) rfl) (want_f g4 rfl rfl rfl) ?_
      refine og (qv_neq rfl rfl) (want_f g4 rfl rfl rfl) ?_
      refine oq (qv_pick_f g4 rfl (rfl : ev _ _ = (.bool (decide ((anE L K) ≠ 0))))) ?_
      refine oq (qv_mv (.bool (decide ((anE L K) ≠ 0))) rfl) ?_
      by_cases g5 : (anE L K) ≠ 0
      ·
       refine os (want_fn g5 rfl rfl rfl) ?_
       refine os (want_fn g5 rfl rfl rfl) ?_
       refine oq (qv_pick_t g5 rfl (rfl : ev _ _ = (Value.bool true))) ?_
       refine oq (qv_mv (Value.bool true) rfl) ?_
       refine os (want_fnc rfl rfl rfl) ?_
       refine os (want_fnc rfl rfl rfl) ?_
       refine oq (qv_pick_tc rfl (rfl : ev _ _ = (Value.bool true))) ?_
       refine ops_nil ?_
       refine vc_tt rfl ?_
       refine vc_seq ?_
       refine vc_region ?_
       refine oq (qv_as (Value.bool false) rfl) ?_
       refine ops_nil ?_
       refine vc_ret ?_
       exact rq1 (Value.bool true) (by first | rfl | (omega)) rfl
      ·
       refine og (qv_mv (.int .i64 (oE L (K + 1))) rfl) (want_f g5 rfl rfl rfl) ?_
       refine og (qv_neq rfl rfl) (want_f g5 rfl rfl rfl) ?_
       refine oq (qv_pick_f g5 rfl (rfl : ev _ _ = (.bool (decide ((oE L (K + 1)) ≠ 0))))) ?_
       refine oq (qv_mv (.bool (decide ((oE L (K + 1)) ≠ 0))) rfl) ?_
       by_cases g6 : (oE L (K + 1)) ≠ 0
       ·
        refine os (want_fn g6 rfl rfl rfl) ?_
        refine os (want_fn g6 rfl rfl rfl) ?_
        refine oq (qv_pick_t g6 rfl (rfl : ev _ _ = (Value.bool true))) ?_
        refine ops_nil ?_
        refine vc_tt rfl ?_
        refine vc_seq ?_
        refine vc_region ?_
        refine oq (qv_as (Value.bool false) rfl) ?_
        refine ops_nil ?_
        refine vc_ret ?_
        exact rq1 (Value.bool true) (by first | rfl | (omega)) rfl
       ·
        refine og (qv_mv (.int .i64 (anE L (K + 1))) rfl) (want_f g6 rfl rfl rfl) ?_
        refine og (qv_neq rfl rfl) (want_f g6 rfl rfl rfl) ?_
        refine oq (qv_pick_f g6 rfl (rfl : ev _ _ = (.bool (decide ((anE L (K + 1)) ≠ 0))))) ?_
        refine ops_nil ?_
        refine vc_if rfl (fun c2 => ?_) (fun c2 => ?_)
        ·
         refine vc_seq ?_
         refine vc_region ?_
         refine oq (qv_as (Value.bool false) rfl) ?_
         refine ops_nil ?_
         refine vc_ret ?_
         exact rq1 (Value.bool true) (by first | rfl | (omega)) rfl
        ·
         refine vc_skip ?_
         refine vc_seq ?_
         refine vc_region ?_
         refine oq (qv_mv (.int .i64 (anV L K)) rfl) ?_
         refine oq (qv_mv (.int .i64 (oN L (K))) rfl) ?_
         refine oq (qv_leq rfl rfl) ?_
         refine oq (qv_mv (.bool (decide ((anV L K) ≤ (oN L (K))))) rfl) ?_
         by_cases g7 : (anV L K) ≤ (oN L (K))
         ·
          refine og (qv_mv (.int .i64 (oN L (K + 1))) rfl) (want_t g7 rfl rfl rfl) ?_
          refine og (qv_mv (.int .i64 (oN L (K))) rfl) (want_t g7 rfl rfl rfl) ?_
          refine og (qv_leq rfl rfl) (want_t g7 rfl rfl rfl) ?_
          refine oq (qv_pick_t g7 rfl (rfl : ev _ _ = (.bool (decide ((oN L (K + 1)) ≤ (oN L (K))))))) ?_
          refine oq (qv_mv (.bool (decide ((oN L (K + 1)) ≤ (oN L (K))))) rfl) ?_
          by_cases g8 : (oN L (K + 1)) ≤ (oN L (K))
          ·
           refine og (qv_mv (.int .i64 (anV L (K + 1))) rfl) (want_t g8 rfl rfl rfl) ?_
           refine og (qv_mv (.int .i64 (anV L K)) rfl) (want_t g8 rfl rfl rfl) ?_
           refine og (qv_leq rfl rfl) (want_t g8 rfl rfl rfl) ?_
           refine oq (qv_pick_t g8 rfl (rfl : ev _ _ = (.bool (decide ((anV L (K + 1)) ≤ (anV L K)))))) ?_
           refine oq (qv_mv (.bool (decide ((anV L (K + 1)) ≤ (anV L K)))) rfl) ?_
           by_cases g9 : (anV L (K + 1)) ≤ (anV L K)
           ·
            refine og (qv_mv (.int .i64 (anV L (K + 1))) rfl) (want_t g9 rfl rfl rfl) ?_
            refine og (qv_mv (.int .i64 (oN L (K + 1))) rfl) (want_t g9 rfl rfl rfl) ?_
            refine og (qv_leq rfl rfl) (want_t g9 rfl rfl rfl) ?_
            refine oq (qv_pick_t g9 rfl (rfl : ev _ _ = (.bool (decide ((anV L (K + 1)) ≤ (oN L (K + 1))))))) ?_
            refine oq (qv_mv (.bool (decide ((anV L (K + 1)) ≤ (oN L (K + 1))))) rfl) ?_
            by_cases g10 : (anV L (K + 1)) ≤ (oN L (K + 1))
            ·
             refine og (qv_mv (Value.int .i64 K) rfl) (want_t g10 rfl rfl rfl) ?_
             refine og (qv_mv l rfl) (want_t g10 rfl rfl rfl) ?_
             refine og (qv_lenS Try.underlying23 rfl hl.sl) (want_t g10 rfl rfl rfl) ?_
             refine og (qv_lss rfl rfl) (want_t g10 rfl rfl rfl) ?_
             refine og (qv_mv (.bool (decide (K < ((rv.length : Int))))) rfl) (want_t g10 rfl rfl rfl) ?_
             by_cases g11 : K < ((rv.length : Int))
             ·
              refine os (want_fn g11 rfl rfl rfl) ?_
              refine os (want_fn g11 rfl rfl rfl) ?_
              refine og (qv_pick_t g11 rfl (rfl : ev _ _ = (Value.bool true))) (want_t g10 rfl rfl rfl) ?_
              refine oq (qv_pick_t g10 rfl (rfl : ev _ _ = (Value.bool true))) ?_
              refine oq (qv_as (Value.bool true) rfl) ?_
              refine ops_nil ?_
              refine vc_ret ?_
              exact rq1 (Value.bool true) rfl rfl
             ·
              refine og (qv_mv (.int .i64 (oN L (K))) rfl) (want_f g11 rfl rfl rfl) ?_
              refine og (qv_eql rfl rfl) (want_f g11 rfl rfl rfl) ?_
              refine og (qv_pick_f g11 rfl (rfl : ev _ _ = (.bool (decide ((oN L (K)) = 0))))) (want_t g10 rfl rfl rfl) ?_
              refine oq (qv_pick_t g10 rfl (rfl : ev _ _ = (.bool (decide ((oN L (K)) = 0))))) ?_
              refine oq (qv_as (.bool (decide ((oN L (K)) = 0))) rfl) ?_
              refine ops_nil ?_
              refine vc_ret ?_
              exact rq1 (Value.bool true) (congrArg Value.bool (decide_eq_true (show ((oN L (K)) = 0) from by omega))) rfl
            ·
             refine os (want_tn g10 rfl rfl rfl) ?_
             refine os (want_tn g10 rfl rfl rfl) ?_
             refine os (want_tn g10 rfl rfl rfl) ?_
             refine os (want_tn g10 rfl rfl rfl) ?_
             refine os (want_tn g10 rfl rfl rfl) ?_
             refine os (want_u rfl rfl rfl) ?_
             refine os (want_u rfl rfl rfl) ?_
             refine os (want_tn g10 rfl rfl rfl) ?_
             refine oq (qv_pick_f g10 rfl (rfl : ev _ _ = (Value.bool false))) ?_
             refine oq (qv_as (Value.bool false) rfl) ?_
             refine ops_nil ?_
             refine vc_ret ?_
             exact rq1 (Value.bool true) (by first | rfl | (omega)) rfl
           ·
            refine os (want_tn g9 rfl rfl rfl) ?_
            refine os (want_tn g9 rfl rfl rfl) ?_
            refine os (want_tn g9 rfl rfl rfl) ?_
            refine oq (qv_pick_f g9 rfl (rfl : ev _ _ = (Value.bool false))) ?_
            refine oq (qv_mv (Value.bool false) rfl) ?_
            refine os (want_tnc rfl rfl rfl) ?_
            refine os (want_tnc rfl rfl rfl) ?_
            refine os (want_tnc rfl rfl rfl) ?_
            refine os (want_tnc rfl rfl rfl) ?_
            refine os (want_tnc rfl rfl rfl) ?_
            refine os (want_u rfl rfl rfl) ?_
            refine os (want_u rfl rfl rfl) ?_
            refine os (want_tnc rfl rfl rfl) ?_
            refine oq (qv_pick_fc rfl (rfl : ev _ _ = (Value.bool false))) ?_
            refine oq (qv_as (Value.bool false) rfl) ?_
            refine ops_nil ?_
            refine vc_ret ?_
            exact rq1 (Value.bool true) (by first | rfl | (omega)) rfl
          ·
           refine os (want_tn g8 rfl rfl rfl) ?_
           refine os (want_tn g8 rfl rfl rfl) ?_
           refine os (want_tn g8 rfl rfl rfl) ?_
           refine oq (qv_pick_f g8 rfl (rfl : ev _ _ = (Value.bool false))) ?_
           refine oq (qv_mv (Value.bool false) rfl) ?_
           refine os (want_tnc rfl rfl rfl) ?_
           refine os (want_tnc rfl rfl rfl) ?_
           refine os (want_tnc rfl rfl rfl) ?_
           refine oq (qv_pick_fc rfl (rfl : ev _ _ = (Value.bool false))) ?_
           refine oq (qv_mv (Value.bool false) rfl) ?_
           refine os (want_tnc rfl rfl rfl) ?_
           refine os (want_tnc rfl rfl rfl) ?_
           refine os (want_tnc rfl rfl rfl) ?_
           refine os (want_tnc rfl rfl rfl) ?_
           refine os (want_tnc rfl rfl rfl) ?_
           refine os (want_u rfl rfl rfl) ?_
           refine os (want_u rfl rfl rfl) ?_
           refine os (want_tnc rfl rfl rfl) ?_
           refine oq (qv_pick_fc rfl (rfl : ev _ _ = (Value.bool false))) ?_
           refine oq (qv_as (Value.bool false) rfl) ?_
           refine ops_nil ?_
           refine vc_ret ?_
           exact rq1 (Value.bool true) (by first | rfl | (omega)) rfl
         ·
          refine os (want_tn g7 rfl rfl rfl) ?_
          refine os (want_tn g7 rfl rfl rfl) ?_
          refine os (want_tn g7 rfl rfl rfl) ?_
          refine oq (qv_pick_f g7 rfl (rfl : ev _ _ = (Value.bool false))) ?_
          refine oq (qv_mv (Value.bool false) rfl) ?_
          refine os (want_tnc rfl rfl rfl) ?_
          refine os (want_tnc rfl rfl rfl) ?_
          refine os (want_tnc rfl rfl rfl) ?_
          refine oq (qv_pick_fc rfl (rfl : ev _ _ = (Value.bool false))) ?_
          refine oq (qv_mv (Value.bool false) rfl) ?_
          refine os (want_tnc rfl rfl rfl) ?_
          refine os (want_tnc rfl rfl rfl) ?_
          refine os (want_tnc rfl rfl rfl) ?_
          refine oq (qv_pick_fc rfl (rfl : ev _ _ = (Value.bool false))) ?_
          refine oq (qv_mv (Value.bool false) rfl) ?_
          refine os (want_tnc rfl rfl rfl) ?_
          refine os (want_tnc rfl rfl rfl) ?_
          refine os (want_tnc rfl rfl rfl) ?_
          refine os (want_tnc rfl rfl rfl) ?_
          refine os (want_tnc rfl rfl rfl) ?_
          refine os (want_u rfl rfl rfl) ?_
          refine os (want_u rfl rfl rfl) ?_
          refine os (want_tnc rfl rfl rfl) ?_
          refine oq (qv_pick_fc rfl (rfl : ev _ _ = (Value.bool false))) ?_
          refine oq (qv_as (Value.bool false) rfl) ?_
          refine ops_nil ?_
          refine vc_ret ?_
          exact rq1 (Value.bool true) (by first | rfl | (omega)) rfl

end Go.Proofs.Ytmkbjhligjnagaa
