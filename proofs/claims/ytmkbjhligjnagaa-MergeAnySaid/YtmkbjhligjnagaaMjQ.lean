/- Walks of merge: what each function returns. Printed by a program out of notes. -/
import Derived.Test.YtmkbjhligjnagaaMjP
import Derived.Test.YtmkbjhligjnagaaMgE
import Derived.Test.YtmkbjhligjnagaaMjC
import Derived.Test.YtmkbjhligjnagaaMiD
namespace Go.Proofs.Ytmkbjhligjnagaa
open Go Go.Vc
open Classical
set_option maxRecDepth 100000
set_option maxRecDepth 100000 in
set_option maxHeartbeats 4000000 in
theorem MergeAny_c {V : HV} {l : Value} {rv : List Value} {L : List (List Int)} {K : Int} (hl : Mat .i64 V l rv L) :
    FnC Try.prog 10 [l, (Value.int .i64 K)] V [] (fun v _ _ => v = (Value.bool true)) := by
 refine fn_intro (N := 109) Try.func10 (by kernel_rfl) rfl rfl rfl (Nat.le_of_ble_eq_true rfl) ?_
 intro w0 D
 have hlen := hl.len
 refine vc_seq ?_
 refine vc_region ?_
 refine oq (qv_as (Value.bool false) rfl) ?_
 refine ops_nil ?_
 refine vc_seq ?_
 refine vc_seq ?_
 refine vc_region ?_
 refine oq (qv_call (v := (Value.bool true)) (known_c) rfl rfl) ?_
 refine oq (qv_notc rfl) ?_
 refine ops_nil ?_
 refine vc_ff rfl ?_
 refine vc_skip ?_
 refine vc_seq ?_
 refine vc_seq ?_
 refine vc_region ?_
 refine oq (qv_mv l rfl) ?_
 refine oq (qv_call (v := (.bool (decide (Few L 40)))) (few_c hl) rfl rfl) ?_
 refine oq (qv_not rfl) ?_
 refine ops_nil ?_
 refine vc_if rfl (fun c1 => ?_) (fun c1 => ?_)
 ·
  refine vc_seq ?_
  refine vc_region ?_
  refine oq (qv_as (Value.bool true) rfl) ?_
  refine ops_nil ?_
  refine vc_ret ?_
  exact rq1 (Value.bool true) rfl rfl
 ·
  refine vc_skip ?_
  refine vc_seq ?_
  refine vc_region ?_
  refine oq (qv_mv l rfl) ?_
  refine oq (qv_call (v := (.int .i64 (chk L))) (check_c hl) rfl rfl) ?_
  refine oq (qv_as (.int .i64 (chk L)) rfl) ?_
  refine ops_nil ?_
  refine vc_seq ?_
  refine vc_seq ?_
  refine vc_region ?_
  refine oq (qv_mv (.int .i64 (chk L)) rfl) ?_
  refine oq (qv_eql rfl rfl) ?_
  refine oq (qv_mv (.bool (decide ((chk L) = 0))) rfl) ?_
  by_cases g1 : (chk L) = 0
  ·
   refine og (qv_mv l rfl) (want_t g1 rfl rfl rfl) ?_
   refine og (qv_lenS Try.underlying23 rfl hl.sl) (want_t g1 rfl rfl rfl) ?_
   refine og (qv_gtr rfl rfl) (want_t g1 rfl rfl rfl) ?_
   refine oq (qv_pick_t g1 rfl (rfl : ev _ _ = (.bool (decide (8 < ((rv.length : Int))))))) ?_
   refine ops_nil ?_
   refine vc_if rfl (fun c2 => ?_) (fun c2 => ?_)
   ·
    refine vc_region ?_
    refine oq (qv_as (Value.int .i64 4) rfl) ?_
    refine ops_nil ?_
    refine vc_seq ?_
    refine vc_seq ?_
    refine vc_region ?_
    refine oq (qv_mv (Value.int .i64 4) rfl) ?_
    refine oq (qv_eql rfl rfl) ?_
    refine oq (qv_mv (.bool (decide (4 = 0))) rfl) ?_
    by_cases g2 : 4 = 0
    ·
     omega
    ·
     refine os (want_tn g2 rfl rfl rfl) ?_
     refine os (want_tn g2 rfl rfl rfl) ?_
     refine os (want_tn g2 rfl rfl rfl) ?_
     refine os (want_u rfl rfl rfl) ?_
     refine os (want_u rfl rfl rfl) ?_
     refine os (want_tn g2 rfl rfl rfl) ?_
     refine oq (qv_pick_f g2 rfl (rfl : ev _ _ = (Value.bool false))) ?_
     refine ops_nil ?_
     refine vc_ff rfl ?_
     refine vc_skip ?_
     refine vc_seq ?_
     refine vc_seq ?_
     refine vc_region ?_
     refine oq (qv_mv (Value.int .i64 4) rfl) ?_
     refine oq (qv_eql rfl rfl) ?_
     refine oq (qv_mv (.bool (decide (4 = 0))) rfl) ?_
     refine os (want_tn g2 rfl rfl rfl) ?_
     refine os (want_tn g2 rfl rfl rfl) ?_
     refine os (want_tn g2 rfl rfl rfl) ?_
     refine oq (qv_pick_f g2 rfl (rfl : ev _ _ = (Value.bool false))) ?_
     refine ops_nil ?_
     refine vc_ff rfl ?_
     refine vc_skip ?_
     refine vc_seq ?_
     have hoe := anE4 (L := L) (k := K) (by omega) (by omega)
     have h6 : anE L K = 0 → L.length ≤ 6 := fun q => by rw [hoe] at q; omega
     refine vc_region ?_
     refine oq (qv_mv l rfl) ?_
     refine oq (qv_mv (Value.int .i64 K) rfl) ?_
     refine ops_call (σa := []) (σr := []) (Any_c (k := K) hl h6) rfl rfl (.refl _) (fun r1 V1 sg1 hV1 hp1 => ?_)
     obtain ⟨rfl, gg, G1, tt, T1, rfl, hg1, ht1, hok⟩ := hp1
     have hl := hl.mono hV1
     refine oq (qv_mv (.tuple #[gg, (.int .i64 (anV L K)), tt, (.int .i64 (anE L K))]) rfl) ?_
     refine oq (qv_ext gg rfl rfl) ?_
     refine oq (qv_ext (.int .i64 (anV L K)) rfl rfl) ?_
     refine oq (qv_ext tt rfl rfl) ?_
     refine oq (qv_ext (.int .i64 (anE L K)) rfl rfl) ?_
     refine oq (qv_as gg rfl) ?_
     refine oq (qv_as (.int .i64 (anV L K)) rfl) ?_
     refine oq (qv_as tt rfl) ?_
     refine oq (qv_as (.int .i64 (anE L K)) rfl) ?_
     refine ops_nil ?_
     refine vc_seq ?_
     refine vc_seq ?_
     refine vc_region ?_
     refine oq (qv_mv (Value.int .i64 4) rfl) ?_
     refine oq (qv_neq rfl rfl) ?_
     refine ops_nil ?_
     refine vc_if rfl (fun c3 => ?_) (fun c3 => ?_)
     ·
      refine vc_seq ?_
      obtain ⟨b1, b3⟩ := hok.bad (show anE L K ≠ 0 by omega)
      have b2 := anVn (show anE L K ≠ 0 by omega)
      have b4 : G1.length = 0 := by rw [b1]; rfl
      have b5 : T1.length = 0 := by rw [b3]; rfl
      refine vc_region ?_
      refine oq (qv_mv (.int .i64 (anE L K)) rfl) ?_
      refine oq (qv_mv (Value.int .i64 4) rfl) ?_
      refine oq (qv_eql rfl rfl) ?_
      refine oq (qv_mv (.bool (decide ((anE L K) = 4))) rfl) ?_
      by_cases g3 : (anE L K) = 4
      ·
       refine og (qv_mv (.int .i64 (anV L K)) rfl) (want_t g3 rfl rfl rfl) ?_
       refine og (qv_eql rfl rfl) (want_t g3 rfl rfl rfl) ?_
       refine oq (qv_pick_t g3 rfl (rfl : ev _ _ = (.bool (decide ((anV L K) = 0))))) ?_
       refine oq (qv_mv (.bool (decide ((anV L K) = 0))) rfl) ?_
       by_cases g4 : (anV L K) = 0
       ·
        refine og (qv_mv gg rfl) (want_t g4 rfl rfl rfl) ?_
        refine og (qv_lenI Try.underlying30 rfl hg1) (want_t g4 rfl rfl rfl) ?_
        refine og (qv_eql rfl rfl) (want_t g4 rfl rfl rfl) ?_
        refine oq (qv_pick_t g4 rfl (rfl : ev _ _ = (.bool (decide (((G1.length : Int)) = 0))))) ?_
        refine oq (qv_mv (.bool (decide (((G1.length : Int)) = 0))) rfl) ?_
        by_cases g5 : ((G1.length : Int)) = 0
        ·
         refine og (qv_mv tt rfl) (want_t g5 rfl rfl rfl) ?_
         refine og (qv_lenSS Try.underlying46 rfl ht1) (want_t g5 rfl rfl rfl) ?_
         refine og (qv_eql rfl rfl) (want_t g5 rfl rfl rfl) ?_
         refine oq (qv_pick_t g5 rfl (rfl : ev _ _ = (.bool (decide (((T1.length : Int)) = 0))))) ?_
         refine oq (qv_as (.bool (decide (((T1.length : Int)) = 0))) rfl) ?_
         refine ops_nil ?_
         refine vc_ret ?_
         exact rq1 (Value.bool true) (congrArg Value.bool (decide_eq_true (show (((T1.length : Int)) = 0) from by first | omega | rfl | assumption))) rfl
        ·
         refine os (want_tn g5 rfl rfl rfl) ?_
         refine os (want_tn g5 rfl rfl rfl) ?_
         refine os (want_tn g5 rfl rfl rfl) ?_
         refine oq (qv_pick_f g5 rfl (rfl : ev _ _ = (Value.bool false))) ?_
         refine oq (qv_as (Value.bool false) rfl) ?_
         refine ops_nil ?_
         refine vc_ret ?_
         exact rq1 (Value.bool true) (by first | rfl | (first | omega | rfl | assumption)) rfl
       ·
        exact absurd b2 g4
      ·
       exact absurd hoe g3
     ·
      omega
   ·
    refine vc_skip ?_
    refine vc_seq ?_
    refine vc_seq ?_
    refine vc_region ?_
    refine oq (qv_mv (.int .i64 (chk L)) rfl) ?_
    refine oq (qv_eql rfl rfl) ?_
    refine oq (qv_mv (.bool (decide ((chk L) = 0))) rfl) ?_
    refine og (qv_mv (Value.int .i64 K) rfl) (want_t g1 rfl rfl rfl) ?_
    refine og (qv_lss rfl rfl) (want_t g1 rfl rfl rfl) ?_
    refine og (qv_mv (.bool (decide (K < 1))) rfl) (want_t g1 rfl rfl rfl) ?_
    by_cases g6 : K < 1
    ·
     refine os (want_fn g6 rfl rfl rfl) ?_
     refine os (want_fn g6 rfl rfl rfl) ?_
     refine og (qv_pick_t g6 rfl (rfl : ev _ _ = (Value.bool true))) (want_t g1 rfl rfl rfl) ?_
     refine oq (qv_pick_t g1 rfl (rfl : ev _ _ = (Value.bool true))) ?_
     refine ops_nil ?_
     refine vc_tt rfl ?_
     refine vc_region ?_
     refine oq (qv_as (Value.int .i64 3) rfl) ?_
     refine ops_nil ?_
     refine vc_seq ?_
     refine vc_seq ?_
     refine vc_region ?_
     refine oq (qv_mv (Value.int .i64 3) rfl) ?_
     refine oq (qv_eql rfl rfl) ?_
     refine oq (qv_mv (.bool (decide (3 = 0))) rfl) ?_
     by_cases g7 : 3 = 0
     ·
      omega
     ·
      refine os (want_tn g7 rfl rfl rfl) ?_
      refine os (want_tn g7 rfl rfl rfl) ?_
      refine os (want_tn g7 rfl rfl rfl) ?_
      refine oq (qv_pick_f g7 rfl (rfl : ev _ _ = (Value.bool false))) ?_
      refine ops_nil ?_
      refine vc_ff rfl ?_
      refine vc_skip ?_
      refine vc_seq ?_
      have hoe := anE3 (L := L) (k := K) (by omega) (by omega) (by omega)
      have h6 : anE L K = 0 → L.length ≤ 6 := fun q => by rw [hoe] at q; omega
      refine vc_region ?_
      refine oq (qv_mv l rfl) ?_
      refine oq (qv_mv (Value.int .i64 K) rfl) ?_
      refine ops_call (σa := []) (σr := []) (Any_c (k := K) hl h6) rfl rfl (.refl _) (fun r2 V2 sg2 hV2 hp2 => ?_)
      obtain ⟨rfl, gg, G1, tt, T1, rfl, hg1, ht1, hok⟩ := hp2
      have hl := hl.mono hV2
      refine oq (qv_mv (.tuple #[gg, (.int .i64 (anV L K)), tt, (.int .i64 (anE L K))]) rfl) ?_
      refine oq (qv_ext gg rfl rfl) ?_
      refine oq (qv_ext (.int .i64 (anV L K)) rfl rfl) ?_
      refine oq (qv_ext tt rfl rfl) ?_
      refine oq (qv_ext (.int .i64 (anE L K)) rfl rfl) ?_
      refine oq (qv_as gg rfl) ?_
      refine oq (qv_as (.int .i64 (anV L K)) rfl) ?_
      refine oq (qv_as tt rfl) ?_
      refine oq (qv_as (.int .i64 (anE L K)) rfl) ?_
      refine ops_nil ?_
      refine vc_seq ?_
      refine vc_seq ?_
      refine vc_region ?_
      refine oq (qv_mv (Value.int .i64 3) rfl) ?_
      refine oq (qv_neq rfl rfl) ?_
      refine ops_nil ?_
      refine vc_if rfl (fun c4 => ?_) (fun c4 => ?_)
      ·
       refine vc_seq ?_
       obtain ⟨b1, b3⟩ := hok.bad (show anE L K ≠ 0 by omega)
       have b2 := anVn (show anE L K ≠ 0 by omega)
       have b4 : G1.length = 0 := by rw [b1]; rfl
       have b5 : T1.length = 0 := by rw [b3]; rfl
       refine vc_region ?_
       refine oq (qv_mv (.int .i64 (anE L K)) rfl) ?_
       refine oq (qv_mv (Value.int .i64 3) rfl) ?_
       refine oq (qv_eql rfl rfl) ?_
       refine oq (qv_mv (.bool (decide ((anE L K) = 3))) rfl) ?_
       by_cases g8 : (anE L K) = 3
       ·
        refine og (qv_mv (.int .i64 (anV L K)) rfl) (want_t g8 rfl rfl rfl) ?_
        refine og (qv_eql rfl rfl) (want_t g8 rfl rfl rfl) ?_
        refine oq (qv_pick_t g8 rfl (rfl : ev _ _ = (.bool (decide ((anV L K) = 0))))) ?_
        refine oq (qv_mv (.bool (decide ((anV L K) = 0))) rfl) ?_
        by_cases g9 : (anV L K) = 0
        ·
         refine og (qv_mv gg rfl) (want_t g9 rfl rfl rfl) ?_
         refine og (qv_lenI Try.underlying30 rfl hg1) (want_t g9 rfl rfl rfl) ?_
         refine og (qv_eql rfl rfl) (want_t g9 rfl rfl rfl) ?_
         refine oq (qv_pick_t g9 rfl (rfl : ev _ _ = (.bool (decide (((G1.length : Int)) = 0))))) ?_
         refine oq (qv_mv (.bool (decide (((G1.length : Int)) = 0))) rfl) ?_
         by_cases g10 : ((G1.length : Int)) = 0
         ·
          refine og (qv_mv tt rfl) (want_t g10 rfl rfl rfl) ?_
          refine og (qv_lenSS Try.underlying46 rfl ht1) (want_t g10 rfl rfl rfl) ?_
          refine og (qv_eql rfl rfl) (want_t g10 rfl rfl rfl) ?_
          refine oq (qv_pick_t g10 rfl (rfl : ev _ _ = (.bool (decide (((T1.length : Int)) = 0))))) ?_
          refine oq (qv_as (.bool (decide (((T1.length : Int)) = 0))) rfl) ?_
          refine ops_nil ?_
          refine vc_ret ?_
          exact rq1 (Value.bool true) (congrArg Value.bool (decide_eq_true (show (((T1.length : Int)) = 0) from by first | omega | rfl | assumption))) rfl
         ·
          refine os (want_tn g10 rfl rfl rfl) ?_
          refine os (want_tn g10 rfl rfl rfl) ?_
          refine os (want_tn g10 rfl rfl rfl) ?_
          refine oq (qv_pick_f g10 rfl (rfl : ev _ _ = (Value.bool false))) ?_
          refine oq (qv_as (Value.bool false) rfl) ?_
          refine ops_nil ?_
          refine vc_ret ?_
          exact rq1 (Value.bool true) (by first | rfl | (first | omega | rfl | assumption)) rfl
        ·
         exact absurd b2 g9
       ·
        exact absurd hoe g8
      ·
       omega
    ·
     refine og (qv_mv (Value.int .i64 K) rfl) (want_f g6 rfl rfl rfl) ?_
     refine og (qv_gtr rfl rfl) (want_f g6 rfl rfl rfl) ?_
     refine og (qv_pick_f g6 rfl (rfl : ev _ _ = (.bool (decide (32 < K))))) (want_t g1 rfl rfl rfl) ?_
     refine oq (qv_pick_t g1 rfl (rfl : ev _ _ = (.bool (decide (32 < K))))) ?_
     refine ops_nil ?_
     refine vc_if rfl (fun c5 => ?_) (fun c5 => ?_)
     ·
      refine vc_region ?_
      refine oq (qv_as (Value.int .i64 3) rfl) ?_
      refine ops_nil ?_
      refine vc_seq ?_
      refine vc_seq ?_
      refine vc_region ?_
      refine oq (qv_mv (Value.int .i64 3) rfl) ?_
      refine oq (qv_eql rfl rfl) ?_
      refine oq (qv_mv (.bool (decide (3 = 0))) rfl) ?_
      by_cases g11 : 3 = 0
      ·
       omega
      ·
       refine os (want_tn g11 rfl rfl rfl) ?_
       refine os (want_tn g11 rfl rfl rfl) ?_
       refine os (want_tn g11 rfl rfl rfl) ?_
       refine oq (qv_pick_f g11 rfl (rfl : ev _ _ = (Value.bool false))) ?_
       refine ops_nil ?_
       refine vc_ff rfl ?_
       refine vc_skip ?_
       refine vc_seq ?_
       have hoe := anE3 (L := L) (k := K) (by omega) (by omega) (by omega)
       have h6 : anE L K = 0 → L.length ≤ 6 := fun q => by rw [hoe] at q; omega
       refine vc_region ?_
       refine oq (qv_mv l rfl) ?_
       refine oq (qv_mv (Value.int .i64 K) rfl) ?_
       refine ops_call (σa := []) (σr := []) (Any_c (k := K) hl h6) rfl rfl (.refl _) (fun r3 V3 sg3 hV3 hp3 => ?_)
       obtain ⟨rfl, gg, G1, tt, T1, rfl, hg1, ht1, hok⟩ := hp3
       have hl := hl.mono hV3
       refine oq (qv_mv (.tuple #[gg, (.int .i64 (anV L K)), tt, (.int .i64 (anE L K))]) rfl) ?_
       refine oq (qv_ext gg rfl rfl) ?_
       refine oq (qv_ext (.int .i64 (anV L K)) rfl rfl) ?_
       refine oq (qv_ext tt rfl rfl) ?_
       refine oq (qv_ext (.int .i64 (anE L K)) rfl rfl) ?_
       refine oq (qv_as gg rfl) ?_
       refine oq (qv_as (.int .i64 (anV L K)) rfl) ?_
       refine oq (qv_as tt rfl) ?_
       refine oq (qv_as (.int .i64 (anE L K)) rfl) ?_
       refine ops_nil ?_
       refine vc_seq ?_
       refine vc_seq ?_
       refine vc_region ?_
       refine oq (qv_mv (Value.int .i64 3) rfl) ?_
       refine oq (qv_neq rfl rfl) ?_
       refine ops_nil ?_
       refine vc_if rfl (fun c6 => ?_) (fun c6 => ?_)
       ·
        refine vc_seq ?_
        obtain ⟨b1, b3⟩ := hok.bad (show anE L K ≠ 0 by omega)
        have b2 := anVn (show anE L K ≠ 0 by omega)
        have b4 : G1.length = 0 := by rw [b1]; rfl
        have b5 : T1.length = 0 := by rw [b3]; rfl
        refine vc_region ?_
        refine oq (qv_mv (.int .i64 (anE L K)) rfl) ?_
        refine oq (qv_mv (Value.int .i64 3) rfl) ?_
        refine oq (qv_eql rfl rfl) ?_
        refine oq (qv_mv (.bool (decide ((anE L K) = 3))) rfl) ?_
        by_cases g12 : (anE L K) = 3
        ·
         refine og (qv_mv (.int .i64 (anV L K)) rfl) (want_t g12 rfl rfl rfl) ?_
         refine og (qv_eql rfl rfl) (want_t g12 rfl rfl rfl) ?_
         refine oq (qv_pick_t g12 rfl (rfl : ev _ _ = (.bool (decide ((anV L K) = 0))))) ?_
         refine oq (qv_mv (.bool (decide ((anV L K) = 0))) rfl) ?_
         by_cases g13 : (anV L K) = 0
         ·
          refine og (qv_mv gg rfl) (want_t g13 rfl rfl rfl) ?_
          refine og (qv_lenI Try.underlying30 rfl hg1) (want_t g13 rfl rfl rfl) ?_
          refine og (qv_eql rfl rfl) (want_t g13 rfl rfl rfl) ?_
          refine oq (qv_pick_t g13 rfl (rfl : ev _ _ = (.bool (decide (((G1.length : Int)) = 0))))) ?_
          refine oq (qv_mv (.bool (decide (((G1.length : Int)) = 0))) rfl) ?_
          by_cases g14 : ((G1.length : Int)) = 0
          ·
           refine og (qv_mv tt rfl) (want_t g14 rfl rfl rfl) ?_
           refine og (qv_lenSS Try.underlying46 rfl ht1) (want_t g14 rfl rfl rfl) ?_
           refine og (qv_eql rfl rfl) (want_t g14 rfl rfl rfl) ?_
           refine oq (qv_pick_t g14 rfl (rfl : ev _ _ = (.bool (decide (((T1.length : Int)) = 0))))) ?_
           refine oq (qv_as (.bool (decide (((T1.length : Int)) = 0))) rfl) ?_
           refine ops_nil ?_
           refine vc_ret ?_
           exact rq1 (Value.bool true) (congrArg Value.bool (decide_eq_true (show (((T1.length : Int)) = 0) from by first | omega | rfl | assumption))) rfl
          ·
           refine os (want_tn g14 rfl rfl rfl) ?_
           refine os (want_tn g14 rfl rfl rfl) ?_
           refine os (want_tn g14 rfl rfl rfl) ?_
           refine oq (qv_pick_f g14 rfl (rfl : ev _ _ = (Value.bool false))) ?_
           refine oq (qv_as (Value.bool false) rfl) ?_
           refine ops_nil ?_
           refine vc_ret ?_
           exact rq1 (Value.bool true) (by first | rfl | (first | omega | rfl | assumption)) rfl
         ·
          exact absurd b2 g13
        ·
         exact absurd hoe g12
       ·
        omega
     ·
      refine vc_skip ?_
      refine vc_seq ?_
      refine vc_seq ?_
      refine vc_region ?_
      refine oq (qv_mv (.int .i64 (chk L)) rfl) ?_
      refine oq (qv_eql rfl rfl) ?_
      refine oq (qv_mv (.bool (decide ((chk L) = 0))) rfl) ?_
      refine og (qv_mv l rfl) (want_t g1 rfl rfl rfl) ?_
      refine og (qv_lenS Try.underlying23 rfl hl.sl) (want_t g1 rfl rfl rfl) ?_
      refine og (qv_gtr rfl rfl) (want_t g1 rfl rfl rfl) ?_
      refine oq (qv_pick_t g1 rfl (rfl : ev _ _ = (.bool (decide (5 < ((rv.length : Int))))))) ?_
      refine ops_nil ?_
      refine vc_if rfl (fun c7 => ?_) (fun c7 => ?_)
      ·
       refine vc_seq ?_
       refine vc_region ?_
       refine oq (qv_as (Value.bool true) rfl) ?_
       refine ops_nil ?_
       refine vc_ret ?_
       exact rq1 (Value.bool true) rfl rfl
      ·
       refine vc_skip ?_
       refine vc_seq ?_
       have h6 : anE L K = 0 → L.length ≤ 6 := fun q => by
         by_cases c : chk L = 0
         · omega
         · rw [anE1 c] at q; exact absurd q c
       refine vc_region ?_
       refine oq (qv_mv l rfl) ?_
       refine oq (qv_mv (Value.int .i64 K) rfl) ?_
       refine ops_call (σa := []) (σr := []) (Any_c (k := K) hl h6) rfl rfl (.refl _) (fun r4 V4 sg4 hV4 hp4 => ?_)
       obtain ⟨rfl, gg, G1, tt, T1, rfl, hg1, ht1, hok⟩ := hp4
       have hl := hl.mono hV4
       refine oq (qv_mv (.tuple #[gg, (.int .i64 (anV L K)), tt, (.int .i64 (anE L K))]) rfl) ?_
       refine oq (qv_ext gg rfl rfl) ?_
       refine oq (qv_ext (.int .i64 (anV L K)) rfl rfl) ?_
       refine oq (qv_ext tt rfl rfl) ?_
       refine oq (qv_ext (.int .i64 (anE L K)) rfl rfl) ?_
       refine oq (qv_as gg rfl) ?_
       refine oq (qv_as (.int .i64 (anV L K)) rfl) ?_
       refine oq (qv_as tt rfl) ?_
       refine oq (qv_as (.int .i64 (anE L K)) rfl) ?_
       refine ops_nil ?_
       refine vc_seq ?_
       refine vc_seq ?_
       refine vc_region ?_
       refine oq (qv_mv (.int .i64 (chk L)) rfl) ?_
       refine oq (qv_neq rfl rfl) ?_
       refine ops_nil ?_
       refine vc_if rfl (fun c8 => ?_) (fun c8 => ?_)
       ·
        refine vc_seq ?_
        have hoe := anE1 (k := K) (show chk L ≠ 0 by omega)
        obtain ⟨b1, b3⟩ := hok.bad (show anE L K ≠ 0 by omega)
        have b2 := anVn (show anE L K ≠ 0 by omega)
        have b4 : G1.length = 0 := by rw [b1]; rfl
        have b5 : T1.length = 0 := by rw [b3]; rfl
        refine vc_region ?_
        refine oq (qv_mv (.int .i64 (anE L K)) rfl) ?_
        refine oq (qv_mv (.int .i64 (chk L)) rfl) ?_
        refine oq (qv_eql rfl rfl) ?_
        refine oq (qv_mv (.bool (decide ((anE L K) = (chk L)))) rfl) ?_
        by_cases g15 : (anE L K) = (chk L)
        ·
         refine og (qv_mv (.int .i64 (anV L K)) rfl) (want_t g15 rfl rfl rfl) ?_
         refine og (qv_eql rfl rfl) (want_t g15 rfl rfl rfl) ?_
         refine oq (qv_pick_t g15 rfl (rfl : ev _ _ = (.bool (decide ((anV L K) = 0))))) ?_
         refine oq (qv_mv (.bool (decide ((anV L K) = 0))) rfl) ?_
         by_cases g16 : (anV L K) = 0
         ·
          refine og (qv_mv gg rfl) (want_t g16 rfl rfl rfl) ?_
          refine og (qv_lenI Try.underlying30 rfl hg1) (want_t g16 rfl rfl rfl) ?_
          refine og (qv_eql rfl rfl) (want_t g16 rfl rfl rfl) ?_
          refine oq (qv_pick_t g16 rfl (rfl : ev _ _ = (.bool (decide (((G1.length : Int)) = 0))))) ?_
          refine oq (qv_mv (.bool (decide (((G1.length : Int)) = 0))) rfl) ?_
          by_cases g17 : ((G1.length : Int)) = 0
          ·
           refine og (qv_mv tt rfl) (want_t g17 rfl rfl rfl) ?_
           refine og (qv_lenSS Try.underlying46 rfl ht1) (want_t g17 rfl rfl rfl) ?_
           refine og (qv_eql rfl rfl) (want_t g17 rfl rfl rfl) ?_
           refine oq (qv_pick_t g17 rfl (rfl : ev _ _ = (.bool (decide (((T1.length : Int)) = 0))))) ?_
           refine oq (qv_as (.bool (decide (((T1.length : Int)) = 0))) rfl) ?_
           refine ops_nil ?_
           refine vc_ret ?_
           exact rq1 (Value.bool true) (congrArg Value.bool (decide_eq_true (show (((T1.length : Int)) = 0) from by first | omega | rfl | assumption))) rfl
          ·
           refine os (want_tn g17 rfl rfl rfl) ?_
           refine os (want_tn g17 rfl rfl rfl) ?_
           refine os (want_tn g17 rfl rfl rfl) ?_
           refine oq (qv_pick_f g17 rfl (rfl : ev _ _ = (Value.bool false))) ?_
           refine oq (qv_as (Value.bool false) rfl) ?_
           refine ops_nil ?_
           refine vc_ret ?_
           exact rq1 (Value.bool true) (by first | rfl | (first | omega | rfl | assumption)) rfl
         ·
          exact absurd b2 g16
        ·
         exact absurd hoe g15
       ·
        refine vc_skip ?_
        refine vc_seq ?_
        have hch : chk L = 0 := by omega
        have hk2 : 1 ≤ K ∧ K ≤ 32 := by omega
        have hoe := anE0 (k := K) hch (by omega) hk2
        have hg := good_of_chk hch
        have hl6 := h6 hoe
        obtain ⟨q1, q2, q3, q4, q5⟩ := hok.good hoe
        have q6 := anV0 hoe
        refine vc_region ?_
        refine oq (qv_mv l rfl) ?_
        refine oq (qv_mv (Value.int .i64 K) rfl) ?_
        refine ops_call (σa := []) (σr := []) (by have h := least_c (k := K) (o := False) hl hg (by omega); rw [dec_false] at h; exact h) rfl rfl (.refl _) (fun r5 V5 sg5 hV5 hp5 => ?_)
        obtain ⟨rfl, bst, fv, F, rfl, hfv, hB⟩ := hp5
        have hl := hl.mono hV5
        have hg1 := hg1.mono hV5
        have ht1 := ht1.mono hV5
        refine oq (qv_mv (.tuple #[(Value.int .i64 bst), fv]) rfl) ?_
        refine oq (qv_ext (Value.int .i64 bst) rfl rfl) ?_
        refine oq (qv_ext fv rfl rfl) ?_
        refine oq (qv_as (Value.int .i64 bst) rfl) ?_
        refine oq (qv_as fv rfl) ?_
        refine ops_nil ?_
        refine vc_seq ?_
        obtain ⟨hb1, hF1⟩ := best_any hg hl6 hk2.1 hB (fun _ _ => trivial)
        rw [← q6] at q4 q5 hb1
        rw [← q1] at hF1
        refine vc_region ?_
        refine oq (qv_mv (.int .i64 (anE L K)) rfl) ?_
        refine oq (qv_eql rfl rfl) ?_
        refine oq (qv_mv (.bool (decide ((anE L K) = 0))) rfl) ?_
        by_cases g18 : (anE L K) = 0
        ·
         refine og (qv_mv (.int .i64 (anV L K)) rfl) (want_t g18 rfl rfl rfl) ?_
         refine og (qv_mv (Value.int .i64 bst) rfl) (want_t g18 rfl rfl rfl) ?_
         refine og (qv_eql rfl rfl) (want_t g18 rfl rfl rfl) ?_
         refine oq (qv_pick_t g18 rfl (rfl : ev _ _ = (.bool (decide ((anV L K) = bst))))) ?_
         refine oq (qv_mv (.bool (decide ((anV L K) = bst))) rfl) ?_
         by_cases g19 : (anV L K) = bst
         ·
          refine og (qv_mv gg rfl) (want_t g19 rfl rfl rfl) ?_
          refine og (qv_mv fv rfl) (want_t g19 rfl rfl rfl) ?_
          refine og (qv_call (v := (.bool (decide (G1 = F)))) (Equal_c hg1 hfv) rfl rfl) (want_t g19 rfl rfl rfl) ?_
          refine oq (qv_pick_t g19 rfl (rfl : ev _ _ = (.bool (decide (G1 = F))))) ?_
          refine oq (qv_mv (.bool (decide (G1 = F))) rfl) ?_
          by_cases g20 : G1 = F
          ·
           refine og (qv_mv tt rfl) (want_t g20 rfl rfl rfl) ?_
           refine og (qv_lenSS Try.underlying46 rfl ht1) (want_t g20 rfl rfl rfl) ?_
           refine og (qv_leq rfl rfl) (want_t g20 rfl rfl rfl) ?_
           refine oq (qv_pick_t g20 rfl (rfl : ev _ _ = (.bool (decide (((T1.length : Int)) ≤ 4096))))) ?_
           refine oq (qv_mv (.bool (decide (((T1.length : Int)) ≤ 4096))) rfl) ?_
           by_cases g21 : ((T1.length : Int)) ≤ 4096
           ·
            refine og (qv_mv l rfl) (want_t g21 rfl rfl rfl) ?_
            refine og (qv_mv (Value.int .i64 K) rfl) (want_t g21 rfl rfl rfl) ?_
            refine og (qv_mv tt rfl) (want_t g21 rfl rfl rfl) ?_
            refine og (qv_mv (.int .i64 (anV L K)) rfl) (want_t g21 rfl rfl rfl) ?_
            refine og (qv_call (v := (.int .i64 (pvE L K T1 (anV L K)))) (provedAny_c hl ht1 hg hl6 hk2) rfl rfl) (want_t g21 rfl rfl rfl) ?_
            refine og (qv_eql rfl rfl) (want_t g21 rfl rfl rfl) ?_
            refine oq (qv_pick_t g21 rfl (rfl : ev _ _ = (.bool (decide ((pvE L K T1 (anV L K)) = 0))))) ?_
            refine oq (qv_mv (.bool (decide ((pvE L K T1 (anV L K)) = 0))) rfl) ?_
            by_cases g22 : (pvE L K T1 (anV L K)) = 0
            ·
             refine og (qv_mv l rfl) (want_t g22 rfl rfl rfl) ?_
             refine og (qv_mv (Value.int .i64 K) rfl) (want_t g22 rfl rfl rfl) ?_
             refine og (qv_mv tt rfl) (want_t g22 rfl rfl rfl) ?_
             refine og (qv_mv (.int .i64 (anV L K)) rfl) (want_t g22 rfl rfl rfl) ?_
             refine og (qv_call (v := (.int .i64 (paE L K T1 (anV L K)))) (ProveAny_c hl ht1 hl6) rfl rfl) (want_t g22 rfl rfl rfl) ?_
             refine og (qv_eql rfl rfl) (want_t g22 rfl rfl rfl) ?_
             refine oq (qv_pick_t g22 rfl (rfl : ev _ _ = (.bool (decide ((paE L K T1 (anV L K)) = 0))))) ?_
             refine oq (qv_as (.bool (decide ((paE L K T1 (anV L K)) = 0))) rfl) ?_
             refine ops_nil ?_
             refine vc_ret ?_
             exact rq1 (Value.bool true) (congrArg Value.bool (decide_eq_true (show ((paE L K T1 (anV L K)) = 0) from by first | omega | rfl | assumption))) rfl
            ·
             exact absurd q4 g22
           ·
            refine os (want_tn g21 rfl rfl rfl) ?_
            refine os (want_tn g21 rfl rfl rfl) ?_
            refine os (want_tn g21 rfl rfl rfl) ?_
            refine os (want_tn g21 rfl rfl rfl) ?_
            refine os (want_tn g21 rfl rfl rfl) ?_
            refine os (want_tn g21 rfl rfl rfl) ?_
            refine oq (qv_pick_f g21 rfl (rfl : ev _ _ = (Value.bool false))) ?_
            refine oq (qv_mv (Value.bool false) rfl) ?_
            refine os (want_tnc rfl rfl rfl) ?_
            refine os (want_tnc rfl rfl rfl) ?_
            refine os (want_tnc rfl rfl rfl) ?_
            refine os (want_tnc rfl rfl rfl) ?_
            refine os (want_tnc rfl rfl rfl) ?_
            refine os (want_tnc rfl rfl rfl) ?_
            refine oq (qv_pick_fc rfl (rfl : ev _ _ = (Value.bool false))) ?_
            refine oq (qv_as (Value.bool false) rfl) ?_
            refine ops_nil ?_
            refine vc_ret ?_
            exact rq1 (Value.bool true) (by first | rfl | (first | omega | rfl | assumption)) rfl
          ·
           exact absurd hF1.symm g20
         ·
          exact absurd hb1.symm g19
        ·
         exact absurd hoe g18
  ·
   refine os (want_tn g1 rfl rfl rfl) ?_
   refine os (want_tn g1 rfl rfl rfl) ?_
   refine os (want_tn g1 rfl rfl rfl) ?_
   refine oq (qv_pick_f g1 rfl (rfl : ev _ _ = (Value.bool false))) ?_
   refine ops_nil ?_
   refine vc_ff rfl ?_
   refine vc_skip ?_
   refine vc_seq ?_
   refine vc_seq ?_
   refine vc_region ?_
   refine oq (qv_mv (.int .i64 (chk L)) rfl) ?_
   refine oq (qv_eql rfl rfl) ?_
   refine oq (qv_mv (.bool (decide ((chk L) = 0))) rfl) ?_
   refine os (want_tn g1 rfl rfl rfl) ?_
   refine os (want_tn g1 rfl rfl rfl) ?_
   refine os (want_tn g1 rfl rfl rfl) ?_
   refine os (want_u rfl rfl rfl) ?_
   refine os (want_u rfl rfl rfl) ?_
   refine os (want_tn g1 rfl rfl rfl) ?_
   refine oq (qv_pick_f g1 rfl (rfl : ev _ _ = (Value.bool false))) ?_
   refine ops_nil ?_
   refine vc_ff rfl ?_
   refine vc_skip ?_
   refine vc_seq ?_
   refine vc_seq ?_
   refine vc_region ?_
   refine oq (qv_mv (.int .i64 (chk L)) rfl) ?_
   refine oq (qv_eql rfl rfl) ?_
   refine oq (qv_mv (.bool (decide ((chk L) = 0))) rfl) ?_
   refine os (want_tn g1 rfl rfl rfl) ?_
   refine os (want_tn g1 rfl rfl rfl) ?_
   refine os (want_tn g1 rfl rfl rfl) ?_
   refine oq (qv_pick_f g1 rfl (rfl : ev _ _ = (Value.bool false))) ?_
   refine ops_nil ?_
   refine vc_ff rfl ?_
   refine vc_skip ?_
   refine vc_seq ?_
   have h6 : anE L K = 0 → L.length ≤ 6 := fun q => by
     by_cases c : chk L = 0
     · omega
     · rw [anE1 c] at q; exact absurd q c
   refine vc_region ?_
   refine oq (qv_mv l rfl) ?_
   refine oq (qv_mv (Value.int .i64 K) rfl) ?_
   refine ops_call (σa := []) (σr := []) (Any_c (k := K) hl h6) rfl rfl (.refl _) (fun r6 V6 sg6 hV6 hp6 => ?_)
   obtain ⟨rfl, gg, G1, tt, T1, rfl, hg1, ht1, hok⟩ := hp6
   have hl := hl.mono hV6
   refine oq (qv_mv (.tuple #[gg, (.int .i64 (anV L K)), tt, (.int .i64 (anE L K))]) rfl) ?_
   refine oq (qv_ext gg rfl rfl) ?_
   refine oq (qv_ext (.int .i64 (anV L K)) rfl rfl) ?_
   refine oq (qv_ext tt rfl rfl) ?_
   refine oq (qv_ext (.int .i64 (anE L K)) rfl rfl) ?_
   refine oq (qv_as gg rfl) ?_
   refine oq (qv_as (.int .i64 (anV L K)) rfl) ?_
   refine oq (qv_as tt rfl) ?_
   refine oq (qv_as (.int .i64 (anE L K)) rfl) ?_
   refine ops_nil ?_
   refine vc_seq ?_
   refine vc_seq ?_
   refine vc_region ?_
   refine oq (qv_mv (.int .i64 (chk L)) rfl) ?_
   refine oq (qv_neq rfl rfl) ?_
   refine ops_nil ?_
   refine vc_if rfl (fun c9 => ?_) (fun c9 => ?_)
   ·
    refine vc_seq ?_
    have hoe := anE1 (k := K) (show chk L ≠ 0 by omega)
    obtain ⟨b1, b3⟩ := hok.bad (show anE L K ≠ 0 by omega)
    have b2 := anVn (show anE L K ≠ 0 by omega)
    have b4 : G1.length = 0 := by rw [b1]; rfl
    have b5 : T1.length = 0 := by rw [b3]; rfl
    refine vc_region ?_
    refine oq (qv_mv (.int .i64 (anE L K)) rfl) ?_
    refine oq (qv_mv (.int .i64 (chk L)) rfl) ?_
    refine oq (qv_eql rfl rfl) ?_
    refine oq (qv_mv (.bool (decide ((anE L K) = (chk L)))) rfl) ?_
    by_cases g23 : (anE L K) = (chk L)
    ·
     refine og (qv_mv (.int .i64 (anV L K)) rfl) (want_t g23 rfl rfl rfl) ?_
     refine og (qv_eql rfl rfl) (want_t g23 rfl rfl rfl) ?_
     refine oq (qv_pick_t g23 rfl (rfl : ev _ _ = (.bool (decide ((anV L K) = 0))))) ?_
     refine oq (qv_mv (.bool (decide ((anV L K) = 0))) rfl) ?_
     by_cases g24 : (anV L K) = 0
     ·
      refine og (qv_mv gg rfl) (want_t g24 rfl rfl rfl) ?_
      refine og (qv_lenI Try.underlying30 rfl hg1) (want_t g24 rfl rfl rfl) ?_
      refine og (qv_eql rfl rfl) (want_t g24 rfl rfl rfl) ?_
      refine oq (qv_pick_t g24 rfl (rfl : ev _ _ = (.bool (decide (((G1.length : Int)) = 0))))) ?_
      refine oq (qv_mv (.bool (decide (((G1.length : Int)) = 0))) rfl) ?_
      by_cases g25 : ((G1.length : Int)) = 0
      ·
       refine og (qv_mv tt rfl) (want_t g25 rfl rfl rfl) ?_
       refine og (qv_lenSS Try.underlying46 rfl ht1) (want_t g25 rfl rfl rfl) ?_
       refine og (qv_eql rfl rfl) (want_t g25 rfl rfl rfl) ?_
       refine oq (qv_pick_t g25 rfl (rfl : ev _ _ = (.bool (decide (((T1.length : Int)) = 0))))) ?_
       refine oq (qv_as (.bool (decide (((T1.length : Int)) = 0))) rfl) ?_
       refine ops_nil ?_
       refine vc_ret ?_
       exact rq1 (Value.bool true) (congrArg Value.bool (decide_eq_true (show (((T1.length : Int)) = 0) from by first | omega | rfl | assumption))) rfl
      ·
       refine os (want_tn g25 rfl rfl rfl) ?_
       refine os (want_tn g25 rfl rfl rfl) ?_
       refine os (want_tn g25 rfl rfl rfl) ?_
       refine oq (qv_pick_f g25 rfl (rfl : ev _ _ = (Value.bool false))) ?_
       refine oq (qv_as (Value.bool false) rfl) ?_
       refine ops_nil ?_
       refine vc_ret ?_
       exact rq1 (Value.bool true) (by first | rfl | (first | omega | rfl | assumption)) rfl
     ·
      exact absurd b2 g24
    ·
     exact absurd hoe g23
   ·
    refine vc_skip ?_
    refine vc_seq ?_
    have hch : chk L = 0 := by omega
    have hk2 : 1 ≤ K ∧ K ≤ 32 := by omega
    have hoe := anE0 (k := K) hch (by omega) hk2
    have hg := good_of_chk hch
    have hl6 := h6 hoe
    obtain ⟨q1, q2, q3, q4, q5⟩ := hok.good hoe
    have q6 := anV0 hoe
    refine vc_region ?_
    refine oq (qv_mv l rfl) ?_
    refine oq (qv_mv (Value.int .i64 K) rfl) ?_
    refine ops_call (σa := []) (σr := []) (by have h := least_c (k := K) (o := False) hl hg (by omega); rw [dec_false] at h; exact h) rfl rfl (.refl _) (fun r7 V7 sg7 hV7 hp7 => ?_)
    obtain ⟨rfl, bst, fv, F, rfl, hfv, hB⟩ := hp7
    have hl := hl.mono hV7
    have hg1 := hg1.mono hV7
    have ht1 := ht1.mono hV7
    refine oq (qv_mv (.tuple #[(Value.int .i64 bst), fv]) rfl) ?_
    refine oq (qv_ext (Value.int .i64 bst) rfl rfl) ?_
    refine oq (qv_ext fv rfl rfl) ?_
    refine oq (qv_as (Value.int .i64 bst) rfl) ?_
    refine oq (qv_as fv rfl) ?_
    refine ops_nil ?_
    refine vc_seq ?_
    obtain ⟨hb1, hF1⟩ := best_any hg hl6 hk2.1 hB (fun _ _ => trivial)
    rw [← q6] at q4 q5 hb1
    rw [← q1] at hF1
    refine vc_region ?_
    refine oq (qv_mv (.int .i64 (anE L K)) rfl) ?_
    refine oq (qv_eql rfl rfl) ?_
    refine oq (qv_mv (.bool (decide ((anE L K) = 0))) rfl) ?_
    by_cases g26 : (anE L K) = 0
    ·
     refine og (qv_mv (.int .i64 (anV L K)) rfl) (want_t g26 rfl rfl rfl) ?_
     refine og (qv_mv (Value.int .i64 bst) rfl) (want_t g26 rfl rfl rfl) ?_
     refine og (qv_eql rfl rfl) (want_t g26 rfl rfl rfl) ?_
     refine oq (qv_pick_t g26 rfl (rfl : ev _ _ = (.bool (decide ((anV L K) = bst))))) ?_
     refine oq (qv_mv (.bool (decide ((anV L K) = bst))) rfl) ?_
     by_cases g27 : (anV L K) = bst
     ·
      refine og (qv_mv gg rfl) (want_t g27 rfl rfl rfl) ?_
      refine og (qv_mv fv rfl) (want_t g27 rfl rfl rfl) ?_
      refine og (qv_call (v := (.bool (decide (G1 = F)))) (Equal_c hg1 hfv) rfl rfl) (want_t g27 rfl rfl rfl) ?_
      refine oq (qv_pick_t g27 rfl (rfl : ev _ _ = (.bool (decide (G1 = F))))) ?_
      refine oq (qv_mv (.bool (decide (G1 = F))) rfl) ?_
      by_cases g28 : G1 = F
      ·
       refine og (qv_mv tt rfl) (want_t g28 rfl rfl rfl) ?_
       refine og (qv_lenSS Try.underlying46 rfl ht1) (want_t g28 rfl rfl rfl) ?_
       refine og (qv_leq rfl rfl) (want_t g28 rfl rfl rfl) ?_
       refine oq (qv_pick_t g28 rfl (rfl : ev _ _ = (.bool (decide (((T1.length : Int)) ≤ 4096))))) ?_
       refine oq (qv_mv (.bool (decide (((T1.length : Int)) ≤ 4096))) rfl) ?_
       by_cases g29 : ((T1.length : Int)) ≤ 4096
       ·
        refine og (qv_mv l rfl) (want_t g29 rfl rfl rfl) ?_
        refine og (qv_mv (Value.int .i64 K) rfl) (want_t g29 rfl rfl rfl) ?_
        refine og (qv_mv tt rfl) (want_t g29 rfl rfl rfl) ?_
        refine og (qv_mv (.int .i64 (anV L K)) rfl) (want_t g29 rfl rfl rfl) ?_
        refine og (qv_call (v := (.int .i64 (pvE L K T1 (anV L K)))) (provedAny_c hl ht1 hg hl6 hk2) rfl rfl) (want_t g29 rfl rfl rfl) ?_
        refine og (qv_eql rfl rfl) (want_t g29 rfl rfl rfl) ?_
        refine oq (qv_pick_t g29 rfl (rfl : ev _ _ = (.bool (decide ((pvE L K T1 (anV L K)) = 0))))) ?_
        refine oq (qv_mv (.bool (decide ((pvE L K T1 (anV L K)) = 0))) rfl) ?_
        by_cases g30 : (pvE L K T1 (anV L K)) = 0
        ·
         refine og (qv_mv l rfl) (want_t g30 rfl rfl rfl) ?_
         refine og (qv_mv (Value.int .i64 K) rfl) (want_t g30 rfl rfl rfl) ?_
         refine og (qv_mv tt rfl) (want_t g30 rfl rfl rfl) ?_
         refine og (qv_mv (.int .i64 (anV L K)) rfl) (want_t g30 rfl rfl rfl) ?_
         refine og (qv_call (v := (.int .i64 (paE L K T1 (anV L K)))) (ProveAny_c hl ht1 hl6) rfl rfl) (want_t g30 rfl rfl rfl) ?_
         refine og (qv_eql rfl rfl) (want_t g30 rfl rfl rfl) ?_
         refine oq (qv_pick_t g30 rfl (rfl : ev _ _ = (.bool (decide ((paE L K T1 (anV L K)) = 0))))) ?_
         refine oq (qv_as (.bool (decide ((paE L K T1 (anV L K)) = 0))) rfl) ?_
         refine ops_nil ?_
         refine vc_ret ?_
         exact rq1 (Value.bool true) (congrArg Value.bool (decide_eq_true (show ((paE L K T1 (anV L K)) = 0) from by first | omega | rfl | assumption))) rfl
        ·
         exact absurd q4 g30
       ·
        refine os (want_tn g29 rfl rfl rfl) ?_
        refine os (want_tn g29 rfl rfl rfl) ?_
        refine os (want_tn g29 rfl rfl rfl) ?_
        refine os (want_tn g29 rfl rfl rfl) ?_
        refine os (want_tn g29 rfl rfl rfl) ?_
        refine os (want_tn g29 rfl rfl rfl) ?_
        refine oq (qv_pick_f g29 rfl (rfl : ev _ _ = (Value.bool false))) ?_
        refine oq (qv_mv (Value.bool false) rfl) ?_
        refine os (want_tnc rfl rfl rfl) ?_
        refine os (want_tnc rfl rfl rfl) ?_
        refine os (want_tnc rfl rfl rfl) ?_
        refine os (want_tnc rfl rfl rfl) ?_
        refine os (want_tnc rfl rfl rfl) ?_
        refine os (want_tnc rfl rfl rfl) ?_
        refine oq (qv_pick_fc rfl (rfl : ev _ _ = (Value.bool false))) ?_
        refine oq (qv_as (Value.bool false) rfl) ?_
        refine ops_nil ?_
        refine vc_ret ?_
        exact rq1 (Value.bool true) (by first | rfl | (first | omega | rfl | assumption)) rfl
      ·
       exact absurd hF1.symm g28
     ·
      exact absurd hb1.symm g27
    ·
     exact absurd hoe g26

end Go.Proofs.Ytmkbjhligjnagaa
