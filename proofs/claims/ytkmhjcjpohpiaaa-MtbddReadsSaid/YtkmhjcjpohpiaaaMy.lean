/- Walks of mtbdd: what each function returns. Printed by a program out of notes. -/
import Derived.Test.YtkmhjcjpohpiaaaMt
namespace Go.Proofs.Ytkmhjcjpohpiaaa
open Go.Vc
open Classical

set_option maxRecDepth 100000 in
set_option maxHeartbeats 4000000 in
theorem Reads_c {V : HV} {la na : Value} {A : Mg} (hA : Mt V la na A) {X : List Bool} {xv : Value} (hX : Bls V xv X) :
    FnC Try.prog 4 [(.agg #[(.int .i64 A.v), la, na, (.int .i64 A.r)]), xv] V [] (fun v _ _ => v = (Value.bool true)) := by
 refine fn_intro (N := 102) Try.func4 (by kernel_rfl) rfl rfl rfl (Nat.le_of_ble_eq_true rfl) ?_
 intro w0 D
 have hbl := Ints.bound hA.l
 have hbn := SlS.bound hA.n
 have hb2 := hX.bound
 refine vc_seq ?_
 refine vc_region ?_
 refine ops_box (v := (.agg #[(.int .i64 A.v), la, na, (.int .i64 A.r)])) (cs := [(.int .i64 A.v), la, na, (.int .i64 A.r)]) rfl rfl (fun b1 => ?_)
 refine oq (qv_as (Value.bool false) rfl) ?_
 refine ops_nil ?_
 refine vc_seq ?_
 refine vc_seq ?_
 refine vc_res (σ' := [(Arr 25 b1 [(.int .i64 A.v), la, na, (.int .i64 A.r)])]) rfl ?_
 refine vc_region ?_
 refine oq (qv_call (v := (Value.bool true)) (known_c) rfl rfl) ?_
 refine oq (qv_notc rfl) ?_
 refine ops_nil ?_
 refine vc_ff rfl ?_
 refine vc_skip ?_
 refine vc_seq ?_
 refine vc_seq ?_
 refine vc_region ?_
 refine oq (qv_ldm (vs := [(.int .i64 A.v), la, na, (.int .i64 A.r)]) Try.agg25 rfl (inOc (k := 0) rfl) rfl rfl) ?_
 refine oq (qv_call (v := (.bool (decide (fewP A)))) (few_c hA) rfl rfl) ?_
 refine oq (qv_not rfl) ?_
 refine oq (qv_mv (.bool (decide (¬ (fewP A)))) rfl) ?_
 by_cases g1 : ¬ (fewP A)
 ·
  refine os (want_fn g1 rfl rfl rfl) ?_
  refine os (want_fn g1 rfl rfl rfl) ?_
  refine os (want_fn g1 rfl rfl rfl) ?_
  refine oq (qv_pick_t g1 rfl (rfl : ev _ _ = (Value.bool true))) ?_
  refine ops_nil ?_
  refine vc_tt rfl ?_
  refine vc_seq ?_
  refine vc_region ?_
  refine oq (qv_as (Value.bool true) rfl) ?_
  refine ops_nil ?_
  refine vc_ret ?_
  exact rq1 (Value.bool true) rfl rfl
 ·
  refine og (qv_mv xv rfl) (want_f g1 rfl rfl rfl) ?_
  refine og (qv_lenB Try.underlying30 rfl hX) (want_f g1 rfl rfl rfl) ?_
  refine og (qv_gtr rfl rfl) (want_f g1 rfl rfl rfl) ?_
  refine oq (qv_pick_f g1 rfl (rfl : ev _ _ = (.bool (decide (60 < ((X.length : Int))))))) ?_
  refine ops_nil ?_
  refine vc_if rfl (fun c1 => ?_) (fun c1 => ?_)
  ·
   refine vc_seq ?_
   refine vc_region ?_
   refine oq (qv_as (Value.bool true) rfl) ?_
   refine ops_nil ?_
   refine vc_ret ?_
   exact rq1 (Value.bool true) rfl rfl
  ·
   refine vc_skip ?_
   refine vc_seq ?_
   refine vc_region ?_
   refine oq (qv_ldm (vs := [(.int .i64 A.v), la, na, (.int .i64 A.r)]) Try.agg25 rfl (inOc (k := 0) rfl) rfl rfl) ?_
   refine oq (qv_mv xv rfl) ?_
   refine ops_call (σa := []) (σr := [(Arr 25 b1 [(.int .i64 A.v), la, na, (.int .i64 A.r)])]) (Eval_c (A := A) (X := X) hA hX) rfl rfl (.refl _) (fun r1 V1 sg1 hV1 hp1 => ?_)
   obtain ⟨rfl, rfl⟩ := hp1
   have hA := hA.mono hV1
   have hX := hX.mono hV1
   refine oq (qv_mv (.tuple #[(.int .i64 (evV (A) X)), (.int .i64 (evE (A) X))]) rfl) ?_
   refine oq (qv_ext (.int .i64 (evV (A) X)) rfl rfl) ?_
   refine oq (qv_ext (.int .i64 (evE (A) X)) rfl rfl) ?_
   refine oq (qv_as (.int .i64 (evV (A) X)) rfl) ?_
   refine oq (qv_as (.int .i64 (evE (A) X)) rfl) ?_
   refine ops_nil ?_
   refine vc_seq ?_
   refine vc_block ?_
   refine vc_seq ?_
   refine vc_region ?_
   refine oq (qv_ldm (vs := [(.int .i64 A.v), la, na, (.int .i64 A.r)]) Try.agg25 rfl (inOc (k := 0) rfl) rfl rfl) ?_
   refine oq (qv_call (v := (.int .i64 (chkC A))) (check_c hA) rfl rfl) ?_
   refine oq (qv_neq rfl rfl) ?_
   refine oq (qv_as (.bool (decide ((chkC A) ≠ 0))) rfl) ?_
   refine ops_nil ?_
   refine vc_if rfl (fun c2 => ?_) (fun c2 => ?_)
   ·
    refine vc_seq ?_
    have hn : ¬ Ok A := fun q => absurd (chk_0 q) (by assumption)
    have hev := (ev_1 (X := X) hn).2
    have hee := (ev_1 (X := X) hn).1
    refine vc_region ?_
    refine oq (qv_mv (.int .i64 (evV (A) X)) rfl) ?_
    refine oq (qv_neq rfl rfl) ?_
    refine oq (qv_mv (.bool (decide ((evV (A) X) ≠ 0))) rfl) ?_
    by_cases g2 : (evV (A) X) ≠ 0
    ·
     exact absurd hev g2
    ·
     refine og (qv_mv (.int .i64 (evE (A) X)) rfl) (want_f g2 rfl rfl rfl) ?_
     refine og (qv_neq rfl rfl) (want_f g2 rfl rfl rfl) ?_
     refine oq (qv_pick_f g2 rfl (rfl : ev _ _ = (.bool (decide ((evE (A) X) ≠ 1))))) ?_
     refine ops_nil ?_
     refine vc_if rfl (fun c3 => ?_) (fun c3 => ?_)
     ·
      exact absurd hee c3
     ·
      refine vc_skip ?_
      refine vc_seq ?_
      refine vc_seq ?_
      refine vc_region ?_
      refine oq (qv_ldm (vs := [(.int .i64 A.v), la, na, (.int .i64 A.r)]) Try.agg25 rfl (inOc (k := 0) rfl) rfl rfl) ?_
      refine oq (qv_call (v := (.int .i64 (chkC A))) (check_c hA) rfl rfl) ?_
      refine oq (qv_eql rfl rfl) ?_
      refine oq (qv_mv (.bool (decide ((chkC A) = 0))) rfl) ?_
      by_cases g3 : (chkC A) = 0
      ·
       refine og (qv_fa (off := 0) Try.field25_0 rfl) (want_t g3 rfl rfl rfl) ?_
       refine og (qv_ldp (v := (.int .i64 A.v)) Try.plain3 rfl (inOc (k := 0) rfl) rfl) (want_t g3 rfl rfl rfl) ?_
       refine og (qv_gtr rfl rfl) (want_t g3 rfl rfl rfl) ?_
       refine oq (qv_pick_t g3 rfl (rfl : ev _ _ = (.bool (decide (8 < A.v))))) ?_
       refine oq (qv_mv (.bool (decide (8 < A.v))) rfl) ?_
       by_cases g4 : 8 < A.v
       ·
        refine og (qv_fa (off := 0) Try.field25_0 rfl) (want_t g4 rfl rfl rfl) ?_
        refine og (qv_ldp (v := (.int .i64 A.v)) Try.plain3 rfl (inOc (k := 0) rfl) rfl) (want_t g4 rfl rfl rfl) ?_
        refine og (qv_leq rfl rfl) (want_t g4 rfl rfl rfl) ?_
        refine oq (qv_pick_t g4 rfl (rfl : ev _ _ = (.bool (decide (A.v ≤ 12))))) ?_
        refine ops_nil ?_
        refine vc_if rfl (fun c4 => ?_) (fun c4 => ?_)
        ·
         refine vc_seq ?_
         refine vc_region ?_
         refine oq (qv_as (Value.bool true) rfl) ?_
         refine ops_nil ?_
         refine vc_ret ?_
         exact rq1 (Value.bool true) rfl rfl
        ·
         refine vc_skip ?_
         refine vc_seq ?_
         refine vc_region ?_
         refine oq (qv_ldm (vs := [(.int .i64 A.v), la, na, (.int .i64 A.r)]) Try.agg25 rfl (inOc (k := 0) rfl) rfl rfl) ?_
         refine ops_call (σa := []) (σr := [(Arr 25 b1 [(.int .i64 A.v), la, na, (.int .i64 A.r)])]) (Table_c (A := A) hA) rfl rfl (.refl _) (fun r2 V2 sg2 hV2 hp2 => ?_)
         obtain ⟨rfl, u1, rfl, hT⟩ := hp2
         have hA := hA.mono hV2
         have hX := hX.mono hV2
         refine oq (qv_mv (.tuple #[u1, (.int .i64 (tbE (A)))]) rfl) ?_
         refine oq (qv_ext u1 rfl rfl) ?_
         refine oq (qv_ext (.int .i64 (tbE (A))) rfl rfl) ?_
         refine oq (qv_as u1 rfl) ?_
         refine oq (qv_as (.int .i64 (tbE (A))) rfl) ?_
         refine ops_nil ?_
         refine vc_seq ?_
         refine vc_seq ?_
         refine vc_region ?_
         refine oq (qv_ldm (vs := [(.int .i64 A.v), la, na, (.int .i64 A.r)]) Try.agg25 rfl (inOc (k := 0) rfl) rfl rfl) ?_
         refine oq (qv_call (v := (.int .i64 (chkC A))) (check_c hA) rfl rfl) ?_
         refine oq (qv_neq rfl rfl) ?_
         refine ops_nil ?_
         refine vc_if_t rfl c2 ?_
         refine vc_seq ?_
         have hn : ¬ Ok A := fun q => absurd (chk_0 q) (by assumption)
         have htl := (tb_1 hn).2
         have hte := (tb_1 hn).1
         have htz : ((tbL A).length : Int) = 0 := by rw [htl]; rfl
         refine vc_region ?_
         refine oq (qv_mv u1 rfl) ?_
         refine oq (qv_lenI Try.underlying22 rfl hT) ?_
         refine oq (qv_eql rfl rfl) ?_
         refine oq (qv_mv (.bool (decide (((((tbL A)).length : Int)) = 0))) rfl) ?_
         by_cases g5 : ((((tbL A)).length : Int)) = 0
         ·
          refine og (qv_mv (.int .i64 (tbE (A))) rfl) (want_t g5 rfl rfl rfl) ?_
          refine og (qv_eql rfl rfl) (want_t g5 rfl rfl rfl) ?_
          refine oq (qv_pick_t g5 rfl (rfl : ev _ _ = (.bool (decide ((tbE (A)) = 1))))) ?_
          refine oq (qv_as (.bool (decide ((tbE (A)) = 1))) rfl) ?_
          refine ops_nil ?_
          refine vc_ret ?_
          exact rq1 (Value.bool true) (congrArg Value.bool (decide_eq_true (show ((tbE (A)) = 1) from by first | exact hte | exact htl))) rfl
         ·
          exact absurd (htz) g5
       ·
        refine os (want_tn g4 rfl rfl rfl) ?_
        refine os (want_tn g4 rfl rfl rfl) ?_
        refine os (want_tn g4 rfl rfl rfl) ?_
        refine oq (qv_pick_f g4 rfl (rfl : ev _ _ = (Value.bool false))) ?_
        refine ops_nil ?_
        refine vc_ff rfl ?_
        refine vc_skip ?_
        refine vc_seq ?_
        refine vc_region ?_
        refine oq (qv_ldm (vs := [(.int .i64 A.v), la, na, (.int .i64 A.r)]) Try.agg25 rfl (inOc (k := 0) rfl) rfl rfl) ?_
        refine ops_call (σa := []) (σr := [(Arr 25 b1 [(.int .i64 A.v), la, na, (.int .i64 A.r)])]) (Table_c (A := A) hA) rfl rfl (.refl _) (fun r3 V3 sg3 hV3 hp3 => ?_)
        obtain ⟨rfl, u1, rfl, hT⟩ := hp3
        have hA := hA.mono hV3
        have hX := hX.mono hV3
        refine oq (qv_mv (.tuple #[u1, (.int .i64 (tbE (A)))]) rfl) ?_
        refine oq (qv_ext u1 rfl rfl) ?_
        refine oq (qv_ext (.int .i64 (tbE (A))) rfl rfl) ?_
        refine oq (qv_as u1 rfl) ?_
        refine oq (qv_as (.int .i64 (tbE (A))) rfl) ?_
        refine ops_nil ?_
        refine vc_seq ?_
        refine vc_seq ?_
        refine vc_region ?_
        refine oq (qv_ldm (vs := [(.int .i64 A.v), la, na, (.int .i64 A.r)]) Try.agg25 rfl (inOc (k := 0) rfl) rfl rfl) ?_
        refine oq (qv_call (v := (.int .i64 (chkC A))) (check_c hA) rfl rfl) ?_
        refine oq (qv_neq rfl rfl) ?_
        refine ops_nil ?_
        refine vc_if_t rfl c2 ?_
        refine vc_seq ?_
        have hn : ¬ Ok A := fun q => absurd (chk_0 q) (by assumption)
        have htl := (tb_1 hn).2
        have hte := (tb_1 hn).1
        have htz : ((tbL A).length : Int) = 0 := by rw [htl]; rfl
        refine vc_region ?_
        refine oq (qv_mv u1 rfl) ?_
        refine oq (qv_lenI Try.underlying22 rfl hT) ?_
        refine oq (qv_eql rfl rfl) ?_
        refine oq (qv_mv (.bool (decide (((((tbL A)).length : Int)) = 0))) rfl) ?_
        by_cases g6 : ((((tbL A)).length : Int)) = 0
        ·
         refine og (qv_mv (.int .i64 (tbE (A))) rfl) (want_t g6 rfl rfl rfl) ?_
         refine og (qv_eql rfl rfl) (want_t g6 rfl rfl rfl) ?_
         refine oq (qv_pick_t g6 rfl (rfl : ev _ _ = (.bool (decide ((tbE (A)) = 1))))) ?_
         refine oq (qv_as (.bool (decide ((tbE (A)) = 1))) rfl) ?_
         refine ops_nil ?_
         refine vc_ret ?_
         exact rq1 (Value.bool true) (congrArg Value.bool (decide_eq_true (show ((tbE (A)) = 1) from by first | exact hte | exact htl))) rfl
        ·
         exact absurd (htz) g6
      ·
       refine os (want_tn g3 rfl rfl rfl) ?_
       refine os (want_tn g3 rfl rfl rfl) ?_
       refine os (want_tn g3 rfl rfl rfl) ?_
       refine oq (qv_pick_f g3 rfl (rfl : ev _ _ = (Value.bool false))) ?_
       refine oq (qv_mv (Value.bool false) rfl) ?_
       refine os (want_tnc rfl rfl rfl) ?_
       refine os (want_tnc rfl rfl rfl) ?_
       refine os (want_tnc rfl rfl rfl) ?_
       refine oq (qv_pick_fc rfl (rfl : ev _ _ = (Value.bool false))) ?_
       refine ops_nil ?_
       refine vc_ff rfl ?_
       refine vc_skip ?_
       refine vc_seq ?_
       refine vc_region ?_
       refine oq (qv_ldm (vs := [(.int .i64 A.v), la, na, (.int .i64 A.r)]) Try.agg25 rfl (inOc (k := 0) rfl) rfl rfl) ?_
       refine ops_call (σa := []) (σr := [(Arr 25 b1 [(.int .i64 A.v), la, na, (.int .i64 A.r)])]) (Table_c (A := A) hA) rfl rfl (.refl _) (fun r4 V4 sg4 hV4 hp4 => ?_)
       obtain ⟨rfl, u1, rfl, hT⟩ := hp4
       have hA := hA.mono hV4
       have hX := hX.mono hV4
       refine oq (qv_mv (.tuple #[u1, (.int .i64 (tbE (A)))]) rfl) ?_
       refine oq (qv_ext u1 rfl rfl) ?_
       refine oq (qv_ext (.int .i64 (tbE (A))) rfl rfl) ?_
       refine oq (qv_as u1 rfl) ?_
       refine oq (qv_as (.int .i64 (tbE (A))) rfl) ?_
       refine ops_nil ?_
       refine vc_seq ?_
       refine vc_seq ?_
       refine vc_region ?_
       refine oq (qv_ldm (vs := [(.int .i64 A.v), la, na, (.int .i64 A.r)]) Try.agg25 rfl (inOc (k := 0) rfl) rfl rfl) ?_
       refine oq (qv_call (v := (.int .i64 (chkC A))) (check_c hA) rfl rfl) ?_
       refine oq (qv_neq rfl rfl) ?_
       refine ops_nil ?_
       refine vc_if_t rfl c2 ?_
       refine vc_seq ?_
       have hn : ¬ Ok A := fun q => absurd (chk_0 q) (by assumption)
       have htl := (tb_1 hn).2
       have hte := (tb_1 hn).1
       have htz : ((tbL A).length : Int) = 0 := by rw [htl]; rfl
       refine vc_region ?_
       refine oq (qv_mv u1 rfl) ?_
       refine oq (qv_lenI Try.underlying22 rfl hT) ?_
       refine oq (qv_eql rfl rfl) ?_
       refine oq (qv_mv (.bool (decide (((((tbL A)).length : Int)) = 0))) rfl) ?_
       by_cases g7 : ((((tbL A)).length : Int)) = 0
       ·
        refine og (qv_mv (.int .i64 (tbE (A))) rfl) (want_t g7 rfl rfl rfl) ?_
        refine og (qv_eql rfl rfl) (want_t g7 rfl rfl rfl) ?_
        refine oq (qv_pick_t g7 rfl (rfl : ev _ _ = (.bool (decide ((tbE (A)) = 1))))) ?_
        refine oq (qv_as (.bool (decide ((tbE (A)) = 1))) rfl) ?_
        refine ops_nil ?_
        refine vc_ret ?_
        exact rq1 (Value.bool true) (congrArg Value.bool (decide_eq_true (show ((tbE (A)) = 1) from by first | exact hte | exact htl))) rfl
       ·
        exact absurd (htz) g7
   ·
    refine vc_seq ?_
    have hok : Ok A := chk_ok.1 (by omega)
    refine vc_region ?_
    refine oq (qv_mv xv rfl) ?_
    refine oq (qv_lenB Try.underlying30 rfl hX) ?_
    refine oq (qv_fa (off := 0) Try.field25_0 rfl) ?_
    refine oq (qv_ldp (v := (.int .i64 A.v)) Try.plain3 rfl (inOc (k := 0) rfl) rfl) ?_
    refine oq (qv_neq rfl rfl) ?_
    refine oq (qv_as (.bool (decide (((X.length : Int)) ≠ A.v))) rfl) ?_
    refine ops_nil ?_
    refine vc_if rfl (fun c5 => ?_) (fun c5 => ?_)
    ·
     refine vc_seq ?_
     have hev := (ev_2 (A := A) (X := X) hok (by omega)).2
     have hee := (ev_2 (A := A) (X := X) hok (by omega)).1
     refine vc_region ?_
     refine oq (qv_mv (.int .i64 (evV (A) X)) rfl) ?_
     refine oq (qv_neq rfl rfl) ?_
     refine oq (qv_mv (.bool (decide ((evV (A) X) ≠ 0))) rfl) ?_
     by_cases g8 : (evV (A) X) ≠ 0
     ·
      exact absurd hev g8
     ·
      refine og (qv_mv (.int .i64 (evE (A) X)) rfl) (want_f g8 rfl rfl rfl) ?_
      refine og (qv_neq rfl rfl) (want_f g8 rfl rfl rfl) ?_
      refine oq (qv_pick_f g8 rfl (rfl : ev _ _ = (.bool (decide ((evE (A) X) ≠ 2))))) ?_
      refine ops_nil ?_
      refine vc_if rfl (fun c6 => ?_) (fun c6 => ?_)
      ·
       exact absurd hee c6
      ·
       refine vc_skip ?_
       refine vc_seq ?_
       refine vc_seq ?_
       refine vc_region ?_
       refine oq (qv_ldm (vs := [(.int .i64 A.v), la, na, (.int .i64 A.r)]) Try.agg25 rfl (inOc (k := 0) rfl) rfl rfl) ?_
       refine oq (qv_call (v := (.int .i64 (chkC A))) (check_c hA) rfl rfl) ?_
       refine oq (qv_eql rfl rfl) ?_
       refine oq (qv_mv (.bool (decide ((chkC A) = 0))) rfl) ?_
       by_cases g9 : (chkC A) = 0
       ·
        refine og (qv_fa (off := 0) Try.field25_0 rfl) (want_t g9 rfl rfl rfl) ?_
        refine og (qv_ldp (v := (.int .i64 A.v)) Try.plain3 rfl (inOc (k := 0) rfl) rfl) (want_t g9 rfl rfl rfl) ?_
        refine og (qv_gtr rfl rfl) (want_t g9 rfl rfl rfl) ?_
        refine oq (qv_pick_t g9 rfl (rfl : ev _ _ = (.bool (decide (8 < A.v))))) ?_
        refine oq (qv_mv (.bool (decide (8 < A.v))) rfl) ?_
        by_cases g10 : 8 < A.v
        ·
         refine og (qv_fa (off := 0) Try.field25_0 rfl) (want_t g10 rfl rfl rfl) ?_
         refine og (qv_ldp (v := (.int .i64 A.v)) Try.plain3 rfl (inOc (k := 0) rfl) rfl) (want_t g10 rfl rfl rfl) ?_
         refine og (qv_leq rfl rfl) (want_t g10 rfl rfl rfl) ?_
         refine oq (qv_pick_t g10 rfl (rfl : ev _ _ = (.bool (decide (A.v ≤ 12))))) ?_
         refine ops_nil ?_
         refine vc_if rfl (fun c7 => ?_) (fun c7 => ?_)
         ·
          refine vc_seq ?_
          refine vc_region ?_
          refine oq (qv_as (Value.bool true) rfl) ?_
          refine ops_nil ?_
          refine vc_ret ?_
          exact rq1 (Value.bool true) rfl rfl
         ·
          refine vc_skip ?_
          refine vc_seq ?_
          refine vc_region ?_
          refine oq (qv_ldm (vs := [(.int .i64 A.v), la, na, (.int .i64 A.r)]) Try.agg25 rfl (inOc (k := 0) rfl) rfl rfl) ?_
          refine ops_call (σa := []) (σr := [(Arr 25 b1 [(.int .i64 A.v), la, na, (.int .i64 A.r)])]) (Table_c (A := A) hA) rfl rfl (.refl _) (fun r5 V5 sg5 hV5 hp5 => ?_)
          obtain ⟨rfl, u1, rfl, hT⟩ := hp5
          have hA := hA.mono hV5
          have hX := hX.mono hV5
          refine oq (qv_mv (.tuple #[u1, (.int .i64 (tbE (A)))]) rfl) ?_
          refine oq (qv_ext u1 rfl rfl) ?_
          refine oq (qv_ext (.int .i64 (tbE (A))) rfl rfl) ?_
          refine oq (qv_as u1 rfl) ?_
          refine oq (qv_as (.int .i64 (tbE (A))) rfl) ?_
          refine ops_nil ?_
          refine vc_seq ?_
          refine vc_seq ?_
          refine vc_region ?_
          refine oq (qv_ldm (vs := [(.int .i64 A.v), la, na, (.int .i64 A.r)]) Try.agg25 rfl (inOc (k := 0) rfl) rfl rfl) ?_
          refine oq (qv_call (v := (.int .i64 (chkC A))) (check_c hA) rfl rfl) ?_
          refine oq (qv_neq rfl rfl) ?_
          refine ops_nil ?_
          refine vc_if_f rfl c2 ?_
          refine vc_skip ?_
          refine vc_seq ?_
          refine vc_seq ?_
          have hok : Ok A := chk_ok.1 (by omega)
          refine vc_region ?_
          refine oq (qv_fa (off := 0) Try.field25_0 rfl) ?_
          refine oq (qv_ldp (v := (.int .i64 A.v)) Try.plain3 rfl (inOc (k := 0) rfl) rfl) ?_
          refine oq (qv_gtr rfl rfl) ?_
          refine ops_nil ?_
          refine vc_if rfl (fun c8 => ?_) (fun c8 => ?_)
          ·
           refine vc_seq ?_
           have htl := (tb_4 hok (by omega)).2
           have hte := (tb_4 hok (by omega)).1
           have htz : ((tbL A).length : Int) = 0 := by rw [htl]; rfl
           refine vc_region ?_
           refine oq (qv_mv u1 rfl) ?_
           refine oq (qv_lenI Try.underlying22 rfl hT) ?_
           refine oq (qv_eql rfl rfl) ?_
           refine oq (qv_mv (.bool (decide (((((tbL A)).length : Int)) = 0))) rfl) ?_
           by_cases g11 : ((((tbL A)).length : Int)) = 0
           ·
            refine og (qv_mv (.int .i64 (tbE (A))) rfl) (want_t g11 rfl rfl rfl) ?_
            refine og (qv_eql rfl rfl) (want_t g11 rfl rfl rfl) ?_
            refine oq (qv_pick_t g11 rfl (rfl : ev _ _ = (.bool (decide ((tbE (A)) = 4))))) ?_
            refine oq (qv_as (.bool (decide ((tbE (A)) = 4))) rfl) ?_
            refine ops_nil ?_
            refine vc_ret ?_
            exact rq1 (Value.bool true) (congrArg Value.bool (decide_eq_true (show ((tbE (A)) = 4) from by first | exact hte | exact htl))) rfl
           ·
            exact absurd (htz) g11
          ·
           refine vc_skip ?_
           refine vc_seq ?_
           have htl := (tb_0 hok (by omega)).2
           have hte := (tb_0 hok (by omega)).1
           refine vc_region ?_
           refine oq (qv_mv (.int .i64 (tbE (A))) rfl) ?_
           refine oq (qv_eql rfl rfl) ?_
           refine oq (qv_mv (.bool (decide ((tbE (A)) = 0))) rfl) ?_
           by_cases g12 : (tbE (A)) = 0
           ·
            refine og (qv_mv u1 rfl) (want_t g12 rfl rfl rfl) ?_
            refine og (qv_ldm (vs := [(.int .i64 A.v), la, na, (.int .i64 A.r)]) Try.agg25 rfl (inOc (k := 0) rfl) rfl rfl) (want_t g12 rfl rfl rfl) ?_
            refine ops_want (want_t g12 rfl rfl rfl) ?_
            refine ops_call (σa := []) (σr := [(Arr 25 b1 [(.int .i64 A.v), la, na, (.int .i64 A.r)])]) (table_c (A := A) hA hok (by omega)) rfl rfl (.refl _) (fun r6 V6 sg6 hV6 hp6 => ?_)
            obtain ⟨rfl, hRr6⟩ := hp6
            have hA := hA.mono hV6
            have hX := hX.mono hV6
            have hT := hT.mono hV6
            refine og (qv_call (v := (.bool (decide (tbL A = vT A)))) (by have h := EqI_c hT hRr6; rw [htl] at h ⊢; exact h) rfl rfl) (want_t g12 rfl rfl rfl) ?_
            refine oq (qv_pick_t g12 rfl (rfl : ev _ _ = (.bool (decide (tbL A = vT A))))) ?_
            refine oq (qv_as (.bool (decide (tbL A = vT A))) rfl) ?_
            refine ops_nil ?_
            refine vc_ret ?_
            exact rq1 (Value.bool true) (congrArg Value.bool (decide_eq_true (show (tbL A = vT A) from by first | exact hte | exact htl))) rfl
           ·
            exact absurd (hte) g12
        ·
         refine os (want_tn g10 rfl rfl rfl) ?_
         refine os (want_tn g10 rfl rfl rfl) ?_
         refine os (want_tn g10 rfl rfl rfl) ?_
         refine oq (qv_pick_f g10 rfl (rfl : ev _ _ = (Value.bool false))) ?_
         refine ops_nil ?_
         refine vc_ff rfl ?_
         refine vc_skip ?_
         refine vc_seq ?_
         refine vc_region ?_
         refine oq (qv_ldm (vs := [(.int .i64 A.v), la, na, (.int .i64 A.r)]) Try.agg25 rfl (inOc (k := 0) rfl) rfl rfl) ?_
         refine ops_call (σa := []) (σr := [(Arr 25 b1 [(.int .i64 A.v), la, na, (.int .i64 A.r)])]) (Table_c (A := A) hA) rfl rfl (.refl _) (fun r7 V7 sg7 hV7 hp7 => ?_)
         obtain ⟨rfl, u1, rfl, hT⟩ := hp7
         have hA := hA.mono hV7
         have hX := hX.mono hV7
         refine oq (qv_mv (.tuple #[u1, (.int .i64 (tbE (A)))]) rfl) ?_
         refine oq (qv_ext u1 rfl rfl) ?_
         refine oq (qv_ext (.int .i64 (tbE (A))) rfl rfl) ?_
         refine oq (qv_as u1 rfl) ?_
         refine oq (qv_as (.int .i64 (tbE (A))) rfl) ?_
         refine ops_nil ?_
         refine vc_seq ?_
         refine vc_seq ?_
         refine vc_region ?_
         refine oq (qv_ldm (vs := [(.int .i64 A.v), la, na, (.int .i64 A.r)]) Try.agg25 rfl (inOc (k := 0) rfl) rfl rfl) ?_
         refine oq (qv_call (v := (.int .i64 (chkC A))) (check_c hA) rfl rfl) ?_
         refine oq (qv_neq rfl rfl) ?_
         refine ops_nil ?_
         refine vc_if_f rfl c2 ?_
         refine vc_skip ?_
         refine vc_seq ?_
         refine vc_seq ?_
         have hok : Ok A := chk_ok.1 (by omega)
         refine vc_region ?_
         refine oq (qv_fa (off := 0) Try.field25_0 rfl) ?_
         refine oq (qv_ldp (v := (.int .i64 A.v)) Try.plain3 rfl (inOc (k := 0) rfl) rfl) ?_
         refine oq (qv_gtr rfl rfl) ?_
         refine ops_nil ?_
         refine vc_if rfl (fun c9 => ?_) (fun c9 => ?_)
         ·
          refine vc_seq ?_
          have htl := (tb_4 hok (by omega)).2
          have hte := (tb_4 hok (by omega)).1
          have htz : ((tbL A).length : Int) = 0 := by rw [htl]; rfl
          refine vc_region ?_
          refine oq (qv_mv u1 rfl) ?_
          refine oq (qv_lenI Try.underlying22 rfl hT) ?_
          refine oq (qv_eql rfl rfl) ?_
          refine oq (qv_mv (.bool (decide (((((tbL A)).length : Int)) = 0))) rfl) ?_
          by_cases g13 : ((((tbL A)).length : Int)) = 0
          ·
           refine og (qv_mv (.int .i64 (tbE (A))) rfl) (want_t g13 rfl rfl rfl) ?_
           refine og (qv_eql rfl rfl) (want_t g13 rfl rfl rfl) ?_
           refine oq (qv_pick_t g13 rfl (rfl : ev _ _ = (.bool (decide ((tbE (A)) = 4))))) ?_
           refine oq (qv_as (.bool (decide ((tbE (A)) = 4))) rfl) ?_
           refine ops_nil ?_
           refine vc_ret ?_
           exact rq1 (Value.bool true) (congrArg Value.bool (decide_eq_true (show ((tbE (A)) = 4) from by first | exact hte | exact htl))) rfl
          ·
           exact absurd (htz) g13
         ·
          refine vc_skip ?_
          refine vc_seq ?_
          have htl := (tb_0 hok (by omega)).2
          have hte := (tb_0 hok (by omega)).1
          refine vc_region ?_
          refine oq (qv_mv (.int .i64 (tbE (A))) rfl) ?_
          refine oq (qv_eql rfl rfl) ?_
          refine oq (qv_mv (.bool (decide ((tbE (A)) = 0))) rfl) ?_
          by_cases g14 : (tbE (A)) = 0
          ·
           refine og (qv_mv u1 rfl) (want_t g14 rfl rfl rfl) ?_
           refine og (qv_ldm (vs := [(.int .i64 A.v), la, na, (.int .i64 A.r)]) Try.agg25 rfl (inOc (k := 0) rfl) rfl rfl) (want_t g14 rfl rfl rfl) ?_
           refine ops_want (want_t g14 rfl rfl rfl) ?_
           refine ops_call (σa := []) (σr := [(Arr 25 b1 [(.int .i64 A.v), la, na, (.int .i64 A.r)])]) (table_c (A := A) hA hok (by omega)) rfl rfl (.refl _) (fun r8 V8 sg8 hV8 hp8 => ?_)
           obtain ⟨rfl, hRr8⟩ := hp8
           have hA := hA.mono hV8
           have hX := hX.mono hV8
           have hT := hT.mono hV8
           refine og (qv_call (v := (.bool (decide (tbL A = vT A)))) (by have h := EqI_c hT hRr8; rw [htl] at h ⊢; exact h) rfl rfl) (want_t g14 rfl rfl rfl) ?_
           refine oq (qv_pick_t g14 rfl (rfl : ev _ _ = (.bool (decide (tbL A = vT A))))) ?_
           refine oq (qv_as (.bool (decide (tbL A = vT A))) rfl) ?_
           refine ops_nil ?_
           refine vc_ret ?_
           exact rq1 (Value.bool true) (congrArg Value.bool (decide_eq_true (show (tbL A = vT A) from by first | exact hte | exact htl))) rfl
          ·
           exact absurd (hte) g14
       ·
        refine os (want_tn g9 rfl rfl rfl) ?_
        refine os (want_tn g9 rfl rfl rfl) ?_
        refine os (want_tn g9 rfl rfl rfl) ?_
        refine oq (qv_pick_f g9 rfl (rfl : ev _ _ = (Value.bool false))) ?_
        refine oq (qv_mv (Value.bool false) rfl) ?_
        refine os (want_tnc rfl rfl rfl) ?_
        refine os (want_tnc rfl rfl rfl) ?_
        refine os (want_tnc rfl rfl rfl) ?_
        refine oq (qv_pick_fc rfl (rfl : ev _ _ = (Value.bool false))) ?_
        refine ops_nil ?_
        refine vc_ff rfl ?_
        refine vc_skip ?_
        refine vc_seq ?_
        refine vc_region ?_
        refine oq (qv_ldm (vs := [(.int .i64 A.v), la, na, (.int .i64 A.r)]) Try.agg25 rfl (inOc (k := 0) rfl) rfl rfl) ?_
        refine ops_call (σa := []) (σr := [(Arr 25 b1 [(.int .i64 A.v), la, na, (.int .i64 A.r)])]) (Table_c (A := A) hA) rfl rfl (.refl _) (fun r9 V9 sg9 hV9 hp9 => ?_)
        obtain ⟨rfl, u1, rfl, hT⟩ := hp9
        have hA := hA.mono hV9
        have hX := hX.mono hV9
        refine oq (qv_mv (.tuple #[u1, (.int .i64 (tbE (A)))]) rfl) ?_
        refine oq (qv_ext u1 rfl rfl) ?_
        refine oq (qv_ext (.int .i64 (tbE (A))) rfl rfl) ?_
        refine oq (qv_as u1 rfl) ?_
        refine oq (qv_as (.int .i64 (tbE (A))) rfl) ?_
        refine ops_nil ?_
        refine vc_seq ?_
        refine vc_seq ?_
        refine vc_region ?_
        refine oq (qv_ldm (vs := [(.int .i64 A.v), la, na, (.int .i64 A.r)]) Try.agg25 rfl (inOc (k := 0) rfl) rfl rfl) ?_
        refine oq (qv_call (v := (.int .i64 (chkC A))) (check_c hA) rfl rfl) ?_
        refine oq (qv_neq rfl rfl) ?_
        refine ops_nil ?_
        refine vc_if_f rfl c2 ?_
        refine vc_skip ?_
        refine vc_seq ?_
        refine vc_seq ?_
        have hok : Ok A := chk_ok.1 (by omega)
        refine vc_region ?_
        refine oq (qv_fa (off := 0) Try.field25_0 rfl) ?_
        refine oq (qv_ldp (v := (.int .i64 A.v)) Try.plain3 rfl (inOc (k := 0) rfl) rfl) ?_
        refine oq (qv_gtr rfl rfl) ?_
        refine ops_nil ?_
        refine vc_if rfl (fun c10 => ?_) (fun c10 => ?_)
        ·
         refine vc_seq ?_
         have htl := (tb_4 hok (by omega)).2
         have hte := (tb_4 hok (by omega)).1
         have htz : ((tbL A).length : Int) = 0 := by rw [htl]; rfl
         refine vc_region ?_
         refine oq (qv_mv u1 rfl) ?_
         refine oq (qv_lenI Try.underlying22 rfl hT) ?_
         refine oq (qv_eql rfl rfl) ?_
         refine oq (qv_mv (.bool (decide (((((tbL A)).length : Int)) = 0))) rfl) ?_
         by_cases g15 : ((((tbL A)).length : Int)) = 0
         ·
          refine og (qv_mv (.int .i64 (tbE (A))) rfl) (want_t g15 rfl rfl rfl) ?_
          refine og (qv_eql rfl rfl) (want_t g15 rfl rfl rfl) ?_
          refine oq (qv_pick_t g15 rfl (rfl : ev _ _ = (.bool (decide ((tbE (A)) = 4))))) ?_
          refine oq (qv_as (.bool (decide ((tbE (A)) = 4))) rfl) ?_
          refine ops_nil ?_
          refine vc_ret ?_
          exact rq1 (Value.bool true) (congrArg Value.bool (decide_eq_true (show ((tbE (A)) = 4) from by first | exact hte | exact htl))) rfl
         ·
          exact absurd (htz) g15
        ·
         refine vc_skip ?_
         refine vc_seq ?_
         have htl := (tb_0 hok (by omega)).2
         have hte := (tb_0 hok (by omega)).1
         refine vc_region ?_
         refine oq (qv_mv (.int .i64 (tbE (A))) rfl) ?_
         refine oq (qv_eql rfl rfl) ?_
         refine oq (qv_mv (.bool (decide ((tbE (A)) = 0))) rfl) ?_
         by_cases g16 : (tbE (A)) = 0
         ·
          refine og (qv_mv u1 rfl) (want_t g16 rfl rfl rfl) ?_
          refine og (qv_ldm (vs := [(.int .i64 A.v), la, na, (.int .i64 A.r)]) Try.agg25 rfl (inOc (k := 0) rfl) rfl rfl) (want_t g16 rfl rfl rfl) ?_
          refine ops_want (want_t g16 rfl rfl rfl) ?_
          refine ops_call (σa := []) (σr := [(Arr 25 b1 [(.int .i64 A.v), la, na, (.int .i64 A.r)])]) (table_c (A := A) hA hok (by omega)) rfl rfl (.refl _) (fun r10 V10 sg10 hV10 hp10 => ?_)
          obtain ⟨rfl, hRr10⟩ := hp10
          have hA := hA.mono hV10
          have hX := hX.mono hV10
          have hT := hT.mono hV10
          refine og (qv_call (v := (.bool (decide (tbL A = vT A)))) (by have h := EqI_c hT hRr10; rw [htl] at h ⊢; exact h) rfl rfl) (want_t g16 rfl rfl rfl) ?_
          refine oq (qv_pick_t g16 rfl (rfl : ev _ _ = (.bool (decide (tbL A = vT A))))) ?_
          refine oq (qv_as (.bool (decide (tbL A = vT A))) rfl) ?_
          refine ops_nil ?_
          refine vc_ret ?_
          exact rq1 (Value.bool true) (congrArg Value.bool (decide_eq_true (show (tbL A = vT A) from by first | exact hte | exact htl))) rfl
         ·
          exact absurd (hte) g16
    ·
     refine vc_seq ?_
     have hev := (ev_0 (A := A) (X := X) hok (by omega)).2
     have hee := (ev_0 (A := A) (X := X) hok (by omega)).1
     refine vc_region ?_
     refine oq (qv_mv (.int .i64 (evE (A) X)) rfl) ?_
     refine oq (qv_neq rfl rfl) ?_
     refine oq (qv_mv (.bool (decide ((evE (A) X) ≠ 0))) rfl) ?_
     by_cases g17 : (evE (A) X) ≠ 0
     ·
      exact absurd hee g17
     ·
      refine og (qv_mv (.int .i64 (evV (A) X)) rfl) (want_f g17 rfl rfl rfl) ?_
      refine og (qv_ldm (vs := [(.int .i64 A.v), la, na, (.int .i64 A.r)]) Try.agg25 rfl (inOc (k := 0) rfl) rfl rfl) (want_f g17 rfl rfl rfl) ?_
      refine og (qv_mv xv rfl) (want_f g17 rfl rfl rfl) ?_
      refine og (qv_call (v := (.int .i64 (vl A (eb X)))) (valueR_c hA hX hok (by omega)) rfl rfl) (want_f g17 rfl rfl rfl) ?_
      refine og (qv_neq rfl rfl) (want_f g17 rfl rfl rfl) ?_
      refine oq (qv_pick_f g17 rfl (rfl : ev _ _ = (.bool (decide ((evV (A) X) ≠ (vl A (eb X))))))) ?_
      refine ops_nil ?_
      refine vc_if rfl (fun c11 => ?_) (fun c11 => ?_)
      ·
       exact absurd hev c11
      ·
       refine vc_skip ?_
       refine vc_seq ?_
       refine vc_seq ?_
       refine vc_region ?_
       refine oq (qv_ldm (vs := [(.int .i64 A.v), la, na, (.int .i64 A.r)]) Try.agg25 rfl (inOc (k := 0) rfl) rfl rfl) ?_
       refine oq (qv_call (v := (.int .i64 (chkC A))) (check_c hA) rfl rfl) ?_
       refine oq (qv_eql rfl rfl) ?_
       refine oq (qv_mv (.bool (decide ((chkC A) = 0))) rfl) ?_
       by_cases g18 : (chkC A) = 0
       ·
        refine og (qv_fa (off := 0) Try.field25_0 rfl) (want_t g18 rfl rfl rfl) ?_
        refine og (qv_ldp (v := (.int .i64 A.v)) Try.plain3 rfl (inOc (k := 0) rfl) rfl) (want_t g18 rfl rfl rfl) ?_
        refine og (qv_gtr rfl rfl) (want_t g18 rfl rfl rfl) ?_
        refine oq (qv_pick_t g18 rfl (rfl : ev _ _ = (.bool (decide (8 < A.v))))) ?_
        refine oq (qv_mv (.bool (decide (8 < A.v))) rfl) ?_
        by_cases g19 : 8 < A.v
        ·
         refine og (qv_fa (off := 0) Try.field25_0 rfl) (want_t g19 rfl rfl rfl) ?_
         refine og (qv_ldp (v := (.int .i64 A.v)) Try.plain3 rfl (inOc (k := 0) rfl) rfl) (want_t g19 rfl rfl rfl) ?_
         refine og (qv_leq rfl rfl) (want_t g19 rfl rfl rfl) ?_
         refine oq (qv_pick_t g19 rfl (rfl : ev _ _ = (.bool (decide (A.v ≤ 12))))) ?_
         refine ops_nil ?_
         refine vc_if rfl (fun c12 => ?_) (fun c12 => ?_)
         ·
          refine vc_seq ?_
          refine vc_region ?_
          refine oq (qv_as (Value.bool true) rfl) ?_
          refine ops_nil ?_
          refine vc_ret ?_
          exact rq1 (Value.bool true) rfl rfl
         ·
          refine vc_skip ?_
          refine vc_seq ?_
          refine vc_region ?_
          refine oq (qv_ldm (vs := [(.int .i64 A.v), la, na, (.int .i64 A.r)]) Try.agg25 rfl (inOc (k := 0) rfl) rfl rfl) ?_
          refine ops_call (σa := []) (σr := [(Arr 25 b1 [(.int .i64 A.v), la, na, (.int .i64 A.r)])]) (Table_c (A := A) hA) rfl rfl (.refl _) (fun r11 V11 sg11 hV11 hp11 => ?_)
          obtain ⟨rfl, u1, rfl, hT⟩ := hp11
          have hA := hA.mono hV11
          have hX := hX.mono hV11
          refine oq (qv_mv (.tuple #[u1, (.int .i64 (tbE (A)))]) rfl) ?_
          refine oq (qv_ext u1 rfl rfl) ?_
          refine oq (qv_ext (.int .i64 (tbE (A))) rfl rfl) ?_
          refine oq (qv_as u1 rfl) ?_
          refine oq (qv_as (.int .i64 (tbE (A))) rfl) ?_
          refine ops_nil ?_
          refine vc_seq ?_
          refine vc_seq ?_
          refine vc_region ?_
          refine oq (qv_ldm (vs := [(.int .i64 A.v), la, na, (.int .i64 A.r)]) Try.agg25 rfl (inOc (k := 0) rfl) rfl rfl) ?_
          refine oq (qv_call (v := (.int .i64 (chkC A))) (check_c hA) rfl rfl) ?_
          refine oq (qv_neq rfl rfl) ?_
          refine ops_nil ?_
          refine vc_if_f rfl c2 ?_
          refine vc_skip ?_
          refine vc_seq ?_
          refine vc_seq ?_
          have hok : Ok A := chk_ok.1 (by omega)
          refine vc_region ?_
          refine oq (qv_fa (off := 0) Try.field25_0 rfl) ?_
          refine oq (qv_ldp (v := (.int .i64 A.v)) Try.plain3 rfl (inOc (k := 0) rfl) rfl) ?_
          refine oq (qv_gtr rfl rfl) ?_
          refine ops_nil ?_
          refine vc_if rfl (fun c13 => ?_) (fun c13 => ?_)
          ·
           refine vc_seq ?_
           have htl := (tb_4 hok (by omega)).2
           have hte := (tb_4 hok (by omega)).1
           have htz : ((tbL A).length : Int) = 0 := by rw [htl]; rfl
           refine vc_region ?_
           refine oq (qv_mv u1 rfl) ?_
           refine oq (qv_lenI Try.underlying22 rfl hT) ?_
           refine oq (qv_eql rfl rfl) ?_
           refine oq (qv_mv (.bool (decide (((((tbL A)).length : Int)) = 0))) rfl) ?_
           by_cases g20 : ((((tbL A)).length : Int)) = 0
           ·
            refine og (qv_mv (.int .i64 (tbE (A))) rfl) (want_t g20 rfl rfl rfl) ?_
            refine og (qv_eql rfl rfl) (want_t g20 rfl rfl rfl) ?_
            refine oq (qv_pick_t g20 rfl (rfl : ev _ _ = (.bool (decide ((tbE (A)) = 4))))) ?_
            refine oq (qv_as (.bool (decide ((tbE (A)) = 4))) rfl) ?_
            refine ops_nil ?_
            refine vc_ret ?_
            exact rq1 (Value.bool true) (congrArg Value.bool (decide_eq_true (show ((tbE (A)) = 4) from by first | exact hte | exact htl))) rfl
           ·
            exact absurd (htz) g20
          ·
           refine vc_skip ?_
           refine vc_seq ?_
           have htl := (tb_0 hok (by omega)).2
           have hte := (tb_0 hok (by omega)).1
           refine vc_region ?_
           refine oq (qv_mv (.int .i64 (tbE (A))) rfl) ?_
           refine oq (qv_eql rfl rfl) ?_
           refine oq (qv_mv (.bool (decide ((tbE (A)) = 0))) rfl) ?_
           by_cases g21 : (tbE (A)) = 0
           ·
            refine og (qv_mv u1 rfl) (want_t g21 rfl rfl rfl) ?_
            refine og (qv_ldm (vs := [(.int .i64 A.v), la, na, (.int .i64 A.r)]) Try.agg25 rfl (inOc (k := 0) rfl) rfl rfl) (want_t g21 rfl rfl rfl) ?_
            refine ops_want (want_t g21 rfl rfl rfl) ?_
            refine ops_call (σa := []) (σr := [(Arr 25 b1 [(.int .i64 A.v), la, na, (.int .i64 A.r)])]) (table_c (A := A) hA hok (by omega)) rfl rfl (.refl _) (fun r12 V12 sg12 hV12 hp12 => ?_)
            obtain ⟨rfl, hRr12⟩ := hp12
            have hA := hA.mono hV12
            have hX := hX.mono hV12
            have hT := hT.mono hV12
            refine og (qv_call (v := (.bool (decide (tbL A = vT A)))) (by have h := EqI_c hT hRr12; rw [htl] at h ⊢; exact h) rfl rfl) (want_t g21 rfl rfl rfl) ?_
            refine oq (qv_pick_t g21 rfl (rfl : ev _ _ = (.bool (decide (tbL A = vT A))))) ?_
            refine oq (qv_as (.bool (decide (tbL A = vT A))) rfl) ?_
            refine ops_nil ?_
            refine vc_ret ?_
            exact rq1 (Value.bool true) (congrArg Value.bool (decide_eq_true (show (tbL A = vT A) from by first | exact hte | exact htl))) rfl
           ·
            exact absurd (hte) g21
        ·
         refine os (want_tn g19 rfl rfl rfl) ?_
         refine os (want_tn g19 rfl rfl rfl) ?_
         refine os (want_tn g19 rfl rfl rfl) ?_
         refine oq (qv_pick_f g19 rfl (rfl : ev _ _ = (Value.bool false))) ?_
         refine ops_nil ?_
         refine vc_ff rfl ?_
         refine vc_skip ?_
         refine vc_seq ?_
         refine vc_region ?_
         refine oq (qv_ldm (vs := [(.int .i64 A.v), la, na, (.int .i64 A.r)]) Try.agg25 rfl (inOc (k := 0) rfl) rfl rfl) ?_
         refine ops_call (σa := []) (σr := [(Arr 25 b1 [(.int .i64 A.v), la, na, (.int .i64 A.r)])]) (Table_c (A := A) hA) rfl rfl (.refl _) (fun r13 V13 sg13 hV13 hp13 => ?_)
         obtain ⟨rfl, u1, rfl, hT⟩ := hp13
         have hA := hA.mono hV13
         have hX := hX.mono hV13
         refine oq (qv_mv (.tuple #[u1, (.int .i64 (tbE (A)))]) rfl) ?_
         refine oq (qv_ext u1 rfl rfl) ?_
         refine oq (qv_ext (.int .i64 (tbE (A))) rfl rfl) ?_
         refine oq (qv_as u1 rfl) ?_
         refine oq (qv_as (.int .i64 (tbE (A))) rfl) ?_
         refine ops_nil ?_
         refine vc_seq ?_
         refine vc_seq ?_
         refine vc_region ?_
         refine oq (qv_ldm (vs := [(.int .i64 A.v), la, na, (.int .i64 A.r)]) Try.agg25 rfl (inOc (k := 0) rfl) rfl rfl) ?_
         refine oq (qv_call (v := (.int .i64 (chkC A))) (check_c hA) rfl rfl) ?_
         refine oq (qv_neq rfl rfl) ?_
         refine ops_nil ?_
         refine vc_if_f rfl c2 ?_
         refine vc_skip ?_
         refine vc_seq ?_
         refine vc_seq ?_
         have hok : Ok A := chk_ok.1 (by omega)
         refine vc_region ?_
         refine oq (qv_fa (off := 0) Try.field25_0 rfl) ?_
         refine oq (qv_ldp (v := (.int .i64 A.v)) Try.plain3 rfl (inOc (k := 0) rfl) rfl) ?_
         refine oq (qv_gtr rfl rfl) ?_
         refine ops_nil ?_
         refine vc_if rfl (fun c14 => ?_) (fun c14 => ?_)
         ·
          refine vc_seq ?_
          have htl := (tb_4 hok (by omega)).2
          have hte := (tb_4 hok (by omega)).1
          have htz : ((tbL A).length : Int) = 0 := by rw [htl]; rfl
          refine vc_region ?_
          refine oq (qv_mv u1 rfl) ?_
          refine oq (qv_lenI Try.underlying22 rfl hT) ?_
          refine oq (qv_eql rfl rfl) ?_
          refine oq (qv_mv (.bool (decide (((((tbL A)).length : Int)) = 0))) rfl) ?_
          by_cases g22 : ((((tbL A)).length : Int)) = 0
          ·
           refine og (qv_mv (.int .i64 (tbE (A))) rfl) (want_t g22 rfl rfl rfl) ?_
           refine og (qv_eql rfl rfl) (want_t g22 rfl rfl rfl) ?_
           refine oq (qv_pick_t g22 rfl (rfl : ev _ _ = (.bool (decide ((tbE (A)) = 4))))) ?_
           refine oq (qv_as (.bool (decide ((tbE (A)) = 4))) rfl) ?_
           refine ops_nil ?_
           refine vc_ret ?_
           exact rq1 (Value.bool true) (congrArg Value.bool (decide_eq_true (show ((tbE (A)) = 4) from by first | exact hte | exact htl))) rfl
          ·
           exact absurd (htz) g22
         ·
          refine vc_skip ?_
          refine vc_seq ?_
          have htl := (tb_0 hok (by omega)).2
          have hte := (tb_0 hok (by omega)).1
          refine vc_region ?_
          refine oq (qv_mv (.int .i64 (tbE (A))) rfl) ?_
          refine oq (qv_eql rfl rfl) ?_
          refine oq (qv_mv (.bool (decide ((tbE (A)) = 0))) rfl) ?_
          by_cases g23 : (tbE (A)) = 0
          ·
           refine og (qv_mv u1 rfl) (want_t g23 rfl rfl rfl) ?_
           refine og (qv_ldm (vs := [(.int .i64 A.v), la, na, (.int .i64 A.r)]) Try.agg25 rfl (inOc (k := 0) rfl) rfl rfl) (want_t g23 rfl rfl rfl) ?_
           refine ops_want (want_t g23 rfl rfl rfl) ?_
           refine ops_call (σa := []) (σr := [(Arr 25 b1 [(.int .i64 A.v), la, na, (.int .i64 A.r)])]) (table_c (A := A) hA hok (by omega)) rfl rfl (.refl _) (fun r14 V14 sg14 hV14 hp14 => ?_)
           obtain ⟨rfl, hRr14⟩ := hp14
           have hA := hA.mono hV14
           have hX := hX.mono hV14
           have hT := hT.mono hV14
           refine og (qv_call (v := (.bool (decide (tbL A = vT A)))) (by have h := EqI_c hT hRr14; rw [htl] at h ⊢; exact h) rfl rfl) (want_t g23 rfl rfl rfl) ?_
           refine oq (qv_pick_t g23 rfl (rfl : ev _ _ = (.bool (decide (tbL A = vT A))))) ?_
           refine oq (qv_as (.bool (decide (tbL A = vT A))) rfl) ?_
           refine ops_nil ?_
           refine vc_ret ?_
           exact rq1 (Value.bool true) (congrArg Value.bool (decide_eq_true (show (tbL A = vT A) from by first | exact hte | exact htl))) rfl
          ·
           exact absurd (hte) g23
       ·
        refine os (want_tn g18 rfl rfl rfl) ?_
        refine os (want_tn g18 rfl rfl rfl) ?_
        refine os (want_tn g18 rfl rfl rfl) ?_
        refine oq (qv_pick_f g18 rfl (rfl : ev _ _ = (Value.bool false))) ?_
        refine oq (qv_mv (Value.bool false) rfl) ?_
        refine os (want_tnc rfl rfl rfl) ?_
        refine os (want_tnc rfl rfl rfl) ?_
        refine os (want_tnc rfl rfl rfl) ?_
        refine oq (qv_pick_fc rfl (rfl : ev _ _ = (Value.bool false))) ?_
        refine ops_nil ?_
        refine vc_ff rfl ?_
        refine vc_skip ?_
        refine vc_seq ?_
        refine vc_region ?_
        refine oq (qv_ldm (vs := [(.int .i64 A.v), la, na, (.int .i64 A.r)]) Try.agg25 rfl (inOc (k := 0) rfl) rfl rfl) ?_
        refine ops_call (σa := []) (σr := [(Arr 25 b1 [(.int .i64 A.v), la, na, (.int .i64 A.r)])]) (Table_c (A := A) hA) rfl rfl (.refl _) (fun r15 V15 sg15 hV15 hp15 => ?_)
        obtain ⟨rfl, u1, rfl, hT⟩ := hp15
        have hA := hA.mono hV15
        have hX := hX.mono hV15
        refine oq (qv_mv (.tuple #[u1, (.int .i64 (tbE (A)))]) rfl) ?_
        refine oq (qv_ext u1 rfl rfl) ?_
        refine oq (qv_ext (.int .i64 (tbE (A))) rfl rfl) ?_
        refine oq (qv_as u1 rfl) ?_
        refine oq (qv_as (.int .i64 (tbE (A))) rfl) ?_
        refine ops_nil ?_
        refine vc_seq ?_
        refine vc_seq ?_
        refine vc_region ?_
        refine oq (qv_ldm (vs := [(.int .i64 A.v), la, na, (.int .i64 A.r)]) Try.agg25 rfl (inOc (k := 0) rfl) rfl rfl) ?_
        refine oq (qv_call (v := (.int .i64 (chkC A))) (check_c hA) rfl rfl) ?_
        refine oq (qv_neq rfl rfl) ?_
        refine ops_nil ?_
        refine vc_if_f rfl c2 ?_
        refine vc_skip ?_
        refine vc_seq ?_
        refine vc_seq ?_
        have hok : Ok A := chk_ok.1 (by omega)
        refine vc_region ?_
        refine oq (qv_fa (off := 0) Try.field25_0 rfl) ?_
        refine oq (qv_ldp (v := (.int .i64 A.v)) Try.plain3 rfl (inOc (k := 0) rfl) rfl) ?_
        refine oq (qv_gtr rfl rfl) ?_
        refine ops_nil ?_
        refine vc_if rfl (fun c15 => ?_) (fun c15 => ?_)
        ·
         refine vc_seq ?_
         have htl := (tb_4 hok (by omega)).2
         have hte := (tb_4 hok (by omega)).1
         have htz : ((tbL A).length : Int) = 0 := by rw [htl]; rfl
         refine vc_region ?_
         refine oq (qv_mv u1 rfl) ?_
         refine oq (qv_lenI Try.underlying22 rfl hT) ?_
         refine oq (qv_eql rfl rfl) ?_
         refine oq (qv_mv (.bool (decide (((((tbL A)).length : Int)) = 0))) rfl) ?_
         by_cases g24 : ((((tbL A)).length : Int)) = 0
         ·
          refine og (qv_mv (.int .i64 (tbE (A))) rfl) (want_t g24 rfl rfl rfl) ?_
          refine og (qv_eql rfl rfl) (want_t g24 rfl rfl rfl) ?_
          refine oq (qv_pick_t g24 rfl (rfl : ev _ _ = (.bool (decide ((tbE (A)) = 4))))) ?_
          refine oq (qv_as (.bool (decide ((tbE (A)) = 4))) rfl) ?_
          refine ops_nil ?_
          refine vc_ret ?_
          exact rq1 (Value.bool true) (congrArg Value.bool (decide_eq_true (show ((tbE (A)) = 4) from by first | exact hte | exact htl))) rfl
         ·
          exact absurd (htz) g24
        ·
         refine vc_skip ?_
         refine vc_seq ?_
         have htl := (tb_0 hok (by omega)).2
         have hte := (tb_0 hok (by omega)).1
         refine vc_region ?_
         refine oq (qv_mv (.int .i64 (tbE (A))) rfl) ?_
         refine oq (qv_eql rfl rfl) ?_
         refine oq (qv_mv (.bool (decide ((tbE (A)) = 0))) rfl) ?_
         by_cases g25 : (tbE (A)) = 0
         ·
          refine og (qv_mv u1 rfl) (want_t g25 rfl rfl rfl) ?_
          refine og (qv_ldm (vs := [(.int .i64 A.v), la, na, (.int .i64 A.r)]) Try.agg25 rfl (inOc (k := 0) rfl) rfl rfl) (want_t g25 rfl rfl rfl) ?_
          refine ops_want (want_t g25 rfl rfl rfl) ?_
          refine ops_call (σa := []) (σr := [(Arr 25 b1 [(.int .i64 A.v), la, na, (.int .i64 A.r)])]) (table_c (A := A) hA hok (by omega)) rfl rfl (.refl _) (fun r16 V16 sg16 hV16 hp16 => ?_)
          obtain ⟨rfl, hRr16⟩ := hp16
          have hA := hA.mono hV16
          have hX := hX.mono hV16
          have hT := hT.mono hV16
          refine og (qv_call (v := (.bool (decide (tbL A = vT A)))) (by have h := EqI_c hT hRr16; rw [htl] at h ⊢; exact h) rfl rfl) (want_t g25 rfl rfl rfl) ?_
          refine oq (qv_pick_t g25 rfl (rfl : ev _ _ = (.bool (decide (tbL A = vT A))))) ?_
          refine oq (qv_as (.bool (decide (tbL A = vT A))) rfl) ?_
          refine ops_nil ?_
          refine vc_ret ?_
          exact rq1 (Value.bool true) (congrArg Value.bool (decide_eq_true (show (tbL A = vT A) from by first | exact hte | exact htl))) rfl
         ·
          exact absurd (hte) g25

end Go.Proofs.Ytkmhjcjpohpiaaa
