/- Walks of bdd: what each function returns. Printed by a program out of notes. -/
import Derived.Test.YtgehdgeiikjohaaBv
import Derived.Test.YtgehdgeiikjohaaBx
import Derived.Test.YtgehdgeiikjohaaDq
import Derived.Test.YtgehdgeiikjohaaBdJ
namespace Go.Proofs.Ytgehdgeiikjohaa
open Go.Vc
open Classical

set_option maxRecDepth 100000 in
set_option maxHeartbeats 4000000 in
theorem Tables_c {V : HV} {vars : Int} {t : List Bool} {tv : Value} {na : Value} {A : Dg} (hA : Fks V na A.N) (ht : Bls V tv t) :
    FnC Try.prog 8 [(Value.int .i64 vars), tv, (.agg #[(.int .i64 A.v), na, (.int .i64 A.r)])] V [] (fun v _ _ => v = (Value.bool true)) := by
 refine fn_intro (N := 127) Try.func8 (by kernel_rfl) rfl rfl rfl (Nat.le_of_ble_eq_true rfl) ?_
 intro w0 D
 have hb := SlS.bound hA
 have hb2 := ht.bound
 refine vc_seq ?_
 refine vc_region ?_
 refine ops_box (v := (.agg #[(.int .i64 A.v), na, (.int .i64 A.r)])) (cs := [(.int .i64 A.v), na, (.int .i64 A.r)]) rfl rfl (fun b1 => ?_)
 refine oq (qv_as (Value.bool false) rfl) ?_
 refine ops_nil ?_
 refine vc_seq ?_
 refine vc_seq ?_
 refine vc_res (σ' := [(Arr 24 b1 [(.int .i64 A.v), na, (.int .i64 A.r)])]) rfl ?_
 refine vc_region ?_
 refine oq (qv_call (v := (Value.bool true)) (known_c) rfl rfl) ?_
 refine oq (qv_notc rfl) ?_
 refine ops_nil ?_
 refine vc_ff rfl ?_
 refine vc_skip ?_
 refine vc_seq ?_
 refine vc_seq ?_
 refine vc_region ?_
 refine oq (qv_mv tv rfl) ?_
 refine oq (qv_lenB Try.underlying34 rfl ht) ?_
 refine oq (qv_gtr rfl rfl) ?_
 refine oq (qv_mv (.bool (decide (200 < ((t.length : Int))))) rfl) ?_
 by_cases g1 : 200 < ((t.length : Int))
 ·
  refine os (want_fn g1 rfl rfl rfl) ?_
  refine os (want_fn g1 rfl rfl rfl) ?_
  refine os (want_fn g1 rfl rfl rfl) ?_
  refine os (want_fn g1 rfl rfl rfl) ?_
  refine oq (qv_pick_t g1 rfl (rfl : ev _ _ = (Value.bool true))) ?_
  refine oq (qv_mv (Value.bool true) rfl) ?_
  refine os (want_fnc rfl rfl rfl) ?_
  refine os (want_fnc rfl rfl rfl) ?_
  refine os (want_fnc rfl rfl rfl) ?_
  refine os (want_fnc rfl rfl rfl) ?_
  refine os (want_u rfl rfl rfl) ?_
  refine os (want_u rfl rfl rfl) ?_
  refine os (want_u rfl rfl rfl) ?_
  refine os (want_fnc rfl rfl rfl) ?_
  refine oq (qv_pick_tc rfl (rfl : ev _ _ = (Value.bool true))) ?_
  refine ops_nil ?_
  refine vc_tt rfl ?_
  refine vc_seq ?_
  refine vc_region ?_
  refine oq (qv_as (Value.bool true) rfl) ?_
  refine ops_nil ?_
  refine vc_ret ?_
  exact rq1 (Value.bool true) rfl rfl
 ·
  refine og (qv_fa (off := 0) Try.field24_1 rfl) (want_f g1 rfl rfl rfl) ?_
  refine og (qv_ldp (v := na) Try.plain22 rfl (inOc (k := 0) rfl) rfl) (want_f g1 rfl rfl rfl) ?_
  refine og (qv_lenSS Try.underlying22 rfl hA) (want_f g1 rfl rfl rfl) ?_
  refine og (qv_gtr rfl rfl) (want_f g1 rfl rfl rfl) ?_
  refine oq (qv_pick_f g1 rfl (rfl : ev _ _ = (.bool (decide (130 < ((A.N.length : Int))))))) ?_
  refine oq (qv_mv (.bool (decide (130 < ((A.N.length : Int))))) rfl) ?_
  by_cases g2 : 130 < ((A.N.length : Int))
  ·
   refine os (want_fn g2 rfl rfl rfl) ?_
   refine os (want_fn g2 rfl rfl rfl) ?_
   refine os (want_fn g2 rfl rfl rfl) ?_
   refine os (want_fn g2 rfl rfl rfl) ?_
   refine os (want_u rfl rfl rfl) ?_
   refine os (want_u rfl rfl rfl) ?_
   refine os (want_u rfl rfl rfl) ?_
   refine os (want_fn g2 rfl rfl rfl) ?_
   refine oq (qv_pick_t g2 rfl (rfl : ev _ _ = (Value.bool true))) ?_
   refine ops_nil ?_
   refine vc_tt rfl ?_
   refine vc_seq ?_
   refine vc_region ?_
   refine oq (qv_as (Value.bool true) rfl) ?_
   refine ops_nil ?_
   refine vc_ret ?_
   exact rq1 (Value.bool true) rfl rfl
  ·
   refine og (qv_fa (off := 0) Try.field24_0 rfl) (want_f g2 rfl rfl rfl) ?_
   refine og (qv_ldp (v := (.int .i64 A.v)) Try.plain3 rfl (inOc (k := 0) rfl) rfl) (want_f g2 rfl rfl rfl) ?_
   refine og (qv_gtr rfl rfl) (want_f g2 rfl rfl rfl) ?_
   refine og (qv_mv (.bool (decide (7 < A.v))) rfl) (want_f g2 rfl rfl rfl) ?_
   by_cases g3 : 7 < A.v
   ·
    refine og (qv_fa (off := 0) Try.field24_0 rfl) (want_t g3 rfl rfl rfl) ?_
    refine og (qv_ldp (v := (.int .i64 A.v)) Try.plain3 rfl (inOc (k := 0) rfl) rfl) (want_t g3 rfl rfl rfl) ?_
    refine og (qv_leq rfl rfl) (want_t g3 rfl rfl rfl) ?_
    refine og (qv_pick_t g3 rfl (rfl : ev _ _ = (.bool (decide (A.v ≤ 12))))) (want_f g2 rfl rfl rfl) ?_
    refine oq (qv_pick_f g2 rfl (rfl : ev _ _ = (.bool (decide (A.v ≤ 12))))) ?_
    refine ops_nil ?_
    refine vc_if rfl (fun c1 => ?_) (fun c1 => ?_)
    ·
     refine vc_seq ?_
     refine vc_region ?_
     refine oq (qv_as (Value.bool true) rfl) ?_
     refine ops_nil ?_
     refine vc_ret ?_
     exact rq1 (Value.bool true) rfl rfl
    ·
     refine vc_skip ?_
     refine vc_seq ?_
     refine vc_region ?_
     refine oq (qv_mv (Value.int .i64 vars) rfl) ?_
     refine oq (qv_mv tv rfl) ?_
     refine ops_call (σa := []) (σr := [(Arr 24 b1 [(.int .i64 A.v), na, (.int .i64 A.r)])]) (FromTable_c (vars := vars) ht) rfl rfl (.refl _) (fun r1 V1 sg1 hV1 hp1 => ?_)
     obtain ⟨rfl, u1, rfl, hN1⟩ := hp1
     have hA := hA.mono hV1
     have ht := ht.mono hV1
     refine oq (qv_mv (.tuple #[(.agg #[(.int .i64 (((ftD vars t)).v)), u1, (.int .i64 (((ftD vars t)).r))]), (.int .i64 (ftE vars t))]) rfl) ?_
     refine oq (qv_ext (.agg #[(.int .i64 (((ftD vars t)).v)), u1, (.int .i64 (((ftD vars t)).r))]) rfl rfl) ?_
     refine oq (qv_ext (.int .i64 (ftE vars t)) rfl rfl) ?_
     refine ops_alloc Try.ti24 rfl (fun b2 => ?_)
     refine ops_stw (k := 1) (vs := [(.int .i64 (((ftD vars t)).v)), u1, (.int .i64 (((ftD vars t)).r))]) Try.size24 rfl rfl rfl (allc rfl (allc (SlS.one hN1) (allc rfl rfl))) rfl rfl ?_
     refine oq (qv_as (.int .i64 (ftE vars t)) rfl) ?_
     refine ops_nil ?_
     refine vc_seq ?_
     refine vc_block ?_
     refine vc_seq ?_
     refine vc_res (σ' := [(Arr 24 b1 [(.int .i64 A.v), na, (.int .i64 A.r)]), (Arr 24 b2 [(.int .i64 (((ftD vars t)).v)), u1, (.int .i64 (((ftD vars t)).r))])]) rfl ?_
     refine vc_region ?_
     refine oq (qv_mv (Value.int .i64 vars) rfl) ?_
     refine oq (qv_lss rfl rfl) ?_
     refine oq (qv_mv (.bool (decide (vars < 0))) rfl) ?_
     by_cases g4 : vars < 0
     ·
      refine os (want_fn g4 rfl rfl rfl) ?_
      refine os (want_fn g4 rfl rfl rfl) ?_
      refine oq (qv_pick_t g4 rfl (rfl : ev _ _ = (Value.bool true))) ?_
      refine oq (qv_as (Value.bool true) rfl) ?_
      refine ops_nil ?_
      refine vc_tt rfl ?_
      refine vc_seq ?_
      have hft := ft_3 (vars := vars) (t := t) (by omega)
      refine vc_region ?_
      refine oq (qv_mv (.int .i64 (ftE vars t)) rfl) ?_
      refine oq (qv_neq rfl rfl) ?_
      refine oq (qv_mv (.bool (decide ((ftE vars t) ≠ 3))) rfl) ?_
      by_cases g5 : (ftE vars t) ≠ 3
      ·
       exact absurd hft.1 g5
      ·
       refine og (qv_ldm (vs := [(.int .i64 (((ftD vars t)).v)), u1, (.int .i64 (((ftD vars t)).r))]) Try.agg24 rfl (inOc (k := 1) rfl) rfl rfl) (want_f g5 rfl rfl rfl) ?_
       refine og (qv_build (out := [(Value.int .i64 0), (Value.slice none 0 0), (Value.int .i64 0)]) Try.build24 [] rfl rfl) (want_f g5 rfl rfl rfl) ?_
       refine og (qv_call (v := (.bool (decide (ftD vars t = dg0)))) (same_c (A := (ftD vars t)) (B := dg0) hN1 (Fks.nil)) rfl rfl) (want_f g5 rfl rfl rfl) ?_
       refine og (qv_not rfl) (want_f g5 rfl rfl rfl) ?_
       refine oq (qv_pick_f g5 rfl (rfl : ev _ _ = (.bool (decide (¬ (ftD vars t = dg0)))))) ?_
       refine ops_nil ?_
       refine vc_if rfl (fun c2 => ?_) (fun c2 => ?_)
       ·
        exact absurd hft.2 c2
       ·
        refine vc_skip ?_
        refine vc_seq ?_
        refine vc_region ?_
        refine oq (qv_ldm (vs := [(.int .i64 A.v), na, (.int .i64 A.r)]) Try.agg24 rfl (inOc (k := 0) rfl) rfl rfl) ?_
        refine ops_call (σa := []) (σr := [(Arr 24 b1 [(.int .i64 A.v), na, (.int .i64 A.r)]), (Arr 24 b2 [(.int .i64 (((ftD vars t)).v)), u1, (.int .i64 (((ftD vars t)).r))])]) (Table_c hA) rfl rfl (.refl _) (fun r2 V2 sg2 hV2 hp2 => ?_)
        obtain ⟨rfl, uS, rfl, hS⟩ := hp2
        have hA := hA.mono hV2
        have ht := ht.mono hV2
        have hN1 := hN1.mono hV2
        refine oq (qv_mv (.tuple #[uS, (.int .i64 (tbE A))]) rfl) ?_
        refine oq (qv_ext uS rfl rfl) ?_
        refine oq (qv_ext (.int .i64 (tbE A)) rfl rfl) ?_
        refine oq (qv_as uS rfl) ?_
        refine oq (qv_as (.int .i64 (tbE A)) rfl) ?_
        refine ops_nil ?_
        refine vc_seq ?_
        refine vc_seq ?_
        refine vc_region ?_
        refine oq (qv_ldm (vs := [(.int .i64 A.v), na, (.int .i64 A.r)]) Try.agg24 rfl (inOc (k := 0) rfl) rfl rfl) ?_
        refine oq (qv_call (v := (.int .i64 (chkC A.v A.N A.r))) (check_c hA) rfl rfl) ?_
        refine oq (qv_neq rfl rfl) ?_
        refine ops_nil ?_
        refine vc_if rfl (fun c3 => ?_) (fun c3 => ?_)
        ·
         refine vc_seq ?_
         have ht1 := tb_1 (A := A) (by omega)
         refine vc_region ?_
         refine oq (qv_mv (.int .i64 (tbE A)) rfl) ?_
         refine oq (qv_eql rfl rfl) ?_
         refine oq (qv_mv (.bool (decide ((tbE A) = 1))) rfl) ?_
         by_cases g6 : (tbE A) = 1
         ·
          refine og (qv_mv uS rfl) (want_t g6 rfl rfl rfl) ?_
          refine og (qv_lenB Try.underlying34 rfl hS) (want_t g6 rfl rfl rfl) ?_
          refine og (qv_eql rfl rfl) (want_t g6 rfl rfl rfl) ?_
          refine oq (qv_pick_t g6 rfl (rfl : ev _ _ = (.bool (decide (((((tbT A)).length : Int)) = 0))))) ?_
          refine oq (qv_as (.bool (decide (((((tbT A)).length : Int)) = 0))) rfl) ?_
          refine ops_nil ?_
          refine vc_ret ?_
          exact rq1 (Value.bool true) (congrArg Value.bool (decide_eq_true (show (((((tbT A)).length : Int)) = 0) from by rw [ht1.2]; rfl))) rfl
         ·
          exact absurd ht1.1 g6
        ·
         refine vc_skip ?_
         refine vc_seq ?_
         refine vc_seq ?_
         refine vc_region ?_
         refine oq (qv_fa (off := 0) Try.field24_0 rfl) ?_
         refine oq (qv_ldp (v := (.int .i64 A.v)) Try.plain3 rfl (inOc (k := 0) rfl) rfl) ?_
         refine oq (qv_gtr rfl rfl) ?_
         refine ops_nil ?_
         refine vc_if rfl (fun c4 => ?_) (fun c4 => ?_)
         ·
          refine vc_seq ?_
          have ht1 := tb_4 (A := A) (by omega) (by omega)
          refine vc_region ?_
          refine oq (qv_mv (.int .i64 (tbE A)) rfl) ?_
          refine oq (qv_eql rfl rfl) ?_
          refine oq (qv_mv (.bool (decide ((tbE A) = 4))) rfl) ?_
          by_cases g7 : (tbE A) = 4
          ·
           refine og (qv_mv uS rfl) (want_t g7 rfl rfl rfl) ?_
           refine og (qv_lenB Try.underlying34 rfl hS) (want_t g7 rfl rfl rfl) ?_
           refine og (qv_eql rfl rfl) (want_t g7 rfl rfl rfl) ?_
           refine oq (qv_pick_t g7 rfl (rfl : ev _ _ = (.bool (decide (((((tbT A)).length : Int)) = 0))))) ?_
           refine oq (qv_as (.bool (decide (((((tbT A)).length : Int)) = 0))) rfl) ?_
           refine ops_nil ?_
           refine vc_ret ?_
           exact rq1 (Value.bool true) (congrArg Value.bool (decide_eq_true (show (((((tbT A)).length : Int)) = 0) from by rw [ht1.2]; rfl))) rfl
          ·
           exact absurd ht1.1 g7
         ·
          refine vc_skip ?_
          refine vc_seq ?_
          have ht1 := tb_0 (A := A) (by omega) (by omega)
          refine vc_region ?_
          refine oq (qv_mv (.int .i64 (tbE A)) rfl) ?_
          refine oq (qv_eql rfl rfl) ?_
          refine oq (qv_mv (.bool (decide ((tbE A) = 0))) rfl) ?_
          by_cases g8 : (tbE A) = 0
          ·
           refine og (qv_mv uS rfl) (want_t g8 rfl rfl rfl) ?_
           refine og (qv_ldm (vs := [(.int .i64 A.v), na, (.int .i64 A.r)]) Try.agg24 rfl (inOc (k := 0) rfl) rfl rfl) (want_t g8 rfl rfl rfl) ?_
           refine ops_want (want_t g8 rfl rfl rfl) ?_
           refine ops_call (σa := []) (σr := [(Arr 24 b1 [(.int .i64 A.v), na, (.int .i64 A.r)]), (Arr 24 b2 [(.int .i64 (((ftD vars t)).v)), u1, (.int .i64 (((ftD vars t)).r))])]) (table_c hA (chk_ok.1 (by omega)) (by omega)) rfl rfl (.refl _) (fun r3 V3 sg3 hV3 hp3 => ?_)
           obtain ⟨rfl, hTr3⟩ := hp3
           have hA := hA.mono hV3
           have ht := ht.mono hV3
           have hN1 := hN1.mono hV3
           have hS := hS.mono hV3
           refine og (qv_call (v := (.bool (decide (tbT A = tbD A)))) (EqB_c hS hTr3) rfl rfl) (want_t g8 rfl rfl rfl) ?_
           refine oq (qv_pick_t g8 rfl (rfl : ev _ _ = (.bool (decide (tbT A = tbD A))))) ?_
           refine oq (qv_as (.bool (decide (tbT A = tbD A))) rfl) ?_
           refine ops_nil ?_
           refine vc_ret ?_
           exact rq1 (Value.bool true) (congrArg Value.bool (decide_eq_true (show (tbT A = tbD A) from by exact ht1.2))) rfl
          ·
           exact absurd ht1.1 g8
     ·
      refine og (qv_mv (Value.int .i64 vars) rfl) (want_f g4 rfl rfl rfl) ?_
      refine og (qv_gtr rfl rfl) (want_f g4 rfl rfl rfl) ?_
      refine oq (qv_pick_f g4 rfl (rfl : ev _ _ = (.bool (decide (12 < vars))))) ?_
      refine oq (qv_as (.bool (decide (12 < vars))) rfl) ?_
      refine ops_nil ?_
      refine vc_if rfl (fun c5 => ?_) (fun c5 => ?_)
      ·
       refine vc_seq ?_
       have hft := ft_3 (vars := vars) (t := t) (by omega)
       refine vc_region ?_
       refine oq (qv_mv (.int .i64 (ftE vars t)) rfl) ?_
       refine oq (qv_neq rfl rfl) ?_
       refine oq (qv_mv (.bool (decide ((ftE vars t) ≠ 3))) rfl) ?_
       by_cases g9 : (ftE vars t) ≠ 3
       ·
        exact absurd hft.1 g9
       ·
        refine og (qv_ldm (vs := [(.int .i64 (((ftD vars t)).v)), u1, (.int .i64 (((ftD vars t)).r))]) Try.agg24 rfl (inOc (k := 1) rfl) rfl rfl) (want_f g9 rfl rfl rfl) ?_
        refine og (qv_build (out := [(Value.int .i64 0), (Value.slice none 0 0), (Value.int .i64 0)]) Try.build24 [] rfl rfl) (want_f g9 rfl rfl rfl) ?_
        refine og (qv_call (v := (.bool (decide (ftD vars t = dg0)))) (same_c (A := (ftD vars t)) (B := dg0) hN1 (Fks.nil)) rfl rfl) (want_f g9 rfl rfl rfl) ?_
        refine og (qv_not rfl) (want_f g9 rfl rfl rfl) ?_
        refine oq (qv_pick_f g9 rfl (rfl : ev _ _ = (.bool (decide (¬ (ftD vars t = dg0)))))) ?_
        refine ops_nil ?_
        refine vc_if rfl (fun c6 => ?_) (fun c6 => ?_)
        ·
         exact absurd hft.2 c6
        ·
         refine vc_skip ?_
         refine vc_seq ?_
         refine vc_region ?_
         refine oq (qv_ldm (vs := [(.int .i64 A.v), na, (.int .i64 A.r)]) Try.agg24 rfl (inOc (k := 0) rfl) rfl rfl) ?_
         refine ops_call (σa := []) (σr := [(Arr 24 b1 [(.int .i64 A.v), na, (.int .i64 A.r)]), (Arr 24 b2 [(.int .i64 (((ftD vars t)).v)), u1, (.int .i64 (((ftD vars t)).r))])]) (Table_c hA) rfl rfl (.refl _) (fun r4 V4 sg4 hV4 hp4 => ?_)
         obtain ⟨rfl, uS, rfl, hS⟩ := hp4
         have hA := hA.mono hV4
         have ht := ht.mono hV4
         have hN1 := hN1.mono hV4
         refine oq (qv_mv (.tuple #[uS, (.int .i64 (tbE A))]) rfl) ?_
         refine oq (qv_ext uS rfl rfl) ?_
         refine oq (qv_ext (.int .i64 (tbE A)) rfl rfl) ?_
         refine oq (qv_as uS rfl) ?_
         refine oq (qv_as (.int .i64 (tbE A)) rfl) ?_
         refine ops_nil ?_
         refine vc_seq ?_
         refine vc_seq ?_
         refine vc_region ?_
         refine oq (qv_ldm (vs := [(.int .i64 A.v), na, (.int .i64 A.r)]) Try.agg24 rfl (inOc (k := 0) rfl) rfl rfl) ?_
         refine oq (qv_call (v := (.int .i64 (chkC A.v A.N A.r))) (check_c hA) rfl rfl) ?_
         refine oq (qv_neq rfl rfl) ?_
         refine ops_nil ?_
         refine vc_if rfl (fun c7 => ?_) (fun c7 => ?_)
         ·
          refine vc_seq ?_
          have ht1 := tb_1 (A := A) (by omega)
          refine vc_region ?_
          refine oq (qv_mv (.int .i64 (tbE A)) rfl) ?_
          refine oq (qv_eql rfl rfl) ?_
          refine oq (qv_mv (.bool (decide ((tbE A) = 1))) rfl) ?_
          by_cases g10 : (tbE A) = 1
          ·
           refine og (qv_mv uS rfl) (want_t g10 rfl rfl rfl) ?_
           refine og (qv_lenB Try.underlying34 rfl hS) (want_t g10 rfl rfl rfl) ?_
           refine og (qv_eql rfl rfl) (want_t g10 rfl rfl rfl) ?_
           refine oq (qv_pick_t g10 rfl (rfl : ev _ _ = (.bool (decide (((((tbT A)).length : Int)) = 0))))) ?_
           refine oq (qv_as (.bool (decide (((((tbT A)).length : Int)) = 0))) rfl) ?_
           refine ops_nil ?_
           refine vc_ret ?_
           exact rq1 (Value.bool true) (congrArg Value.bool (decide_eq_true (show (((((tbT A)).length : Int)) = 0) from by rw [ht1.2]; rfl))) rfl
          ·
           exact absurd ht1.1 g10
         ·
          refine vc_skip ?_
          refine vc_seq ?_
          refine vc_seq ?_
          refine vc_region ?_
          refine oq (qv_fa (off := 0) Try.field24_0 rfl) ?_
          refine oq (qv_ldp (v := (.int .i64 A.v)) Try.plain3 rfl (inOc (k := 0) rfl) rfl) ?_
          refine oq (qv_gtr rfl rfl) ?_
          refine ops_nil ?_
          refine vc_if rfl (fun c8 => ?_) (fun c8 => ?_)
          ·
           refine vc_seq ?_
           have ht1 := tb_4 (A := A) (by omega) (by omega)
           refine vc_region ?_
           refine oq (qv_mv (.int .i64 (tbE A)) rfl) ?_
           refine oq (qv_eql rfl rfl) ?_
           refine oq (qv_mv (.bool (decide ((tbE A) = 4))) rfl) ?_
           by_cases g11 : (tbE A) = 4
           ·
            refine og (qv_mv uS rfl) (want_t g11 rfl rfl rfl) ?_
            refine og (qv_lenB Try.underlying34 rfl hS) (want_t g11 rfl rfl rfl) ?_
            refine og (qv_eql rfl rfl) (want_t g11 rfl rfl rfl) ?_
            refine oq (qv_pick_t g11 rfl (rfl : ev _ _ = (.bool (decide (((((tbT A)).length : Int)) = 0))))) ?_
            refine oq (qv_as (.bool (decide (((((tbT A)).length : Int)) = 0))) rfl) ?_
            refine ops_nil ?_
            refine vc_ret ?_
            exact rq1 (Value.bool true) (congrArg Value.bool (decide_eq_true (show (((((tbT A)).length : Int)) = 0) from by rw [ht1.2]; rfl))) rfl
           ·
            exact absurd ht1.1 g11
          ·
           refine vc_skip ?_
           refine vc_seq ?_
           have ht1 := tb_0 (A := A) (by omega) (by omega)
           refine vc_region ?_
           refine oq (qv_mv (.int .i64 (tbE A)) rfl) ?_
           refine oq (qv_eql rfl rfl) ?_
           refine oq (qv_mv (.bool (decide ((tbE A) = 0))) rfl) ?_
           by_cases g12 : (tbE A) = 0
           ·
            refine og (qv_mv uS rfl) (want_t g12 rfl rfl rfl) ?_
            refine og (qv_ldm (vs := [(.int .i64 A.v), na, (.int .i64 A.r)]) Try.agg24 rfl (inOc (k := 0) rfl) rfl rfl) (want_t g12 rfl rfl rfl) ?_
            refine ops_want (want_t g12 rfl rfl rfl) ?_
            refine ops_call (σa := []) (σr := [(Arr 24 b1 [(.int .i64 A.v), na, (.int .i64 A.r)]), (Arr 24 b2 [(.int .i64 (((ftD vars t)).v)), u1, (.int .i64 (((ftD vars t)).r))])]) (table_c hA (chk_ok.1 (by omega)) (by omega)) rfl rfl (.refl _) (fun r5 V5 sg5 hV5 hp5 => ?_)
            obtain ⟨rfl, hTr5⟩ := hp5
            have hA := hA.mono hV5
            have ht := ht.mono hV5
            have hN1 := hN1.mono hV5
            have hS := hS.mono hV5
            refine og (qv_call (v := (.bool (decide (tbT A = tbD A)))) (EqB_c hS hTr5) rfl rfl) (want_t g12 rfl rfl rfl) ?_
            refine oq (qv_pick_t g12 rfl (rfl : ev _ _ = (.bool (decide (tbT A = tbD A))))) ?_
            refine oq (qv_as (.bool (decide (tbT A = tbD A))) rfl) ?_
            refine ops_nil ?_
            refine vc_ret ?_
            exact rq1 (Value.bool true) (congrArg Value.bool (decide_eq_true (show (tbT A = tbD A) from by exact ht1.2))) rfl
           ·
            exact absurd ht1.1 g12
      ·
       refine vc_seq ?_
       refine vc_region ?_
       refine oq (qv_mv tv rfl) ?_
       refine oq (qv_lenB Try.underlying34 rfl ht) ?_
       refine oq (qv_mv (Value.int .i64 vars) rfl) ?_
       refine oq (qv_call (v := (.int .i64 ((2 : Int) ^ vars.toNat))) (power_c (by omega)) rfl rfl) ?_
       refine oq (qv_neq rfl rfl) ?_
       refine oq (qv_as (.bool (decide (((t.length : Int)) ≠ ((2 : Int) ^ vars.toNat)))) rfl) ?_
       refine ops_nil ?_
       refine vc_if rfl (fun c9 => ?_) (fun c9 => ?_)
       ·
        refine vc_seq ?_
        have hft := ft_2 (vars := vars) (t := t) (by omega) (by omega)
        refine vc_region ?_
        refine oq (qv_mv (.int .i64 (ftE vars t)) rfl) ?_
        refine oq (qv_neq rfl rfl) ?_
        refine oq (qv_mv (.bool (decide ((ftE vars t) ≠ 2))) rfl) ?_
        by_cases g13 : (ftE vars t) ≠ 2
        ·
         exact absurd hft.1 g13
        ·
         refine og (qv_ldm (vs := [(.int .i64 (((ftD vars t)).v)), u1, (.int .i64 (((ftD vars t)).r))]) Try.agg24 rfl (inOc (k := 1) rfl) rfl rfl) (want_f g13 rfl rfl rfl) ?_
         refine og (qv_build (out := [(Value.int .i64 0), (Value.slice none 0 0), (Value.int .i64 0)]) Try.build24 [] rfl rfl) (want_f g13 rfl rfl rfl) ?_
         refine og (qv_call (v := (.bool (decide (ftD vars t = dg0)))) (same_c (A := (ftD vars t)) (B := dg0) hN1 (Fks.nil)) rfl rfl) (want_f g13 rfl rfl rfl) ?_
         refine og (qv_not rfl) (want_f g13 rfl rfl rfl) ?_
         refine oq (qv_pick_f g13 rfl (rfl : ev _ _ = (.bool (decide (¬ (ftD vars t = dg0)))))) ?_
         refine ops_nil ?_
         refine vc_if rfl (fun c10 => ?_) (fun c10 => ?_)
         ·
          exact absurd hft.2 c10
         ·
          refine vc_skip ?_
          refine vc_seq ?_
          refine vc_region ?_
          refine oq (qv_ldm (vs := [(.int .i64 A.v), na, (.int .i64 A.r)]) Try.agg24 rfl (inOc (k := 0) rfl) rfl rfl) ?_
          refine ops_call (σa := []) (σr := [(Arr 24 b1 [(.int .i64 A.v), na, (.int .i64 A.r)]), (Arr 24 b2 [(.int .i64 (((ftD vars t)).v)), u1, (.int .i64 (((ftD vars t)).r))])]) (Table_c hA) rfl rfl (.refl _) (fun r6 V6 sg6 hV6 hp6 => ?_)
          obtain ⟨rfl, uS, rfl, hS⟩ := hp6
          have hA := hA.mono hV6
          have ht := ht.mono hV6
          have hN1 := hN1.mono hV6
          refine oq (qv_mv (.tuple #[uS, (.int .i64 (tbE A))]) rfl) ?_
          refine oq (qv_ext uS rfl rfl) ?_
          refine oq (qv_ext (.int .i64 (tbE A)) rfl rfl) ?_
          refine oq (qv_as uS rfl) ?_
          refine oq (qv_as (.int .i64 (tbE A)) rfl) ?_
          refine ops_nil ?_
          refine vc_seq ?_
          refine vc_seq ?_
          refine vc_region ?_
          refine oq (qv_ldm (vs := [(.int .i64 A.v), na, (.int .i64 A.r)]) Try.agg24 rfl (inOc (k := 0) rfl) rfl rfl) ?_
          refine oq (qv_call (v := (.int .i64 (chkC A.v A.N A.r))) (check_c hA) rfl rfl) ?_
          refine oq (qv_neq rfl rfl) ?_
          refine ops_nil ?_
          refine vc_if rfl (fun c11 => ?_) (fun c11 => ?_)
          ·
           refine vc_seq ?_
           have ht1 := tb_1 (A := A) (by omega)
           refine vc_region ?_
           refine oq (qv_mv (.int .i64 (tbE A)) rfl) ?_
           refine oq (qv_eql rfl rfl) ?_
           refine oq (qv_mv (.bool (decide ((tbE A) = 1))) rfl) ?_
           by_cases g14 : (tbE A) = 1
           ·
            refine og (qv_mv uS rfl) (want_t g14 rfl rfl rfl) ?_
            refine og (qv_lenB Try.underlying34 rfl hS) (want_t g14 rfl rfl rfl) ?_
            refine og (qv_eql rfl rfl) (want_t g14 rfl rfl rfl) ?_
            refine oq (qv_pick_t g14 rfl (rfl : ev _ _ = (.bool (decide (((((tbT A)).length : Int)) = 0))))) ?_
            refine oq (qv_as (.bool (decide (((((tbT A)).length : Int)) = 0))) rfl) ?_
            refine ops_nil ?_
            refine vc_ret ?_
            exact rq1 (Value.bool true) (congrArg Value.bool (decide_eq_true (show (((((tbT A)).length : Int)) = 0) from by rw [ht1.2]; rfl))) rfl
           ·
            exact absurd ht1.1 g14
          ·
           refine vc_skip ?_
           refine vc_seq ?_
           refine vc_seq ?_
           refine vc_region ?_
           refine oq (qv_fa (off := 0) Try.field24_0 rfl) ?_
           refine oq (qv_ldp (v := (.int .i64 A.v)) Try.plain3 rfl (inOc (k := 0) rfl) rfl) ?_
           refine oq (qv_gtr rfl rfl) ?_
           refine ops_nil ?_
           refine vc_if rfl (fun c12 => ?_) (fun c12 => ?_)
           ·
            refine vc_seq ?_
            have ht1 := tb_4 (A := A) (by omega) (by omega)
            refine vc_region ?_
            refine oq (qv_mv (.int .i64 (tbE A)) rfl) ?_
            refine oq (qv_eql rfl rfl) ?_
            refine oq (qv_mv (.bool (decide ((tbE A) = 4))) rfl) ?_
            by_cases g15 : (tbE A) = 4
            ·
             refine og (qv_mv uS rfl) (want_t g15 rfl rfl rfl) ?_
             refine og (qv_lenB Try.underlying34 rfl hS) (want_t g15 rfl rfl rfl) ?_
             refine og (qv_eql rfl rfl) (want_t g15 rfl rfl rfl) ?_
             refine oq (qv_pick_t g15 rfl (rfl : ev _ _ = (.bool (decide (((((tbT A)).length : Int)) = 0))))) ?_
             refine oq (qv_as (.bool (decide (((((tbT A)).length : Int)) = 0))) rfl) ?_
             refine ops_nil ?_
             refine vc_ret ?_
             exact rq1 (Value.bool true) (congrArg Value.bool (decide_eq_true (show (((((tbT A)).length : Int)) = 0) from by rw [ht1.2]; rfl))) rfl
            ·
             exact absurd ht1.1 g15
           ·
            refine vc_skip ?_
            refine vc_seq ?_
            have ht1 := tb_0 (A := A) (by omega) (by omega)
            refine vc_region ?_
            refine oq (qv_mv (.int .i64 (tbE A)) rfl) ?_
            refine oq (qv_eql rfl rfl) ?_
            refine oq (qv_mv (.bool (decide ((tbE A) = 0))) rfl) ?_
            by_cases g16 : (tbE A) = 0
            ·
             refine og (qv_mv uS rfl) (want_t g16 rfl rfl rfl) ?_
             refine og (qv_ldm (vs := [(.int .i64 A.v), na, (.int .i64 A.r)]) Try.agg24 rfl (inOc (k := 0) rfl) rfl rfl) (want_t g16 rfl rfl rfl) ?_
             refine ops_want (want_t g16 rfl rfl rfl) ?_
             refine ops_call (σa := []) (σr := [(Arr 24 b1 [(.int .i64 A.v), na, (.int .i64 A.r)]), (Arr 24 b2 [(.int .i64 (((ftD vars t)).v)), u1, (.int .i64 (((ftD vars t)).r))])]) (table_c hA (chk_ok.1 (by omega)) (by omega)) rfl rfl (.refl _) (fun r7 V7 sg7 hV7 hp7 => ?_)
             obtain ⟨rfl, hTr7⟩ := hp7
             have hA := hA.mono hV7
             have ht := ht.mono hV7
             have hN1 := hN1.mono hV7
             have hS := hS.mono hV7
             refine og (qv_call (v := (.bool (decide (tbT A = tbD A)))) (EqB_c hS hTr7) rfl rfl) (want_t g16 rfl rfl rfl) ?_
             refine oq (qv_pick_t g16 rfl (rfl : ev _ _ = (.bool (decide (tbT A = tbD A))))) ?_
             refine oq (qv_as (.bool (decide (tbT A = tbD A))) rfl) ?_
             refine ops_nil ?_
             refine vc_ret ?_
             exact rq1 (Value.bool true) (congrArg Value.bool (decide_eq_true (show (tbT A = tbD A) from by exact ht1.2))) rfl
            ·
             exact absurd ht1.1 g16
       ·
        refine vc_seq ?_
        refine vc_region ?_
        refine oq (qv_ldm (vs := [(.int .i64 (((ftD vars t)).v)), u1, (.int .i64 (((ftD vars t)).r))]) Try.agg24 rfl (inOc (k := 1) rfl) rfl rfl) ?_
        refine ops_call (σa := []) (σr := [(Arr 24 b1 [(.int .i64 A.v), na, (.int .i64 A.r)]), (Arr 24 b2 [(.int .i64 (((ftD vars t)).v)), u1, (.int .i64 (((ftD vars t)).r))])]) (Table_c (A := ftD vars t) hN1) rfl rfl (.refl _) (fun r8 V8 sg8 hV8 hp8 => ?_)
        obtain ⟨rfl, uT, rfl, hT⟩ := hp8
        have hA := hA.mono hV8
        have ht := ht.mono hV8
        have hN1 := hN1.mono hV8
        refine oq (qv_mv (.tuple #[uT, (.int .i64 (tbE (ftD vars t)))]) rfl) ?_
        refine oq (qv_ext uT rfl rfl) ?_
        refine oq (qv_ext (.int .i64 (tbE (ftD vars t))) rfl rfl) ?_
        refine oq (qv_as uT rfl) ?_
        refine oq (qv_as (.int .i64 (tbE (ftD vars t))) rfl) ?_
        refine ops_nil ?_
        refine vc_seq ?_
        have hft := ft_0 (vars := vars) (t := t) (by omega) (by omega)
        have hlt := ft_len (vars := vars) (t := t) (by omega)
        have hbo := bld_ok (vars := vars) (t := t) (by omega) (by omega) hlt
        have htb := tb_0 (A := ftD vars t) (by rw [hft.2]; exact chk_ok.2 hbo) (by rw [hft.2]; show ¬ 12 < vars; omega)
        have hback : tbT (ftD vars t) = t := by rw [htb.2, hft.2, tbD_bld (by omega) hlt]
        refine vc_region_order (τ := []) [(0, false), (1, false), (2, false), (3, false), (4, false), (5, false), (6, false), (7, false), (8, false), (9, false), (10, true), (11, false), (12, false), (13, false), (14, false), (15, false), (16, false), (17, false), (18, false), (19, false)] [(Arr 24 b1 [(.int .i64 A.v), na, (.int .i64 A.r)]), (Arr 24 b2 [(.int .i64 (((ftD vars t)).v)), u1, (.int .i64 (((ftD vars t)).r))])] Try.mixed (perm_nil _) (by kernel_rfl) ?_
        refine rq rfl (qv_mv (.int .i64 (ftE vars t)) rfl) ?_
        refine rq rfl (qv_neq rfl rfl) ?_
        refine rq rfl (qv_mv (.bool (decide ((ftE vars t) ≠ 0))) rfl) ?_
        by_cases g17 : (ftE vars t) ≠ 0
        ·
         exact absurd hft.1 g17
        ·
         refine re rfl (qv_mv (.int .i64 (tbE (ftD vars t))) rfl) (want_f g17 rfl rfl rfl) ?_
         refine re rfl (qv_neq rfl rfl) (want_f g17 rfl rfl rfl) ?_
         refine rq rfl (qv_pick_f g17 rfl (rfl : ev _ _ = (.bool (decide ((tbE (ftD vars t)) ≠ 0))))) ?_
         refine rq rfl (qv_mv (.bool (decide ((tbE (ftD vars t)) ≠ 0))) rfl) ?_
         by_cases g18 : (tbE (ftD vars t)) ≠ 0
         ·
          exact absurd htb.1 g18
         ·
          refine re rfl (qv_ldm (vs := [(.int .i64 (((ftD vars t)).v)), u1, (.int .i64 (((ftD vars t)).r))]) Try.agg24 rfl (inOc (k := 1) rfl) rfl rfl) (want_f g18 rfl rfl rfl) ?_
          refine re rfl (qv_mv (Value.int .i64 vars) rfl) (want_f g18 rfl rfl rfl) ?_
          refine re rfl (qv_mv tv rfl) (want_f g18 rfl rfl rfl) ?_
          refine rl rfl ?_
          refine ops_want (want_f g18 rfl rfl rfl) ?_
          refine ops_call (σa := []) (σr := [(Arr 24 b1 [(.int .i64 A.v), na, (.int .i64 A.r)]), (Arr 24 b2 [(.int .i64 (((ftD vars t)).v)), u1, (.int .i64 (((ftD vars t)).r))])]) (build_c ht (by omega) (by omega) hlt) rfl rfl (.refl _) (fun r9 V9 sg9 hV9 hp9 => ?_)
          obtain ⟨rfl, u2, rfl, hN2⟩ := hp9
          have hA := hA.mono hV9
          have ht := ht.mono hV9
          have hN1 := hN1.mono hV9
          have hT := hT.mono hV9
          refine ops_nil ⟨[(Arr 24 b1 [(.int .i64 A.v), na, (.int .i64 A.r)]), (Arr 24 b2 [(.int .i64 (((ftD vars t)).v)), u1, (.int .i64 (((ftD vars t)).r))])], [], hV9, perm_nil _, ⟨[], (.refl _)⟩, ?_⟩
          refine re rfl (qv_call (v := (.bool (decide (ftD vars t = (bldD vars t))))) (same_c (A := (ftD vars t)) (B := (bldD vars t)) hN1 (hN2)) rfl rfl) (want_f g18 rfl rfl rfl) ?_
          refine re rfl (qv_not rfl) (want_f g18 rfl rfl rfl) ?_
          refine rq rfl (qv_pick_f g18 rfl (rfl : ev _ _ = (.bool (decide (¬ (ftD vars t = (bldD vars t))))))) ?_
          refine rq rfl (qv_mv (.bool (decide (¬ (ftD vars t = (bldD vars t))))) rfl) ?_
          by_cases g19 : ¬ (ftD vars t = (bldD vars t))
          ·
           exact absurd hft.2 g19
          ·
           refine re rfl (qv_mv uT rfl) (want_f g19 rfl rfl rfl) ?_
           refine re rfl (qv_mv tv rfl) (want_f g19 rfl rfl rfl) ?_
           refine re rfl (qv_call (v := (.bool (decide (tbT (ftD vars t) = t)))) (EqB_c hT ht) rfl rfl) (want_f g19 rfl rfl rfl) ?_
           refine re rfl (qv_not rfl) (want_f g19 rfl rfl rfl) ?_
           refine rq rfl (qv_pick_f g19 rfl (rfl : ev _ _ = (.bool (decide (¬ (tbT (ftD vars t) = t)))))) ?_
           refine rnil ?_
           refine vc_if rfl (fun c13 => ?_) (fun c13 => ?_)
           ·
            exact absurd hback c13
           ·
            refine vc_skip ?_
            refine vc_seq ?_
            refine vc_region ?_
            refine oq (qv_ldm (vs := [(.int .i64 A.v), na, (.int .i64 A.r)]) Try.agg24 rfl (inOc (k := 0) rfl) rfl rfl) ?_
            refine ops_call (σa := []) (σr := [(Arr 24 b1 [(.int .i64 A.v), na, (.int .i64 A.r)]), (Arr 24 b2 [(.int .i64 (((ftD vars t)).v)), u1, (.int .i64 (((ftD vars t)).r))])]) (Table_c hA) rfl rfl (.refl _) (fun r10 V10 sg10 hV10 hp10 => ?_)
            obtain ⟨rfl, uS, rfl, hS⟩ := hp10
            have hA := hA.mono hV10
            have ht := ht.mono hV10
            have hN1 := hN1.mono hV10
            have hT := hT.mono hV10
            have hN2 := hN2.mono hV10
            refine oq (qv_mv (.tuple #[uS, (.int .i64 (tbE A))]) rfl) ?_
            refine oq (qv_ext uS rfl rfl) ?_
            refine oq (qv_ext (.int .i64 (tbE A)) rfl rfl) ?_
            refine oq (qv_as uS rfl) ?_
            refine oq (qv_as (.int .i64 (tbE A)) rfl) ?_
            refine ops_nil ?_
            refine vc_seq ?_
            refine vc_seq ?_
            refine vc_region ?_
            refine oq (qv_ldm (vs := [(.int .i64 A.v), na, (.int .i64 A.r)]) Try.agg24 rfl (inOc (k := 0) rfl) rfl rfl) ?_
            refine oq (qv_call (v := (.int .i64 (chkC A.v A.N A.r))) (check_c hA) rfl rfl) ?_
            refine oq (qv_neq rfl rfl) ?_
            refine ops_nil ?_
            refine vc_if rfl (fun c14 => ?_) (fun c14 => ?_)
            ·
             refine vc_seq ?_
             have ht1 := tb_1 (A := A) (by omega)
             refine vc_region ?_
             refine oq (qv_mv (.int .i64 (tbE A)) rfl) ?_
             refine oq (qv_eql rfl rfl) ?_
             refine oq (qv_mv (.bool (decide ((tbE A) = 1))) rfl) ?_
             by_cases g20 : (tbE A) = 1
             ·
              refine og (qv_mv uS rfl) (want_t g20 rfl rfl rfl) ?_
              refine og (qv_lenB Try.underlying34 rfl hS) (want_t g20 rfl rfl rfl) ?_
              refine og (qv_eql rfl rfl) (want_t g20 rfl rfl rfl) ?_
              refine oq (qv_pick_t g20 rfl (rfl : ev _ _ = (.bool (decide (((((tbT A)).length : Int)) = 0))))) ?_
              refine oq (qv_as (.bool (decide (((((tbT A)).length : Int)) = 0))) rfl) ?_
              refine ops_nil ?_
              refine vc_ret ?_
              exact rq1 (Value.bool true) (congrArg Value.bool (decide_eq_true (show (((((tbT A)).length : Int)) = 0) from by rw [ht1.2]; rfl))) rfl
             ·
              exact absurd ht1.1 g20
            ·
             refine vc_skip ?_
             refine vc_seq ?_
             refine vc_seq ?_
             refine vc_region ?_
             refine oq (qv_fa (off := 0) Try.field24_0 rfl) ?_
             refine oq (qv_ldp (v := (.int .i64 A.v)) Try.plain3 rfl (inOc (k := 0) rfl) rfl) ?_
             refine oq (qv_gtr rfl rfl) ?_
             refine ops_nil ?_
             refine vc_if rfl (fun c15 => ?_) (fun c15 => ?_)
             ·
              refine vc_seq ?_
              have ht1 := tb_4 (A := A) (by omega) (by omega)
              refine vc_region ?_
              refine oq (qv_mv (.int .i64 (tbE A)) rfl) ?_
              refine oq (qv_eql rfl rfl) ?_
              refine oq (qv_mv (.bool (decide ((tbE A) = 4))) rfl) ?_
              by_cases g21 : (tbE A) = 4
              ·
               refine og (qv_mv uS rfl) (want_t g21 rfl rfl rfl) ?_
               refine og (qv_lenB Try.underlying34 rfl hS) (want_t g21 rfl rfl rfl) ?_
               refine og (qv_eql rfl rfl) (want_t g21 rfl rfl rfl) ?_
               refine oq (qv_pick_t g21 rfl (rfl : ev _ _ = (.bool (decide (((((tbT A)).length : Int)) = 0))))) ?_
               refine oq (qv_as (.bool (decide (((((tbT A)).length : Int)) = 0))) rfl) ?_
               refine ops_nil ?_
               refine vc_ret ?_
               exact rq1 (Value.bool true) (congrArg Value.bool (decide_eq_true (show (((((tbT A)).length : Int)) = 0) from by rw [ht1.2]; rfl))) rfl
              ·
               exact absurd ht1.1 g21
             ·
              refine vc_skip ?_
              refine vc_seq ?_
              have ht1 := tb_0 (A := A) (by omega) (by omega)
              refine vc_region ?_
              refine oq (qv_mv (.int .i64 (tbE A)) rfl) ?_
              refine oq (qv_eql rfl rfl) ?_
              refine oq (qv_mv (.bool (decide ((tbE A) = 0))) rfl) ?_
              by_cases g22 : (tbE A) = 0
              ·
               refine og (qv_mv uS rfl) (want_t g22 rfl rfl rfl) ?_
               refine og (qv_ldm (vs := [(.int .i64 A.v), na, (.int .i64 A.r)]) Try.agg24 rfl (inOc (k := 0) rfl) rfl rfl) (want_t g22 rfl rfl rfl) ?_
               refine ops_want (want_t g22 rfl rfl rfl) ?_
               refine ops_call (σa := []) (σr := [(Arr 24 b1 [(.int .i64 A.v), na, (.int .i64 A.r)]), (Arr 24 b2 [(.int .i64 (((ftD vars t)).v)), u1, (.int .i64 (((ftD vars t)).r))])]) (table_c hA (chk_ok.1 (by omega)) (by omega)) rfl rfl (.refl _) (fun r11 V11 sg11 hV11 hp11 => ?_)
               obtain ⟨rfl, hTr11⟩ := hp11
               have hA := hA.mono hV11
               have ht := ht.mono hV11
               have hN1 := hN1.mono hV11
               have hT := hT.mono hV11
               have hN2 := hN2.mono hV11
               have hS := hS.mono hV11
               refine og (qv_call (v := (.bool (decide (tbT A = tbD A)))) (EqB_c hS hTr11) rfl rfl) (want_t g22 rfl rfl rfl) ?_
               refine oq (qv_pick_t g22 rfl (rfl : ev _ _ = (.bool (decide (tbT A = tbD A))))) ?_
               refine oq (qv_as (.bool (decide (tbT A = tbD A))) rfl) ?_
               refine ops_nil ?_
               refine vc_ret ?_
               exact rq1 (Value.bool true) (congrArg Value.bool (decide_eq_true (show (tbT A = tbD A) from by exact ht1.2))) rfl
              ·
               exact absurd ht1.1 g22
   ·
    refine os (want_tn g3 rfl rfl rfl) ?_
    refine os (want_tn g3 rfl rfl rfl) ?_
    refine os (want_tn g3 rfl rfl rfl) ?_
    refine og (qv_pick_f g3 rfl (rfl : ev _ _ = (Value.bool false))) (want_f g2 rfl rfl rfl) ?_
    refine oq (qv_pick_f g2 rfl (rfl : ev _ _ = (Value.bool false))) ?_
    refine ops_nil ?_
    refine vc_ff rfl ?_
    refine vc_skip ?_
    refine vc_seq ?_
    refine vc_region ?_
    refine oq (qv_mv (Value.int .i64 vars) rfl) ?_
    refine oq (qv_mv tv rfl) ?_
    refine ops_call (σa := []) (σr := [(Arr 24 b1 [(.int .i64 A.v), na, (.int .i64 A.r)])]) (FromTable_c (vars := vars) ht) rfl rfl (.refl _) (fun r12 V12 sg12 hV12 hp12 => ?_)
    obtain ⟨rfl, u1, rfl, hN1⟩ := hp12
    have hA := hA.mono hV12
    have ht := ht.mono hV12
    refine oq (qv_mv (.tuple #[(.agg #[(.int .i64 (((ftD vars t)).v)), u1, (.int .i64 (((ftD vars t)).r))]), (.int .i64 (ftE vars t))]) rfl) ?_
    refine oq (qv_ext (.agg #[(.int .i64 (((ftD vars t)).v)), u1, (.int .i64 (((ftD vars t)).r))]) rfl rfl) ?_
    refine oq (qv_ext (.int .i64 (ftE vars t)) rfl rfl) ?_
    refine ops_alloc Try.ti24 rfl (fun b3 => ?_)
    refine ops_stw (k := 1) (vs := [(.int .i64 (((ftD vars t)).v)), u1, (.int .i64 (((ftD vars t)).r))]) Try.size24 rfl rfl rfl (allc rfl (allc (SlS.one hN1) (allc rfl rfl))) rfl rfl ?_
    refine oq (qv_as (.int .i64 (ftE vars t)) rfl) ?_
    refine ops_nil ?_
    refine vc_seq ?_
    refine vc_block ?_
    refine vc_seq ?_
    refine vc_res (σ' := [(Arr 24 b1 [(.int .i64 A.v), na, (.int .i64 A.r)]), (Arr 24 b3 [(.int .i64 (((ftD vars t)).v)), u1, (.int .i64 (((ftD vars t)).r))])]) rfl ?_
    refine vc_region ?_
    refine oq (qv_mv (Value.int .i64 vars) rfl) ?_
    refine oq (qv_lss rfl rfl) ?_
    refine oq (qv_mv (.bool (decide (vars < 0))) rfl) ?_
    by_cases g23 : vars < 0
    ·
     refine os (want_fn g23 rfl rfl rfl) ?_
     refine os (want_fn g23 rfl rfl rfl) ?_
     refine oq (qv_pick_t g23 rfl (rfl : ev _ _ = (Value.bool true))) ?_
     refine oq (qv_as (Value.bool true) rfl) ?_
     refine ops_nil ?_
     refine vc_tt rfl ?_
     refine vc_seq ?_
     have hft := ft_3 (vars := vars) (t := t) (by omega)
     refine vc_region ?_
     refine oq (qv_mv (.int .i64 (ftE vars t)) rfl) ?_
     refine oq (qv_neq rfl rfl) ?_
     refine oq (qv_mv (.bool (decide ((ftE vars t) ≠ 3))) rfl) ?_
     by_cases g24 : (ftE vars t) ≠ 3
     ·
      exact absurd hft.1 g24
     ·
      refine og (qv_ldm (vs := [(.int .i64 (((ftD vars t)).v)), u1, (.int .i64 (((ftD vars t)).r))]) Try.agg24 rfl (inOc (k := 1) rfl) rfl rfl) (want_f g24 rfl rfl rfl) ?_
      refine og (qv_build (out := [(Value.int .i64 0), (Value.slice none 0 0), (Value.int .i64 0)]) Try.build24 [] rfl rfl) (want_f g24 rfl rfl rfl) ?_
      refine og (qv_call (v := (.bool (decide (ftD vars t = dg0)))) (same_c (A := (ftD vars t)) (B := dg0) hN1 (Fks.nil)) rfl rfl) (want_f g24 rfl rfl rfl) ?_
      refine og (qv_not rfl) (want_f g24 rfl rfl rfl) ?_
      refine oq (qv_pick_f g24 rfl (rfl : ev _ _ = (.bool (decide (¬ (ftD vars t = dg0)))))) ?_
      refine ops_nil ?_
      refine vc_if rfl (fun c16 => ?_) (fun c16 => ?_)
      ·
       exact absurd hft.2 c16
      ·
       refine vc_skip ?_
       refine vc_seq ?_
       refine vc_region ?_
       refine oq (qv_ldm (vs := [(.int .i64 A.v), na, (.int .i64 A.r)]) Try.agg24 rfl (inOc (k := 0) rfl) rfl rfl) ?_
       refine ops_call (σa := []) (σr := [(Arr 24 b1 [(.int .i64 A.v), na, (.int .i64 A.r)]), (Arr 24 b3 [(.int .i64 (((ftD vars t)).v)), u1, (.int .i64 (((ftD vars t)).r))])]) (Table_c hA) rfl rfl (.refl _) (fun r13 V13 sg13 hV13 hp13 => ?_)
       obtain ⟨rfl, uS, rfl, hS⟩ := hp13
       have hA := hA.mono hV13
       have ht := ht.mono hV13
       have hN1 := hN1.mono hV13
       refine oq (qv_mv (.tuple #[uS, (.int .i64 (tbE A))]) rfl) ?_
       refine oq (qv_ext uS rfl rfl) ?_
       refine oq (qv_ext (.int .i64 (tbE A)) rfl rfl) ?_
       refine oq (qv_as uS rfl) ?_
       refine oq (qv_as (.int .i64 (tbE A)) rfl) ?_
       refine ops_nil ?_
       refine vc_seq ?_
       refine vc_seq ?_
       refine vc_region ?_
       refine oq (qv_ldm (vs := [(.int .i64 A.v), na, (.int .i64 A.r)]) Try.agg24 rfl (inOc (k := 0) rfl) rfl rfl) ?_
       refine oq (qv_call (v := (.int .i64 (chkC A.v A.N A.r))) (check_c hA) rfl rfl) ?_
       refine oq (qv_neq rfl rfl) ?_
       refine ops_nil ?_
       refine vc_if rfl (fun c17 => ?_) (fun c17 => ?_)
       ·
        refine vc_seq ?_
        have ht1 := tb_1 (A := A) (by omega)
        refine vc_region ?_
        refine oq (qv_mv (.int .i64 (tbE A)) rfl) ?_
        refine oq (qv_eql rfl rfl) ?_
        refine oq (qv_mv (.bool (decide ((tbE A) = 1))) rfl) ?_
        by_cases g25 : (tbE A) = 1
        ·
         refine og (qv_mv uS rfl) (want_t g25 rfl rfl rfl) ?_
         refine og (qv_lenB Try.underlying34 rfl hS) (want_t g25 rfl rfl rfl) ?_
         refine og (qv_eql rfl rfl) (want_t g25 rfl rfl rfl) ?_
         refine oq (qv_pick_t g25 rfl (rfl : ev _ _ = (.bool (decide (((((tbT A)).length : Int)) = 0))))) ?_
         refine oq (qv_as (.bool (decide (((((tbT A)).length : Int)) = 0))) rfl) ?_
         refine ops_nil ?_
         refine vc_ret ?_
         exact rq1 (Value.bool true) (congrArg Value.bool (decide_eq_true (show (((((tbT A)).length : Int)) = 0) from by rw [ht1.2]; rfl))) rfl
        ·
         exact absurd ht1.1 g25
       ·
        refine vc_skip ?_
        refine vc_seq ?_
        refine vc_seq ?_
        refine vc_region ?_
        refine oq (qv_fa (off := 0) Try.field24_0 rfl) ?_
        refine oq (qv_ldp (v := (.int .i64 A.v)) Try.plain3 rfl (inOc (k := 0) rfl) rfl) ?_
        refine oq (qv_gtr rfl rfl) ?_
        refine ops_nil ?_
        refine vc_if rfl (fun c18 => ?_) (fun c18 => ?_)
        ·
         refine vc_seq ?_
         have ht1 := tb_4 (A := A) (by omega) (by omega)
         refine vc_region ?_
         refine oq (qv_mv (.int .i64 (tbE A)) rfl) ?_
         refine oq (qv_eql rfl rfl) ?_
         refine oq (qv_mv (.bool (decide ((tbE A) = 4))) rfl) ?_
         by_cases g26 : (tbE A) = 4
         ·
          refine og (qv_mv uS rfl) (want_t g26 rfl rfl rfl) ?_
          refine og (qv_lenB Try.underlying34 rfl hS) (want_t g26 rfl rfl rfl) ?_
          refine og (qv_eql rfl rfl) (want_t g26 rfl rfl rfl) ?_
          refine oq (qv_pick_t g26 rfl (rfl : ev _ _ = (.bool (decide (((((tbT A)).length : Int)) = 0))))) ?_
          refine oq (qv_as (.bool (decide (((((tbT A)).length : Int)) = 0))) rfl) ?_
          refine ops_nil ?_
          refine vc_ret ?_
          exact rq1 (Value.bool true) (congrArg Value.bool (decide_eq_true (show (((((tbT A)).length : Int)) = 0) from by rw [ht1.2]; rfl))) rfl
         ·
          exact absurd ht1.1 g26
        ·
         refine vc_skip ?_
         refine vc_seq ?_
         have ht1 := tb_0 (A := A) (by omega) (by omega)
         refine vc_region ?_
         refine oq (qv_mv (.int .i64 (tbE A)) rfl) ?_
         refine oq (qv_eql rfl rfl) ?_
         refine oq (qv_mv (.bool (decide ((tbE A) = 0))) rfl) ?_
         by_cases g27 : (tbE A) = 0
         ·
          refine og (qv_mv uS rfl) (want_t g27 rfl rfl rfl) ?_
          refine og (qv_ldm (vs := [(.int .i64 A.v), na, (.int .i64 A.r)]) Try.agg24 rfl (inOc (k := 0) rfl) rfl rfl) (want_t g27 rfl rfl rfl) ?_
          refine ops_want (want_t g27 rfl rfl rfl) ?_
          refine ops_call (σa := []) (σr := [(Arr 24 b1 [(.int .i64 A.v), na, (.int .i64 A.r)]), (Arr 24 b3 [(.int .i64 (((ftD vars t)).v)), u1, (.int .i64 (((ftD vars t)).r))])]) (table_c hA (chk_ok.1 (by omega)) (by omega)) rfl rfl (.refl _) (fun r14 V14 sg14 hV14 hp14 => ?_)
          obtain ⟨rfl, hTr14⟩ := hp14
          have hA := hA.mono hV14
          have ht := ht.mono hV14
          have hN1 := hN1.mono hV14
          have hS := hS.mono hV14
          refine og (qv_call (v := (.bool (decide (tbT A = tbD A)))) (EqB_c hS hTr14) rfl rfl) (want_t g27 rfl rfl rfl) ?_
          refine oq (qv_pick_t g27 rfl (rfl : ev _ _ = (.bool (decide (tbT A = tbD A))))) ?_
          refine oq (qv_as (.bool (decide (tbT A = tbD A))) rfl) ?_
          refine ops_nil ?_
          refine vc_ret ?_
          exact rq1 (Value.bool true) (congrArg Value.bool (decide_eq_true (show (tbT A = tbD A) from by exact ht1.2))) rfl
         ·
          exact absurd ht1.1 g27
    ·
     refine og (qv_mv (Value.int .i64 vars) rfl) (want_f g23 rfl rfl rfl) ?_
     refine og (qv_gtr rfl rfl) (want_f g23 rfl rfl rfl) ?_
     refine oq (qv_pick_f g23 rfl (rfl : ev _ _ = (.bool (decide (12 < vars))))) ?_
     refine oq (qv_as (.bool (decide (12 < vars))) rfl) ?_
     refine ops_nil ?_
     refine vc_if rfl (fun c19 => ?_) (fun c19 => ?_)
     ·
      refine vc_seq ?_
      have hft := ft_3 (vars := vars) (t := t) (by omega)
      refine vc_region ?_
      refine oq (qv_mv (.int .i64 (ftE vars t)) rfl) ?_
      refine oq (qv_neq rfl rfl) ?_
      refine oq (qv_mv (.bool (decide ((ftE vars t) ≠ 3))) rfl) ?_
      by_cases g28 : (ftE vars t) ≠ 3
      ·
       exact absurd hft.1 g28
      ·
       refine og (qv_ldm (vs := [(.int .i64 (((ftD vars t)).v)), u1, (.int .i64 (((ftD vars t)).r))]) Try.agg24 rfl (inOc (k := 1) rfl) rfl rfl) (want_f g28 rfl rfl rfl) ?_
       refine og (qv_build (out := [(Value.int .i64 0), (Value.slice none 0 0), (Value.int .i64 0)]) Try.build24 [] rfl rfl) (want_f g28 rfl rfl rfl) ?_
       refine og (qv_call (v := (.bool (decide (ftD vars t = dg0)))) (same_c (A := (ftD vars t)) (B := dg0) hN1 (Fks.nil)) rfl rfl) (want_f g28 rfl rfl rfl) ?_
       refine og (qv_not rfl) (want_f g28 rfl rfl rfl) ?_
       refine oq (qv_pick_f g28 rfl (rfl : ev _ _ = (.bool (decide (¬ (ftD vars t = dg0)))))) ?_
       refine ops_nil ?_
       refine vc_if rfl (fun c20 => ?_) (fun c20 => ?_)
       ·
        exact absurd hft.2 c20
       ·
        refine vc_skip ?_
        refine vc_seq ?_
        refine vc_region ?_
        refine oq (qv_ldm (vs := [(.int .i64 A.v), na, (.int .i64 A.r)]) Try.agg24 rfl (inOc (k := 0) rfl) rfl rfl) ?_
        refine ops_call (σa := []) (σr := [(Arr 24 b1 [(.int .i64 A.v), na, (.int .i64 A.r)]), (Arr 24 b3 [(.int .i64 (((ftD vars t)).v)), u1, (.int .i64 (((ftD vars t)).r))])]) (Table_c hA) rfl rfl (.refl _) (fun r15 V15 sg15 hV15 hp15 => ?_)
        obtain ⟨rfl, uS, rfl, hS⟩ := hp15
        have hA := hA.mono hV15
        have ht := ht.mono hV15
        have hN1 := hN1.mono hV15
        refine oq (qv_mv (.tuple #[uS, (.int .i64 (tbE A))]) rfl) ?_
        refine oq (qv_ext uS rfl rfl) ?_
        refine oq (qv_ext (.int .i64 (tbE A)) rfl rfl) ?_
        refine oq (qv_as uS rfl) ?_
        refine oq (qv_as (.int .i64 (tbE A)) rfl) ?_
        refine ops_nil ?_
        refine vc_seq ?_
        refine vc_seq ?_
        refine vc_region ?_
        refine oq (qv_ldm (vs := [(.int .i64 A.v), na, (.int .i64 A.r)]) Try.agg24 rfl (inOc (k := 0) rfl) rfl rfl) ?_
        refine oq (qv_call (v := (.int .i64 (chkC A.v A.N A.r))) (check_c hA) rfl rfl) ?_
        refine oq (qv_neq rfl rfl) ?_
        refine ops_nil ?_
        refine vc_if rfl (fun c21 => ?_) (fun c21 => ?_)
        ·
         refine vc_seq ?_
         have ht1 := tb_1 (A := A) (by omega)
         refine vc_region ?_
         refine oq (qv_mv (.int .i64 (tbE A)) rfl) ?_
         refine oq (qv_eql rfl rfl) ?_
         refine oq (qv_mv (.bool (decide ((tbE A) = 1))) rfl) ?_
         by_cases g29 : (tbE A) = 1
         ·
          refine og (qv_mv uS rfl) (want_t g29 rfl rfl rfl) ?_
          refine og (qv_lenB Try.underlying34 rfl hS) (want_t g29 rfl rfl rfl) ?_
          refine og (qv_eql rfl rfl) (want_t g29 rfl rfl rfl) ?_
          refine oq (qv_pick_t g29 rfl (rfl : ev _ _ = (.bool (decide (((((tbT A)).length : Int)) = 0))))) ?_
          refine oq (qv_as (.bool (decide (((((tbT A)).length : Int)) = 0))) rfl) ?_
          refine ops_nil ?_
          refine vc_ret ?_
          exact rq1 (Value.bool true) (congrArg Value.bool (decide_eq_true (show (((((tbT A)).length : Int)) = 0) from by rw [ht1.2]; rfl))) rfl
         ·
          exact absurd ht1.1 g29
        ·
         refine vc_skip ?_
         refine vc_seq ?_
         refine vc_seq ?_
         refine vc_region ?_
         refine oq (qv_fa (off := 0) Try.field24_0 rfl) ?_
         refine oq (qv_ldp (v := (.int .i64 A.v)) Try.plain3 rfl (inOc (k := 0) rfl) rfl) ?_
         refine oq (qv_gtr rfl rfl) ?_
         refine ops_nil ?_
         refine vc_if rfl (fun c22 => ?_) (fun c22 => ?_)
         ·
          refine vc_seq ?_
          have ht1 := tb_4 (A := A) (by omega) (by omega)
          refine vc_region ?_
          refine oq (qv_mv (.int .i64 (tbE A)) rfl) ?_
          refine oq (qv_eql rfl rfl) ?_
          refine oq (qv_mv (.bool (decide ((tbE A) = 4))) rfl) ?_
          by_cases g30 : (tbE A) = 4
          ·
           refine og (qv_mv uS rfl) (want_t g30 rfl rfl rfl) ?_
           refine og (qv_lenB Try.underlying34 rfl hS) (want_t g30 rfl rfl rfl) ?_
           refine og (qv_eql rfl rfl) (want_t g30 rfl rfl rfl) ?_
           refine oq (qv_pick_t g30 rfl (rfl : ev _ _ = (.bool (decide (((((tbT A)).length : Int)) = 0))))) ?_
           refine oq (qv_as (.bool (decide (((((tbT A)).length : Int)) = 0))) rfl) ?_
           refine ops_nil ?_
           refine vc_ret ?_
           exact rq1 (Value.bool true) (congrArg Value.bool (decide_eq_true (show (((((tbT A)).length : Int)) = 0) from by rw [ht1.2]; rfl))) rfl
          ·
           exact absurd ht1.1 g30
         ·
          refine vc_skip ?_
          refine vc_seq ?_
          have ht1 := tb_0 (A := A) (by omega) (by omega)
          refine vc_region ?_
          refine oq (qv_mv (.int .i64 (tbE A)) rfl) ?_
          refine oq (qv_eql rfl rfl) ?_
          refine oq (qv_mv (.bool (decide ((tbE A) = 0))) rfl) ?_
          by_cases g31 : (tbE A) = 0
          ·
           refine og (qv_mv uS rfl) (want_t g31 rfl rfl rfl) ?_
           refine og (qv_ldm (vs := [(.int .i64 A.v), na, (.int .i64 A.r)]) Try.agg24 rfl (inOc (k := 0) rfl) rfl rfl) (want_t g31 rfl rfl rfl) ?_
           refine ops_want (want_t g31 rfl rfl rfl) ?_
           refine ops_call (σa := []) (σr := [(Arr 24 b1 [(.int .i64 A.v), na, (.int .i64 A.r)]), (Arr 24 b3 [(.int .i64 (((ftD vars t)).v)), u1, (.int .i64 (((ftD vars t)).r))])]) (table_c hA (chk_ok.1 (by omega)) (by omega)) rfl rfl (.refl _) (fun r16 V16 sg16 hV16 hp16 => ?_)
           obtain ⟨rfl, hTr16⟩ := hp16
           have hA := hA.mono hV16
           have ht := ht.mono hV16
           have hN1 := hN1.mono hV16
           have hS := hS.mono hV16
           refine og (qv_call (v := (.bool (decide (tbT A = tbD A)))) (EqB_c hS hTr16) rfl rfl) (want_t g31 rfl rfl rfl) ?_
           refine oq (qv_pick_t g31 rfl (rfl : ev _ _ = (.bool (decide (tbT A = tbD A))))) ?_
           refine oq (qv_as (.bool (decide (tbT A = tbD A))) rfl) ?_
           refine ops_nil ?_
           refine vc_ret ?_
           exact rq1 (Value.bool true) (congrArg Value.bool (decide_eq_true (show (tbT A = tbD A) from by exact ht1.2))) rfl
          ·
           exact absurd ht1.1 g31
     ·
      refine vc_seq ?_
      refine vc_region ?_
      refine oq (qv_mv tv rfl) ?_
      refine oq (qv_lenB Try.underlying34 rfl ht) ?_
      refine oq (qv_mv (Value.int .i64 vars) rfl) ?_
      refine oq (qv_call (v := (.int .i64 ((2 : Int) ^ vars.toNat))) (power_c (by omega)) rfl rfl) ?_
      refine oq (qv_neq rfl rfl) ?_
      refine oq (qv_as (.bool (decide (((t.length : Int)) ≠ ((2 : Int) ^ vars.toNat)))) rfl) ?_
      refine ops_nil ?_
      refine vc_if rfl (fun c23 => ?_) (fun c23 => ?_)
      ·
       refine vc_seq ?_
       have hft := ft_2 (vars := vars) (t := t) (by omega) (by omega)
       refine vc_region ?_
       refine oq (qv_mv (.int .i64 (ftE vars t)) rfl) ?_
       refine oq (qv_neq rfl rfl) ?_
       refine oq (qv_mv (.bool (decide ((ftE vars t) ≠ 2))) rfl) ?_
       by_cases g32 : (ftE vars t) ≠ 2
       ·
        exact absurd hft.1 g32
       ·
        refine og (qv_ldm (vs := [(.int .i64 (((ftD vars t)).v)), u1, (.int .i64 (((ftD vars t)).r))]) Try.agg24 rfl (inOc (k := 1) rfl) rfl rfl) (want_f g32 rfl rfl rfl) ?_
        refine og (qv_build (out := [(Value.int .i64 0), (Value.slice none 0 0), (Value.int .i64 0)]) Try.build24 [] rfl rfl) (want_f g32 rfl rfl rfl) ?_
        refine og (qv_call (v := (.bool (decide (ftD vars t = dg0)))) (same_c (A := (ftD vars t)) (B := dg0) hN1 (Fks.nil)) rfl rfl) (want_f g32 rfl rfl rfl) ?_
        refine og (qv_not rfl) (want_f g32 rfl rfl rfl) ?_
        refine oq (qv_pick_f g32 rfl (rfl : ev _ _ = (.bool (decide (¬ (ftD vars t = dg0)))))) ?_
        refine ops_nil ?_
        refine vc_if rfl (fun c24 => ?_) (fun c24 => ?_)
        ·
         exact absurd hft.2 c24
        ·
         refine vc_skip ?_
         refine vc_seq ?_
         refine vc_region ?_
         refine oq (qv_ldm (vs := [(.int .i64 A.v), na, (.int .i64 A.r)]) Try.agg24 rfl (inOc (k := 0) rfl) rfl rfl) ?_
         refine ops_call (σa := []) (σr := [(Arr 24 b1 [(.int .i64 A.v), na, (.int .i64 A.r)]), (Arr 24 b3 [(.int .i64 (((ftD vars t)).v)), u1, (.int .i64 (((ftD vars t)).r))])]) (Table_c hA) rfl rfl (.refl _) (fun r17 V17 sg17 hV17 hp17 => ?_)
         obtain ⟨rfl, uS, rfl, hS⟩ := hp17
         have hA := hA.mono hV17
         have ht := ht.mono hV17
         have hN1 := hN1.mono hV17
         refine oq (qv_mv (.tuple #[uS, (.int .i64 (tbE A))]) rfl) ?_
         refine oq (qv_ext uS rfl rfl) ?_
         refine oq (qv_ext (.int .i64 (tbE A)) rfl rfl) ?_
         refine oq (qv_as uS rfl) ?_
         refine oq (qv_as (.int .i64 (tbE A)) rfl) ?_
         refine ops_nil ?_
         refine vc_seq ?_
         refine vc_seq ?_
         refine vc_region ?_
         refine oq (qv_ldm (vs := [(.int .i64 A.v), na, (.int .i64 A.r)]) Try.agg24 rfl (inOc (k := 0) rfl) rfl rfl) ?_
         refine oq (qv_call (v := (.int .i64 (chkC A.v A.N A.r))) (check_c hA) rfl rfl) ?_
         refine oq (qv_neq rfl rfl) ?_
         refine ops_nil ?_
         refine vc_if rfl (fun c25 => ?_) (fun c25 => ?_)
         ·
          refine vc_seq ?_
          have ht1 := tb_1 (A := A) (by omega)
          refine vc_region ?_
          refine oq (qv_mv (.int .i64 (tbE A)) rfl) ?_
          refine oq (qv_eql rfl rfl) ?_
          refine oq (qv_mv (.bool (decide ((tbE A) = 1))) rfl) ?_
          by_cases g33 : (tbE A) = 1
          ·
           refine og (qv_mv uS rfl) (want_t g33 rfl rfl rfl) ?_
           refine og (qv_lenB Try.underlying34 rfl hS) (want_t g33 rfl rfl rfl) ?_
           refine og (qv_eql rfl rfl) (want_t g33 rfl rfl rfl) ?_
           refine oq (qv_pick_t g33 rfl (rfl : ev _ _ = (.bool (decide (((((tbT A)).length : Int)) = 0))))) ?_
           refine oq (qv_as (.bool (decide (((((tbT A)).length : Int)) = 0))) rfl) ?_
           refine ops_nil ?_
           refine vc_ret ?_
           exact rq1 (Value.bool true) (congrArg Value.bool (decide_eq_true (show (((((tbT A)).length : Int)) = 0) from by rw [ht1.2]; rfl))) rfl
          ·
           exact absurd ht1.1 g33
         ·
          refine vc_skip ?_
          refine vc_seq ?_
          refine vc_seq ?_
          refine vc_region ?_
          refine oq (qv_fa (off := 0) Try.field24_0 rfl) ?_
          refine oq (qv_ldp (v := (.int .i64 A.v)) Try.plain3 rfl (inOc (k := 0) rfl) rfl) ?_
          refine oq (qv_gtr rfl rfl) ?_
          refine ops_nil ?_
          refine vc_if rfl (fun c26 => ?_) (fun c26 => ?_)
          ·
           refine vc_seq ?_
           have ht1 := tb_4 (A := A) (by omega) (by omega)
           refine vc_region ?_
           refine oq (qv_mv (.int .i64 (tbE A)) rfl) ?_
           refine oq (qv_eql rfl rfl) ?_
           refine oq (qv_mv (.bool (decide ((tbE A) = 4))) rfl) ?_
           by_cases g34 : (tbE A) = 4
           ·
            refine og (qv_mv uS rfl) (want_t g34 rfl rfl rfl) ?_
            refine og (qv_lenB Try.underlying34 rfl hS) (want_t g34 rfl rfl rfl) ?_
            refine og (qv_eql rfl rfl) (want_t g34 rfl rfl rfl) ?_
            refine oq (qv_pick_t g34 rfl (rfl : ev _ _ = (.bool (decide (((((tbT A)).length : Int)) = 0))))) ?_
            refine oq (qv_as (.bool (decide (((((tbT A)).length : Int)) = 0))) rfl) ?_
            refine ops_nil ?_
            refine vc_ret ?_
            exact rq1 (Value.bool true) (congrArg Value.bool (decide_eq_true (show (((((tbT A)).length : Int)) = 0) from by rw [ht1.2]; rfl))) rfl
           ·
            exact absurd ht1.1 g34
          ·
           refine vc_skip ?_
           refine vc_seq ?_
           have ht1 := tb_0 (A := A) (by omega) (by omega)
           refine vc_region ?_
           refine oq (qv_mv (.int .i64 (tbE A)) rfl) ?_
           refine oq (qv_eql rfl rfl) ?_
           refine oq (qv_mv (.bool (decide ((tbE A) = 0))) rfl) ?_
           by_cases g35 : (tbE A) = 0
           ·
            refine og (qv_mv uS rfl) (want_t g35 rfl rfl rfl) ?_
            refine og (qv_ldm (vs := [(.int .i64 A.v), na, (.int .i64 A.r)]) Try.agg24 rfl (inOc (k := 0) rfl) rfl rfl) (want_t g35 rfl rfl rfl) ?_
            refine ops_want (want_t g35 rfl rfl rfl) ?_
            refine ops_call (σa := []) (σr := [(Arr 24 b1 [(.int .i64 A.v), na, (.int .i64 A.r)]), (Arr 24 b3 [(.int .i64 (((ftD vars t)).v)), u1, (.int .i64 (((ftD vars t)).r))])]) (table_c hA (chk_ok.1 (by omega)) (by omega)) rfl rfl (.refl _) (fun r18 V18 sg18 hV18 hp18 => ?_)
            obtain ⟨rfl, hTr18⟩ := hp18
            have hA := hA.mono hV18
            have ht := ht.mono hV18
            have hN1 := hN1.mono hV18
            have hS := hS.mono hV18
            refine og (qv_call (v := (.bool (decide (tbT A = tbD A)))) (EqB_c hS hTr18) rfl rfl) (want_t g35 rfl rfl rfl) ?_
            refine oq (qv_pick_t g35 rfl (rfl : ev _ _ = (.bool (decide (tbT A = tbD A))))) ?_
            refine oq (qv_as (.bool (decide (tbT A = tbD A))) rfl) ?_
            refine ops_nil ?_
            refine vc_ret ?_
            exact rq1 (Value.bool true) (congrArg Value.bool (decide_eq_true (show (tbT A = tbD A) from by exact ht1.2))) rfl
           ·
            exact absurd ht1.1 g35
      ·
       refine vc_seq ?_
       refine vc_region ?_
       refine oq (qv_ldm (vs := [(.int .i64 (((ftD vars t)).v)), u1, (.int .i64 (((ftD vars t)).r))]) Try.agg24 rfl (inOc (k := 1) rfl) rfl rfl) ?_
       refine ops_call (σa := []) (σr := [(Arr 24 b1 [(.int .i64 A.v), na, (.int .i64 A.r)]), (Arr 24 b3 [(.int .i64 (((ftD vars t)).v)), u1, (.int .i64 (((ftD vars t)).r))])]) (Table_c (A := ftD vars t) hN1) rfl rfl (.refl _) (fun r19 V19 sg19 hV19 hp19 => ?_)
       obtain ⟨rfl, uT, rfl, hT⟩ := hp19
       have hA := hA.mono hV19
       have ht := ht.mono hV19
       have hN1 := hN1.mono hV19
       refine oq (qv_mv (.tuple #[uT, (.int .i64 (tbE (ftD vars t)))]) rfl) ?_
       refine oq (qv_ext uT rfl rfl) ?_
       refine oq (qv_ext (.int .i64 (tbE (ftD vars t))) rfl rfl) ?_
       refine oq (qv_as uT rfl) ?_
       refine oq (qv_as (.int .i64 (tbE (ftD vars t))) rfl) ?_
       refine ops_nil ?_
       refine vc_seq ?_
       have hft := ft_0 (vars := vars) (t := t) (by omega) (by omega)
       have hlt := ft_len (vars := vars) (t := t) (by omega)
       have hbo := bld_ok (vars := vars) (t := t) (by omega) (by omega) hlt
       have htb := tb_0 (A := ftD vars t) (by rw [hft.2]; exact chk_ok.2 hbo) (by rw [hft.2]; show ¬ 12 < vars; omega)
       have hback : tbT (ftD vars t) = t := by rw [htb.2, hft.2, tbD_bld (by omega) hlt]
       refine vc_region_order (τ := []) [(0, false), (1, false), (2, false), (3, false), (4, false), (5, false), (6, false), (7, false), (8, false), (9, false), (10, true), (11, false), (12, false), (13, false), (14, false), (15, false), (16, false), (17, false), (18, false), (19, false)] [(Arr 24 b1 [(.int .i64 A.v), na, (.int .i64 A.r)]), (Arr 24 b3 [(.int .i64 (((ftD vars t)).v)), u1, (.int .i64 (((ftD vars t)).r))])] Try.mixed (perm_nil _) (by kernel_rfl) ?_
       refine rq rfl (qv_mv (.int .i64 (ftE vars t)) rfl) ?_
       refine rq rfl (qv_neq rfl rfl) ?_
       refine rq rfl (qv_mv (.bool (decide ((ftE vars t) ≠ 0))) rfl) ?_
       by_cases g36 : (ftE vars t) ≠ 0
       ·
        exact absurd hft.1 g36
       ·
        refine re rfl (qv_mv (.int .i64 (tbE (ftD vars t))) rfl) (want_f g36 rfl rfl rfl) ?_
        refine re rfl (qv_neq rfl rfl) (want_f g36 rfl rfl rfl) ?_
        refine rq rfl (qv_pick_f g36 rfl (rfl : ev _ _ = (.bool (decide ((tbE (ftD vars t)) ≠ 0))))) ?_
        refine rq rfl (qv_mv (.bool (decide ((tbE (ftD vars t)) ≠ 0))) rfl) ?_
        by_cases g37 : (tbE (ftD vars t)) ≠ 0
        ·
         exact absurd htb.1 g37
        ·
         refine re rfl (qv_ldm (vs := [(.int .i64 (((ftD vars t)).v)), u1, (.int .i64 (((ftD vars t)).r))]) Try.agg24 rfl (inOc (k := 1) rfl) rfl rfl) (want_f g37 rfl rfl rfl) ?_
         refine re rfl (qv_mv (Value.int .i64 vars) rfl) (want_f g37 rfl rfl rfl) ?_
         refine re rfl (qv_mv tv rfl) (want_f g37 rfl rfl rfl) ?_
         refine rl rfl ?_
         refine ops_want (want_f g37 rfl rfl rfl) ?_
         refine ops_call (σa := []) (σr := [(Arr 24 b1 [(.int .i64 A.v), na, (.int .i64 A.r)]), (Arr 24 b3 [(.int .i64 (((ftD vars t)).v)), u1, (.int .i64 (((ftD vars t)).r))])]) (build_c ht (by omega) (by omega) hlt) rfl rfl (.refl _) (fun r20 V20 sg20 hV20 hp20 => ?_)
         obtain ⟨rfl, u2, rfl, hN2⟩ := hp20
         have hA := hA.mono hV20
         have ht := ht.mono hV20
         have hN1 := hN1.mono hV20
         have hT := hT.mono hV20
         refine ops_nil ⟨[(Arr 24 b1 [(.int .i64 A.v), na, (.int .i64 A.r)]), (Arr 24 b3 [(.int .i64 (((ftD vars t)).v)), u1, (.int .i64 (((ftD vars t)).r))])], [], hV20, perm_nil _, ⟨[], (.refl _)⟩, ?_⟩
         refine re rfl (qv_call (v := (.bool (decide (ftD vars t = (bldD vars t))))) (same_c (A := (ftD vars t)) (B := (bldD vars t)) hN1 (hN2)) rfl rfl) (want_f g37 rfl rfl rfl) ?_
         refine re rfl (qv_not rfl) (want_f g37 rfl rfl rfl) ?_
         refine rq rfl (qv_pick_f g37 rfl (rfl : ev _ _ = (.bool (decide (¬ (ftD vars t = (bldD vars t))))))) ?_
         refine rq rfl (qv_mv (.bool (decide (¬ (ftD vars t = (bldD vars t))))) rfl) ?_
         by_cases g38 : ¬ (ftD vars t = (bldD vars t))
         ·
          exact absurd hft.2 g38
         ·
          refine re rfl (qv_mv uT rfl) (want_f g38 rfl rfl rfl) ?_
          refine re rfl (qv_mv tv rfl) (want_f g38 rfl rfl rfl) ?_
          refine re rfl (qv_call (v := (.bool (decide (tbT (ftD vars t) = t)))) (EqB_c hT ht) rfl rfl) (want_f g38 rfl rfl rfl) ?_
          refine re rfl (qv_not rfl) (want_f g38 rfl rfl rfl) ?_
          refine rq rfl (qv_pick_f g38 rfl (rfl : ev _ _ = (.bool (decide (¬ (tbT (ftD vars t) = t)))))) ?_
          refine rnil ?_
          refine vc_if rfl (fun c27 => ?_) (fun c27 => ?_)
          ·
           exact absurd hback c27
          ·
           refine vc_skip ?_
           refine vc_seq ?_
           refine vc_region ?_
           refine oq (qv_ldm (vs := [(.int .i64 A.v), na, (.int .i64 A.r)]) Try.agg24 rfl (inOc (k := 0) rfl) rfl rfl) ?_
           refine ops_call (σa := []) (σr := [(Arr 24 b1 [(.int .i64 A.v), na, (.int .i64 A.r)]), (Arr 24 b3 [(.int .i64 (((ftD vars t)).v)), u1, (.int .i64 (((ftD vars t)).r))])]) (Table_c hA) rfl rfl (.refl _) (fun r21 V21 sg21 hV21 hp21 => ?_)
           obtain ⟨rfl, uS, rfl, hS⟩ := hp21
           have hA := hA.mono hV21
           have ht := ht.mono hV21
           have hN1 := hN1.mono hV21
           have hT := hT.mono hV21
           have hN2 := hN2.mono hV21
           refine oq (qv_mv (.tuple #[uS, (.int .i64 (tbE A))]) rfl) ?_
           refine oq (qv_ext uS rfl rfl) ?_
           refine oq (qv_ext (.int .i64 (tbE A)) rfl rfl) ?_
           refine oq (qv_as uS rfl) ?_
           refine oq (qv_as (.int .i64 (tbE A)) rfl) ?_
           refine ops_nil ?_
           refine vc_seq ?_
           refine vc_seq ?_
           refine vc_region ?_
           refine oq (qv_ldm (vs := [(.int .i64 A.v), na, (.int .i64 A.r)]) Try.agg24 rfl (inOc (k := 0) rfl) rfl rfl) ?_
           refine oq (qv_call (v := (.int .i64 (chkC A.v A.N A.r))) (check_c hA) rfl rfl) ?_
           refine oq (qv_neq rfl rfl) ?_
           refine ops_nil ?_
           refine vc_if rfl (fun c28 => ?_) (fun c28 => ?_)
           ·
            refine vc_seq ?_
            have ht1 := tb_1 (A := A) (by omega)
            refine vc_region ?_
            refine oq (qv_mv (.int .i64 (tbE A)) rfl) ?_
            refine oq (qv_eql rfl rfl) ?_
            refine oq (qv_mv (.bool (decide ((tbE A) = 1))) rfl) ?_
            by_cases g39 : (tbE A) = 1
            ·
             refine og (qv_mv uS rfl) (want_t g39 rfl rfl rfl) ?_
             refine og (qv_lenB Try.underlying34 rfl hS) (want_t g39 rfl rfl rfl) ?_
             refine og (qv_eql rfl rfl) (want_t g39 rfl rfl rfl) ?_
             refine oq (qv_pick_t g39 rfl (rfl : ev _ _ = (.bool (decide (((((tbT A)).length : Int)) = 0))))) ?_
             refine oq (qv_as (.bool (decide (((((tbT A)).length : Int)) = 0))) rfl) ?_
             refine ops_nil ?_
             refine vc_ret ?_
             exact rq1 (Value.bool true) (congrArg Value.bool (decide_eq_true (show (((((tbT A)).length : Int)) = 0) from by rw [ht1.2]; rfl))) rfl
            ·
             exact absurd ht1.1 g39
           ·
            refine vc_skip ?_
            refine vc_seq ?_
            refine vc_seq ?_
            refine vc_region ?_
            refine oq (qv_fa (off := 0) Try.field24_0 rfl) ?_
            refine oq (qv_ldp (v := (.int .i64 A.v)) Try.plain3 rfl (inOc (k := 0) rfl) rfl) ?_
            refine oq (qv_gtr rfl rfl) ?_
            refine ops_nil ?_
            refine vc_if rfl (fun c29 => ?_) (fun c29 => ?_)
            ·
             refine vc_seq ?_
             have ht1 := tb_4 (A := A) (by omega) (by omega)
             refine vc_region ?_
             refine oq (qv_mv (.int .i64 (tbE A)) rfl) ?_
             refine oq (qv_eql rfl rfl) ?_
             refine oq (qv_mv (.bool (decide ((tbE A) = 4))) rfl) ?_
             by_cases g40 : (tbE A) = 4
             ·
              refine og (qv_mv uS rfl) (want_t g40 rfl rfl rfl) ?_
              refine og (qv_lenB Try.underlying34 rfl hS) (want_t g40 rfl rfl rfl) ?_
              refine og (qv_eql rfl rfl) (want_t g40 rfl rfl rfl) ?_
              refine oq (qv_pick_t g40 rfl (rfl : ev _ _ = (.bool (decide (((((tbT A)).length : Int)) = 0))))) ?_
              refine oq (qv_as (.bool (decide (((((tbT A)).length : Int)) = 0))) rfl) ?_
              refine ops_nil ?_
              refine vc_ret ?_
              exact rq1 (Value.bool true) (congrArg Value.bool (decide_eq_true (show (((((tbT A)).length : Int)) = 0) from by rw [ht1.2]; rfl))) rfl
             ·
              exact absurd ht1.1 g40
            ·
             refine vc_skip ?_
             refine vc_seq ?_
             have ht1 := tb_0 (A := A) (by omega) (by omega)
             refine vc_region ?_
             refine oq (qv_mv (.int .i64 (tbE A)) rfl) ?_
             refine oq (qv_eql rfl rfl) ?_
             refine oq (qv_mv (.bool (decide ((tbE A) = 0))) rfl) ?_
             by_cases g41 : (tbE A) = 0
             ·
              refine og (qv_mv uS rfl) (want_t g41 rfl rfl rfl) ?_
              refine og (qv_ldm (vs := [(.int .i64 A.v), na, (.int .i64 A.r)]) Try.agg24 rfl (inOc (k := 0) rfl) rfl rfl) (want_t g41 rfl rfl rfl) ?_
              refine ops_want (want_t g41 rfl rfl rfl) ?_
              refine ops_call (σa := []) (σr := [(Arr 24 b1 [(.int .i64 A.v), na, (.int .i64 A.r)]), (Arr 24 b3 [(.int .i64 (((ftD vars t)).v)), u1, (.int .i64 (((ftD vars t)).r))])]) (table_c hA (chk_ok.1 (by omega)) (by omega)) rfl rfl (.refl _) (fun r22 V22 sg22 hV22 hp22 => ?_)
              obtain ⟨rfl, hTr22⟩ := hp22
              have hA := hA.mono hV22
              have ht := ht.mono hV22
              have hN1 := hN1.mono hV22
              have hT := hT.mono hV22
              have hN2 := hN2.mono hV22
              have hS := hS.mono hV22
              refine og (qv_call (v := (.bool (decide (tbT A = tbD A)))) (EqB_c hS hTr22) rfl rfl) (want_t g41 rfl rfl rfl) ?_
              refine oq (qv_pick_t g41 rfl (rfl : ev _ _ = (.bool (decide (tbT A = tbD A))))) ?_
              refine oq (qv_as (.bool (decide (tbT A = tbD A))) rfl) ?_
              refine ops_nil ?_
              refine vc_ret ?_
              exact rq1 (Value.bool true) (congrArg Value.bool (decide_eq_true (show (tbT A = tbD A) from by exact ht1.2))) rfl
             ·
              exact absurd ht1.1 g41

end Go.Proofs.Ytgehdgeiikjohaa
