import Derived.Test.YtbchkopkgpfkgaaGreatDoorTi
import Derived.Test.YtbchkopkgpfkgaaGreatDoorHb
import Derived.Test.YtbchkopkgpfkgaaGreatDoorFj
/- Walks of the top laws: what each function returns. Printed by a program out of notes. -/
namespace Go.Proofs.YtbchkopkgpfkgaaGreatDoor
open Go.Vc
open Classical


set_option maxRecDepth 100000 in
set_option maxHeartbeats 4000000 in
theorem Miracle_c {V : HV} {va ha ba : Value} {F : Fl} (hF : Fls V va ha ba F) {pv : Value} {B : List Int} {tm : Bool} (hP : Ints .i64 V pv B) {wv gg : Value} {p : List Int} {gw : List Value} {G : List (List Int)} (hp : Ints .i64 V wv p) (hG : Mat .i64 V gg gw G) (ht : TabV Tryz.prog V) (hn : ∀ v ∈ F.vs, v.nm.size ≤ 9223372036854775807) (hn2 : ∀ i : Int, 0 ≤ i → i < F.hs.length → (Go.Proofs.YtbchkopkgpfkgaaGreatDoor.ht F.hs i).nm.size ≤ 9223372036854775807) :
    FnC Tryz.prog 3 [(.agg #[va, ha, ba]), (.agg #[pv, (.bool (decide (tm = true)))]), (.agg #[wv, gg])] V [] (fun v _ _ => v = (Value.bool true)) := by
 refine f_i Tryz.func3 ?_
 intro w0 D
 obtain ⟨hvs, hH⟩ := hF.h
 obtain ⟨xQ, hQb⟩ := hF.b.sl
 have hbvv := SlS.bound hF.v
 have hbh := SlS.bound hH.sl
 have hbb := SlS.bound hQb
 refine s_2 ?_
 refine b_ox fun b1 => ?_
 refine b_ox fun b2 => ?_
 refine b_ox fun b3 => ?_
 refine s_5 ?_
 refine oq (f_c (gma_c ht) rfl rfl) ?_
 refine s_6 ?_
 refine j_n [0,1,2,3,4,5,6,22] [(31, (.bool (decide ((¬ (FitP F 16 4096 16)) ∨ (20 < ((B.length : Int)))))))] ?_ (fun e1 => ?_)
 ·
  refine s_2 ?_
  refine oq (f_c (Fit_c hF hn hn2) rfl rfl) ?_
  refine s_2 ?_
  by_cases g1 : ¬ (FitP F 16 4096 16)
  ·
   refine s_6 ?_
   exact j_e ⟨(jt (.inl g1)), trivial⟩
  ·
   refine s_2 ?_
   refine og (qv_lenI UL.out rfl hP) w_a ?_
   refine s_3 ?_
   exact j_e ⟨(jb (jo g1 Iff.rfl)), trivial⟩
 refine iff' ?_ ?_ <;> intro c1
 ·
  refine s_5 ?_
  exact rt1 rfl
 ·
  refine s_3 ?_
  have hft : FitP F 16 4096 16 := Classical.byContradiction fun q => absurd (Or.inl q) c1
  have hVa := fit_ok hft
  obtain ⟨-, -, f1, f2, f3, -⟩ := hft
  have h64 : F.vs.length ≤ 64 := by have := hVa.sz.1; omega
  have n1 := spc_pos' hVa.vs 1
  have n3 := spc_pos' hVa.vs 3
  have n5 := hVa.vs.s2
  have h16 : spc F.vs 1 * spc F.vs 3 ≤ 256 := Int.mul_le_mul (a := spc F.vs 1) (b := spc F.vs 3) (c := 16) (d := 16) f1 f3 o_m o_m
  refine s_5 ?_
  refine oq (f_c (RankO_c hF.v h64 hVa.vs o_m o_m hP) rfl rfl) ?_
  refine s_11 ?_
  refine iff' ?_ ?_ <;> intro c2
  ·
   refine s_5 ?_
   exact rt1 rfl
  ·
   refine s_2 ?_
   have hB : rkE (vfl F.vs 2) B = 0 := by omega
   refine s_3 ?_
   refine c_l [] (Of_c (tm := tm) hF hVa hP hB ht h16) rfl rfl fun r1 V1 sg1 hV1 hp1 => ?_
   obtain ⟨rfl, cw, sv, rv, A, d, rfl, ⟨f, g, hch⟩, hd, hM, xs, hxs⟩ := hp1
   have hA := hch.len
   have hdl := hd.length_eq
   rw [iota_len] at hdl
   have hcn := chM_chn hch hd o_m o_m o_m o_m o_m
   have hcw := chM_wdt hch hd o_m
   have hct := chM_totC hch hd o_m o_m
   have hcp := chM_pos hch hd o_m
   have hq1 : spc F.vs 3 = 1 → topsF (chM (oK F B tm) (spc F.vs 1) (spc F.vs 3) A d) = A.length ∧ (clsK (fun x : Nat => keyO (oK F B tm x 0)) (spc F.vs 1).toNat).length = A.length := fun e => ⟨chM_tops hch hd o_m o_m e o_m, chM_cls hch e o_m⟩
   have hcl : ((chM (oK F B tm) (spc F.vs 1) (spc F.vs 3) A d)).length = (spc F.vs 1).toNat := chM_len
   generalize (chM (oK F B tm) (spc F.vs 1) (spc F.vs 3) A d) = L at hM hcn hcw hct hcp hq1 hcl
   have hrl := hM.len
   have hF := hF.mono hV1
   have hP := hP.mono hV1
   have hp := hp.mono hV1
   have hG := hG.mono hV1
   have ht := ht.mono hV1
   refine s_4 ?_
   refine a_lo fun b4 => ?_
   refine s_tw rfl rfl (allc (Sl.one hM.sl) rfl) ?_
   refine s_7 ?_
   refine oq (f_c (SpaceO_c hF.v h64 hVa.vs o_m o_m) rfl rfl) ?_
   refine s_12 ?_
   by_cases g2 : (0 : Int) ≠ 0
   ·
    exact absurd rfl g2
   ·
    refine s_2 ?_
    refine og (qv_lenS UL.out rfl hM.sl) w_a ?_
    refine s_4 ?_
    refine iff' ?_ ?_ <;> intro c3
    ·
     refine s_5 ?_
     exact rt1 (by first | rfl | (omega))
    ·
     refine s_2 ?_
     have hcb := capT_bd hcn o_m
     refine s_2 ?_
     refine oq (f_c (by have h := Capacity_c hM; rw [iN_t hcn, iN_t hcn, iE_t hcn] at h; exact h) rfl rfl) ?_
     refine s_3 ?_
     refine a_lo fun b5 => ?_
     refine s_10 ?_
     refine og (f_c (gpl_c) rfl rfl) w_a ?_
     refine s_3 ?_
     refine iff' ?_ ?_ <;> intro c4
     ·
      exact absurd o_m c4
     ·
      refine s_6 ?_
      refine c_l [] (OfR_c hF.v h64) rfl rfl fun r2 V2 sg2 hV2 hp2 => ?_
      obtain ⟨rfl, hov⟩ := hp2
      have hF := hF.mono hV2
      have hP := hP.mono hV2
      have hp := hp.mono hV2
      have hG := hG.mono hV2
      have ht := ht.mono hV2
      have hM := hM.mono hV2
      refine oq (qv_lenSS UL.out rfl hov) ?_
      refine s_2 ?_
      refine iff' ?_ ?_ <;> intro c5
      ·
       refine s_1 ?_
       have h3 : vfl F.vs 3 = [] := List.length_eq_zero_iff.1 o_m
       have hr1 : spc F.vs 3 = 1 := spc_none h3
       have hq1 := hq1 hr1
       have hf1 : frN (topsF L) (totC L) = (A.length : Int) ∧ frD (topsF L) (totC L) = 1 := by rw [hq1.1, hct, hr1]; exact fr_by1
       refine s_3 ?_
       refine c_l [] (Act_c (tm := tm) hF hVa hP (by rw [h3]; exact Ints.nil) hB ht h3) rfl rfl fun r3 V3 sg3 hV3 hp3 => ?_
       obtain ⟨rfl, pu, rfl, P, hPu, hPl⟩ := hp3
       have hF := hF.mono hV3
       have hP := hP.mono hV3
       have hp := hp.mono hV3
       have hG := hG.mono hV3
       have ht := ht.mono hV3
       have hM := hM.mono hV3
       refine s_7 ?_
       refine j_n [0,1,2,3,4,5,6,8,9,11,12,14,22,31,41,63,75,80] [(102, (.bool (decide ((((0 : Int) ≠ 0) ∨ (¬ ((frN (topsF L) (totC L)) = ((A.length : Int)) ∧ (frD (topsF L) (totC L)) = 1))) ∨ (((A.length : Int)) ≠ ((A.length : Int)))))))] ?_ (fun e2 => ?_)
       ·
        refine s_6 ?_
        refine qg (f_c (by have hl := hPl; rw [← hPl.len] at hl; have h := pcnt_c hPu hl (by have := hPl.len; omega); rw [hPl.len, hq1.2] at h; exact h) rfl rfl) w_a ?_
        refine qg (qv_build (out := [(.int .i64 ((A.length : Int))), (Value.int .i64 1)]) BI.out [(0, [(.int .i64 ((A.length : Int)))]), (1, [(Value.int .i64 1)])] rfl rfl) w_a ?_
        refine qg (qv_neqs Tryz.eq47 [frN (topsF L) (totC L), frD (topsF L) (totC L)] [(A.length : Int), 1] rfl rfl rfl rfl rfl rfl eq2) w_a ?_
        refine s_2 ?_
        by_cases g3 : ¬ ((frN (topsF L) (totC L)) = ((A.length : Int)) ∧ (frD (topsF L) (totC L)) = 1)
        ·
         refine s_7 ?_
         exact j_e ⟨(jt (.inl ((jo g2 Iff.rfl).1 g3))), trivial⟩
        ·
         refine s_1 ?_
         refine qg (f_c (by have h := Distinct_c hM hcn hcp; rw [hcw] at h; exact h) rfl rfl) w_a ?_
         refine s_1 ?_
         refine qg (f_c (by have hl := hPl; rw [← hPl.len] at hl; have h := pcnt_c hPu hl (by have := hPl.len; omega); rw [hPl.len, hq1.2] at h; exact h) rfl rfl) w_a ?_
         refine s_3 ?_
         exact j_e ⟨(jb (jo (fun z => g3 ((jo g2 Iff.rfl).2 z)) Iff.rfl)), trivial⟩
       refine iff' ?_ ?_ <;> intro c6
       ·
        refine s_5 ?_
        exact rt1 (by first | rfl | (omega))
       ·
        refine s_6 ?_
        refine oq (f_c (small_c hp hG) rfl rfl) ?_
        refine s_2 ?_
        refine iff' ?_ ?_ <;> intro c7
        ·
         refine s_5 ?_
         exact rt1 rfl
        ·
         refine s_2 ?_
         have hsm : BetS p G (spc F.vs 1) := Decidable.not_not.1 c7
         have hLn : (L.length : Int) = spc F.vs 1 := by omega
         have hpo : Chn L ∧ Pri p (L.length : Int) ∧ Gai G (L.length : Int) := ⟨hcn, by rw [hLn]; exact hsm.pri n1, by rw [hLn]; exact hsm.gai n1⟩
         have hpq : (p.length : Int) = L.length := hpo.2.1.2.1
         have hyp : Pri p (p.length : Int) ∧ Gai G (p.length : Int) := by rw [hpq]; exact hpo.2
         have hmb := mirT_bd hcn hpo.2.1 hpo.2.2 o_m hsm.tot
         have hm1 := mir1 (G := G) hcn hpo.2.1
         have hm2 := mir2 hcn hpo.2.1 hpo.2.2
         refine s_5 ?_
         refine oq (f_c (by have h := Prior_c hp hG; rw [iN_t hyp, iN_t hyp, iE_t hyp] at h; exact h) rfl rfl) ?_
         refine s_3 ?_
         refine a_lo fun b6 => ?_
         refine s_10 ?_
         refine oq (f_c (by have h := Posterior_c hM hp hG; rw [iN_t hpo, iN_t hpo, iE_t hpo] at h; exact h) rfl rfl) ?_
         refine s_3 ?_
         refine a_lo fun b7 => ?_
         refine s_14 ?_
         refine og (f_c (gpl_c) rfl rfl) w_a ?_
         refine s_3 ?_
         by_cases g4 : ¬ (0 ≤ (frN (bestF p G) (tot p)) ∧ (frN (bestF p G) (tot p)) ≤ 1048576 ∧ 1 ≤ (frD (bestF p G) (tot p)) ∧ (frD (bestF p G) (tot p)) ≤ 1048576)
         ·
          exact absurd o_m g4
         ·
          refine s_1 ?_
          refine og (f_c (gpl_c) rfl rfl) w_a ?_
          refine s_3 ?_
          refine iff' ?_ ?_ <;> intro c8
          ·
           exact absurd o_m c8
          ·
           refine s_2 ?_
           have hb0 := Int.mul_le_mul (a := frN (bestF p G) (tot p)) (b := frD (postF L p G) (totC L * tot p)) (c := 65536) (d := 1024) o_m o_m o_m o_m
           have hn0 := Int.mul_nonneg (a := frN (bestF p G) (tot p)) (b := frD (postF L p G) (totC L * tot p)) o_m o_m
           have hb1 := Int.mul_le_mul (a := frN (postF L p G) (totC L * tot p)) (b := frD (bestF p G) (tot p)) (c := 1048576) (d := 64) o_m o_m o_m o_m
           have hn1 := Int.mul_nonneg (a := frN (postF L p G) (totC L * tot p)) (b := frD (bestF p G) (tot p)) o_m o_m
           have hb2 := Int.mul_le_mul (a := frN (postF L p G) (totC L * tot p)) (b := frD (topsF L) (totC L)) (c := 1048576) (d := 16) o_m o_m o_m o_m
           have hn2 := Int.mul_nonneg (a := frN (postF L p G) (totC L * tot p)) (b := frD (topsF L) (totC L)) o_m o_m
           have hb3 := Int.mul_le_mul (a := frN (postF L p G) (totC L * tot p) * frD (topsF L) (totC L)) (b := frD (bestF p G) (tot p)) (c := 1048576 * 16) (d := 64) o_m o_m o_m o_m
           have hn3 := Int.mul_nonneg (a := frN (postF L p G) (totC L * tot p) * frD (topsF L) (totC L)) (b := frD (bestF p G) (tot p)) o_m o_m
           have hb4 := Int.mul_le_mul (a := frN (topsF L) (totC L)) (b := frN (bestF p G) (tot p)) (c := 4096) (d := 65536) o_m o_m o_m o_m
           have hn4 := Int.mul_nonneg (a := frN (topsF L) (totC L)) (b := frN (bestF p G) (tot p)) o_m o_m
           have hb5 := Int.mul_le_mul (a := frN (topsF L) (totC L) * frN (bestF p G) (tot p)) (b := frD (postF L p G) (totC L * tot p)) (c := 4096 * 65536) (d := 1024) o_m o_m o_m o_m
           have hn5 := Int.mul_nonneg (a := frN (topsF L) (totC L) * frN (bestF p G) (tot p)) (b := frD (postF L p G) (totC L * tot p)) o_m o_m
           refine s_13 ?_
           by_cases g5 : ((frN (bestF p G) (tot p)) * (frD (postF L p G) (totC L * tot p))) ≤ ((frN (postF L p G) (totC L * tot p)) * (frD (bestF p G) (tot p)))
           ·
            refine s_21 ?_
            exact rt1 (jdt o_m)
           ·
            exact absurd hm1 g5
      ·
       refine s_6 ?_
       refine oq (f_c (small_c hp hG) rfl rfl) ?_
       refine s_2 ?_
       refine iff' ?_ ?_ <;> intro c9
       ·
        refine s_5 ?_
        exact rt1 rfl
       ·
        refine s_2 ?_
        have hsm : BetS p G (spc F.vs 1) := Decidable.not_not.1 c9
        have hLn : (L.length : Int) = spc F.vs 1 := by omega
        have hpo : Chn L ∧ Pri p (L.length : Int) ∧ Gai G (L.length : Int) := ⟨hcn, by rw [hLn]; exact hsm.pri n1, by rw [hLn]; exact hsm.gai n1⟩
        have hpq : (p.length : Int) = L.length := hpo.2.1.2.1
        have hyp : Pri p (p.length : Int) ∧ Gai G (p.length : Int) := by rw [hpq]; exact hpo.2
        have hmb := mirT_bd hcn hpo.2.1 hpo.2.2 o_m hsm.tot
        have hm1 := mir1 (G := G) hcn hpo.2.1
        have hm2 := mir2 hcn hpo.2.1 hpo.2.2
        refine s_5 ?_
        refine oq (f_c (by have h := Prior_c hp hG; rw [iN_t hyp, iN_t hyp, iE_t hyp] at h; exact h) rfl rfl) ?_
        refine s_3 ?_
        refine a_lo fun b8 => ?_
        refine s_10 ?_
        refine oq (f_c (by have h := Posterior_c hM hp hG; rw [iN_t hpo, iN_t hpo, iE_t hpo] at h; exact h) rfl rfl) ?_
        refine s_3 ?_
        refine a_lo fun b9 => ?_
        refine s_14 ?_
        refine og (f_c (gpl_c) rfl rfl) w_a ?_
        refine s_3 ?_
        by_cases g6 : ¬ (0 ≤ (frN (bestF p G) (tot p)) ∧ (frN (bestF p G) (tot p)) ≤ 1048576 ∧ 1 ≤ (frD (bestF p G) (tot p)) ∧ (frD (bestF p G) (tot p)) ≤ 1048576)
        ·
         exact absurd o_m g6
        ·
         refine s_1 ?_
         refine og (f_c (gpl_c) rfl rfl) w_a ?_
         refine s_3 ?_
         refine iff' ?_ ?_ <;> intro c10
         ·
          exact absurd o_m c10
         ·
          refine s_2 ?_
          have hb0 := Int.mul_le_mul (a := frN (bestF p G) (tot p)) (b := frD (postF L p G) (totC L * tot p)) (c := 65536) (d := 1024) o_m o_m o_m o_m
          have hn0 := Int.mul_nonneg (a := frN (bestF p G) (tot p)) (b := frD (postF L p G) (totC L * tot p)) o_m o_m
          have hb1 := Int.mul_le_mul (a := frN (postF L p G) (totC L * tot p)) (b := frD (bestF p G) (tot p)) (c := 1048576) (d := 64) o_m o_m o_m o_m
          have hn1 := Int.mul_nonneg (a := frN (postF L p G) (totC L * tot p)) (b := frD (bestF p G) (tot p)) o_m o_m
          have hb2 := Int.mul_le_mul (a := frN (postF L p G) (totC L * tot p)) (b := frD (topsF L) (totC L)) (c := 1048576) (d := 16) o_m o_m o_m o_m
          have hn2 := Int.mul_nonneg (a := frN (postF L p G) (totC L * tot p)) (b := frD (topsF L) (totC L)) o_m o_m
          have hb3 := Int.mul_le_mul (a := frN (postF L p G) (totC L * tot p) * frD (topsF L) (totC L)) (b := frD (bestF p G) (tot p)) (c := 1048576 * 16) (d := 64) o_m o_m o_m o_m
          have hn3 := Int.mul_nonneg (a := frN (postF L p G) (totC L * tot p) * frD (topsF L) (totC L)) (b := frD (bestF p G) (tot p)) o_m o_m
          have hb4 := Int.mul_le_mul (a := frN (topsF L) (totC L)) (b := frN (bestF p G) (tot p)) (c := 4096) (d := 65536) o_m o_m o_m o_m
          have hn4 := Int.mul_nonneg (a := frN (topsF L) (totC L)) (b := frN (bestF p G) (tot p)) o_m o_m
          have hb5 := Int.mul_le_mul (a := frN (topsF L) (totC L) * frN (bestF p G) (tot p)) (b := frD (postF L p G) (totC L * tot p)) (c := 4096 * 65536) (d := 1024) o_m o_m o_m o_m
          have hn5 := Int.mul_nonneg (a := frN (topsF L) (totC L) * frN (bestF p G) (tot p)) (b := frD (postF L p G) (totC L * tot p)) o_m o_m
          refine s_13 ?_
          by_cases g7 : ((frN (bestF p G) (tot p)) * (frD (postF L p G) (totC L * tot p))) ≤ ((frN (postF L p G) (totC L * tot p)) * (frD (bestF p G) (tot p)))
          ·
           refine s_21 ?_
           exact rt1 (jdt o_m)
          ·
           exact absurd hm1 g7

end Go.Proofs.YtbchkopkgpfkgaaGreatDoor
