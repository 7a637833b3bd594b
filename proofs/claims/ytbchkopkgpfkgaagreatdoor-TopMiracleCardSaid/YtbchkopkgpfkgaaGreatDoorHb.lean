import Derived.Test.YtbchkopkgpfkgaaGreatDoorTi
import Derived.Test.YtbchkopkgpfkgaaGreatDoorGy
import Derived.Test.YtbchkopkgpfkgaaGreatDoorWz
/- Walks of the top laws: what each function returns. Printed by a program out of notes. -/
namespace Go.Proofs.YtbchkopkgpfkgaaGreatDoor
open Go.Vc
open Classical

set_option maxRecDepth 100000 in
set_option maxHeartbeats 4000000 in
theorem gma_c {V : HV} (ht : TabV Tryz.prog V) :
    FnC Tryz.prog 5 [] V [] (fun v _ _ => v = (Value.bool true)) := by
 refine f_i Tryz.func5 ?_
 intro w0 D
 have e1 : spc F0.vs 1 = 4 := rfl
 have e3 : spc F0.vs 3 = 1 := rfl
 refine s_6 ?_
 refine oq (qv_build (out := [(Value.string (⟨#[120]⟩ : ByteArray)), (Value.int .i64 1), (Value.int .i64 0), (Value.int .i64 3), (Value.int .i64 0)]) BI.out [(0, [(Value.string (⟨#[120]⟩ : ByteArray))]), (1, [(Value.int .i64 1)]), (3, [(Value.int .i64 3)])] rfl rfl) ?_
 refine ops_lit (n := 1) (s := 5) (cs := [(Value.string (⟨#[120]⟩ : ByteArray)), (Value.int .i64 1), (Value.int .i64 0), (Value.int .i64 3), (Value.int .i64 0)]) UL.out TZ.out (l_b rfl) rfl rfl rfl (l_b rfl) rfl (fun b1 => ?_)
 refine oq (qv_build (out := [(Value.int .i64 24), (Value.int .i64 0), (Value.slice none 0 0)]) BI.out [(0, [(Value.int .i64 24)])] rfl rfl) ?_
 refine oq (qv_build (out := [(Value.int .i64 0), (Value.int .i64 2), (Value.slice none 0 0)]) BI.out [(1, [(Value.int .i64 2)])] rfl rfl) ?_
 refine ops_lit (n := 2) (s := 3) (cs := [(Value.int .i64 24), (Value.int .i64 0), (Value.slice none 0 0), (Value.int .i64 0), (Value.int .i64 2), (Value.slice none 0 0)]) UL.out TZ.out (l_b rfl) rfl rfl rfl (l_b rfl) rfl (fun b2 => ?_)
 refine oq (qv_build (out := [(Value.int .i64 12), (Value.int .i64 0), (.slice (some ⟨b2, 0, none⟩) 2 2)]) BI.out [(0, [(Value.int .i64 12)]), (2, [(.slice (some ⟨b2, 0, none⟩) 2 2)])] rfl rfl) ?_
 refine oq (qv_build (out := [(Value.int .i64 1), (Value.int .i64 0), (Value.int .i64 0), (Value.int .i64 0), (Value.int .i64 12), (Value.int .i64 0), (.slice (some ⟨b2, 0, none⟩) 2 2), (Value.slice none 0 0), (Value.slice none 0 0), (Value.slice none 0 0)]) BI.out [(0, [(Value.int .i64 1)]), (4, [(Value.int .i64 12), (Value.int .i64 0), (.slice (some ⟨b2, 0, none⟩) 2 2)])] rfl rfl) ?_
 refine ops_lit (n := 1) (s := 10) (cs := [(Value.int .i64 1), (Value.int .i64 0), (Value.int .i64 0), (Value.int .i64 0), (Value.int .i64 12), (Value.int .i64 0), (.slice (some ⟨b2, 0, none⟩) 2 2), (Value.slice none 0 0), (Value.slice none 0 0), (Value.slice none 0 0)]) UL.out TZ.out (l_b rfl) rfl rfl rfl (l_b rfl) rfl (fun b3 => ?_)
 refine oq (qv_build (out := [(.slice (some ⟨b1, 0, none⟩) 1 1), (Value.slice none 0 0), (.slice (some ⟨b3, 0, none⟩) 1 1)]) BI.out [(0, [(.slice (some ⟨b1, 0, none⟩) 1 1)]), (2, [(.slice (some ⟨b3, 0, none⟩) 1 1)])] rfl rfl) ?_
 refine a_lo fun b4 => ?_
 refine s_3 ?_
 refine v_f 0 fun Vf1 hVf1 hc1 => ?_
 have ht := ht.mono hVf1
 refine v_f 0 fun Vf2 hVf2 hc2 => ?_
 have ht := ht.mono hVf2
 have hc1 := hc1.mono hVf2
 refine v_f 0 fun Vf3 hVf3 hc3 => ?_
 have ht := ht.mono hVf3
 have hc1 := hc1.mono hVf3
 have hc2 := hc2.mono hVf3
 refine s_1 ?_
 have hF := F0_fls hc1 hc2 hc3
 refine s_1 ?_
 refine oq (qv_build (out := [(Value.slice none 0 0), (Value.bool false)]) BI.out [] rfl rfl) ?_
 refine c_l [] (Of_c (F := F0) (B := []) (tm := false) hF F0_valid Ints.nil (by rw [F0_fl.2.1]; exact rkE_nil) ht (by rw [e1, e3]; omega)) rfl rfl fun r1 V1 sg1 hV1 hp1 => ?_
 obtain ⟨rfl, cw, sv, rv, A, d, rfl, ⟨f, g, hch⟩, hd, hM, xs, hxs⟩ := hp1
 have hA := hch.len
 have hdl := hd.length_eq
 rw [iota_len] at hdl
 have hcn := chM_chn hch hd (by rw [e1]; omega) (by rw [e1]; omega) (by rw [e3]; omega) (by rw [e3]; omega) (by rw [e1, e3] at hA; omega)
 have hcw := chM_wdt hch hd (by rw [e1]; omega)
 have hct := chM_totC hch hd (by rw [e1]; omega) (by rw [e3]; omega)
 have hcp := chM_pos hch hd (by rw [e1]; omega)
 have hq1 : spc F0.vs 3 = 1 → topsF (chM (oK F0 [] false) (spc F0.vs 1) (spc F0.vs 3) A d) = A.length ∧ (clsK (fun x : Nat => keyO (oK F0 [] false x 0)) (spc F0.vs 1).toNat).length = A.length := fun e => ⟨chM_tops hch hd (by rw [e1]; omega) (by rw [e1]; omega) e (by rw [e1, e3] at hA; omega), chM_cls hch e (by rw [e1]; omega)⟩
 have hcl : ((chM (oK F0 [] false) (spc F0.vs 1) (spc F0.vs 3) A d)).length = (spc F0.vs 1).toNat := chM_len
 generalize (chM (oK F0 [] false) (spc F0.vs 1) (spc F0.vs 3) A d) = L at hM hcn hcw hct hcp hq1 hcl
 have hrl := hM.len
 have hq2 := hq1 e3
 have hq3 : A.length = 2 := by have h := hq2.2; rw [show (spc F0.vs 1).toNat = 4 from rfl, F0_cls] at h; exact h.symm
 have hcap : frN (topsF L) (totC L) = 2 ∧ frD (topsF L) (totC L) = 1 := by rw [hq2.1, hct, e3, hq3]; exact fr_by1
 have hrv : (rv.length : Int) = 4 := by rw [hrl, hcl, e1]; rfl
 have ht := ht.mono hV1
 have hc1 := hc1.mono hV1
 have hc2 := hc2.mono hV1
 have hc3 := hc3.mono hV1
 have hF := hF.mono hV1
 refine s_4 ?_
 refine a_lo fun b5 => ?_
 refine s_tw rfl rfl (allc (Sl.one hM.sl) rfl) ?_
 refine s_6 ?_
 refine oq (f_c (by have h := Capacity_c hM; rw [iN_t hcn, iN_t hcn, iE_t hcn] at h; exact h) rfl rfl) ?_
 refine s_3 ?_
 refine a_lo fun b6 => ?_
 refine s_6 ?_
 refine oq (qv_build (out := [(Value.slice none 0 0), (Value.bool false)]) BI.out [] rfl rfl) ?_
 refine c_l [] (Act_c (F := F0) (B := []) (tm := false) hF F0_valid Ints.nil (by rw [F0_fl.2.2]; exact Ints.nil) (by rw [F0_fl.2.1]; exact rkE_nil) ht F0_fl.2.2) rfl rfl fun r2 V2 sg2 hV2 hp2 => ?_
 obtain ⟨rfl, pu, rfl, P, hPu, hPl⟩ := hp2
 have ht := ht.mono hV2
 have hc1 := hc1.mono hV2
 have hc2 := hc2.mono hV2
 have hc3 := hc3.mono hV2
 have hF := hF.mono hV2
 have hM := hM.mono hV2
 refine s_7 ?_
 refine j_n [1,2] [(0, (.bool (decide (((((((0 : Int) = 0) ∧ ((0 : Int) = 0)) ∧ ((0 : Int) = 0)) ∧ (((rv.length : Int)) = 4)) ∧ ((frN (topsF L) (totC L)) = 2 ∧ (frD (topsF L) (totC L)) = 1)) ∧ (((2 : Int)) = 2)))))] ?_ (fun e1 => ?_)
 ·
  refine s_4 ?_
  by_cases g1 : (0 : Int) = 0
  ·
   refine s_10 ?_
   refine og (qv_lenS UL.out rfl hM.sl) w_a ?_
   refine s_3 ?_
   by_cases g2 : ((rv.length : Int)) = 4
   ·
    refine s_1 ?_
    refine og (qv_build (out := [(Value.int .i64 2), (Value.int .i64 1)]) BI.out [(0, [(Value.int .i64 2)]), (1, [(Value.int .i64 1)])] rfl rfl) w_a ?_
    refine og (qv_eqls Tryz.eq47 [frN (topsF L) (totC L), frD (topsF L) (totC L)] [2, 1] rfl rfl rfl rfl rfl rfl eq2) w_a ?_
    refine s_2 ?_
    by_cases g3 : (frN (topsF L) (totC L)) = 2 ∧ (frD (topsF L) (totC L)) = 1
    ·
     refine s_1 ?_
     refine og (f_c (by have hl := hPl; rw [← hPl.len] at hl; have h := pcnt_c hPu hl (by rw [hPl.len]; decide); rw [hPl.len, hq2.2, hq3] at h; exact h) rfl rfl) w_a ?_
     refine s_4 ?_
     exact j_e ⟨(jb (ja ((ja ((ja ((ja ((ja g1 Iff.rfl).1 g1) Iff.rfl).1 g1) Iff.rfl).1 g2) Iff.rfl).1 g3) Iff.rfl)), trivial⟩
    ·
     exact absurd hcap g3
   ·
    exact absurd hrv g2
  ·
   refine s_25 ?_
   exact j_e ⟨(jf (fun z => (fun z => (fun z => (fun z => (fun z => g1 z.1) z.1) z.1) z.1) z.1)), trivial⟩
 refine s_1 ?_
 exact rt1 (jdt o_m)

end Go.Proofs.YtbchkopkgpfkgaaGreatDoor
