import Derived.Test.YtbchkopkgpfkgaaGreatDoorTi
import Derived.Test.YtbchkopkgpfkgaaGreatDoorJa
import Derived.Test.YtbchkopkgpfkgaaGreatDoorJd
import Derived.Test.YtbchkopkgpfkgaaGreatDoorWs
import Derived.Test.YtbchkopkgpfkgaaGreatDoorFj
import Derived.Test.YtbchkopkgpfkgaaGreatDoorMa
/- Walks of the top laws: what each function returns. Printed by a program out of notes. -/
namespace Go.Proofs.YtbchkopkgpfkgaaGreatDoor
open Go.Vc
open Classical

set_option maxRecDepth 100000 in
set_option maxHeartbeats 4000000 in
theorem Merged_c {V : HV} {va ha ba : Value} {F : Fl} (hF : Fls V va ha ba F) {pv zv : Value} {B Z : List Int} {tm : Bool} (hP : Ints .i64 V pv B) (hZ : Ints .i64 V zv Z) (ht : TabV Tryz.prog V) (hn : ∀ v ∈ F.vs, v.nm.size ≤ 9223372036854775807) (hn2 : ∀ i : Int, 0 ≤ i → i < F.hs.length → (Go.Proofs.YtbchkopkgpfkgaaGreatDoor.ht F.hs i).nm.size ≤ 9223372036854775807) :
    FnC Tryz.prog 4 [(.agg #[va, ha, ba]), (.agg #[pv, (.bool (decide (tm = true)))]), zv] V [] (fun v _ _ => v = (Value.bool true)) := by
 refine f_i Tryz.func4 ?_
 intro w0 D
 obtain ⟨hvs, hH⟩ := hF.h
 obtain ⟨xQ, hQb⟩ := hF.b.sl
 have hbvv := SlS.bound hF.v
 have hbh := SlS.bound hH.sl
 have hbb := SlS.bound hQb
 refine s_2 ?_
 refine b_ox fun b1 => ?_
 refine b_ox fun b2 => ?_
 refine s_5 ?_
 refine oq (f_c (mga_c) rfl rfl) ?_
 refine s_2 ?_
 refine og (f_c (cha_c ht) rfl rfl) w_a ?_
 refine s_7 ?_
 refine j_n [0,1,2,3,4,6,33] [(46, (.bool (decide (((¬ (FitP F 16 4096 4)) ∨ (((Z.length : Int)) < 2)) ∨ (100 < ((Z.length : Int)))))))] ?_ (fun e1 => ?_)
 ·
  refine s_2 ?_
  refine oq (f_c (Fit_c hF hn hn2) rfl rfl) ?_
  refine s_2 ?_
  by_cases g1 : ¬ (FitP F 16 4096 4)
  ·
   refine s_10 ?_
   exact j_e ⟨(jt (.inl (.inl g1))), trivial⟩
  ·
   refine s_1 ?_
   refine og (qv_lenI UL.out rfl hZ) w_a ?_
   refine s_3 ?_
   by_cases g2 : ((Z.length : Int)) < 2
   ·
    refine s_5 ?_
    exact j_e ⟨(jt (.inl ((jo g1 Iff.rfl).1 g2))), trivial⟩
   ·
    refine s_1 ?_
    refine og (qv_lenI UL.out rfl hZ) w_a ?_
    refine s_3 ?_
    exact j_e ⟨(jb (jo (fun z => g2 ((jo g1 Iff.rfl).2 z)) Iff.rfl)), trivial⟩
 refine iff' ?_ ?_ <;> intro c1
 ·
  refine s_5 ?_
  exact rt1 rfl
 ·
  refine s_3 ?_
  have hft : FitP F 16 4096 4 := Classical.byContradiction fun q => absurd (Or.inl (Or.inl q)) c1
  have hVa := fit_ok hft
  obtain ⟨-, -, f1, f2, f3, -⟩ := hft
  have h64 : F.vs.length ≤ 64 := by have := hVa.sz.1; omega
  have n1 := spc_pos' hVa.vs 1
  have n3 := spc_pos' hVa.vs 3
  have n5 := hVa.vs.s2
  have h16 : spc F.vs 1 * spc F.vs 3 ≤ 256 := by have := Int.mul_le_mul (a := spc F.vs 1) (b := spc F.vs 3) (c := 16) (d := 4) f1 f3 o_m o_m; omega
  refine s_5 ?_
  refine oq (f_c (RankO_c hF.v h64 hVa.vs o_m o_m hP) rfl rfl) ?_
  refine s_11 ?_
  refine iff' ?_ ?_ <;> intro c2
  ·
   refine s_5 ?_
   exact rt1 rfl
  ·
   refine s_2 ?_
   have hB : rkE (vfl F.vs 2) B = 0 := by omega
   refine s_3 ?_
   refine c_l [] (Of_c (tm := tm) hF hVa hP hB ht h16) rfl rfl fun r1 V1 sg1 hV1 hp1 => ?_
   obtain ⟨rfl, cw, sv, rv, A, d, rfl, ⟨f, g, hch⟩, ⟨hd, hsd⟩, hM, xs, hxs⟩ := hp1
   have hA := hch.len
   have hdl := hd.length_eq
   rw [iota_len] at hdl
   have hcn := chM_chn hch hd o_m o_m o_m o_m o_m
   have hcw := chM_wdt hch hd o_m
   have hct := chM_totC hch hd o_m o_m
   have hcp := chM_pos hch hd o_m
   have hq1 : spc F.vs 3 = 1 → topsF (chM (oK F B tm) (spc F.vs 1) (spc F.vs 3) A d) = A.length ∧ (clsK (fun x : Nat => keyO (oK F B tm x 0)) (spc F.vs 1).toNat).length = A.length := fun e => ⟨chM_tops hch hd o_m o_m e o_m, chM_cls hch e o_m⟩
   have hcl : ((chM (oK F B tm) (spc F.vs 1) (spc F.vs 3) A d)).length = (spc F.vs 1).toNat := chM_len
   generalize (chM (oK F B tm) (spc F.vs 1) (spc F.vs 3) A d) = L at hM hcn hcw hct hcp hq1 hcl
   have hrl := hM.len
   have hF := hF.mono hV1
   have hP := hP.mono hV1
   have hZ := hZ.mono hV1
   have ht := ht.mono hV1
   refine s_4 ?_
   refine a_lo fun b3 => ?_
   refine s_tw rfl rfl (allc (Sl.one hM.sl) rfl) ?_
   refine s_9 ?_
   refine iff' ?_ ?_ <;> intro c3
   ·
    exact absurd rfl c3
   ·
    refine s_2 ?_
    have hwd : (gr L 0).length = d.length := hcw.trans hdl.symm
    have hdp : 1 ≤ (gr L 0).length := hcn.wpos
    refine s_2 ?_
    refine oq (qv_lenSS UL.out rfl hxs) ?_
    refine s_4 ?_
    refine j_n [0,1,2,3,4,6,8,9,10,11,12,33,46,56,65] [(73, (.bool (decide ((((d.length : Int)) < 1) ∨ (12 < ((d.length : Int)))))))] ?_ (fun e2 => ?_)
    ·
     refine s_4 ?_
     by_cases g3 : ((d.length : Int)) < 1
     ·
      refine s_4 ?_
      exact j_e ⟨(jt (.inl g3)), trivial⟩
     ·
      refine s_4 ?_
      exact j_e ⟨(jb (jo g3 Iff.rfl)), trivial⟩
    refine iff' ?_ ?_ <;> intro c4
    ·
     refine s_7 ?_
     exact rt1 (jdt o_m)
    ·
     refine s_4 ?_
     refine ops_make (n := (d.length : Int)) UL.out TZ.out rfl rfl rfl rfl o_m o_m o_m (fun b4 => ?_)
     refine s_6 ?_
     refine oq (qv_len UL.out rfl rfl) ?_
     refine s_3 ?_
     refine lv2 [0,1,2,3,4,6,8,9,10,11,12,13,33,46,56,65,73,79] (fun (i : Int) (top : List Value) => [(80, (Value.int .i64 i))]) (fun i top => [(Arr 26 b1 [va, ha, ba]), (Arr 29 b2 [pv, (.bool (decide (tm = true)))]), (Arr 41 b3 [cw]), (Arr 27 b4 top)]) (fun i top V' => Fls V' va ha ba F ∧ Ints .i64 V' pv B ∧ Ints .i64 V' zv Z ∧ TabV Tryz.prog V' ∧ Mat .i64 V' cw rv L ∧ SlS 2 V' sv d.length xs ∧ 0 ≤ i ∧ i ≤ d.length ∧ top.length = d.length ∧ ∀ j : Int, 0 ≤ j → j < i → Ints .i64 V' (gv top j) (gr (lsM d.length Z) j)) (fun i top => (d.length - i).toNat) 0 ((List.replicate ((d.length : Int)).toNat (Value.slice none 0 0))) ?_ ?_ ?_ ?_ 
     · exact ⟨rfl, trivial⟩
     · rfl
     · exact ⟨hF, hP, hZ, ht, hM, hxs, by omega, by omega, by rw [List.length_replicate]; omega, fun j a b => by omega⟩
     rintro i top e3 V0l ⟨hF, hP, hZ, ht, hM, hxs, i1, i2, i3, hr3⟩
     refine s_5 ?_
     refine iff' ?_ ?_ <;> intro c5
     ·
      refine s_13 ?_
      refine ops_make (n := (d.length : Int)) UL.out TZ.out rfl rfl rfl rfl o_m o_m o_m (fun b5 => ?_)
      refine oq (qv_ia (v := (.slice (some ⟨b4, 0, none⟩) ((d.length : Int)).toNat ((d.length : Int)).toNat)) UL.out SZ.out rfl (inO (k := 3) rfl (by first | (simp only [List.length_set]; omega) | omega) (Nat.le_refl _) o_m) rfl o_m o_m) ?_
      refine ops_ste (k := 3) (b := b4) (n := ((d.length : Int)).toNat) (c := ((d.length : Int)).toNat) (i := i) (cs := top) SZ.out rfl (rfl : ev _ _ = (.slice (some ⟨b5, 0, none⟩) ((d.length : Int)).toNat ((d.length : Int)).toNat)) rfl rfl o_m o_m ?_
      refine s_7 ?_
      refine lp1 [0,1,2,3,4,6,8,9,10,11,12,13,14,33,46,56,65,73,79,80,81,88] (fun (j : Int) => [(89, (Value.int .i64 j))]) (fun j => [(Arr 26 b1 [va, ha, ba]), (Arr 29 b2 [pv, (.bool (decide (tm = true)))]), (Arr 41 b3 [cw]), (Arr 27 b4 (top.set i.toNat (.slice (some ⟨b5, 0, none⟩) ((d.length : Int)).toNat ((d.length : Int)).toNat))), (Arr 3 b5 ((rwP (lsE d.length Z i) d.length (j).toNat).map (Value.int .i64)))]) (fun j => 0 ≤ j ∧ j ≤ d.length) (fun j => (d.length - j).toNat) 0 ?_ ?_ ?_ ?_ 
      · exact ⟨rfl, trivial⟩
      · (rw [show ((d.length : Int)).toNat = d.length by omega, rwP_0 (lsE d.length Z i)]; rfl)
      · exact ⟨by omega, by omega⟩
      rintro j e4 ⟨i4, i5⟩
      refine s_5 ?_
      refine iff' ?_ ?_ <;> intro c6
      ·
       refine s_14 ?_
       refine iff' ?_ ?_ <;> intro c7
       ·
        have hmu := Int.mul_le_mul (a := i) (b := d.length) (c := 12) (d := 12) o_m o_m o_m o_m
        have hmn := Int.mul_nonneg (a := i) (b := d.length) o_m o_m
        have hm1 := Int.emod_nonneg (i * d.length + j) (show (Z.length : Int) ≠ 0 by omega)
        have hm2 := Int.emod_lt_of_pos (i * d.length + j) (show (0 : Int) < Z.length by omega)
        refine ro1 [qt 0,qt 1,qt 2,qt 3,qt 4,qt 5,qt 6,qt 7,qt 8,qt 9,qt 10,qt 11,qt 12,qt 13,qt 14,qt 15,qt 16,qt 17,ld 18] ?_
        refine s_2 ?_
        refine rq rfl (qv_ia (v := (.slice (some ⟨b4, 0, none⟩) ((d.length : Int)).toNat ((d.length : Int)).toNat)) UL.out SZ.out rfl (inO (k := 3) rfl (by first | (simp only [List.length_set]; omega) | omega) (Nat.le_refl _) o_m) rfl o_m (by rw [List.length_set]; omega)) ?_
        refine rq rfl (qv_ldv (u := (.slice (some ⟨b5, 0, none⟩) ((d.length : Int)).toNat ((d.length : Int)).toNat)) (v := (.slice (some ⟨b4, 0, none⟩) ((d.length : Int)).toNat ((d.length : Int)).toNat)) (i := i) PL.out rfl (inO (k := 3) rfl (by first | (simp only [List.length_set]; omega) | omega) (Nat.le_refl _) o_m) o_m (by rw [List.length_set]; omega) (gv_set_same o_m o_m)) ?_
        refine s_8 ?_
        refine rq rfl (qv_lenI UL.out rfl hZ) ?_
        refine rq rfl (qv_rem rfl rfl o_m o_m) ?_
        refine rq rfl (qv_iai UL.out SZ.out e_vm (inVi hZ) rfl o_m o_m) ?_
        refine rq rfl (qv_ldi PL.out rfl (inVi hZ) o_m o_m) ?_
        refine rq rfl (qv_andi rfl rfl) ?_
        refine rq rfl (qv_ia (v := (.slice (some ⟨b5, 0, none⟩) ((d.length : Int)).toNat ((d.length : Int)).toNat)) UL.out SZ.out rfl (inO (k := 4) rfl (by rw [List.length_map, rwP_len]; omega) (Nat.le_refl _) o_m) rfl o_m (by rw [List.length_map, rwP_len]; omega)) ?_
        refine rl_o ?_
        refine ops_ste (k := 4) (b := b5) (n := ((d.length : Int)).toNat) (c := ((d.length : Int)).toNat) (i := j) (cs := ((rwP (lsE d.length Z i) d.length (j).toNat).map (Value.int .i64))) SZ.out rfl (rfl : ev _ _ = (.int .i64 (andI (gi Z (((i * ((d.length : Int))) + j) % ((Z.length : Int)))) 1023))) rfl rfl o_m (by rw [List.length_map, rwP_len]; omega) ?_
        refine on1 ?_
        refine s_5 ?_
        exact le1 (j + 1) ⟨(c_i o_m), trivial⟩ ⟨by omega, by omega⟩ (hr := by first | (rw [← rwP_step (lsE d.length Z i) d.length (y := j) o_m, List.map_set, show lsE d.length Z i j = andI (gi Z ((i * d.length + j) % Z.length)) 1023 from if_neg o_m]) | (rw [← rwP_same (lsE d.length Z i) d.length (y := j) o_m (if_pos o_m)]))
       ·
        refine s_5 ?_
        exact le1 (j + 1) ⟨(c_i o_m), trivial⟩ ⟨by omega, by omega⟩ (hr := by first | (rw [← rwP_step (lsE d.length Z i) d.length (y := j) o_m, List.map_set, show lsE d.length Z i j = andI (gi Z ((i * d.length + j) % Z.length)) 1023 from if_neg o_m]) | (rw [← rwP_same (lsE d.length Z i) d.length (y := j) o_m (if_pos o_m)]))
      ·
       refine s_2 ?_
       refine vc_freeze (b := b5) (o := .cells (((rwP (lsE d.length Z i) d.length (j).toNat).map (Value.int .i64)) : List Value).toArray 3 (0, 0)) (σr := [(Arr 26 b1 [va, ha, ba]), (Arr 29 b2 [pv, (Value.bool (decide (tm = true)))]), (Arr 41 b3 [cw]), (Arr 27 b4 (top.set i.toNat (Value.slice (some ⟨b5, 0, none⟩) ((d.length : Int)).toNat ((d.length : Int)).toNat)))]) (List.perm_middle (l₁ := [(Arr 26 b1 [va, ha, ba]), (Arr 29 b2 [pv, (Value.bool (decide (tm = true)))]), (Arr 41 b3 [cw]), (Arr 27 b4 (top.set i.toNat (Value.slice (some ⟨b5, 0, none⟩) ((d.length : Int)).toNat ((d.length : Int)).toNat)))]) (l₂ := [])) (fun Vf1 hVf1 hb1 => ?_)
       have hc1 : Cells Vf1 b5 ((rwP (lsE d.length Z i) d.length (j).toNat).map (Value.int .i64)) := ⟨_, _, hb1⟩
       have hF := hF.mono hVf1
       have hP := hP.mono hVf1
       have hZ := hZ.mono hVf1
       have ht := ht.mono hVf1
       have hM := hM.mono hVf1
       have hxs := hxs.mono hVf1
       refine s_4 ?_
       exact lw2 (i + 1) (top.set i.toNat (.slice (some ⟨b5, 0, none⟩) ((d.length : Int)).toNat ((d.length : Int)).toNat)) ⟨(c_i o_m), trivial⟩ ⟨hF, hP, hZ, ht, hM, hxs, by omega, by omega, by rw [List.length_set]; omega, by
         refine all_snoc (fun j a b => ?_) ?_
         · rw [gv_set_other o_m a o_m]; exact (hr3 j a b).mono hVf1
         · rw [gv_set_same o_m o_m, lsM_gr o_m o_m]
           rw [show j.toNat = d.length by omega] at hb1
           exact sl_own hb1 (by rw [List.length_map, rwP_len]; omega) (Nat.le_refl _) o_m⟩
     ·
      refine s_3 ?_
      have n12 : 1 ≤ d.length ∧ d.length ≤ 12 := by omega
      have hk0 := andI_bd (m := gi Z 0) (n := 7) o_m o_m
      have hk : 1 ≤ 1 + andI (gi Z 0) 7 ∧ 1 + andI (gi Z 0) 7 ≤ 32 := by omega
      refine vc_freeze (b := b4) (o := .cells (top : List Value).toArray 27 (0, 0)) (σr := [(Arr 26 b1 [va, ha, ba]), (Arr 29 b2 [pv, (Value.bool (decide (tm = true)))]), (Arr 41 b3 [cw])]) (List.perm_middle (l₁ := [(Arr 26 b1 [va, ha, ba]), (Arr 29 b2 [pv, (Value.bool (decide (tm = true)))]), (Arr 41 b3 [cw])]) (l₂ := [])) (fun Vf2 hVf2 hb2 => ?_)
      have hc2 : Cells Vf2 b4 top := ⟨_, _, hb2⟩
      have hF := hF.mono hVf2
      have hP := hP.mono hVf2
      have hZ := hZ.mono hVf2
      have ht := ht.mono hVf2
      have hM := hM.mono hVf2
      have hxs := hxs.mono hVf2
      refine s_2 ?_
      refine oq (qv_iai UL.out SZ.out e_vm (inVi hZ) rfl o_m o_m) ?_
      refine oq (qv_ldi PL.out rfl (inVi hZ) o_m o_m) ?_
      refine oq (qv_andi rfl rfl) ?_
      refine s_4 ?_
      have hMl : Mat .i64 Vf2 (.slice (some ⟨b4, 0, none⟩) ((d.length : Int)).toNat ((d.length : Int)).toNat) top (lsM d.length Z) := ⟨sl_cells hc2 o_m (Nat.le_refl _) o_m, by rw [lsM_len]; omega, fun j a b => (hr3 j a (by rw [lsM_len] at b; omega)).mono hVf2⟩
      refine s_3 ?_
      refine c_l [] (Mg.Ordered_c hMl) rfl rfl fun r2 V2 sg2 hV2 hp2 => ?_
      obtain ⟨rfl, ogv, opv, orv, rfl, ho2, ho3⟩ := hp2
      have hoe := Mg.oE0 (lsM_good Z n12.1 n12.2).chk hk
      have hF := hF.mono hV2
      have hP := hP.mono hV2
      have hZ := hZ.mono hV2
      have ht := ht.mono hV2
      have hM := hM.mono hV2
      have hxs := hxs.mono hV2
      have hc2 := hc2.mono hV2
      have hMl := hMl.mono hV2
      refine s_11 ?_
      obtain ⟨og1, og2, og3, og4, og5⟩ := Mg.ord_final hoe
      have hgp := Mg.grp_of ((Mg.cE_g (lsM_good Z n12.1 n12.2).chk).symm.trans og1)
      have hgl : (Mg.oG (lsM d.length Z) (1 + andI (gi Z 0) 7)).length = (gr L 0).length := by rw [hgp.len, lsM_len, hwd]
      have hgr : ∀ y : Int, 0 ≤ y → y < (Mg.oG (lsM d.length Z) (1 + andI (gi Z 0) 7)).length → 0 ≤ gi (Mg.oG (lsM d.length Z) (1 + andI (gi Z 0) 7)) y ∧ gi (Mg.oG (lsM d.length Z) (1 + andI (gi Z 0) 7)) y < (gr L 0).length := fun y a b => by
        have := hgp.rng y a (by rw [← hgp.len]; exact b)
        rw [lsM_len] at this
        rw [hwd]; exact this
      have hcm := mrg_chn hcn hgl hgr
      have hmd : cntN (DcP (mrgM L (Mg.oG (lsM d.length Z) (1 + andI (gi Z 0) 7)))) (wdt (mrgM L (Mg.oG (lsM d.length Z) (1 + andI (gi Z 0) 7)))) ≤ (1 + andI (gi Z 0) 7) := by rw [mrg_wdt hcn hgl hgr]; exact Int.le_trans (mrg_distinct hcn hgl hgr) og4
      refine s_3 ?_
      refine c_l [] (Merge_c hM ho2 hcn hgl hgr) rfl rfl fun r3 V3 sg3 hV3 hp3 => ?_
      obtain ⟨rfl, mw, mrv, rfl, hMM⟩ := hp3
      have hF := hF.mono hV3
      have hP := hP.mono hV3
      have hZ := hZ.mono hV3
      have ht := ht.mono hV3
      have hM := hM.mono hV3
      have hxs := hxs.mono hV3
      have hc2 := hc2.mono hV3
      have hMl := hMl.mono hV3
      have ho2 := ho2.mono hV3
      have ho3 := ho3.mono hV3
      refine s_3 ?_
      refine a_lo fun b6 => ?_
      refine s_tw rfl rfl (allc (Sl.one hMM.sl) rfl) ?_
      refine s_4 ?_
      refine j_n [0,1,2,3,4,6,8,9,10,11,12,13,16,17,18,20,21,33,46,56,65,73,79,80,81] [(153, (.bool (decide (((((Mg.oE (lsM d.length Z) (1 + andI (gi Z 0) 7)) ≠ 0) ∨ ((0 : Int) ≠ 0)) ∨ ((0 : Int) ≠ 0)) ∨ ((1 + (andI (gi Z (0)) 7)) < (cntN (DcP (mrgM L (Mg.oG (lsM d.length Z) (1 + andI (gi Z 0) 7)))) (wdt (mrgM L (Mg.oG (lsM d.length Z) (1 + andI (gi Z 0) 7))))))))))] ?_ (fun e5 => ?_)
      ·
       refine s_4 ?_
       by_cases g4 : (Mg.oE (lsM d.length Z) (1 + andI (gi Z 0) 7)) ≠ 0
       ·
        refine s_18 ?_
        exact j_e ⟨(jt (.inl (.inl (.inl g4)))), trivial⟩
       ·
        refine s_4 ?_
        by_cases g5 : (0 : Int) ≠ 0
        ·
         exact absurd rfl g5
        ·
         refine s_4 ?_
         refine og (f_c (by have h := Mg.ProveOrdered_c (k := (1 + andI (gi Z 0) 7)) (c := Mg.oN (lsM d.length Z) (1 + andI (gi Z 0) 7)) hMl ho3; rw [og5] at h; exact h) rfl rfl) w_a ?_
         refine s_4 ?_
         refine og (f_c (Distinct2_c hMM hcm) rfl rfl) w_a ?_
         refine s_4 ?_
         exact j_e ⟨(jb (jo (fun z => g5 ((jo (fun z => g5 ((jo g4 Iff.rfl).2 z)) Iff.rfl).2 z)) Iff.rfl)), trivial⟩
      refine iff' ?_ ?_ <;> intro c8
      ·
       omega
      ·
       refine s_4 ?_
       refine oq (f_c (by have h := Capacity_c hM; rw [iN_t hcn, iN_t hcn, iE_t hcn] at h; exact h) rfl rfl) ?_
       refine s_3 ?_
       refine a_lo fun b7 => ?_
       refine s_6 ?_
       refine oq (f_c (by have h := Capacity_c hMM; rw [iN_t hcm, iN_t hcm, iE_t hcm] at h; exact h) rfl rfl) ?_
       refine s_3 ?_
       refine a_lo fun b8 => ?_
       refine s_5 ?_
       have hcb := capT_bd hcn o_m
       have htc := mrg_totC hcn hgl hgr
       have hcb2 := capT_bd hcm (by rw [htc]; omega)
       have hb0 := Int.mul_le_mul (a := frN (topsF (mrgM L (Mg.oG (lsM d.length Z) (1 + andI (gi Z 0) 7)))) (totC (mrgM L (Mg.oG (lsM d.length Z) (1 + andI (gi Z 0) 7))))) (b := frD (topsF L) (totC L)) (c := 4096) (d := 16) o_m o_m o_m o_m
       have hn0 := Int.mul_nonneg (a := frN (topsF (mrgM L (Mg.oG (lsM d.length Z) (1 + andI (gi Z 0) 7)))) (totC (mrgM L (Mg.oG (lsM d.length Z) (1 + andI (gi Z 0) 7))))) (b := frD (topsF L) (totC L)) o_m o_m
       have hb1 := Int.mul_le_mul (a := frN (topsF L) (totC L)) (b := frD (topsF (mrgM L (Mg.oG (lsM d.length Z) (1 + andI (gi Z 0) 7)))) (totC (mrgM L (Mg.oG (lsM d.length Z) (1 + andI (gi Z 0) 7))))) (c := 4096) (d := 16) o_m o_m o_m o_m
       have hn1 := Int.mul_nonneg (a := frN (topsF L) (totC L)) (b := frD (topsF (mrgM L (Mg.oG (lsM d.length Z) (1 + andI (gi Z 0) 7)))) (totC (mrgM L (Mg.oG (lsM d.length Z) (1 + andI (gi Z 0) 7))))) o_m o_m
       have hb2 := Int.mul_le_mul (a := (1 + andI (gi Z 0) 7)) (b := frD (topsF (mrgM L (Mg.oG (lsM d.length Z) (1 + andI (gi Z 0) 7)))) (totC (mrgM L (Mg.oG (lsM d.length Z) (1 + andI (gi Z 0) 7))))) (c := 32) (d := 16) o_m o_m o_m o_m
       have hn2 := Int.mul_nonneg (a := (1 + andI (gi Z 0) 7)) (b := frD (topsF (mrgM L (Mg.oG (lsM d.length Z) (1 + andI (gi Z 0) 7)))) (totC (mrgM L (Mg.oG (lsM d.length Z) (1 + andI (gi Z 0) 7))))) o_m o_m
       have hx1 : frN (topsF (mrgM L (Mg.oG (lsM d.length Z) (1 + andI (gi Z 0) 7)))) (totC (mrgM L (Mg.oG (lsM d.length Z) (1 + andI (gi Z 0) 7)))) * frD (topsF L) (totC L) ≤ frN (topsF L) (totC L) * frD (topsF (mrgM L (Mg.oG (lsM d.length Z) (1 + andI (gi Z 0) 7)))) (totC (mrgM L (Mg.oG (lsM d.length Z) (1 + andI (gi Z 0) 7)))) := fr_cross (sumN_nn fun y _ => maxN_nn) hcm.tpos (sumN_nn fun y _ => maxN_nn) hcn.tpos (by rw [htc]; exact Int.mul_le_mul_of_nonneg_right (mrg_tops hcn hgl hgr) (by have := hcn.tpos; omega))
       have hx2 : frN (topsF (mrgM L (Mg.oG (lsM d.length Z) (1 + andI (gi Z 0) 7)))) (totC (mrgM L (Mg.oG (lsM d.length Z) (1 + andI (gi Z 0) 7)))) ≤ (1 + andI (gi Z 0) 7) * frD (topsF (mrgM L (Mg.oG (lsM d.length Z) (1 + andI (gi Z 0) 7)))) (totC (mrgM L (Mg.oG (lsM d.length Z) (1 + andI (gi Z 0) 7)))) := fr_lek hcm.tpos (mrg_topk hcn hgl hgr og4)
       refine j_n [0,1,2,3,4,6,8,9,10,11,12,13,16,17,18,20,21,33,46,56,65,73,79,80,81,153] [(201, (.bool (decide (((((((0 : Int) ≠ 0) ∨ ((0 : Int) ≠ 0)) ∨ ((frD (topsF L) (totC L)) < 1)) ∨ ((frD (topsF (mrgM L (Mg.oG (lsM d.length Z) (1 + andI (gi Z 0) 7)))) (totC (mrgM L (Mg.oG (lsM d.length Z) (1 + andI (gi Z 0) 7))))) < 1)) ∨ (((frN (topsF L) (totC L)) * (frD (topsF (mrgM L (Mg.oG (lsM d.length Z) (1 + andI (gi Z 0) 7)))) (totC (mrgM L (Mg.oG (lsM d.length Z) (1 + andI (gi Z 0) 7)))))) < ((frN (topsF (mrgM L (Mg.oG (lsM d.length Z) (1 + andI (gi Z 0) 7)))) (totC (mrgM L (Mg.oG (lsM d.length Z) (1 + andI (gi Z 0) 7))))) * (frD (topsF L) (totC L))))) ∨ (((1 + (andI (gi Z (0)) 7)) * (frD (topsF (mrgM L (Mg.oG (lsM d.length Z) (1 + andI (gi Z 0) 7)))) (totC (mrgM L (Mg.oG (lsM d.length Z) (1 + andI (gi Z 0) 7)))))) < (frN (topsF (mrgM L (Mg.oG (lsM d.length Z) (1 + andI (gi Z 0) 7)))) (totC (mrgM L (Mg.oG (lsM d.length Z) (1 + andI (gi Z 0) 7))))))))))] ?_ (fun e6 => ?_)
       ·
        refine s_4 ?_
        by_cases g6 : (0 : Int) ≠ 0
        ·
         exact absurd rfl g6
        ·
         refine s_9 ?_
         by_cases g7 : (frD (topsF L) (totC L)) < 1
         ·
          refine s_27 ?_
          exact j_e ⟨(jt (.inl (.inl (.inl ((jo (fun z => g6 ((jo g6 Iff.rfl).2 z)) Iff.rfl).1 g7))))), trivial⟩
         ·
          refine s_5 ?_
          by_cases g8 : (frD (topsF (mrgM L (Mg.oG (lsM d.length Z) (1 + andI (gi Z 0) 7)))) (totC (mrgM L (Mg.oG (lsM d.length Z) (1 + andI (gi Z 0) 7))))) < 1
          ·
           refine s_22 ?_
           exact j_e ⟨(jt (.inl (.inl ((jo (fun z => g7 ((jo (fun z => g6 ((jo g6 Iff.rfl).2 z)) Iff.rfl).2 z)) Iff.rfl).1 g8)))), trivial⟩
          ·
           refine s_13 ?_
           by_cases g9 : ((frN (topsF L) (totC L)) * (frD (topsF (mrgM L (Mg.oG (lsM d.length Z) (1 + andI (gi Z 0) 7)))) (totC (mrgM L (Mg.oG (lsM d.length Z) (1 + andI (gi Z 0) 7)))))) < ((frN (topsF (mrgM L (Mg.oG (lsM d.length Z) (1 + andI (gi Z 0) 7)))) (totC (mrgM L (Mg.oG (lsM d.length Z) (1 + andI (gi Z 0) 7))))) * (frD (topsF L) (totC L)))
           ·
            refine s_9 ?_
            exact j_e ⟨(jt (.inl ((jo (fun z => g8 ((jo (fun z => g7 ((jo (fun z => g6 ((jo g6 Iff.rfl).2 z)) Iff.rfl).2 z)) Iff.rfl).2 z)) Iff.rfl).1 g9))), trivial⟩
           ·
            refine s_9 ?_
            exact j_e ⟨(jb (jo (fun z => g9 ((jo (fun z => g8 ((jo (fun z => g7 ((jo (fun z => g6 ((jo g6 Iff.rfl).2 z)) Iff.rfl).2 z)) Iff.rfl).2 z)) Iff.rfl).2 z)) Iff.rfl)), trivial⟩
       refine iff' ?_ ?_ <;> intro c9
       ·
        omega
       ·
        refine s_4 ?_
        refine ops_make (n := (d.length : Int)) UL.out TZ.out rfl rfl rfl rfl o_m o_m o_m (fun b9 => ?_)
        refine s_7 ?_
        refine oq (qv_len UL.out rfl rfl) ?_
        refine s_3 ?_
        refine lp1 [0,1,2,3,4,6,8,9,10,11,12,13,16,17,18,20,21,24,33,46,56,65,73,79,80,81,153,201,205] (fun (q : Int) => [(25, (.int .i64 (rvR Z q.toNat))), (206, (Value.int .i64 q))]) (fun q => [(Arr 26 b1 [va, ha, ba]), (Arr 29 b2 [pv, (.bool (decide (tm = true)))]), (Arr 41 b3 [cw]), (Arr 41 b6 [mw]), (Arr 47 b7 [(.int .i64 (frN (topsF L) (totC L))), (.int .i64 (frD (topsF L) (totC L)))]), (Arr 47 b8 [(.int .i64 (frN (topsF (mrgM L (Mg.oG (lsM d.length Z) (1 + andI (gi Z 0) 7)))) (totC (mrgM L (Mg.oG (lsM d.length Z) (1 + andI (gi Z 0) 7)))))), (.int .i64 (frD (topsF (mrgM L (Mg.oG (lsM d.length Z) (1 + andI (gi Z 0) 7)))) (totC (mrgM L (Mg.oG (lsM d.length Z) (1 + andI (gi Z 0) 7))))))]), (Arr 3 b9 ((rvT Z d.length q.toNat).map (Value.int .i64)))]) (fun q => 0 ≤ q ∧ q ≤ d.length) (fun q => (d.length - q).toNat) 0 ?_ ?_ ?_ ?_ 
        · exact ⟨(c_i (by rfl)), rfl, trivial⟩
        · (rw [show ((d.length : Int)).toNat = d.length by omega, rvT_0]; try rfl)
        · exact ⟨by omega, by omega⟩
        rintro q e7 ⟨i6, i7⟩
        have hrb := rvR_bd Z q.toNat
        have htl : q < d.length → (rvT Z d.length q.toNat).length = d.length := fun h => rvT_len o_m
        refine s_5 ?_
        refine iff' ?_ ?_ <;> intro c10
        ·
         refine s_13 ?_
         refine oq (qv_ia (v := (.slice (some ⟨b9, 0, none⟩) ((d.length : Int)).toNat ((d.length : Int)).toNat)) UL.out SZ.out rfl (inO (k := 6) rfl (by first | (rw [List.length_set, List.length_map, htl o_m]; omega) | (rw [List.length_map, htl o_m]; omega)) (Nat.le_refl _) o_m) rfl o_m (by rw [List.length_map, htl o_m]; omega)) ?_
         refine ops_ste (k := 6) (b := b9) (n := ((d.length : Int)).toNat) (c := ((d.length : Int)).toNat) (i := q) (cs := ((rvT Z d.length q.toNat).map (Value.int .i64))) SZ.out rfl (rfl : ev _ _ = (Value.int .i64 q)) rfl rfl o_m (by rw [List.length_map, htl o_m]; omega) ?_
         refine s_2 ?_
         have hq1 := Int.emod_nonneg q (show (Z.length : Int) ≠ 0 by omega)
         have hq2 := Int.emod_lt_of_pos q (show (0 : Int) < Z.length by omega)
         refine j_n [0,1,2,3,4,6,8,9,10,11,12,13,16,17,18,20,21,24,25,26,33,46,56,65,73,79,80,81,153,201,205,206,207] [(225, (.bool (decide ((0 < q) ∧ ((andI (gi Z (q % ((Z.length : Int)))) 16) ≠ 0)))))] ?_ (fun e8 => ?_)
         ·
          refine s_4 ?_
          by_cases g10 : 0 < q
          ·
           refine s_3 ?_
           refine og (qv_lenI UL.out rfl hZ) w_a ?_
           refine og (qv_rem rfl rfl o_m o_m) w_a ?_
           refine og (qv_iai UL.out SZ.out e_vm (inVi hZ) rfl o_m o_m) w_a ?_
           refine og (qv_ldi PL.out rfl (inVi hZ) o_m o_m) w_a ?_
           refine og (qv_andi rfl rfl) w_a ?_
           refine s_3 ?_
           exact j_e ⟨(jb (ja g10 Iff.rfl)), trivial⟩
          ·
           refine s_11 ?_
           exact j_e ⟨(jf (fun z => g10 z.1)), trivial⟩
         refine iff' ?_ ?_ <;> intro c11
         ·
          have hj : rvJ Z q := ‹0 < q ∧ andI (gi Z (q % (Z.length : Int))) 16 ≠ 0›
          refine s_6 ?_
          refine oq (qv_ia (v := (.slice (some ⟨b9, 0, none⟩) ((d.length : Int)).toNat ((d.length : Int)).toNat)) UL.out SZ.out rfl (inO (k := 6) rfl (by first | (rw [List.length_set, List.length_map, htl o_m]; omega) | (rw [List.length_map, htl o_m]; omega)) (Nat.le_refl _) o_m) rfl o_m (by rw [List.length_set, List.length_map, htl o_m]; omega)) ?_
          refine oq (qv_ldv (u := (.int .i64 (gi (rvG Z q.toNat) (q - 1)))) (v := (.slice (some ⟨b9, 0, none⟩) ((d.length : Int)).toNat ((d.length : Int)).toNat)) (i := q - 1) PL.out rfl (inO (k := 6) rfl (by first | (rw [List.length_set, List.length_map, htl o_m]; omega) | (rw [List.length_map, htl o_m]; omega)) (Nat.le_refl _) o_m) o_m (by rw [List.length_set, List.length_map, htl o_m]; omega) (by rw [gv_set_other o_m o_m o_m, gv_ints o_m (by rw [htl o_m]; omega), rvT_gi o_m o_m])) ?_
          refine oq (qv_ia (v := (.slice (some ⟨b9, 0, none⟩) ((d.length : Int)).toNat ((d.length : Int)).toNat)) UL.out SZ.out rfl (inO (k := 6) rfl (by first | (rw [List.length_set, List.length_map, htl o_m]; omega) | (rw [List.length_map, htl o_m]; omega)) (Nat.le_refl _) o_m) rfl o_m (by rw [List.length_set, List.length_map, htl o_m]; omega)) ?_
          refine ops_ste (k := 6) (b := b9) (n := ((d.length : Int)).toNat) (c := ((d.length : Int)).toNat) (i := q) (cs := ((((rvT Z d.length q.toNat).map (Value.int .i64))).set (q).toNat (Value.int .i64 q))) SZ.out rfl (rfl : ev _ _ = (.int .i64 (gi (rvG Z q.toNat) (q - 1)))) rfl rfl o_m (by rw [List.length_set, List.length_map, htl o_m]; omega) ?_
          refine s_5 ?_
          exact le1 (q + 1) ⟨(c_i (by first | exact rvR_1 o_m hj | exact rvR_0 o_m hj)), (c_i o_m), trivial⟩ ⟨by omega, by omega⟩ (hr := by first | (rw [List.set_set, ← List.map_set, rvT_set o_m o_m (if_pos hj).symm]) | (rw [← List.map_set, rvT_set o_m o_m (if_neg hj).symm]))
         ·
          have hj : ¬ rvJ Z q := ‹¬ (0 < q ∧ andI (gi Z (q % (Z.length : Int))) 16 ≠ 0)›
          refine s_9 ?_
          exact le1 (q + 1) ⟨(c_i (by first | exact rvR_1 o_m hj | exact rvR_0 o_m hj)), (c_i o_m), trivial⟩ ⟨by omega, by omega⟩ (hr := by first | (rw [List.set_set, ← List.map_set, rvT_set o_m o_m (if_pos hj).symm]) | (rw [← List.map_set, rvT_set o_m o_m (if_neg hj).symm]))
        ·
         refine s_3 ?_
         refine v_f 6 fun Vf3 hVf3 hc3 => ?_
         have hF := hF.mono hVf3
         have hP := hP.mono hVf3
         have hZ := hZ.mono hVf3
         have ht := ht.mono hVf3
         have hM := hM.mono hVf3
         have hxs := hxs.mono hVf3
         have hc2 := hc2.mono hVf3
         have hMl := hMl.mono hVf3
         have ho2 := ho2.mono hVf3
         have ho3 := ho3.mono hVf3
         have hMM := hMM.mono hVf3
         refine s_1 ?_
         have hRv : Ints .i64 Vf3 (.slice (some ⟨b9, 0, none⟩) ((d.length : Int)).toNat ((d.length : Int)).toNat) (rvG Z d.length) := by
           have hc3 := hc3
           rw [show q.toNat = d.length by omega, rvT_end] at hc3
           exact sl_cells hc3 (by rw [List.length_map, rvG_len]; omega) (Nat.le_refl _) o_m
         refine s_2 ?_
         refine oq (f_c (by have h := Mg.Cost_c hMl hRv; rw [Mg.cE_g (lsM_good Z n12.1 n12.2).chk, rvG_gE Z (lsM_len _ _)] at h; exact h) rfl rfl) ?_
         refine s_7 ?_
         refine j_n [0,1,2,3,4,8,9,10,11,12,13,16,17,18,20,21,24,25,33,46,56,65,73,79,80,81,153,201,205,206,207] [(6, (.bool (decide (((0 : Int) = 0) ∧ (((1 + (andI (gi Z (0)) 7)) < (rvR Z q.toNat)) ∨ ((Mg.oN (lsM d.length Z) (1 + andI (gi Z 0) 7)) ≤ (Mg.cN (lsM d.length Z) (rvG Z d.length))))))))] ?_ (fun e9 => ?_)
         ·
          refine s_4 ?_
          by_cases g11 : (0 : Int) = 0
          ·
           refine s_4 ?_
           by_cases g12 : (1 + (andI (gi Z (0)) 7)) < (rvR Z q.toNat)
           ·
            refine s_7 ?_
            exact j_e ⟨(jt ⟨g11, (.inl g12)⟩), trivial⟩
           ·
            refine s_7 ?_
            exact j_e ⟨(jb (ja g11 (jo g12 Iff.rfl))), trivial⟩
          ·
           refine s_11 ?_
           exact j_e ⟨(jf (fun z => g11 z.1)), trivial⟩
         refine s_1 ?_
         exact rt1 (jdt (by rw [show q.toNat = d.length by omega, Mg.cN_good ((Mg.cE_g (lsM_good Z n12.1 n12.2).chk).trans (rvG_gE Z (lsM_len _ _)))]; refine ⟨rfl, ?_⟩; by_cases hq : rvR Z d.length ≤ 1 + andI (gi Z 0) 7; exact .inr (rival_law Z n12.1 n12.2 hk.1 hk.2 hq); exact .inl o_m))

end Go.Proofs.YtbchkopkgpfkgaaGreatDoor
