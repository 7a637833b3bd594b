import Derived.Test.YtbchkopkgpfkgaaGreatDoorTi
import Derived.Test.YtbchkopkgpfkgaaGreatDoorFh
import Derived.Test.YtbchkopkgpfkgaaGreatDoorFg
import Derived.Test.YtbchkopkgpfkgaaGreatDoorFb
/- Walks of the top laws: what each function returns. Printed by a program out of notes. -/
namespace Go.Proofs.YtbchkopkgpfkgaaGreatDoor
open Go.Vc
open Classical

set_option maxRecDepth 100000 in
set_option maxHeartbeats 4000000 in
theorem CheckR_c {V : HV} {va ha ba : Value} {F : Fl} (hF : Fls V va ha ba F) (hn : ∀ v ∈ F.vs, v.nm.size ≤ 9223372036854775807) (hn2 : ∀ i : Int, 0 ≤ i → i < F.hs.length → (ht F.hs i).nm.size ≤ 9223372036854775807) (hz : nds F.bd + hsz F.hs ≤ 1000000) :
    FnC Tryz.prog 26 [(.agg #[va, ha, ba])] V [] (fun v _ _ => v = (.int .i64 (chkR F))) := by
 refine f_i Tryz.func26 ?_
 intro w0 D
 have hF0 := hF
 obtain ⟨hvs, hH⟩ := hF.h
 obtain ⟨xB, hB⟩ := hF.b.sl
 have hbvv := SlS.bound hF.v
 have hbh := SlS.bound hH.sl
 have hbb := SlS.bound hB
 refine s_2 ?_
 refine b_ox fun b1 => ?_
 refine s_6 ?_
 refine oq (f_c (sizes_c hF0 hz) rfl rfl) ?_
 refine s_2 ?_
 refine iff' ?_ ?_ <;> intro c1
 ·
  refine s_5 ?_
  exact rt1 (c_i (by first | exact (if_pos (by assumption)).symm | (unfold chkR; rw [if_neg (fun z => z hsz), if_neg o_m, if_neg (fun z => z hhz), if_neg o_m]; (repeat' split) <;> first | rfl | (exfalso; omega))))
 ·
  refine s_2 ?_
  have hsz := Classical.not_not.1 ‹¬ ¬ SzOk F›
  refine s_3 ?_
  refine oq (f_c (CheckVarsR_c hF0.v hn) rfl rfl) ?_
  refine s_8 ?_
  refine iff' ?_ ?_ <;> intro c2
  ·
   refine s_6 ?_
   exact rt1 (c_i (by unfold chkR; rw [if_neg (fun z => z hsz), if_pos (by assumption)]))
  ·
   refine s_3 ?_
   have hV : VarsOk F.vs := cvC_0 o_m
   refine s_4 ?_
   refine lc1 [0,1,12,17] (fun (i : Int) => [(4, (Value.int .i64 i))]) (fun i => 0 ≤ i ∧ i ≤ F.hs.length ∧ ∀ x : Int, 0 ≤ x → x < i → htE F x = 0) (fun i => (F.hs.length - i).toNat) 0 ?_ ?_ ?_ 
   · exact ⟨rfl, trivial⟩
   · exact ⟨by omega, by omega, fun x a b => by omega⟩
   rintro i e1 ⟨i1, i2, hno⟩
   refine s_6 ?_
   refine oq (qv_lenSS UL.out rfl hH.sl) ?_
   refine s_2 ?_
   refine iff' ?_ ?_ <;> intro c3
   ·
    refine s_8 ?_
    refine oq (qv_ias UL.out SZ.out e_vm hH.sl rfl o_m o_m) ?_
    refine oq (qv_lds AG.out rfl hH.sl o_m o_m (htcs_at o_m o_m)) ?_
    refine a_lo fun b2 => ?_
    refine s_tw rfl rfl (allc rfl (allc rfl (allc rfl (allc rfl (allc rfl (allc (Tms.one (hH.hk (i) o_m o_m)) rfl)))))) ?_
    refine s_6 ?_
    refine oq (f_c (isNameR_c (hn2 _ i1 o_m)) rfl rfl) ?_
    refine s_2 ?_
    refine iff' ?_ ?_ <;> intro c4
    ·
     refine s_7 ?_
     exact rt1 (c_i (by have z : htE F i = 7 := ht_7 (by assumption); have z2 := fnz_hit (n := F.hs.length) hno o_m i1 o_m; unfold chkR; rw [if_neg (fun z => z hsz), if_neg o_m, if_pos o_m]; omega))
    ·
     refine s_3 ?_
     have hnm := Classical.not_not.1 ‹¬ ¬ NameOk (ht F.hs i).nm›
     refine s_4 ?_
     refine lc1 [0,1,4,5,12,17,23,34] (fun (j : Int) => [(6, (Value.int .i64 j))]) (fun j => 0 ≤ j ∧ j ≤ i ∧ ∀ x : Int, 0 ≤ x → x < j → ¬ (ht F.hs x).nm = (ht F.hs i).nm) (fun j => (i - j).toNat) 0 ?_ ?_ ?_ 
     · exact ⟨rfl, trivial⟩
     · exact ⟨by omega, by omega, fun x a b => by omega⟩
     rintro j e2 ⟨j1, j2, hdu⟩
     refine s_7 ?_
     refine iff' ?_ ?_ <;> intro c5
     ·
      refine s_8 ?_
      refine qq (qv_ias UL.out SZ.out e_vm hH.sl rfl o_m o_m) ?_
      refine qq (qv_fas FI.out rfl hH.sl o_m o_m) ?_
      refine qq (qv_ldf PL.out rfl hH.sl o_m o_m o_m (htcs_el (o := 0) o_m o_m o_m rfl)) ?_
      refine s_2 ?_
      refine qq (qv_eqstr rfl rfl) ?_
      refine s_1 ?_
      refine iff' ?_ ?_ <;> intro c6
      ·
       refine s_9 ?_
       exact rt1 (c_i (by have z : htE F i = 8 := ht_8 hnm j1 o_m (by assumption); have z2 := fnz_hit (n := F.hs.length) hno o_m i1 o_m; unfold chkR; rw [if_neg (fun z => z hsz), if_neg o_m, if_pos o_m]; omega))
      ·
       refine s_6 ?_
       exact le1 (j + 1) ⟨(c_i o_m), trivial⟩ ⟨by omega, by omega, all_snoc hdu (by assumption)⟩
     ·
      refine s_9 ?_
      refine oq (f_c (boundedR_c) rfl rfl) ?_
      refine s_2 ?_
      refine iff' ?_ ?_ <;> intro c7
      ·
       refine s_7 ?_
       exact rt1 (c_i (by have z : htE F i = 3 := ht_3 hnm (fun x a b => hdu x a o_m) (by assumption); have z2 := fnz_hit (n := F.hs.length) hno o_m i1 o_m; unfold chkR; rw [if_neg (fun z => z hsz), if_neg o_m, if_pos o_m]; omega))
      ·
       refine s_2 ?_
       have hbd := Classical.not_not.1 ‹¬ ¬ bndP (ht F.hs i).lo (ht F.hs i).hi›
       refine s_5 ?_
       refine oq (f_c (CheckTermR_c (inp := true) (hH.hk i i1 o_m) hF0.v hV) rfl rfl) ?_
       refine s_7 ?_
       refine iff' ?_ ?_ <;> intro c8
       ·
        refine s_8 ?_
        exact rt1 (c_i (by have z : htE F i = ctC F.vs (ht F.hs i).tm true := ht_r hnm (fun x a b => hdu x a o_m) hbd; have z2 := fnz_hit (n := F.hs.length) hno o_m i1 o_m; unfold chkR; rw [if_neg (fun z => z hsz), if_neg o_m, if_pos o_m]; omega))
       ·
        refine s_1 ?_
        refine v_d 1 ?_
        refine s_5 ?_
        exact le1 (i + 1) ⟨(c_i o_m), trivial⟩ ⟨by omega, by omega, all_snoc hno (by rw [ht_r hnm (fun x a b => hdu x a o_m) hbd]; omega)⟩
   ·
    refine s_3 ?_
    have hhz : fnz (htE F) F.hs.length = 0 := fnz_all fun x a b => hno x a o_m
    refine s_4 ?_
    refine oq (f_c (checkStepsR_c ((nds F.bd).toNat + 1) _ _ _ _ _ _ _ True instDecidableTrue hF0 hV hF0.b (by have := nds_nn F.bd; omega)) rfl rfl) ?_
    refine s_8 ?_
    refine iff' ?_ ?_ <;> intro c9
    ·
     refine s_6 ?_
     exact rt1 (c_i (by unfold chkR; rw [if_neg (fun z => z hsz), if_neg o_m, if_neg (fun z => z hhz), if_pos (by assumption)]))
    ·
     refine s_5 ?_
     refine oq (f_c (BoundsR_c ((nds F.bd).toNat + 1) _ _ True _ _ hF0.b (csL_0 (F := F) (top := True) (l := F.bd) o_m) (by have := nds_nn F.bd; omega)) rfl rfl) ?_
     refine s_10 ?_
     refine j_n [0,1,3,4,12,17,23,68] [(86, (.bool (decide (((4096 < (mnI (ubS F.bd) 4097)) ∨ (8 < (mnI (ubO F.bd) 9))) ∨ (67108864 < (mnI (ubT F.bd) 67108865))))))] ?_ (fun e3 => ?_)
     ·
      refine s_4 ?_
      by_cases g1 : 4096 < (mnI (ubS F.bd) 4097)
      ·
       refine s_8 ?_
       exact j_e ⟨(jt (.inl (.inl g1))), trivial⟩
      ·
       refine s_4 ?_
       by_cases g2 : 8 < (mnI (ubO F.bd) 9)
       ·
        refine s_4 ?_
        exact j_e ⟨(jt (.inl ((jo g1 Iff.rfl).1 g2))), trivial⟩
       ·
        refine s_4 ?_
        exact j_e ⟨(jb (jo (fun z => g2 ((jo g1 Iff.rfl).2 z)) Iff.rfl)), trivial⟩
     refine iff' ?_ ?_ <;> intro c10
     ·
      refine s_5 ?_
      exact rt1 (c_i (by first | exact (if_pos (by assumption)).symm | (unfold chkR; rw [if_neg (fun z => z hsz), if_neg o_m, if_neg (fun z => z hhz), if_neg o_m]; (repeat' split) <;> first | rfl | (exfalso; omega))))
     ·
      refine s_6 ?_
      exact rt1 (c_i (by unfold chkR; rw [if_neg (fun z => z hsz), if_neg o_m, if_neg (fun z => z hhz), if_neg o_m, if_neg (by assumption)]))

end Go.Proofs.YtbchkopkgpfkgaaGreatDoor
