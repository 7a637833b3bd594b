import Derived.Test.YtbchkopkgpfkgaaGreatDoorTi
import Derived.Test.YtbchkopkgpfkgaaGreatDoorGn
import Derived.Test.YtbchkopkgpfkgaaGreatDoorGh
import Derived.Test.YtbchkopkgpfkgaaGreatDoorGg
import Derived.Test.YtbchkopkgpfkgaaGreatDoorGa
/- Walks of the top laws: what each function returns. Printed by a program out of notes. -/
namespace Go.Proofs.YtbchkopkgpfkgaaGreatDoor
open Go.Vc
open Classical

set_option maxRecDepth 100000 in
set_option maxHeartbeats 4000000 in
theorem Check_c {V : HV} {va ha ba : Value} {F : Fl} (hF : Fls V va ha ba F) (hv : Valid F) :
    FnC Tryz.prog 28 [(.agg #[va, ha, ba])] V [] (fun v _ _ => v = (Value.int .i64 0)) := by
 refine f_i Tryz.func28 ?_
 intro w0 D
 have hF0 := hF
 obtain ⟨hvs, hH⟩ := hF.h
 obtain ⟨xB, hB⟩ := hF.b.sl
 have hbvv := SlS.bound hF.v
 have hbh := SlS.bound hH.sl
 have hbb := SlS.bound hB
 obtain ⟨z1, z2, z3, z4, z5⟩ := hv.sz
 have hn0 := nds_nn F.bd
 have hh0 := hsz_nn F.hs
 have y1 := hv.uS
 have y2 := hv.uO
 have y3 := hv.uT
 have nn := ubs_nn _ hv.bd.nns
 refine s_2 ?_
 refine b_ox fun b1 => ?_
 refine s_4 ?_
 refine a_lo fun b2 => ?_
 refine s_5 ?_
 refine c_l [1] (stepsM_c ((nds F.bd).toNat + 1) _ _ _ _ _ _ _ _ (fun z => z) hF0.b z5 o_m o_m o_m o_m o_m) rfl rfl fun r1 V1 sg1 hV1 hp1 => ?_
 obtain ⟨rfl, rfl, rfl⟩ := hp1
 refine p_m [1,0] ?_
 refine s_6 ?_
 refine oq (qv_lenSS UL.out rfl hH.sl) ?_
 refine s_3 ?_
 refine lp1 [0,1,2,3,14,15] (fun (i : Int) => [(16, (Value.int .i64 i))]) (fun i => [(Arr 26 b1 [va, ha, ba]), (Arr 141 b2 [(.int .i64 (nds F.bd + hsz (F.hs.take i.toNat))), (Value.bool false)])]) (fun i => 0 ≤ i ∧ i ≤ F.hs.length) (fun i => (F.hs.length - i).toNat) 0 ?_ ?_ ?_ ?_ 
 · exact ⟨rfl, trivial⟩
 · (rw [show nds F.bd + hsz (F.hs.take (Int.toNat 0)) = 0 + nds F.bd by show nds F.bd + 0 = _; omega])
 · exact ⟨by omega, by omega⟩
 rintro i e1 ⟨i1, i2⟩
 refine s_5 ?_
 refine iff' ?_ ?_ <;> intro c1
 ·
  refine s_4 ?_
  have hsa := hsz_at (l := F.hs) i1 o_m
  have hsn := hsz_nn (F.hs.take i.toNat)
  have htp := (ht F.hs i).tm.sz_pos
  refine s_1 ?_
  refine oq (qv_ias UL.out SZ.out e_vm hH.sl rfl o_m o_m) ?_
  refine oq (qv_lds AG.out rfl hH.sl o_m o_m (htcs_at o_m o_m)) ?_
  refine a_lo fun b3 => ?_
  refine s_tw rfl rfl (allc rfl (allc rfl (allc rfl (allc rfl (allc rfl (allc (Tms.one (hH.hk (i) o_m o_m)) rfl)))))) ?_
  refine s_3 ?_
  refine oq (qv_call_own (v := (.bool (decide (False ∨ 1024 < nds F.bd + hsz (F.hs.take i.toNat))))) (k := 1) (b := b2) rfl (fun Vo hVo hbo => over_c (q := False) ⟨_, _, hbo⟩) rfl rfl) ?_
  refine s_2 ?_
  refine iff' ?_ ?_ <;> intro c2
  ·
   refine s_3 ?_
   refine c_l [1] (termM_c ((ht F.hs i).tm.sz.toNat + 1) _ _ _ _ _ _ _ _ (fun z => z) (hH.hk i i1 o_m) o_m (by have := z2 i i1 o_m; omega) o_m o_m o_m) rfl rfl fun r2 V2 sg2 hV2 hp2 => ?_
   obtain ⟨rfl, rfl, rfl⟩ := hp2
   refine p_m [1,0,2] ?_
   refine s_1 ?_
   refine v_d 2 ?_
   refine s_4 ?_
   exact le1 (i + 1) ⟨(c_i o_m), trivial⟩ ⟨by omega, by omega⟩ (hr := by rw [show (i + 1).toNat = i.toNat + 1 by omega, hsz_take i1 o_m, ← Int.add_assoc])
  ·
   exact absurd (fun z => by rcases z with z | z <;> first | exact z.elim | omega) c2
 ·
  refine s_4 ?_
  have ht0 : hsz (F.hs.take i.toNat) = hsz F.hs := by rw [List.take_of_length_le o_m]
  refine s_3 ?_
  refine oq (qv_lenSS UL.out rfl hF.v) ?_
  refine s_2 ?_
  by_cases g1 : 64 < ((F.vs.length : Int))
  ·
   omega
  ·
   refine s_2 ?_
   refine og (qv_lenSS UL.out rfl hH.sl) w_a ?_
   refine s_3 ?_
   by_cases g2 : 8 < ((F.hs.length : Int))
   ·
    omega
   ·
    refine og (qv_call_own (v := (.bool (decide (False ∨ 1024 < nds F.bd + hsz (F.hs.take i.toNat))))) (k := 1) (b := b2) rfl (fun Vo hVo hbo => over_c (q := False) ⟨_, _, hbo⟩) rfl rfl) w_a ?_
    refine s_2 ?_
    refine iff' ?_ ?_ <;> intro c3
    ·
     rcases c3 with z | z <;> first | exact z.elim | omega
    ·
     refine s_6 ?_
     refine oq (f_c (varsCode_c hF0.v o_m hv.vs) rfl rfl) ?_
     refine s_7 ?_
     refine iff' ?_ ?_ <;> intro c4
     ·
      omega
     ·
      refine s_5 ?_
      refine oq (f_c (hatchesCode_c hF0 hv.vs hv.hs) rfl rfl) ?_
      refine s_7 ?_
      refine i_fn c4 ?_
      refine s_7 ?_
      refine oq (f_c (stepsCode_c ((nds F.bd).toNat + 1) _ _ _ _ _ _ _ True instDecidableTrue hF0 hv.vs hF0.b hv.bd o_m) rfl rfl) ?_
      refine s_7 ?_
      refine i_fn c4 ?_
      refine s_6 ?_
      refine oq (f_c (upper_c ((nds F.bd).toNat + 1) _ _ True _ _ hF0.b hv.bd o_m) rfl rfl) ?_
      refine a_lo fun b4 => ?_
      refine s_3 ?_
      have w1 : mnI (ubS F.bd) 1099511627776 ≤ 4096 := by unfold mnI; split <;> omega
      have w2 : mnI (ubO F.bd) 1099511627776 ≤ 8 := by unfold mnI; split <;> omega
      have w3 : mnI (ubT F.bd) 1099511627776 ≤ 67108864 := by unfold mnI; split <;> omega
      refine s_5 ?_
      by_cases g3 : 4096 < (mnI (ubS F.bd) 1099511627776)
      ·
       omega
      ·
       refine s_5 ?_
       by_cases g4 : 8 < (mnI (ubO F.bd) 1099511627776)
       ·
        omega
       ·
        refine s_5 ?_
        refine iff' ?_ ?_ <;> intro c5
        ·
         omega
        ·
         refine s_6 ?_
         exact rt1 rfl

end Go.Proofs.YtbchkopkgpfkgaaGreatDoor
