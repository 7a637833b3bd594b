import Derived.Test.YtbchkopkgpfkgaaGreatDoorTi
import Derived.Test.YtbchkopkgpfkgaaGreatDoorGs
import Derived.Test.YtbchkopkgpfkgaaGreatDoorGt
import Derived.Test.YtbchkopkgpfkgaaGreatDoorGr
import Derived.Test.YtbchkopkgpfkgaaGreatDoorGi
import Derived.Test.YtbchkopkgpfkgaaGreatDoorWq
/- Walks of the top laws: what each function returns. Printed by a program out of notes. -/
namespace Go.Proofs.YtbchkopkgpfkgaaGreatDoor
open Go.Vc
open Classical

theorem ekE_key : KeyT Tryz.prog 97 ekE := KeyT.flat Tryz.eq97 (fun p : Int × Int => [p.1, p.2]) (fun _ => rfl) fun a b h => by
  simp at h; exact Prod.ext h.1 h.2
set_option maxRecDepth 100000 in
set_option maxHeartbeats 4000000 in
theorem Of1_c {V : HV} {av : Value} {A : List Ob} {ws : List Value} (hal : SlS 2 V av A.length (obcs ws A)) (hw : HwO V ws A) {x y : Int} {b : Nat} (hb : Cells V b [av]) (x0 : 0 ≤ x) (x1 : x < A.length) (y0 : 0 ≤ y) (y1 : y < A.length) :
    FnC Tryz.prog 36 [(Value.int .i64 x), (Value.int .i64 y), (Value.pointer (some ⟨b, 0, none⟩))] V [] (fun v _ _ => v = (.int .i64 (cmO (ob A x) (ob A y)))) := by
 refine f_i Tryz.func36 ?_
 intro w0 D
 refine s_8 ?_
 refine qq (qv_ias UL.out SZ.out e_vm hal rfl o_m o_m) ?_
 refine qq (qv_lds AG.out rfl hal o_m o_m (obcs_at o_m o_m)) ?_
 refine s_2 ?_
 refine qq (qv_ias UL.out SZ.out e_vm hal rfl o_m o_m) ?_
 refine qq (qv_lds AG.out rfl hal o_m o_m (obcs_at o_m o_m)) ?_
 refine qq (f_c (cmpO_c (hw x x0 x1) (hw y y0 y1)) rfl rfl) ?_
 refine s_3 ?_
 exact rt1 rfl

theorem SeenO_c {V : HV} {F : Fl} {B : List Int} {ov : Value} {s r : Int} {tm : Bool} (ho : Ints .i64 V ov (obsF F (unL (vfl F.vs 1) s) B (unL (vfl F.vs 3) r)).outs) (hl : (obsF F (unL (vfl F.vs 1) s) B (unL (vfl F.vs 3) r)).outs.length ≤ 1000000) : FnC Tryz.prog 33 [.agg #[ov, .int .i64 (obsF F (unL (vfl F.vs 1) s) B (unL (vfl F.vs 3) r)).time], .bool (decide (tm = true))] V [] (fun v V' σ' => σ' = [] ∧ ∃ cv, v = .agg #[cv, .int .i64 (oK F B tm s r).2] ∧ Ints .i64 V' cv (oK F B tm s r).1) := Seen_c ho hl
theorem keyC_c {V : HV} {lv : Value} {q : Ob} (ht : TabV Tryz.prog V) (hl : Ints .i64 V lv (q.2 :: q.1)) (h2 : q.1.length ≤ 8) (h : 0 ≤ q.2 ∧ q.2 ≤ 67108864) (hr : ∀ i : Int, 0 ≤ i → i < q.1.length → -1048576 ≤ gi q.1 i ∧ gi q.1 i ≤ 1048576) : FnC Tryz.prog 34 [lv] V [] (fun v _ _ => v = .string (keyO q)) := spelledC_c ht hl (by simp) (by rw [List.length_cons]; omega) (spell_ok h h2 hr)
theorem hrow_snoc {V : HV} {rv : List Value} {w : Value} {M : Int → List Int} {z : Int} (hl : (rv.length : Int) = z) (h : HrO V rv M z) (hw : Ints .i64 V w (M z)) : HrO V (rv ++ [w]) M (z + 1) := fun x a b => by
  by_cases e : x = z
  · subst e
    rw [gvl_last hl]; exact hw
  · rw [gvl_left a o_m]; exact h x a o_m
set_option maxRecDepth 100000 in
set_option maxHeartbeats 4000000 in
theorem Of_c {V : HV} {va ha ba : Value} {F : Fl} (hF : Fls V va ha ba F) {pv : Value} {B : List Int} {tm : Bool} (hVa : Valid F) (hP : Ints .i64 V pv B) (hB : rkE (vfl F.vs 2) B = 0) (ht : TabV Tryz.prog V) (h16 : spc F.vs 1 * spc F.vs 3 ≤ 256) :
    FnC Tryz.prog 8 [(.agg #[va, ha, ba]), (.agg #[pv, (.bool (decide (tm = true)))])] V [] (fun v V' σ' => σ' = [] ∧ ∃ cw sv rv A d, v = .tuple #[.agg #[cw], sv, .int .i64 0] ∧ (∃ f g, ChI (oK F B tm) (spc F.vs 3) (spc F.vs 1) 0 A f g) ∧ (d.Perm (iota A.length) ∧ Srt (fun x y => cmO (ob A x) (ob A y)) d) ∧ Mat .i64 V' cw rv (chM (oK F B tm) (spc F.vs 1) (spc F.vs 3) A d) ∧ ∃ xs, SlS 2 V' sv d.length xs) := by
 refine FnC.drop ?_
 refine f_i Tryz.func8 ?_
 intro w0 D
 obtain ⟨hvs, hH⟩ := hF.h
 obtain ⟨xQ, hQ⟩ := hF.b.sl
 have hbvv := SlS.bound hF.v
 have hbh := SlS.bound hH.sl
 have hbb := SlS.bound hQ
 have h64 : F.vs.length ≤ 64 := by have := hVa.sz.1; omega
 have n1 := spc_pos' hVa.vs 1
 have n3 := spc_pos' hVa.vs 3
 have n4 := hVa.vs.s1
 have n5 := hVa.vs.s2
 have n6 := hVa.vs.s3
 have n7 : spc F.vs 1 ≤ spc F.vs 1 * spc F.vs 3 := by have := Int.mul_le_mul_of_nonneg_left n3 (show 0 ≤ spc F.vs 1 by omega); omega
 refine s_2 ?_
 refine b_ox fun b1 => ?_
 refine b_ox fun b2 => ?_
 refine a_lo fun b3 => ?_
 refine s_7 ?_
 refine oq (f_c (Check_c hF hVa) rfl rfl) ?_
 refine s_7 ?_
 refine iff' ?_ ?_ <;> intro c1
 ·
  omega
 ·
  refine s_8 ?_
  refine oq (f_c (dRank_c hF.v h64 hVa.vs o_m o_m hP) rfl rfl) ?_
  refine s_11 ?_
  refine iff' ?_ ?_ <;> intro c2
  ·
   omega
  ·
   refine s_5 ?_
   refine oq (f_c (dSpace_c hF.v h64 hVa.vs o_m o_m) rfl rfl) ?_
   refine s_10 ?_
   refine oq (f_c (dSpace_c hF.v h64 hVa.vs o_m o_m) rfl rfl) ?_
   refine s_12 ?_
   refine iff' ?_ ?_ <;> intro c3
   ·
    omega
   ·
    refine s_3 ?_
    refine a_lo fun b4 => ?_
    refine s_3 ?_
    refine ops_mkmap0 Value.string (Value.int .i64) (fun b5 => ?_)
    refine s_4 ?_
    refine ops_mkmap0 ekE (Value.int .i64) (fun b6 => ?_)
    refine s_4 ?_
    refine vc_nil 90 2 ?_
    refine s_5 ?_
    refine lv6 [0,1,2,3,4,5,6,7,9,10,12,14,15,16,39,51,69,73] (fun (s : Int) (A : List Ob) (ws : List Value) (f : FK) (g : GK) (av : Value) => [(74, (Value.int .i64 s))]) (fun s A ws f g av => [(Arr 26 b1 [va, ha, ba]), (Arr 29 b2 [pv, (.bool (decide (tm = true)))]), (Arr 41 b3 [(Value.slice none 0 0)]), (Arr 42 b4 [av]), (Mf b5 Value.string (Value.int .i64) f), (Mf b6 ekE (Value.int .i64) g), (Gr 90 2 av A.length ((obcs ws A)))]) (fun s A ws f g av V' => 0 ≤ s ∧ s ≤ (spc F.vs 1) ∧ Fls V' va ha ba F ∧ Ints .i64 V' pv B ∧ TabV Tryz.prog V' ∧ HwO V' ws A ∧ ws.length = A.length ∧ ChI (oK F B tm) (spc F.vs 3) s 0 A f g) (fun s A ws f g av => ((spc F.vs 1) - s).toNat) 0 ([]) ([]) (fun _ => none) (fun _ => none) ((Value.slice none 0 0)) ?_ ?_ ?_ ?_ 
    · exact ⟨rfl, trivial⟩
    · (rfl)
    · exact ⟨by omega, by omega, hF, hP, ht, fun j a b => by simp at b; omega, rfl, ChI.init⟩
    rintro s A ws f g av e1 V0l ⟨s1, s2, hF, hP, ht, hw, hwl, hch⟩
    refine s_5 ?_
    refine iff' ?_ ?_ <;> intro c4
    ·
     refine s_14 ?_
     refine lv6 [0,1,2,3,4,5,6,7,9,10,12,14,15,16,17,39,51,69,73,74,75,77] (fun (r : Int) (A2 : List Ob) (ws2 : List Value) (f2 : FK) (g2 : GK) (av2 : Value) => [(78, (Value.int .i64 r))]) (fun r A2 ws2 f2 g2 av2 => [(Arr 26 b1 [va, ha, ba]), (Arr 29 b2 [pv, (.bool (decide (tm = true)))]), (Arr 41 b3 [(Value.slice none 0 0)]), (Arr 42 b4 [av2]), (Mf b5 Value.string (Value.int .i64) f2), (Mf b6 ekE (Value.int .i64) g2), (Gr 90 2 av2 A2.length ((obcs ws2 A2)))]) (fun r A2 ws2 f2 g2 av2 V' => 0 ≤ r ∧ r ≤ (spc F.vs 3) ∧ Fls V' va ha ba F ∧ Ints .i64 V' pv B ∧ TabV Tryz.prog V' ∧ HwO V' ws2 A2 ∧ ws2.length = A2.length ∧ ChI (oK F B tm) (spc F.vs 3) s r A2 f2 g2) (fun r A2 ws2 f2 g2 av2 => ((spc F.vs 3) - r).toNat) 0 A ws f g av ?_ ?_ ?_ ?_ 
     · exact ⟨rfl, trivial⟩
     · (rfl)
     · exact ⟨by omega, by omega, hF, hP, ht, hw, hwl, hch⟩
     rintro r A2 ws2 f2 g2 av2 e2 V1l ⟨r1, r2, hF, hP, ht, hw2, hwl2, hch2⟩
     refine s_5 ?_
     refine iff' ?_ ?_ <;> intro c5
     ·
      refine s_9 ?_
      have hin := in_ok hVa.vs hB s r
      have hbd0 := obs_bd hVa hin
      have hbd : (oK F B tm s r).1.length ≤ 8 ∧ (0 ≤ (obsF F (unL (vfl F.vs 1) s) B (unL (vfl F.vs 3) r)).time ∧ (obsF F (unL (vfl F.vs 1) s) B (unL (vfl F.vs 3) r)).time ≤ 67108864) ∧ ∀ i : Int, 0 ≤ i → i < (oK F B tm s r).1.length → -1048576 ≤ gi (oK F B tm s r).1 i ∧ gi (oK F B tm s r).1 i ≤ 1048576 := ⟨hbd0.1, ⟨hbd0.2.1, hbd0.2.2.1⟩, hbd0.2.2.2⟩
      have hll := hch2.len
      have hmm := Int.mul_le_mul_of_nonneg_right (show s + 1 ≤ spc F.vs 1 by omega) (show 0 ≤ spc F.vs 3 by omega)
      rw [Int.add_mul, Int.one_mul] at hmm
      refine s_5 ?_
      refine c_l [] (Inputs_c hF.v h64 hVa.vs s1 o_m o_m (by have := spc_pos' hVa.vs 2; omega) r1 o_m) rfl rfl fun r1 V1 sg1 hV1 hp1 => ?_
      obtain ⟨rfl, u1, u2, u3, rfl, hu1, hu2, hu3⟩ := hp1
      have hF := hF.mono hV1
      have hP := hP.mono hV1
      have ht := ht.mono hV1
      have hw2 := hw2.mono hV1
      refine s_3 ?_
      refine a_lo fun b7 => ?_
      refine s_tw rfl rfl (allc (Sl.one hu1) (allc (Sl.one hu2) (allc (Sl.one hu3) rfl))) ?_
      refine s_7 ?_
      refine s_tp rfl e_vm (Sl.one hP) ?_
      refine s_5 ?_
      refine c_l [] (Run_c hF hVa hu1 hP hu3 (in_ok hVa.vs hB s r)) rfl rfl fun r2 V2 sg2 hV2 hp2 => ?_
      obtain ⟨rfl, ov, rfl, hov⟩ := hp2
      have hF := hF.mono hV2
      have hP := hP.mono hV2
      have ht := ht.mono hV2
      have hw2 := hw2.mono hV2
      have hu1 := hu1.mono hV2
      have hu2 := hu2.mono hV2
      have hu3 := hu3.mono hV2
      refine s_3 ?_
      refine a_lo fun b8 => ?_
      refine s_tw rfl rfl (allc (Sl.one hov) (allc rfl rfl)) ?_
      refine s_7 ?_
      refine c_l [] (SeenO_c hov (by have := hbd.1; omega)) rfl rfl fun r3 V3 sg3 hV3 hp3 => ?_
      obtain ⟨rfl, cv, rfl, hcv⟩ := hp3
      have hF := hF.mono hV3
      have hP := hP.mono hV3
      have ht := ht.mono hV3
      have hw2 := hw2.mono hV3
      have hu1 := hu1.mono hV3
      have hu2 := hu2.mono hV3
      have hu3 := hu3.mono hV3
      have hov := hov.mono hV3
      refine s_tw rfl rfl (allc (Sl.one hcv) (allc rfl rfl)) ?_
      refine s_5 ?_
      refine ops_lit (n := 1) (s := 1) (cs := [(.int .i64 ((oK F B tm s r).2))]) UL.out TZ.out (l_b rfl) rfl rfl rfl (l_b rfl) rfl (fun b9 => ?_)
      refine s_2 ?_
      refine ops_to_gr (k := 9) (b := b9) (n := 1) (cap := 1) (cs := #[(.int .i64 ((oK F B tm s r).2))]) 1 ([(oK F B tm s r).2].map (Value.int .i64)) rfl rfl (Nat.le_refl _) (l_b rfl) rfl rfl ?_
      have hbl := hbd.1
      refine a_pv rfl rfl hcv o_c (by simp only [List.length_map]; omega) (by simp only [List.length_map, maxLen]; omega) fun v1 => ?_
      refine o_fG 9 fun Vf1 hVf1 hc1 => ?_
      have hF := hF.mono hVf1
      have hP := hP.mono hVf1
      have ht := ht.mono hVf1
      have hw2 := hw2.mono hVf1
      have hu1 := hu1.mono hVf1
      have hu2 := hu2.mono hVf1
      have hu3 := hu3.mono hVf1
      have hov := hov.mono hVf1
      have hcv := hcv.mono hVf1
      have hkl : Ints .i64 Vf1 v1 ((oK F B tm s r).2 :: (oK F B tm s r).1) := Ints.cons hc1
      refine oq (f_c (keyC_c ht hkl hbd.1 (seen_bd hbd.2.1) hbd.2.2) rfl rfl) ?_
      refine s_6 ?_
      refine oq (qv_look (a0 := 0) (key := (keyO (oK F B tm s r))) (k := 4) UL.out (KeyT.str Tryz.underlying9) TZ.out rfl rfl rfl) ?_
      refine s_12 ?_
      refine iff' ?_ ?_ <;> intro c6
      ·
       refine s_1 ?_
       have hno := some_no c6
       refine s_2 ?_
       refine oq (qv_lenGr (k := 6) UL.out rfl rfl) ?_
       refine s_7 ?_
       refine ops_mapset (k := 4) (key := (keyO (oK F B tm s r))) (v := ((A2.length : Nat) : Int)) UL.out (KeyT.str Tryz.underlying9) rfl rfl rfl rfl ?_
       refine s_4 ?_
       refine ops_lit (n := 1) (s := 2) (cs := [cv, (.int .i64 ((oK F B tm s r).2))]) UL.out TZ.out (l_b rfl) rfl rfl rfl (l_b rfl) rfl (fun b10 => ?_)
       refine a_po rfl rfl rfl (by intro u hu; simp at hu; rcases hu with rfl | rfl <;> first | exact Sl.one hcv | rfl) o_m m_x fun v2 hn1 => ?_
       refine ops_gr1 (k := 6) rfl (fun ho1 => ?_)
       refine s_tp rfl e_vm ho1 ?_
       refine s_1 ?_
       have hcb := ChI.cbd hch2 s1 r1 A2.length
       refine vc_join (α := Unit) (fun xx => [(0, (.agg #[va, ha, ba])), (1, (.agg #[pv, (.bool (decide (tm = true)))])), (2, (Value.pointer (some ⟨b1, 0, none⟩))), (3, (Value.pointer (some ⟨b2, 0, none⟩))), (4, (Value.pointer (some ⟨b3, 0, none⟩))), (5, (Value.slice none 0 0)), (6, (Value.int .i64 0)), (7, (Value.int .i64 0)), (9, (.int .i64 (rkE (vfl F.vs 2) B))), (10, (.int .i64 (spc F.vs 1))), (12, (.int .i64 (spc F.vs 3))), (14, (Value.pointer (some ⟨b4, 0, none⟩))), (15, (Value.map (some b5))), (16, (Value.map (some b6))), (17, (Value.int .i64 s)), (18, (Value.int .i64 r)), (19, (Value.pointer (some ⟨b7, 0, none⟩))), (21, (Value.pointer (some ⟨b8, 0, none⟩))), (23, (Value.string (keyO (oK F B tm s r)))), (24, (.int .i64 (((A2.length : Nat) : Int)))), (25, (.bool (decide ((f2 ((keyO (oK F B tm s r)))).isSome = true)))), (39, (.bool (decide ((0 : Int) ≠ 0)))), (51, (.bool (decide ((rkE (vfl F.vs 2) B) ≠ 0)))), (69, (.bool (decide (256 < (spc F.vs 1))))), (73, (.int .i64 (spc F.vs 1))), (74, (Value.int .i64 s)), (75, (.bool (decide (s < (spc F.vs 1))))), (77, (.int .i64 (spc F.vs 3))), (78, (Value.int .i64 r)), (79, (.bool (decide (r < (spc F.vs 3))))), (116, (.bool (decide (¬ ((f2 ((keyO (oK F B tm s r)))).isSome = true)))))]) (fun xx V' σ' => Vf1 = V' ∧ [(Arr 26 b1 [va, ha, ba]), (Arr 29 b2 [pv, (.bool (decide (tm = true)))]), (Arr 41 b3 [(Value.slice none 0 0)]), (Arr 42 b4 [v2]), (Mf b5 Value.string (Value.int .i64) (setF f2 ((keyO (oK F B tm s r))) (((A2.length : Nat) : Int)))), (Mf b6 ekE (Value.int .i64) (setF (setF g2 (((s, ((A2.length : Nat) : Int)) : Int × Int)) ((g2 (((s, ((A2.length : Nat) : Int)) : Int × Int))).getD 0)) (((s, ((A2.length : Nat) : Int)) : Int × Int)) (((g2 (((s, ((A2.length : Nat) : Int)) : Int × Int))).getD 0) + 1))), (Gr 90 2 v2 ((A2.length + 1)) (((obcs ws2 A2) ++ [cv, (.int .i64 ((oK F B tm s r).2))]))), (Arr 86 b7 [u1, pv, u3]), (Arr 90 b8 [cv, (.int .i64 ((oK F B tm s r).2))]), (Arr 90 b10 [cv, (.int .i64 ((oK F B tm s r).2))])] = σ') ?_ ?_
       ·
        refine rE 9 [0,0,0,0,0,1] ?_
        refine eq_ (i := 0) k_r rfl q_a ?_
        refine eq_ (i := 1) k_r rfl q_a ?_
        refine eq_ (i := 2) k_r rfl q_a ?_
        refine eq_ (i := 3) k_r rfl (qv_build (out := [(Value.int .i64 s), (.int .i64 (((A2.length : Nat) : Int)))]) BI.out [(0, [(Value.int .i64 s)]), (1, [(.int .i64 (((A2.length : Nat) : Int)))])] rfl rfl) ?_
        refine el2 (i := 4) (j := 6) k_r ?_ ?_
        ·
         refine el_o ?_
         refine oq (qv_look1 (a0 := 0) (key := ((s, ((A2.length : Nat) : Int)) : Int × Int)) (k := 5) UL.out ekE_key TZ.out rfl rfl rfl) ?_
         refine on3 [0,0,0,0,0,1] (Sub.refl _) ?_
         refine eq_ (i := 5) k_r rfl q_a ?_
         refine el1 (i := 6) k_r ?_
         refine el_o ?_
         refine ops_mapentry (k := 5) (key := ((s, ((A2.length : Nat) : Int)) : Int × Int)) (a0 := 0) UL.out ekE_key TZ.out rfl rfl rfl (fun en1 => ?_)
         refine on3 [0,0,0,0,0,1] (Sub.refl _) ?_
         refine eq_ (i := 7) k_r rfl q_a ?_
         refine el1 (i := 8) k_r ?_
         refine el_o ?_
         refine ops_entrystore (k := 5) (v := ((g2 (((s, ((A2.length : Nat) : Int)) : Int × Int))).getD 0) + 1) rfl rfl rfl rfl ?_
         refine on3 [0,0,0,0,0,1] (Sub.refl _) ?_
         refine enil (σ' := [(Arr 26 b1 [va, ha, ba]), (Arr 29 b2 [pv, (.bool (decide (tm = true)))]), (Arr 41 b3 [(Value.slice none 0 0)]), (Arr 42 b4 [v2]), (Mf b5 Value.string (Value.int .i64) (setF f2 ((keyO (oK F B tm s r))) (((A2.length : Nat) : Int)))), (Mf b6 ekE (Value.int .i64) (setF (setF g2 (((s, ((A2.length : Nat) : Int)) : Int × Int)) ((g2 (((s, ((A2.length : Nat) : Int)) : Int × Int))).getD 0)) (((s, ((A2.length : Nat) : Int)) : Int × Int)) (((g2 (((s, ((A2.length : Nat) : Int)) : Int × Int))).getD 0) + 1))), (Gr 90 2 v2 ((A2.length + 1)) (((obcs ws2 A2) ++ [cv, (.int .i64 ((oK F B tm s r).2))]))), (Arr 86 b7 [u1, pv, u3]), (Arr 90 b8 [cv, (.int .i64 ((oK F B tm s r).2))]), (Arr 90 b10 [cv, (.int .i64 ((oK F B tm s r).2))])]) k_r (pz [0, 1, 2, 3, 4, 5, 6, 7, 8, 9] rfl k_r) ⟨(), ⟨rfl, rfl, rfl, rfl, rfl, rfl, rfl, rfl, rfl, rfl, rfl, rfl, rfl, rfl, rfl, rfl, rfl, rfl, rfl, rfl, rfl, rfl, rfl, rfl, rfl, rfl, rfl, rfl, rfl, rfl, rfl, trivial⟩, rfl, rfl⟩
        ·
         refine el_o ?_
         refine ops_mapentry (k := 5) (key := ((s, ((A2.length : Nat) : Int)) : Int × Int)) (a0 := 0) UL.out ekE_key TZ.out rfl rfl rfl (fun en2 => ?_)
         refine on3 [0,0,0,0,0,1] (Sub.refl _) ?_
         refine eq_ (i := 7) k_r rfl q_a ?_
         refine el1 (i := 4) k_r ?_
         refine el_o ?_
         refine oq (qv_look1s (a0 := 0) (key := ((s, ((A2.length : Nat) : Int)) : Int × Int)) (f := g2) (k := 5) UL.out ekE_key TZ.out rfl rfl rfl rfl) ?_
         refine on3 [0,0,0,0,0,1] (Sub.refl _) ?_
         refine eq_ (i := 5) k_r rfl q_a ?_
         refine el1 (i := 8) k_r ?_
         refine el_o ?_
         refine ops_entrystore (k := 5) (v := ((g2 (((s, ((A2.length : Nat) : Int)) : Int × Int))).getD 0) + 1) rfl rfl rfl rfl ?_
         refine on3 [0,0,0,0,0,1] (Sub.refl _) ?_
         refine enil (σ' := [(Arr 26 b1 [va, ha, ba]), (Arr 29 b2 [pv, (.bool (decide (tm = true)))]), (Arr 41 b3 [(Value.slice none 0 0)]), (Arr 42 b4 [v2]), (Mf b5 Value.string (Value.int .i64) (setF f2 ((keyO (oK F B tm s r))) (((A2.length : Nat) : Int)))), (Mf b6 ekE (Value.int .i64) (setF (setF g2 (((s, ((A2.length : Nat) : Int)) : Int × Int)) ((g2 (((s, ((A2.length : Nat) : Int)) : Int × Int))).getD 0)) (((s, ((A2.length : Nat) : Int)) : Int × Int)) (((g2 (((s, ((A2.length : Nat) : Int)) : Int × Int))).getD 0) + 1))), (Gr 90 2 v2 ((A2.length + 1)) (((obcs ws2 A2) ++ [cv, (.int .i64 ((oK F B tm s r).2))]))), (Arr 86 b7 [u1, pv, u3]), (Arr 90 b8 [cv, (.int .i64 ((oK F B tm s r).2))]), (Arr 90 b10 [cv, (.int .i64 ((oK F B tm s r).2))])]) k_r (pz [0, 1, 2, 3, 4, 5, 6, 7, 8, 9] rfl k_r) ⟨(), ⟨rfl, rfl, rfl, rfl, rfl, rfl, rfl, rfl, rfl, rfl, rfl, rfl, rfl, rfl, rfl, rfl, rfl, rfl, rfl, rfl, rfl, rfl, rfl, rfl, rfl, rfl, rfl, rfl, rfl, rfl, rfl, trivial⟩, rfl, rfl⟩
       rintro ⟨⟩ e3 Vj1 σj1 hJ1
       obtain ⟨rfl, rfl⟩ : Vf1 = Vj1 ∧ [(Arr 26 b1 [va, ha, ba]), (Arr 29 b2 [pv, (.bool (decide (tm = true)))]), (Arr 41 b3 [(Value.slice none 0 0)]), (Arr 42 b4 [v2]), (Mf b5 Value.string (Value.int .i64) (setF f2 ((keyO (oK F B tm s r))) (((A2.length : Nat) : Int)))), (Mf b6 ekE (Value.int .i64) (setF (setF g2 (((s, ((A2.length : Nat) : Int)) : Int × Int)) ((g2 (((s, ((A2.length : Nat) : Int)) : Int × Int))).getD 0)) (((s, ((A2.length : Nat) : Int)) : Int × Int)) (((g2 (((s, ((A2.length : Nat) : Int)) : Int × Int))).getD 0) + 1))), (Gr 90 2 v2 ((A2.length + 1)) (((obcs ws2 A2) ++ [cv, (.int .i64 ((oK F B tm s r).2))]))), (Arr 86 b7 [u1, pv, u3]), (Arr 90 b8 [cv, (.int .i64 ((oK F B tm s r).2))]), (Arr 90 b10 [cv, (.int .i64 ((oK F B tm s r).2))])] = σj1 := hJ1
       with_reducible change VC _ _ _ _ _ _ (upds 202 [(0, (.agg #[va, ha, ba])), (1, (.agg #[pv, (.bool (decide (tm = true)))])), (2, (Value.pointer (some ⟨b1, 0, none⟩))), (3, (Value.pointer (some ⟨b2, 0, none⟩))), (4, (Value.pointer (some ⟨b3, 0, none⟩))), (5, (Value.slice none 0 0)), (6, (Value.int .i64 0)), (7, (Value.int .i64 0)), (9, (.int .i64 (rkE (vfl F.vs 2) B))), (10, (.int .i64 (spc F.vs 1))), (12, (.int .i64 (spc F.vs 3))), (14, (Value.pointer (some ⟨b4, 0, none⟩))), (15, (Value.map (some b5))), (16, (Value.map (some b6))), (17, (Value.int .i64 s)), (18, (Value.int .i64 r)), (19, (Value.pointer (some ⟨b7, 0, none⟩))), (21, (Value.pointer (some ⟨b8, 0, none⟩))), (23, (Value.string (keyO (oK F B tm s r)))), (24, (.int .i64 (((A2.length : Nat) : Int)))), (25, (.bool (decide ((f2 ((keyO (oK F B tm s r)))).isSome = true)))), (39, (.bool (decide ((0 : Int) ≠ 0)))), (51, (.bool (decide ((rkE (vfl F.vs 2) B) ≠ 0)))), (69, (.bool (decide (256 < (spc F.vs 1))))), (73, (.int .i64 (spc F.vs 1))), (74, (Value.int .i64 s)), (75, (.bool (decide (s < (spc F.vs 1))))), (77, (.int .i64 (spc F.vs 3))), (78, (Value.int .i64 r)), (79, (.bool (decide (r < (spc F.vs 3))))), (116, (.bool (decide (¬ ((f2 ((keyO (oK F B tm s r)))).isSome = true)))))] e3) _ _
       refine v_d 9 ?_
       refine v_d 8 ?_
       refine v_d 7 ?_
       refine s_4 ?_
       exact lw6 (r + 1) ((A2 ++ [(oK F B tm s r)])) ((ws2 ++ [cv])) (setF f2 ((keyO (oK F B tm s r))) (((A2.length : Nat) : Int))) (setF (setF g2 (((s, ((A2.length : Nat) : Int)) : Int × Int)) ((g2 (((s, ((A2.length : Nat) : Int)) : Int × Int))).getD 0)) (((s, ((A2.length : Nat) : Int)) : Int × Int)) (((g2 (((s, ((A2.length : Nat) : Int)) : Int × Int))).getD 0) + 1)) v2 ⟨(c_i o_m), trivial⟩ ⟨by omega, by omega, hF, hP, ht, hw_snoc hwl2 hw2 hcv, by rw [List.length_append, List.length_append, hwl2]; rfl, ChI.ext hch2 s1 r1 o_m hno⟩ (hr := by first | rfl | (rw [obcs_snoc hwl2, List.length_append]; rfl))
      ·
       refine s_1 ?_
       have hyes := some_yes (Decidable.not_not.1 c6)
       have hcb := ChI.cbd hch2 s1 r1 ((f2 (keyO (oK F B tm s r))).getD 0)
       refine vc_join (α := Unit) (fun xx => [(0, (.agg #[va, ha, ba])), (1, (.agg #[pv, (.bool (decide (tm = true)))])), (2, (Value.pointer (some ⟨b1, 0, none⟩))), (3, (Value.pointer (some ⟨b2, 0, none⟩))), (4, (Value.pointer (some ⟨b3, 0, none⟩))), (5, (Value.slice none 0 0)), (6, (Value.int .i64 0)), (7, (Value.int .i64 0)), (9, (.int .i64 (rkE (vfl F.vs 2) B))), (10, (.int .i64 (spc F.vs 1))), (12, (.int .i64 (spc F.vs 3))), (14, (Value.pointer (some ⟨b4, 0, none⟩))), (15, (Value.map (some b5))), (16, (Value.map (some b6))), (17, (Value.int .i64 s)), (18, (Value.int .i64 r)), (19, (Value.pointer (some ⟨b7, 0, none⟩))), (21, (Value.pointer (some ⟨b8, 0, none⟩))), (23, (Value.string (keyO (oK F B tm s r)))), (24, (.int .i64 ((f2 ((keyO (oK F B tm s r)))).getD 0))), (25, (.bool (decide ((f2 ((keyO (oK F B tm s r)))).isSome = true)))), (39, (.bool (decide ((0 : Int) ≠ 0)))), (51, (.bool (decide ((rkE (vfl F.vs 2) B) ≠ 0)))), (69, (.bool (decide (256 < (spc F.vs 1))))), (73, (.int .i64 (spc F.vs 1))), (74, (Value.int .i64 s)), (75, (.bool (decide (s < (spc F.vs 1))))), (77, (.int .i64 (spc F.vs 3))), (78, (Value.int .i64 r)), (79, (.bool (decide (r < (spc F.vs 3))))), (116, (.bool (decide (¬ ((f2 ((keyO (oK F B tm s r)))).isSome = true)))))]) (fun xx V' σ' => Vf1 = V' ∧ [(Arr 26 b1 [va, ha, ba]), (Arr 29 b2 [pv, (.bool (decide (tm = true)))]), (Arr 41 b3 [(Value.slice none 0 0)]), (Arr 42 b4 [av2]), (Mf b5 Value.string (Value.int .i64) f2), (Mf b6 ekE (Value.int .i64) (setF (setF g2 (((s, (f2 ((keyO (oK F B tm s r)))).getD 0) : Int × Int)) ((g2 (((s, (f2 ((keyO (oK F B tm s r)))).getD 0) : Int × Int))).getD 0)) (((s, (f2 ((keyO (oK F B tm s r)))).getD 0) : Int × Int)) (((g2 (((s, (f2 ((keyO (oK F B tm s r)))).getD 0) : Int × Int))).getD 0) + 1))), (Gr 90 2 av2 A2.length ((obcs ws2 A2))), (Arr 86 b7 [u1, pv, u3]), (Arr 90 b8 [cv, (.int .i64 ((oK F B tm s r).2))])] = σ') ?_ ?_
       ·
        refine rE 9 [0,0,0,0,0,1] ?_
        refine eq_ (i := 0) k_r rfl q_a ?_
        refine eq_ (i := 1) k_r rfl q_a ?_
        refine eq_ (i := 2) k_r rfl q_a ?_
        refine eq_ (i := 3) k_r rfl (qv_build (out := [(Value.int .i64 s), (.int .i64 ((f2 ((keyO (oK F B tm s r)))).getD 0))]) BI.out [(0, [(Value.int .i64 s)]), (1, [(.int .i64 ((f2 ((keyO (oK F B tm s r)))).getD 0))])] rfl rfl) ?_
        refine el2 (i := 4) (j := 6) k_r ?_ ?_
        ·
         refine el_o ?_
         refine oq (qv_look1 (a0 := 0) (key := ((s, (f2 ((keyO (oK F B tm s r)))).getD 0) : Int × Int)) (k := 5) UL.out ekE_key TZ.out rfl rfl rfl) ?_
         refine on3 [0,0,0,0,0,1] (Sub.refl _) ?_
         refine eq_ (i := 5) k_r rfl q_a ?_
         refine el1 (i := 6) k_r ?_
         refine el_o ?_
         refine ops_mapentry (k := 5) (key := ((s, (f2 ((keyO (oK F B tm s r)))).getD 0) : Int × Int)) (a0 := 0) UL.out ekE_key TZ.out rfl rfl rfl (fun en3 => ?_)
         refine on3 [0,0,0,0,0,1] (Sub.refl _) ?_
         refine eq_ (i := 7) k_r rfl q_a ?_
         refine el1 (i := 8) k_r ?_
         refine el_o ?_
         refine ops_entrystore (k := 5) (v := ((g2 (((s, (f2 ((keyO (oK F B tm s r)))).getD 0) : Int × Int))).getD 0) + 1) rfl rfl rfl rfl ?_
         refine on3 [0,0,0,0,0,1] (Sub.refl _) ?_
         refine enil (σ' := [(Arr 26 b1 [va, ha, ba]), (Arr 29 b2 [pv, (.bool (decide (tm = true)))]), (Arr 41 b3 [(Value.slice none 0 0)]), (Arr 42 b4 [av2]), (Mf b5 Value.string (Value.int .i64) f2), (Mf b6 ekE (Value.int .i64) (setF (setF g2 (((s, (f2 ((keyO (oK F B tm s r)))).getD 0) : Int × Int)) ((g2 (((s, (f2 ((keyO (oK F B tm s r)))).getD 0) : Int × Int))).getD 0)) (((s, (f2 ((keyO (oK F B tm s r)))).getD 0) : Int × Int)) (((g2 (((s, (f2 ((keyO (oK F B tm s r)))).getD 0) : Int × Int))).getD 0) + 1))), (Gr 90 2 av2 A2.length ((obcs ws2 A2))), (Arr 86 b7 [u1, pv, u3]), (Arr 90 b8 [cv, (.int .i64 ((oK F B tm s r).2))])]) k_r (pz [0, 1, 2, 3, 4, 5, 6, 7, 8] rfl k_r) ⟨(), ⟨rfl, rfl, rfl, rfl, rfl, rfl, rfl, rfl, rfl, rfl, rfl, rfl, rfl, rfl, rfl, rfl, rfl, rfl, rfl, rfl, rfl, rfl, rfl, rfl, rfl, rfl, rfl, rfl, rfl, rfl, rfl, trivial⟩, rfl, rfl⟩
        ·
         refine el_o ?_
         refine ops_mapentry (k := 5) (key := ((s, (f2 ((keyO (oK F B tm s r)))).getD 0) : Int × Int)) (a0 := 0) UL.out ekE_key TZ.out rfl rfl rfl (fun en4 => ?_)
         refine on3 [0,0,0,0,0,1] (Sub.refl _) ?_
         refine eq_ (i := 7) k_r rfl q_a ?_
         refine el1 (i := 4) k_r ?_
         refine el_o ?_
         refine oq (qv_look1s (a0 := 0) (key := ((s, (f2 ((keyO (oK F B tm s r)))).getD 0) : Int × Int)) (f := g2) (k := 5) UL.out ekE_key TZ.out rfl rfl rfl rfl) ?_
         refine on3 [0,0,0,0,0,1] (Sub.refl _) ?_
         refine eq_ (i := 5) k_r rfl q_a ?_
         refine el1 (i := 8) k_r ?_
         refine el_o ?_
         refine ops_entrystore (k := 5) (v := ((g2 (((s, (f2 ((keyO (oK F B tm s r)))).getD 0) : Int × Int))).getD 0) + 1) rfl rfl rfl rfl ?_
         refine on3 [0,0,0,0,0,1] (Sub.refl _) ?_
         refine enil (σ' := [(Arr 26 b1 [va, ha, ba]), (Arr 29 b2 [pv, (.bool (decide (tm = true)))]), (Arr 41 b3 [(Value.slice none 0 0)]), (Arr 42 b4 [av2]), (Mf b5 Value.string (Value.int .i64) f2), (Mf b6 ekE (Value.int .i64) (setF (setF g2 (((s, (f2 ((keyO (oK F B tm s r)))).getD 0) : Int × Int)) ((g2 (((s, (f2 ((keyO (oK F B tm s r)))).getD 0) : Int × Int))).getD 0)) (((s, (f2 ((keyO (oK F B tm s r)))).getD 0) : Int × Int)) (((g2 (((s, (f2 ((keyO (oK F B tm s r)))).getD 0) : Int × Int))).getD 0) + 1))), (Gr 90 2 av2 A2.length ((obcs ws2 A2))), (Arr 86 b7 [u1, pv, u3]), (Arr 90 b8 [cv, (.int .i64 ((oK F B tm s r).2))])]) k_r (pz [0, 1, 2, 3, 4, 5, 6, 7, 8] rfl k_r) ⟨(), ⟨rfl, rfl, rfl, rfl, rfl, rfl, rfl, rfl, rfl, rfl, rfl, rfl, rfl, rfl, rfl, rfl, rfl, rfl, rfl, rfl, rfl, rfl, rfl, rfl, rfl, rfl, rfl, rfl, rfl, rfl, rfl, trivial⟩, rfl, rfl⟩
       rintro ⟨⟩ e4 Vj2 σj2 hJ2
       obtain ⟨rfl, rfl⟩ : Vf1 = Vj2 ∧ [(Arr 26 b1 [va, ha, ba]), (Arr 29 b2 [pv, (.bool (decide (tm = true)))]), (Arr 41 b3 [(Value.slice none 0 0)]), (Arr 42 b4 [av2]), (Mf b5 Value.string (Value.int .i64) f2), (Mf b6 ekE (Value.int .i64) (setF (setF g2 (((s, (f2 ((keyO (oK F B tm s r)))).getD 0) : Int × Int)) ((g2 (((s, (f2 ((keyO (oK F B tm s r)))).getD 0) : Int × Int))).getD 0)) (((s, (f2 ((keyO (oK F B tm s r)))).getD 0) : Int × Int)) (((g2 (((s, (f2 ((keyO (oK F B tm s r)))).getD 0) : Int × Int))).getD 0) + 1))), (Gr 90 2 av2 A2.length ((obcs ws2 A2))), (Arr 86 b7 [u1, pv, u3]), (Arr 90 b8 [cv, (.int .i64 ((oK F B tm s r).2))])] = σj2 := hJ2
       with_reducible change VC _ _ _ _ _ _ (upds 202 [(0, (.agg #[va, ha, ba])), (1, (.agg #[pv, (.bool (decide (tm = true)))])), (2, (Value.pointer (some ⟨b1, 0, none⟩))), (3, (Value.pointer (some ⟨b2, 0, none⟩))), (4, (Value.pointer (some ⟨b3, 0, none⟩))), (5, (Value.slice none 0 0)), (6, (Value.int .i64 0)), (7, (Value.int .i64 0)), (9, (.int .i64 (rkE (vfl F.vs 2) B))), (10, (.int .i64 (spc F.vs 1))), (12, (.int .i64 (spc F.vs 3))), (14, (Value.pointer (some ⟨b4, 0, none⟩))), (15, (Value.map (some b5))), (16, (Value.map (some b6))), (17, (Value.int .i64 s)), (18, (Value.int .i64 r)), (19, (Value.pointer (some ⟨b7, 0, none⟩))), (21, (Value.pointer (some ⟨b8, 0, none⟩))), (23, (Value.string (keyO (oK F B tm s r)))), (24, (.int .i64 ((f2 ((keyO (oK F B tm s r)))).getD 0))), (25, (.bool (decide ((f2 ((keyO (oK F B tm s r)))).isSome = true)))), (39, (.bool (decide ((0 : Int) ≠ 0)))), (51, (.bool (decide ((rkE (vfl F.vs 2) B) ≠ 0)))), (69, (.bool (decide (256 < (spc F.vs 1))))), (73, (.int .i64 (spc F.vs 1))), (74, (Value.int .i64 s)), (75, (.bool (decide (s < (spc F.vs 1))))), (77, (.int .i64 (spc F.vs 3))), (78, (Value.int .i64 r)), (79, (.bool (decide (r < (spc F.vs 3))))), (116, (.bool (decide (¬ ((f2 ((keyO (oK F B tm s r)))).isSome = true)))))] e4) _ _
       refine v_d 8 ?_
       refine v_d 7 ?_
       refine s_4 ?_
       exact lw6 (r + 1) A2 ws2 f2 (setF (setF g2 (((s, (f2 ((keyO (oK F B tm s r)))).getD 0) : Int × Int)) ((g2 (((s, (f2 ((keyO (oK F B tm s r)))).getD 0) : Int × Int))).getD 0)) (((s, (f2 ((keyO (oK F B tm s r)))).getD 0) : Int × Int)) (((g2 (((s, (f2 ((keyO (oK F B tm s r)))).getD 0) : Int × Int))).getD 0) + 1)) av2 ⟨(c_i o_m), trivial⟩ ⟨by omega, by omega, hF, hP, ht, hw2, hwl2, ChI.old hch2 s1 r1 o_m hyes⟩ (hr := by first | rfl | (rw [obcs_snoc hwl2, List.length_append]; rfl))
     ·
      refine s_6 ?_
      exact lw6 (s + 1) A2 ws2 f2 g2 av2 ⟨(c_i o_m), trivial⟩ ⟨by omega, by omega, hF, hP, ht, hw2, hwl2, ChI.row (by rw [show r = (spc F.vs 3) by omega] at hch2; exact hch2) o_m⟩ (hr := by rfl)
    ·
     refine s_4 ?_
     have hcl := hch.len
     rw [show s = spc F.vs 1 by omega] at hcl
     refine s_2 ?_
     refine oq (qv_lenGr (k := 6) UL.out rfl rfl) ?_
     refine s_2 ?_
     refine iff' ?_ ?_ <;> intro c7
     ·
      omega
     ·
      refine s_4 ?_
      refine oq (qv_lenGr (k := 6) UL.out rfl rfl) ?_
      refine ops_make (n := ((A.length : Nat) : Int)) UL.out TZ.out rfl rfl rfl rfl o_m o_m o_m (fun b11 => ?_)
      refine s_6 ?_
      refine oq (qv_len UL.out rfl rfl) ?_
      refine s_3 ?_
      refine lp2 [0,1,2,3,4,5,6,7,9,10,12,14,15,16,26,39,51,69,73,74,75,138,144] (fun (k : Int) (Z : List Int) => [(145, (Value.int .i64 k))]) (fun k Z => [(Arr 26 b1 [va, ha, ba]), (Arr 29 b2 [pv, (.bool (decide (tm = true)))]), (Arr 41 b3 [(Value.slice none 0 0)]), (Arr 42 b4 [av]), (Mf b5 Value.string (Value.int .i64) f), (Mf b6 ekE (Value.int .i64) g), (Gr 90 2 av A.length ((obcs ws A))), (Arr 3 b11 (Z.map (Value.int .i64)))]) (fun k Z => 0 ≤ k ∧ k ≤ A.length ∧ Z.length = A.length ∧ ∀ x : Int, 0 ≤ x → x < k → gi Z x = x) (fun k Z => (A.length - k).toNat) 0 ((List.replicate A.length (0 : Int))) ?_ ?_ ?_ ?_ 
      · exact ⟨rfl, trivial⟩
      · (rw [List.map_replicate]; rfl)
      · exact ⟨by omega, by omega, by rw [List.length_replicate], fun x a b => by omega⟩
      rintro k Z e5 ⟨k1, k2, hz, hza⟩
      refine s_5 ?_
      refine iff' ?_ ?_ <;> intro c8
      ·
       refine s_8 ?_
       have hzm : (Z.map (Value.int .i64)).length = A.length := by rw [List.length_map]; exact hz
       refine s_4 ?_
       refine oq (qv_ia (v := (.slice (some ⟨b11, 0, none⟩) (((A.length : Nat) : Int)).toNat (((A.length : Nat) : Int)).toNat)) UL.out SZ.out rfl (inO (k := 7) rfl (by rw [List.length_map]; omega) (Nat.le_refl _) o_m) rfl o_m o_m) ?_
       refine ops_ste (k := 7) (b := b11) (n := (((A.length : Nat) : Int)).toNat) (c := (((A.length : Nat) : Int)).toNat) (i := k) (cs := (Z.map (Value.int .i64))) SZ.out rfl (rfl : ev _ _ = (Value.int .i64 k)) rfl rfl o_m o_m ?_
       refine s_5 ?_
       exact le2 (k + 1) ((Z.set k.toNat k)) ⟨(c_i o_m), trivial⟩ ⟨by omega, by omega, by rw [List.length_set]; exact hz, set_upto (W := fun x => x) (n := A.length) o_m k1 o_m hza⟩ (hr := by first | (rw [List.map_set]; done) | (rw [List.map_set]; try rfl))
      ·
       refine s_3 ?_
       have hzi : Z = iota A.length := ext_gi (by rw [iota_len]; exact hz) fun x a b => by rw [hza x a o_m, iota_gi a o_m]
       refine v_f 3 fun Vf2 hVf2 hc2 => ?_
       have hF := hF.mono hVf2
       have hP := hP.mono hVf2
       have ht := ht.mono hVf2
       have hw := hw.mono hVf2
       refine v_fS 5 fun Vf3 hVf3 hc3 => ?_
       have hF := hF.mono hVf3
       have hP := hP.mono hVf3
       have ht := ht.mono hVf3
       have hw := hw.mono hVf3
       have hc2 := hc2.mono hVf3
       refine vc_to_gr (k := 5) (b := b11) (n := (((A.length : Nat) : Int)).toNat) (cap := (((A.length : Nat) : Int)).toNat) (cs := ((Z.map (Value.int .i64))).toArray) 1 ((iota A.length).map (Value.int .i64)) rfl (by rw [List.length_map, iota_len, Nat.mul_one]; rfl) (Nat.le_refl _) m_x (by rw [hzi]; simp [iota_len]) (by rw [hzi, Nat.mul_one]; exact List.take_of_length_le (by simp [iota_len])) ?_
       refine s_2 ?_
       skip
       refine oq (qv_func (cs := [(Value.pointer (some ⟨b4, 0, none⟩))]) rfl) ?_
       have hal := hc3
       have hbx := hc2
       refine c_l [5] (Sort_n (zs := iota A.length) (iota_len A.length) (cf := fun x y => cmO (ob A x) (ob A y)) (cb := #[(Value.pointer (some ⟨b4, 0, none⟩))]) (swo_of fun x : Mem1 (iota A.length) => ob A x.val) (fun x y hx hy => Of1_c hal hw hbx (iota_mem.1 hx).1 (by have := (iota_mem.1 hx).2; omega) (iota_mem.1 hy).1 (by have := (iota_mem.1 hy).2; omega)) ⟨_, Tryz.func36, by rfl, by rfl⟩ o_m) rfl rfl fun r4 V4 sg4 hV4 hp4 => ?_
       obtain ⟨rfl, rfl, d, hd, hsd, rfl⟩ := hp4
       have hdl := hd.length_eq
       rw [iota_len] at hdl
       have hF := hF.mono hV4
       have hP := hP.mono hV4
       have ht := ht.mono hV4
       have hw := hw.mono hV4
       have hc2 := hc2.mono hV4
       have hc3 := hc3.mono hV4
       refine p_m [1,2,3,4,5,0] ?_
       refine s_3 ?_
       refine a_lo fun b12 => ?_
       refine s_2 ?_
       refine vc_nil 90 2 ?_
       refine s_7 ?_
       refine oq (qv_lenGi UL.out rfl (inGi (k := 5) rfl)) ?_
       refine s_3 ?_
       refine lp3 [0,1,2,3,4,5,6,7,9,10,12,14,15,16,26,28,39,51,69,73,74,75,138,144,145,146,156,157] (fun (y : Int) (sv : Value) (xs : List Value) => [(29, sv), (158, (Value.int .i64 y))]) (fun y sv xs => [(Arr 26 b1 [va, ha, ba]), (Arr 29 b2 [pv, (.bool (decide (tm = true)))]), (Arr 41 b3 [(Value.slice none 0 0)]), (Mf b5 Value.string (Value.int .i64) f), (Mf b6 ekE (Value.int .i64) g), (Gr 3 1 ((.slice (some ⟨b11, 0, none⟩) (((A.length : Nat) : Int)).toNat (((A.length : Nat) : Int)).toNat)) ((((A.length : Nat) : Int)).toNat) ((d.map (Value.int .i64)))), (Arr 41 b12 [(Value.slice none 0 0)]), (Gr 90 2 sv y.toNat xs)]) (fun y sv xs => 0 ≤ y ∧ y ≤ d.length) (fun y sv xs => (d.length - y).toNat) 0 ((Value.slice none 0 0)) ([]) ?_ ?_ ?_ ?_ 
       · exact ⟨(by first | rfl | (first | omega | simp)), rfl, trivial⟩
       · (rfl)
       · exact ⟨by omega, by omega⟩
       rintro y sv xs e6 ⟨y1, y2⟩
       refine s_5 ?_
       refine iff' ?_ ?_ <;> intro c9
       ·
        refine s_4 ?_
        have hpi := perm_in hd (y := y) y1 o_m
        refine s_1 ?_
        refine oq (qv_iai UL.out SZ.out e_vm (inGi (k := 5) rfl) rfl o_m o_m) ?_
        refine oq (qv_ldi PL.out rfl (inGi (k := 5) rfl) o_m o_m) ?_
        refine s_6 ?_
        refine oq (qv_ias UL.out SZ.out e_vm hal rfl o_m o_m) ?_
        refine oq (qv_lds AG.out rfl hal o_m o_m (obcs_at o_m o_m)) ?_
        refine ops_lit (n := 1) (s := 2) (cs := [(gv ws (gi d (y))), (.int .i64 ((ob A (gi d (y))).2))]) UL.out TZ.out (l_b rfl) rfl rfl rfl (l_b rfl) rfl (fun b13 => ?_)
        refine a_po rfl rfl rfl (by intro u hu; simp at hu; rcases hu with rfl | rfl <;> first | exact Sl.one (hw (gi d y) hpi.1 hpi.2) | rfl) o_m m_x fun v3 hn2 => ?_
        refine s_2 ?_
        refine v_d 8 ?_
        refine s_4 ?_
        exact le3 (y + 1) v3 ((xs ++ [(gv ws (gi d (y))), (.int .i64 ((ob A (gi d (y))).2))])) ⟨rfl, (c_i o_m), trivial⟩ ⟨by omega, by omega⟩ (hr := by rw [show (y + 1).toNat = y.toNat + 1 by omega])
       ·
        refine s_4 ?_
        refine vc_nil 27 1 ?_
        refine s_5 ?_
        refine lv3 [0,1,2,3,4,5,6,7,9,10,12,14,15,16,26,28,29,39,51,69,73,74,75,138,144,145,146,156,157,158,159,170] (fun (z : Int) (cw : Value) (rv : List Value) => [(171, (Value.int .i64 z))]) (fun z cw rv => [(Arr 26 b1 [va, ha, ba]), (Arr 29 b2 [pv, (.bool (decide (tm = true)))]), (Arr 41 b3 [(Value.slice none 0 0)]), (Mf b5 Value.string (Value.int .i64) f), (Mf b6 ekE (Value.int .i64) g), (Gr 3 1 ((.slice (some ⟨b11, 0, none⟩) (((A.length : Nat) : Int)).toNat (((A.length : Nat) : Int)).toNat)) ((((A.length : Nat) : Int)).toNat) ((d.map (Value.int .i64)))), (Arr 41 b12 [cw]), (Gr 90 2 sv y.toNat xs), (Gr 27 1 cw z.toNat rv)]) (fun z cw rv V' => 0 ≤ z ∧ z ≤ (spc F.vs 1) ∧ (rv.length : Int) = z ∧ HrO V' rv (rowM (oK F B tm) (spc F.vs 3) A d) z) (fun z cw rv => ((spc F.vs 1) - z).toNat) 0 ((Value.slice none 0 0)) ([]) ?_ ?_ ?_ ?_ 
        · exact ⟨rfl, trivial⟩
        · (rfl)
        · exact ⟨by omega, by omega, rfl, fun x a b => by omega⟩
        rintro z cw rv e7 V4l ⟨z1, z2, hrl, hrow⟩
        refine s_5 ?_
        refine iff' ?_ ?_ <;> intro c10
        ·
         refine s_11 ?_
         refine oq (qv_lenGi UL.out rfl (inGi (k := 5) rfl)) ?_
         refine ops_make (n := (d.length : Int)) UL.out TZ.out rfl rfl rfl rfl o_m o_m o_m (fun b14 => ?_)
         refine s_6 ?_
         refine oq (qv_lenGi UL.out rfl (inGi (k := 5) rfl)) ?_
         refine s_3 ?_
         refine lp2 [0,1,2,3,4,5,6,7,9,10,12,14,15,16,26,28,29,32,33,39,51,69,73,74,75,138,144,145,146,156,157,158,159,170,171,172,177,178] (fun (x2 : Int) (Z2 : List Int) => [(179, (Value.int .i64 x2))]) (fun x2 Z2 => [(Arr 26 b1 [va, ha, ba]), (Arr 29 b2 [pv, (.bool (decide (tm = true)))]), (Arr 41 b3 [(Value.slice none 0 0)]), (Mf b5 Value.string (Value.int .i64) f), (Mf b6 ekE (Value.int .i64) g), (Gr 3 1 ((.slice (some ⟨b11, 0, none⟩) (((A.length : Nat) : Int)).toNat (((A.length : Nat) : Int)).toNat)) ((((A.length : Nat) : Int)).toNat) ((d.map (Value.int .i64)))), (Arr 41 b12 [cw]), (Gr 90 2 sv y.toNat xs), (Gr 27 1 cw z.toNat rv), (Arr 3 b14 (Z2.map (Value.int .i64)))]) (fun x2 Z2 => 0 ≤ x2 ∧ x2 ≤ d.length ∧ Z2.length = d.length ∧ ∀ x : Int, 0 ≤ x → x < x2 → gi Z2 x = gi (rowM (oK F B tm) (spc F.vs 3) A d z) x) (fun x2 Z2 => (d.length - x2).toNat) 0 ((List.replicate d.length (0 : Int))) ?_ ?_ ?_ ?_ 
         · exact ⟨rfl, trivial⟩
         · (rw [List.map_replicate]; rfl)
         · exact ⟨by omega, by omega, by rw [List.length_replicate], fun x a b => by omega⟩
         rintro x2 Z2 e8 ⟨x21, x22, hz2, ha2⟩
         refine s_5 ?_
         refine iff' ?_ ?_ <;> intro c11
         ·
          refine s_6 ?_
          refine oq (qv_iai UL.out SZ.out e_vm (inGi (k := 5) rfl) rfl o_m o_m) ?_
          refine oq (qv_ldi PL.out rfl (inGi (k := 5) rfl) o_m o_m) ?_
          refine s_3 ?_
          have hz2m : (Z2.map (Value.int .i64)).length = d.length := by rw [List.length_map]; exact hz2
          have hpi := perm_in hd (y := x2) x21 o_m
          have hgx : (g ((z, gi d x2) : Int × Int)).getD 0 = gi (rowM (oK F B tm) (spc F.vs 3) A d z) x2 := by rw [rowM_gi x21 o_m]; exact ChI.full (by rw [show s = spc F.vs 1 by omega] at hch; exact hch) z1 o_m hpi.1 hpi.2
          refine s_6 ?_
          refine oq (qv_build (out := [(Value.int .i64 z), (.int .i64 (gi d (x2)))]) BI.out [(0, [(Value.int .i64 z)]), (1, [(.int .i64 (gi d (x2)))])] rfl rfl) ?_
          refine oq (qv_look1 (a0 := 0) (key := ((z, gi d (x2)) : Int × Int)) (k := 4) UL.out ekE_key TZ.out rfl rfl rfl) ?_
          refine oq (qv_ia (v := (.slice (some ⟨b14, 0, none⟩) ((d.length : Int)).toNat ((d.length : Int)).toNat)) UL.out SZ.out rfl (inO (k := 9) rfl (by rw [List.length_map]; omega) (Nat.le_refl _) o_m) rfl o_m o_m) ?_
          refine ops_ste (k := 9) (b := b14) (n := ((d.length : Int)).toNat) (c := ((d.length : Int)).toNat) (i := x2) (cs := (Z2.map (Value.int .i64))) SZ.out rfl (rfl : ev _ _ = (.int .i64 ((g (((z, gi d (x2)) : Int × Int))).getD 0))) rfl rfl o_m o_m ?_
          refine s_5 ?_
          exact le2 (x2 + 1) ((Z2.set x2.toNat ((g ((z, gi d x2) : Int × Int)).getD 0))) ⟨(c_i o_m), trivial⟩ ⟨by omega, by omega, by rw [List.length_set]; exact hz2, by rw [hgx]; exact set_upto (W := fun x => gi (rowM (oK F B tm) (spc F.vs 3) A d z) x) (n := d.length) o_m x21 o_m ha2⟩ (hr := by first | (rw [List.map_set]; done) | (rw [List.map_set]; try rfl))
         ·
          refine s_2 ?_
          refine v_f 9 fun Vf4 hVf4 hc4 => ?_
          have hrow := hrow.mono hVf4
          refine s_4 ?_
          have hrw : Ints .i64 Vf4 (.slice (some ⟨b14, 0, none⟩) ((d.length : Int)).toNat ((d.length : Int)).toNat) (rowM (oK F B tm) (spc F.vs 3) A d z) := by
            have e : Z2 = rowM (oK F B tm) (spc F.vs 3) A d z := ext_gi (by rw [rowM_len]; exact hz2) fun x a b => ha2 x a o_m
            rw [← e]; exact ints_cells hc4 o_m (Nat.le_refl _) o_m
          refine ops_lit (n := 1) (s := 1) (cs := [(.slice (some ⟨b14, 0, none⟩) ((d.length : Int)).toNat ((d.length : Int)).toNat)]) UL.out TZ.out (l_b rfl) rfl rfl rfl (l_b rfl) rfl (fun b15 => ?_)
          refine a_po rfl rfl rfl o_c o_m m_x fun v4 hn3 => ?_
          refine s_1 ?_
          refine ops_gr1 (k := 8) rfl (fun ho2 => ?_)
          refine s_tp rfl e_vm ho2 ?_
          refine s_1 ?_
          refine v_d 9 ?_
          refine s_4 ?_
          exact lw3 (z + 1) v4 ((rv ++ [(.slice (some ⟨b14, 0, none⟩) ((d.length : Int)).toNat ((d.length : Int)).toNat)])) ⟨(c_i o_m), trivial⟩ ⟨by omega, by omega, by rw [List.length_append]; simp only [List.length_singleton]; omega, hrow_snoc o_m hrow hrw⟩ (hr := by rw [show (z + 1).toNat = z.toNat + 1 by omega])
        ·
         refine s_6 ?_
         refine ops_gr1 (k := 8) rfl (fun ho3 => ?_)
         refine s_tw rfl rfl (allc ho3 rfl) ?_
         refine s_3 ?_
         refine v_fG 8 fun Vf5 hVf5 hc5 => ?_
         have hrow := hrow.mono hVf5
         refine v_fS 7 fun Vf6 hVf6 hc6 => ?_
         have hrow := hrow.mono hVf6
         have hc5 := hc5.mono hVf6
         refine s_1 ?_
         refine rs3 _ sv (Value.int .i64 0) (r_va rfl) (rv_t rfl) (rv_t rfl) ?_
         exact ⟨[], _, .refl _, rfl, cw, sv, rv, A, d, rfl, ⟨f, g, by rw [show s = spc F.vs 1 by omega] at hch; exact hch⟩, ⟨hd, hsd⟩, ⟨hc5, by rw [chM_len]; omega, fun x a b => by rw [chM_len] at b; rw [chM_gr a o_m]; exact hrow x a o_m⟩, xs, by have q := hc6; rw [show d.length = y.toNat by omega]; exact q⟩

end Go.Proofs.YtbchkopkgpfkgaaGreatDoor
