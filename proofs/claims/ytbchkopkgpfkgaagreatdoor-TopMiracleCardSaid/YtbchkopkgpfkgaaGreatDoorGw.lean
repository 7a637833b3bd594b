import Derived.Test.YtbchkopkgpfkgaaGreatDoorTi
import Derived.Test.YtbchkopkgpfkgaaGreatDoorGv
/- Walks of the top laws: what each function returns. Printed by a program out of notes. -/
namespace Go.Proofs.YtbchkopkgpfkgaaGreatDoor
open Go.Vc
open Classical

set_option maxRecDepth 100000 in
set_option maxHeartbeats 4000000 in
theorem pval_c {V : HV} {α : Type} {ky : Nat → α} {x : Value} {r : List Int} (hr : Ints .i64 V x r) (hL : Lab ky r.length r) (hn : r.length ≤ 4096) :
    FnC Tryz.prog 114 [x] V [] (fun v _ _ => v = (Value.bool true)) := by
 refine f_i Tryz.func114 ?_
 intro w0 D
 have hb := hr.bound
 refine s_12 ?_
 refine oq (qv_lenI UL.out rfl hr) ?_
 refine s_3 ?_
 refine lc1 [0,6,7] (fun (j : Int) => [(3, (.int .i64 (((clsK ky j.toNat).length : Int)))), (8, (Value.int .i64 j))]) (fun j => 0 ≤ j ∧ j ≤ r.length) (fun j => (r.length - j).toNat) 0 ?_ ?_ ?_ 
 · exact ⟨(c_i (by rfl)), rfl, trivial⟩
 · exact ⟨by omega, by omega⟩
 rintro j e1 ⟨i1, i2⟩
 refine s_5 ?_
 refine iff' ?_ ?_ <;> intro c1
 ·
  refine s_4 ?_
  have hlj := hL.at_ (j := j) o_m o_m
  have hlk := clsK_le (ky := ky) j.toNat
  have hj1 : (j + 1).toNat = j.toNat + 1 := by omega
  refine s_1 ?_
  refine oq (qv_iai UL.out SZ.out e_vm (inVi hr) rfl o_m o_m) ?_
  refine oq (qv_ldi PL.out rfl (inVi hr) o_m o_m) ?_
  refine s_4 ?_
  refine j_n [0,3,5,6,7,8,9] [(18, (.bool (decide (((gi r (j)) < 0) ∨ ((((clsK ky j.toNat).length : Int)) < (gi r (j)))))))] ?_ (fun e2 => ?_)
  ·
   refine s_4 ?_
   by_cases g1 : (gi r (j)) < 0
   ·
    refine s_5 ?_
    exact j_e ⟨(jt (.inl g1)), trivial⟩
   ·
    refine s_5 ?_
    exact j_e ⟨(jb (jo g1 Iff.rfl)), trivial⟩
  refine iff' ?_ ?_ <;> intro c2
  ·
   omega
  ·
   refine s_12 ?_
   exact le1 (j + 1) ⟨(c_i (by rw [hj1]; by_cases q : gi r j = ((clsK ky j.toNat).length : Nat); rw [if_pos o_m]; have := hlj.2.2.1 q; omega; rw [if_neg o_m]; have := hlj.2.2.2 q; omega)), (c_i (by rfl)), trivial⟩ ⟨by omega, by omega⟩
 ·
  refine s_7 ?_
  exact rt1 rfl

set_option maxRecDepth 100000 in
set_option maxHeartbeats 4000000 in
theorem psz_c {V : HV} {α : Type} {ky : Nat → α} {x : Value} {r : List Int} (hr : Ints .i64 V x r) (hL : Lab ky r.length r) (hn : r.length ≤ 4096) :
    FnC Tryz.prog 47 [x] V [] (fun v V' σ' => σ' = [] ∧ ∃ Z : List Int, Ints .i64 V' v Z ∧ (Z.length : Int) = ((clsK ky r.length).length : Int)) := by
 refine f_i Tryz.func47 ?_
 intro w0 D
 have hb := hr.bound
 refine s_8 ?_
 refine oq (f_c (pval_c hr hL hn) rfl rfl) ?_
 refine s_5 ?_
 refine vc_nil 3 1 ?_
 refine s_7 ?_
 refine oq (qv_lenI UL.out rfl hr) ?_
 refine s_3 ?_
 refine lp3 [0,2,8,9,10] (fun (j : Int) (ov : Value) (Z : List Int) => [(3, ov), (11, (Value.int .i64 j))]) (fun j ov Z => [(Gr 3 1 ov Z.length ((Z.map (Value.int .i64))))]) (fun j ov Z => 0 ≤ j ∧ j ≤ r.length ∧ (Z.length : Int) = ((clsK ky j.toNat).length : Int) ∧ szB Z j) (fun j ov Z => (r.length - j).toNat) 0 ((Value.slice none 0 0)) (([] : List Int)) ?_ ?_ ?_ ?_ 
 · exact ⟨(by first | rfl | (first | omega | simp)), rfl, trivial⟩
 · (rfl)
 · exact ⟨by omega, by omega, rfl, fun i a b => by simp at b; omega⟩
 rintro j ov Z e1 ⟨j0, j1, hzl, hzb⟩
 refine s_5 ?_
 refine iff' ?_ ?_ <;> intro c1
 ·
  refine s_4 ?_
  have hlj := hL.at_ (j := j) o_m o_m
  have hlk := clsK_le (ky := ky) j.toNat
  have hj1 : (j + 1).toNat = j.toNat + 1 := by omega
  have hzc := hzb (gi r j)
  refine s_1 ?_
  refine oq (qv_iai UL.out SZ.out e_vm (inVi hr) rfl o_m o_m) ?_
  refine oq (qv_ldi PL.out rfl (inVi hr) o_m o_m) ?_
  refine s_7 ?_
  refine oq (qv_lenGi UL.out rfl (inGi (k := 0) rfl)) ?_
  refine s_2 ?_
  refine iff' ?_ ?_ <;> intro c2
  ·
   refine s_2 ?_
   refine ops_lit (n := 1) (s := 1) (cs := [(Value.int .i64 0)]) UL.out TZ.out (l_b rfl) rfl rfl rfl (l_b rfl) rfl (fun b1 => ?_)
   refine a_po rfl rfl rfl o_c o_m m_x fun v1 hn1 => ?_
   refine s_2 ?_
   refine vc_res (σ' := [(Gr 3 1 v1 ((Z.length + 1)) (((Z ++ [(0 : Int)]).map (Value.int .i64)))), (Arr 3 b1 [(Value.int .i64 0)])]) (by rw [List.map_append]; rfl) ?_
   have hla : (Z ++ [(0 : Int)]).length = Z.length + 1 := by rw [List.length_append]; rfl
   have hzc2 := sz_app hzb j0 (gi r j) hlj.1 o_m
   refine s_3 ?_
   refine oq (qv_iai UL.out SZ.out e_vm (inGi (k := 0) rfl) rfl o_m o_m) ?_
   refine oq (qv_ldi PL.out rfl (inGi (k := 0) rfl) o_m o_m) ?_
   refine s_1 ?_
   refine oq (qv_iai UL.out SZ.out e_vm (inGi (k := 0) rfl) rfl o_m o_m) ?_
   refine ops_stg (k := 0) (v := v1) (i := gi r (j)) (u := (.int .i64 ((gi ((Z ++ [(0 : Int)])) (gi r (j))) + 1))) SZ.out rfl rfl rfl rfl o_m (by simp only [List.length_map, List.length_set]; omega) ?_
   refine s_1 ?_
   refine v_d 1 ?_
   refine s_4 ?_
   exact le3 (j + 1) v1 (((Z ++ [(0 : Int)]).set (gi r j).toNat (gi (Z ++ [(0 : Int)]) (gi r j) + 1))) ⟨rfl, (c_i o_m), trivial⟩ ⟨by omega, by omega, by rw [List.length_set, List.length_append, hj1]; simp only [List.length_singleton]; omega, sz_old (sz_app hzb j0) hlj.1 (by rw [List.length_append]; simp only [List.length_singleton]; omega)⟩ (hr := by first | (rw [List.map_set, List.length_set]; done) | (rw [List.map_set, List.length_set, List.length_append]; rfl))
  ·
   refine s_1 ?_
   have hzn := hlj.2.2.2
   have hzd := hzb (gi r j) hlj.1 o_m
   refine s_3 ?_
   refine oq (qv_iai UL.out SZ.out e_vm (inGi (k := 0) rfl) rfl o_m o_m) ?_
   refine oq (qv_ldi PL.out rfl (inGi (k := 0) rfl) o_m o_m) ?_
   refine s_1 ?_
   refine oq (qv_iai UL.out SZ.out e_vm (inGi (k := 0) rfl) rfl o_m o_m) ?_
   refine ops_stg (k := 0) (v := ov) (i := gi r (j)) (u := (.int .i64 ((gi Z (gi r (j))) + 1))) SZ.out rfl rfl rfl rfl o_m (by simp only [List.length_map, List.length_set]; omega) ?_
   refine s_5 ?_
   exact le3 (j + 1) ov ((Z.set (gi r j).toNat (gi Z (gi r j) + 1))) ⟨rfl, (c_i o_m), trivial⟩ ⟨by omega, by omega, by rw [List.length_set, hj1]; omega, sz_old hzb hlj.1 o_m⟩ (hr := by first | (rw [List.map_set, List.length_set]; done) | (rw [List.map_set, List.length_set, List.length_append]; rfl))
 ·
  refine s_7 ?_
  refine v_fG 0 fun Vf1 hVf1 hc1 => ?_
  refine s_1 ?_
  refine ra1 ?_
  exact ⟨rfl, Z, hc1, by rw [show r.length = j.toNat by omega]; exact hzl⟩

set_option maxRecDepth 100000 in
set_option maxHeartbeats 4000000 in
theorem pcnt_c {V : HV} {α : Type} {ky : Nat → α} {x : Value} {r : List Int} (hr : Ints .i64 V x r) (hL : Lab ky r.length r) (hn : r.length ≤ 4096) :
    FnC Tryz.prog 14 [x] V [] (fun v _ _ => v = (.int .i64 (((clsK ky r.length).length : Int)))) := by
 refine f_i Tryz.func14 ?_
 intro w0 D
 refine s_7 ?_
 refine c_l [] (psz_c hr hL hn) rfl rfl fun r1 V1 sg1 hV1 hp1 => ?_
 obtain ⟨rfl, Z, hzv, hzl⟩ := hp1
 refine oq (qv_lenI UL.out rfl hzv) ?_
 refine s_3 ?_
 exact rt1 (c_i (by rw [hzl]))

set_option maxRecDepth 100000 in
set_option maxHeartbeats 4000000 in
theorem pof_c {V : HV} {x : Value} {r : List Int} (hr : Ints .i64 V x r) (hn : r.length ≤ 4096) :
    FnC Tryz.prog 168 [x] V [] (fun v V' σ' => σ' = [] ∧ ∃ Z : List Int, Ints .i64 V' v Z ∧ Lab (fun x : Nat => r.getD x 0) r.length Z) := by
 refine f_i Tryz.func168 ?_
 intro w0 D
 have hb := hr.bound
 refine s_6 ?_
 refine ops_mkmap0 (Value.int .i64) (Value.int .i64) (fun b1 => ?_)
 refine s_5 ?_
 refine oq (qv_lenI UL.out rfl hr) ?_
 refine ops_make_gr (n := (r.length : Int)) UL.out TZ.out rfl rfl o_m o_m o_m (fun b2 => ?_)
 refine s_6 ?_
 refine oq (qv_lenI UL.out rfl hr) ?_
 refine s_3 ?_
 refine lp4 [0,2,3,13,14] (fun (j : Int) (f : FI) (ov : Value) (Z : List Int) => [(4, ov), (15, (Value.int .i64 j))]) (fun j f ov Z => [(Mf b1 (Value.int .i64) (Value.int .i64) f), (Gr 3 1 ov Z.length ((Z.map (Value.int .i64))))]) (fun j f ov Z => 0 ≤ j ∧ j ≤ r.length ∧ (Z.length : Int) = j ∧ ClI (fun x : Nat => r.getD x 0) j.toNat f Z) (fun j f ov Z => (r.length - j).toNat) 0 (fun _ => none) ((.slice (some ⟨b2, 0, none⟩) 0 ((r.length : Int) : Int).toNat)) (([] : List Int)) ?_ ?_ ?_ ?_ 
 · exact ⟨(by first | rfl | (first | omega | simp)), rfl, trivial⟩
 · (rfl)
 · exact ⟨by omega, by omega, rfl, ClI.init⟩
 rintro j f ov Z e1 ⟨j0, j1, hzl, hci⟩
 refine s_5 ?_
 refine iff' ?_ ?_ <;> intro c1
 ·
  refine s_4 ?_
  have hj1 : (j + 1).toNat = j.toNat + 1 := by omega
  have hjt : j = (j.toNat : Nat) := by omega
  have hlk := clsK_le (ky := (fun x : Nat => r.getD x 0)) j.toNat
  refine s_1 ?_
  refine oq (qv_iai UL.out SZ.out e_vm (inVi hr) rfl o_m o_m) ?_
  refine oq (qv_ldi PL.out rfl (inVi hr) o_m o_m) ?_
  refine s_6 ?_
  refine oq (qv_look (a0 := 0) (key := gi r (j)) (k := 0) UL.out (KeyT.int Tryz.underlying3) TZ.out rfl rfl rfl) ?_
  refine s_12 ?_
  refine iff' ?_ ?_ <;> intro c2
  ·
   refine s_3 ?_
   refine oq (qv_lenM (k := 0) UL.out rfl rfl hci.keys rfl) ?_
   refine s_6 ?_
   refine ops_mapset (k := 0) (key := gi r (j)) (v := ((clsK (fun x : Nat => r.getD x 0) j.toNat).length : Int)) UL.out (KeyT.int Tryz.underlying3) rfl rfl rfl rfl ?_
   refine s_4 ?_
   refine ops_lit (n := 1) (s := 1) (cs := [(.int .i64 (((clsK (fun x : Nat => r.getD x 0) j.toNat).length : Int)))]) UL.out TZ.out (l_b rfl) rfl rfl rfl (l_b rfl) rfl (fun b3 => ?_)
   refine a_po rfl rfl rfl o_c o_m m_x fun v1 hn1 => ?_
   refine s_2 ?_
   refine v_d 2 ?_
   refine s_4 ?_
   exact le4 (j + 1) (setF f (gi r (j)) (((clsK (fun x : Nat => r.getD x 0) j.toNat).length : Int))) v1 ((Z ++ [((clsK (fun x : Nat => r.getD x 0) j.toNat).length : Int)])) ⟨rfl, (c_i o_m), trivial⟩ ⟨by omega, by omega, by rw [List.length_append]; simp only [List.length_singleton]; omega, by rw [hj1]; exact ClI.new hci (by show f (gi r j) = none; exact some_no c2) (fun x a b => gi_app a o_m) (by rw [gi_app2 o_m])⟩ (hr := by rw [List.map_append, List.length_append]; rfl)
  ·
   refine s_4 ?_
   refine ops_lit (n := 1) (s := 1) (cs := [(.int .i64 ((f (gi r (j))).getD 0))]) UL.out TZ.out (l_b rfl) rfl rfl rfl (l_b rfl) rfl (fun b4 => ?_)
   refine a_po rfl rfl rfl o_c o_m m_x fun v2 hn2 => ?_
   refine s_2 ?_
   refine v_d 2 ?_
   refine s_4 ?_
   exact le4 (j + 1) f v2 ((Z ++ [((f (gi r j)).getD 0)])) ⟨rfl, (c_i o_m), trivial⟩ ⟨by omega, by omega, by rw [List.length_append]; simp only [List.length_singleton]; omega, by rw [hj1]; exact ClI.old hci (j := (f (gi r j)).getD 0) (some_yes (Decidable.not_not.1 c2)) (fun x a b => gi_app a o_m) (by rw [gi_app2 o_m])⟩ (hr := by rw [List.map_append, List.length_append]; rfl)
 ·
  refine s_3 ?_
  refine v_d 0 ?_
  refine s_4 ?_
  refine v_fG 0 fun Vf1 hVf1 hc1 => ?_
  refine s_1 ?_
  refine ra1 ?_
  exact ⟨rfl, Z, hc1, by have := hci.lab o_m; rw [show r.length = j.toNat by omega]; exact this⟩

end Go.Proofs.YtbchkopkgpfkgaaGreatDoor
