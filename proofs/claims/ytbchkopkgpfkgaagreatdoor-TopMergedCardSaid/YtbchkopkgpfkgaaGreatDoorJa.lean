/- Ja. -/
import Derived.Test.YtbchkopkgpfkgaaGreatDoorTi
import Derived.Test.YtbchkopkgpfkgaaGreatDoorWs
import Derived.Test.YtbchkopkgpfkgaaGreatDoorWp
import Derived.Test.YtbchkopkgpfkgaaGreatDoorVa
import Derived.Test.YtbchkopkgpfkgaaGreatDoorMa
namespace Go.Proofs.YtbchkopkgpfkgaaGreatDoor
open Go.Vc
open Classical

set_option maxRecDepth 100000 in
set_option maxHeartbeats 4000000 in
theorem ccols_c {V : HV} {l : Value} {rv : List Value} {L : List (List Int)} (hl : Mat .i64 V l rv L) (hp : 1 ≤ L.length) :
    FnC Tryz.prog 64 [(.agg #[l])] V [] (fun v _ _ => v = (.int .i64 (((gr L 0).length : Int)))) := by
 refine f_i Tryz.func64 ?_
 intro w0 D
 have hlen := hl.len
 have hbd := hl.sl.bound
 have hb := (hl.row 0 o_m o_m).bound
 refine s_2 ?_
 refine b_ox fun b1 => ?_
 refine s_6 ?_
 refine oq (qv_ia UL.out SZ.out e_vm (inV hl.sl) rfl o_m o_m) ?_
 refine oq (qv_ld PL.out rfl (inV hl.sl) o_m o_m) ?_
 refine oq (qv_lenI UL.out rfl (hl.row (0) o_m o_m)) ?_
 refine s_3 ?_
 exact rt1 (c_i o_m)

set_option maxRecDepth 100000 in
set_option maxHeartbeats 4000000 in
theorem clim_c {V : HV} {a t : Int} :
    FnC Tryz.prog 117 [(Value.int .i64 a), (Value.int .i64 t)] V [] (fun v _ _ => v = (.int .i64 ((if 256 < a ∨ 1048576 < t then 4 else 0)))) := by
 refine f_i Tryz.func117 ?_
 intro w0 D
 refine s_6 ?_
 refine j_n [4] [(10, (.bool (decide ((256 < a) ∨ (1048576 < t)))))] ?_ (fun e1 => ?_)
 ·
  refine s_4 ?_
  by_cases g1 : 256 < a
  ·
   refine s_4 ?_
   exact j_e ⟨(jt (.inl g1)), trivial⟩
  ·
   refine s_4 ?_
   exact j_e ⟨(jb (jo g1 Iff.rfl)), trivial⟩
 refine iff' ?_ ?_ <;> intro c1
 ·
  refine s_5 ?_
  exact rt1 (c_i (by rw [if_pos o_m]))
 ·
  refine s_6 ?_
  exact rt1 (c_i (by rw [if_neg o_m]))

set_option maxRecDepth 100000 in
set_option maxHeartbeats 4000000 in
theorem mg2_c {V : HV} {x y : Int} :
    FnC Tryz.prog 68 [(Value.int .i64 x), (Value.int .i64 y)] V [] (fun v _ _ => v = (.int .i64 ((0 : Int)))) := by
 refine f_i Tryz.func68 ?_
 intro w0 D
 refine s_9 ?_
 exact rt1 (c_i o_m)

set_option maxRecDepth 100000 in
set_option maxHeartbeats 4000000 in
theorem filled_c {V : HV} {rows cols : Int} {fid : Nat} {caps : List Value} {p : Int → Int → Int} (h0 : 0 ≤ rows) (h1 : rows ≤ 1000000) (h2 : 0 ≤ cols) (h3 : cols ≤ 1000000) (hf : ∀ x y : Int, 0 ≤ x → x < rows → 0 ≤ y → y < cols → FnC Tryz.prog fid (.int .i64 x :: .int .i64 y :: caps) V [] (fun v _ _ => v = .int .i64 (p x y))) :
    FnC Tryz.prog 67 [(Value.int .i64 rows), (Value.int .i64 cols), (Value.func (.func fid) #[] caps.toArray)] V [] (fun v V' σ' => V' = V ∧ ∃ ov rv, v = .agg #[ov] ∧ rv.length = rows.toNat ∧ σ' = [Gr 27 1 ov rows.toNat rv, Rws 3 rv (tabP rows.toNat cols.toNat p)]) := by
 refine FnC.drop ?_
 refine f_i Tryz.func67 ?_
 intro w0 D
 refine s_2 ?_
 refine a_lo fun b1 => ?_
 refine s_3 ?_
 refine a_lo fun b2 => ?_
 refine s_3 ?_
 refine vc_nil 27 1 ?_
 refine v_rw0 3 ?_
 refine v_pm [2,3,0,1] ?_
 refine s_5 ?_
 refine lp3 [0,1,2,6,7,11] (fun (x : Int) (ov : Value) (rvs : List Value) => [(12, (Value.int .i64 x))]) (fun x ov rvs => [(Gr 27 1 ov x.toNat rvs), (Rws 3 rvs (tabP x.toNat cols.toNat p)), (Arr 41 b1 [(Value.slice none 0 0)]), (Arr 41 b2 [ov])]) (fun x ov rvs => 0 ≤ x ∧ x ≤ rows ∧ rvs.length = x.toNat) (fun x ov rvs => (rows - x).toNat) 0 ((Value.slice none 0 0)) ([]) ?_ ?_ ?_ ?_ 
 · exact ⟨rfl, trivial⟩
 · (rfl)
 · exact ⟨by omega, by omega, rfl⟩
 rintro x ov rvs e1 ⟨x0, x1, x2⟩
 refine s_5 ?_
 refine iff' ?_ ?_ <;> intro c1
 ·
  refine s_11 ?_
  refine ops_make (n := cols) UL.out TZ.out rfl rfl rfl rfl o_m o_m o_m (fun b3 => ?_)
  refine s_6 ?_
  refine oq (qv_len UL.out rfl rfl) ?_
  refine s_3 ?_
  refine lp1 [0,1,2,6,7,8,9,11,12,13,18] (fun (y : Int) => [(19, (Value.int .i64 y))]) (fun y => [(Gr 27 1 ov x.toNat rvs), (Rws 3 rvs (tabP x.toNat cols.toNat p)), (Arr 41 b1 [(Value.slice none 0 0)]), (Arr 41 b2 [ov]), (Arr 3 b3 ((rwP (p x) cols.toNat y.toNat).map (Value.int .i64)))]) (fun y => 0 ≤ y ∧ y ≤ cols) (fun y => (cols - y).toNat) 0 ?_ ?_ ?_ ?_ 
  · exact ⟨rfl, trivial⟩
  · (rw [rwP_0 (p x)]; rfl)
  · exact ⟨by omega, by omega⟩
  rintro y e2 ⟨y0, y1⟩
  refine s_5 ?_
  refine iff' ?_ ?_ <;> intro c2
  ·
   refine s_14 ?_
   refine oq (f_c (hf x y o_m o_m o_m o_m) rfl rfl) ?_
   refine oq (qv_ia (v := (.slice (some ⟨b3, 0, none⟩) (cols).toNat (cols).toNat)) UL.out SZ.out rfl (inO (k := 4) rfl (by rw [List.length_map, rwP_len]) (Nat.le_refl _) o_m) rfl o_m (by rw [List.length_map, rwP_len]; omega)) ?_
   refine ops_ste (k := 4) (b := b3) (n := (cols).toNat) (c := (cols).toNat) (i := y) (cs := ((rwP (p x) cols.toNat y.toNat).map (Value.int .i64))) SZ.out rfl (rfl : ev _ _ = (.int .i64 (p x y))) rfl rfl o_m (by rw [List.length_map, rwP_len]; omega) ?_
   refine s_5 ?_
   exact le1 (y + 1) ⟨(c_i o_m), trivial⟩ ⟨by omega, by omega⟩ (hr := by rw [← List.map_set, rwP_step _ _ y0])
  ·
   refine s_6 ?_
   refine ops_lit (n := 1) (s := 1) (cs := [(.slice (some ⟨b3, 0, none⟩) (cols).toNat (cols).toNat)]) UL.out TZ.out (l_b rfl) rfl rfl rfl (l_b rfl) rfl (fun b4 => ?_)
   refine a_po rfl rfl rfl o_c o_m m_x fun v1 hn1 => ?_
   refine s_1 ?_
   refine ops_gr1 (k := 0) rfl (fun ho1 => ?_)
   refine s_tp rfl e_vm ho1 ?_
   refine s_1 ?_
   refine v_sno 4 1 ((List.range cols.toNat).map fun j : Nat => p x j) (n := cols.toNat) (by rw [rwP_end _ _ o_m]) (by simp) ?_
   refine v_d 4 ?_
   refine v_pm [1,0,2,3] ?_
   refine s_4 ?_
   exact le3 (x + 1) v1 (rvs ++ [(.slice (some ⟨b3, 0, none⟩) cols.toNat cols.toNat)]) ⟨(c_i o_m), trivial⟩ ⟨by omega, by omega, by rw [List.length_append, x2, List.length_singleton]; omega⟩ (hr := by rw [tabP_snoc _ _ x0, show (x + 1).toNat = x.toNat + 1 by omega])
 ·
  refine s_5 ?_
  refine ops_gr1 (k := 0) rfl (fun ho2 => ?_)
  refine s_tw rfl rfl (allc ho2 rfl) ?_
  refine s_2 ?_
  refine rs1 _ (r_va rfl) ?_
  exact ⟨_, _, perm_keep 2, rfl, ov, rvs, rfl, by omega, by rw [show x.toNat = rows.toNat by omega]; rfl⟩

end Go.Proofs.YtbchkopkgpfkgaaGreatDoor

namespace Go.Proofs.YtbchkopkgpfkgaaGreatDoor
open Go.Vc
open Classical

set_option maxRecDepth 100000 in
set_option maxHeartbeats 4000000 in
theorem mg1_c {V : HV} {b : Nat} {y k : Int} (hb : Cells V b [Value.int .i64 k]) :
    FnC Tryz.prog 66 [(Value.int .i64 y), (Value.pointer (some ⟨b, 0, none⟩))] V [] (fun v _ _ => v = (.bool (decide (y < 0 ∨ k ≤ y)))) := by
 refine f_i Tryz.func66 ?_
 intro w0 D
 refine s_5 ?_
 refine j_n [] [(3, (.bool (decide ((y < 0) ∨ (k ≤ y)))))] ?_ (fun e1 => ?_)
 ·
  refine s_4 ?_
  by_cases g1 : y < 0
  ·
   refine s_6 ?_
   exact j_e ⟨(jt (.inl g1)), trivial⟩
  ·
   refine s_6 ?_
   exact j_e ⟨(jb (jo g1 Iff.rfl)), trivial⟩
 refine s_1 ?_
 exact rt1 (jb o_m)

set_option maxRecDepth 100000 in
set_option maxHeartbeats 4000000 in
theorem Merge_c {V : HV} {l : Value} {rv : List Value} {L : List (List Int)} {tv : Value} {G : List Int} (hl : Mat .i64 V l rv L) (hg : Ints .i64 V tv G) (hc : Chn L) (hG : G.length = (gr L 0).length) (hr : ∀ y : Int, 0 ≤ y → y < G.length → 0 ≤ gi G y ∧ gi G y < (gr L 0).length) :
    FnC Tryz.prog 22 [(.agg #[l]), tv] V [] (fun v V' σ' => σ' = [] ∧ ∃ ov orv, v = .tuple #[.agg #[ov], .int .i64 0] ∧ Mat .i64 V' ov orv (mrgM L G)) := by
 refine FnC.drop ?_
 refine f_i Tryz.func22 ?_
 intro w0 D
 have hlen := hl.len
 have hbd := hl.sl.bound
 have hpos := hc.pos
 have hb := (hl.row 0 o_m o_m).bound
 have hw := hc.wd
 have hkw : (gr L 0).length ≤ 256 := hc.wle
 have hkp : 1 ≤ (gr L 0).length := hc.wpos
 have hle := hc.le
 have htl := hc.tle
 refine s_2 ?_
 refine b_ox fun b1 => ?_
 refine a_lo fun b2 => ?_
 refine s_6 ?_
 refine oq (f_c (CValid_c hl) rfl rfl) ?_
 refine s_2 ?_
 refine iff' ?_ ?_ <;> intro c1
 ·
  exact absurd hc c1
 ·
  refine s_4 ?_
  refine oq (f_c (ccols_c hl o_m) rfl rfl) ?_
  refine a_lo fun b3 => ?_
  refine s_6 ?_
  refine oq (qv_lenI UL.out rfl hg) ?_
  refine s_3 ?_
  refine iff' ?_ ?_ <;> intro c2
  ·
   omega
  ·
   refine s_3 ?_
   refine v_f 2 fun Vf1 hVf1 hc1 => ?_
   have hl := hl.mono hVf1
   have hg := hg.mono hVf1
   refine s_2 ?_
   refine oq (qv_func (cs := [(Value.pointer (some ⟨b3, 0, none⟩))]) rfl) ?_
   refine oq (f_c (Mg.conI_c (fid := 66) (caps := [(Value.pointer (some ⟨b3, 0, none⟩))]) (p := (fun i => gi G i < 0 ∨ ((gr L 0).length : Int) ≤ gi G i)) hg (fun i a b => by rw [gv_ints a (by simpa using b)]; exact (mg1_c (by assumption)).boolI)) rfl rfl) ?_
   refine s_1 ?_
   refine iff' ?_ ?_ <;> intro c3
   ·
    obtain ⟨i, a, b, d⟩ := c3
    have := hr i a (by simpa using b)
    have d : gi G i < 0 ∨ ((gr L 0).length : Int) ≤ gi G i := d
    omega
   ·
    refine s_5 ?_
    refine oq (qv_lenS UL.out rfl hl.sl) ?_
    refine s_1 ?_
    refine c_l [] (filled_c (fid := 68) (caps := []) (p := fun _ _ => 0) o_m o_m o_m o_m (fun x y _ _ _ _ => mg2_c)) rfl rfl fun r1 V1 sg1 hV1 hp1 => ?_
    obtain ⟨rfl, ov, orv, rfl, hol, rfl⟩ := hp1
    have hl := hl.mono hV1
    have hg := hg.mono hV1
    have hc1 := hc1.mono hV1
    refine a_lo fun b4 => ?_
    refine ops_gr1 (k := 0) rfl (fun ho1 => ?_)
    refine s_tw rfl rfl (allc ho1 rfl) ?_
    refine s_3 ?_
    refine v_fG 0 fun Vf2 hVf2 hc2 => ?_
    have hl := hl.mono hVf2
    have hg := hg.mono hVf2
    have hc1 := hc1.mono hVf2
    refine s_1 ?_
    have hov := hc2
    refine s_2 ?_
    refine oq (qv_lenS UL.out rfl hl.sl) ?_
    refine s_3 ?_
    refine lv1 [0,1,2,4,5,6,7,14,21,25,33,34] (fun (x : Int) => [(35, (Value.int .i64 x))]) (fun x => [(Rws 3 (orv.drop (x).toNat) ((tabP ((rv.length : Int)).toNat (((gr L 0).length : Int)).toNat (fun _ _ => 0)).drop (x).toNat)), (Arr 41 b1 [l]), (Arr 41 b2 [(Value.slice none 0 0)]), (Arr 41 b4 [ov])]) (fun x V' => Mat .i64 V' l rv L ∧ Ints .i64 V' tv G ∧ Sl V' ov orv ∧ (∀ j : Int, 0 ≤ j → j < x → Ints .i64 V' (gv orv j) (gr (mrgM L G) j)) ∧ 0 ≤ x ∧ x ≤ rv.length) (fun x => (rv.length - x).toNat) 0 ?_ ?_ ?_ ?_ 
    · exact ⟨rfl, trivial⟩
    · (rfl)
    · exact ⟨hl, hg, hov, fun j a b => by omega, by omega, by omega⟩
    rintro x e1 V0l ⟨hl, hg, hov, hd, x0, x1⟩
    refine s_5 ?_
    refine iff' ?_ ?_ <;> intro c4
    ·
     refine s_4 ?_
     have hlx := hc.rl (x := x) o_m o_m
     refine v_unc 0 (n := (gr L 0).length) (drop_gv x0 o_m) (tab0_drop x0 o_m) (by simp) (fun bx hbx => ?_)
     refine s_2 ?_
     refine oq (qv_ia UL.out SZ.out e_vm (inV hl.sl) rfl o_m o_m) ?_
     refine oq (qv_ld PL.out rfl (inV hl.sl) o_m o_m) ?_
     refine s_6 ?_
     refine oq (qv_lenI UL.out rfl (hl.row (x) o_m o_m)) ?_
     refine s_3 ?_
     refine lp1 [0,1,2,4,5,6,7,8,9,14,21,25,33,34,35,36,40,41] (fun (y : Int) => [(42, (Value.int .i64 y))]) (fun y => [(Arr 3 bx ((mrgR G (gr L x) (gr L 0).length y.toNat).map (Value.int .i64))), (Rws 3 (orv.drop (x + 1).toNat) ((tabP ((rv.length : Int)).toNat (((gr L 0).length : Int)).toNat (fun _ _ => 0)).drop (x + 1).toNat)), (Arr 41 b1 [l]), (Arr 41 b2 [(Value.slice none 0 0)]), (Arr 41 b4 [ov])]) (fun y => 0 ≤ y ∧ y ≤ (gr L x).length) (fun y => ((gr L x).length - y).toNat) 0 ?_ ?_ ?_ ?_ 
     · exact ⟨rfl, trivial⟩
     · (rfl)
     · exact ⟨by omega, by omega⟩
     rintro y e2 ⟨y0, y1⟩
     refine s_5 ?_
     refine iff' ?_ ?_ <;> intro c5
     ·
      refine s_6 ?_
      refine oq (qv_iai UL.out SZ.out e_vm (inVi (hl.row (x) o_m o_m)) rfl o_m o_m) ?_
      refine oq (qv_ldi PL.out rfl (inVi (hl.row (x) o_m o_m)) o_m o_m) ?_
      refine s_3 ?_
      have hy1 := hr y o_m o_m
      have hbx2 := mrgR_bd (G := G) (row := gr L x) (k := (gr L 0).length) (B := 1048576) (fun z a b => hr z a o_m) (fun z a b => ⟨hc.nn (x := x.toNat) (y := z.toNat) o_m (by rw [← hw]; omega), Int.le_trans (hc.ele (x := x.toNat) (y := z.toNat) o_m (by rw [← hw]; omega)) htl⟩) y.toNat o_m (gi G y) hy1.1 hy1.2
      have hml := mrgR_len G (gr L x) (gr L 0).length y.toNat
      have hy2 : 0 ≤ gi (gr L x) y := hc.nn (x := x.toNat) (y := y.toNat) o_m (by rw [← hw]; omega)
      have hy3 : gi (gr L x) y ≤ 1048576 := Int.le_trans (hc.ele (x := x.toNat) (y := y.toNat) o_m (by rw [← hw]; omega)) htl
      refine ro1 [qt 0,qt 1,qt 2,qt 3,qt 4,qt 5,qt 6,qt 7,qt 8,qt 9,qt 10,qt 11,qt 12,qt 13,ld 14] ?_
      refine s_3 ?_
      refine rq rfl (qv_ia UL.out SZ.out e_vm (inV hov) rfl o_m o_m) ?_
      refine rq rfl (qv_ldv (u := (.slice (some ⟨bx, 0, none⟩) (gr L 0).length (gr L 0).length)) (v := ov) (i := x) PL.out rfl (inV hov) o_m o_m hbx) ?_
      refine s_2 ?_
      refine rq rfl (qv_iai UL.out SZ.out e_vm (inVi hg) rfl o_m o_m) ?_
      refine rq rfl (qv_ldi PL.out rfl (inVi hg) o_m o_m) ?_
      refine rq rfl (qv_ia (v := (.slice (some ⟨bx, 0, none⟩) (gr L 0).length (gr L 0).length)) UL.out SZ.out rfl (inO (k := 0) rfl (by rw [List.length_map, mrgR_len]) (Nat.le_refl _) o_m) rfl o_m (by rw [List.length_map, mrgR_len]; omega)) ?_
      refine rq rfl (qv_ldv (u := (.int .i64 (gi (mrgR G (gr L x) (gr L 0).length y.toNat) (gi G y)))) (v := (.slice (some ⟨bx, 0, none⟩) (gr L 0).length (gr L 0).length)) (i := gi G (y)) PL.out rfl (inO (k := 0) rfl (by rw [List.length_map, mrgR_len]) (Nat.le_refl _) o_m) o_m (by rw [List.length_map, mrgR_len]; omega) (gv_ints o_m o_m)) ?_
      refine s_2 ?_
      refine rq rfl (qv_ia (v := (.slice (some ⟨bx, 0, none⟩) (gr L 0).length (gr L 0).length)) UL.out SZ.out rfl (inO (k := 0) rfl (by rw [List.length_map, mrgR_len]) (Nat.le_refl _) o_m) rfl o_m (by rw [List.length_map, mrgR_len]; omega)) ?_
      refine rl_o ?_
      refine ops_ste (k := 0) (b := bx) (n := (gr L 0).length) (c := (gr L 0).length) (i := gi G (y)) (cs := ((mrgR G (gr L x) (gr L 0).length y.toNat).map (Value.int .i64))) SZ.out rfl (rfl : ev _ _ = (.int .i64 ((gi (mrgR G (gr L x) (gr L 0).length y.toNat) (gi G y)) + (gi (gr L (x)) (y))))) rfl rfl o_m (by rw [List.length_map, mrgR_len]; omega) ?_
      refine on1 ?_
      refine s_5 ?_
      exact le1 (y + 1) ⟨(c_i o_m), trivial⟩ ⟨by omega, by omega⟩ (hr := by rw [← mrgR_step _ _ _ y0, List.map_set])
     ·
      refine s_2 ?_
      refine vc_freeze (b := bx) (o := .cells (((mrgR G (gr L x) (gr L 0).length y.toNat).map (Value.int .i64)) : List Value).toArray 3 (0, 0)) (σr := [(Rws 3 (orv.drop (x + 1).toNat) ((tabP ((rv.length : Int)).toNat (((gr L 0).length : Int)).toNat (fun _ _ => 0)).drop (x + 1).toNat)), (Arr 41 b1 [l]), (Arr 41 b2 [(Value.slice none 0 0)]), (Arr 41 b4 [ov])]) (List.perm_middle (l₁ := []) (l₂ := [(Rws 3 (orv.drop (x + 1).toNat) ((tabP ((rv.length : Int)).toNat (((gr L 0).length : Int)).toNat (fun _ _ => 0)).drop (x + 1).toNat)), (Arr 41 b1 [l]), (Arr 41 b2 [(Value.slice none 0 0)]), (Arr 41 b4 [ov])])) (fun Vf3 hVf3 hb3 => ?_)
      have hc3 : Cells Vf3 bx ((mrgR G (gr L x) (gr L 0).length y.toNat).map (Value.int .i64)) := ⟨_, _, hb3⟩
      have hl := hl.mono hVf3
      have hg := hg.mono hVf3
      have hov := hov.mono hVf3
      refine s_4 ?_
      exact lw1 (x + 1) ⟨(c_i o_m), trivial⟩ ⟨hl, hg, hov, all_snoc (fun j a b => (hd j a b).mono hVf3) (by rw [mrgM_gr x0 o_m, hbx, show (gr L x).length = y.toNat by omega]; exact sl_own hb3 (by rw [List.length_map, mrgR_len]) (Nat.le_refl _) o_m), by omega, by omega⟩
    ·
     refine s_5 ?_
     refine s_tw rfl rfl (allc (Sl.one hov) rfl) ?_
     refine s_3 ?_
     refine rs2 _ (Value.int .i64 0) (r_va rfl) (rv_t rfl) ?_
     exact ⟨[], _, .refl _, rfl, ov, orv, rfl, hov, by rw [mrgM_len]; omega, fun j a b => hd j a (by rw [mrgM_len] at b; omega)⟩

end Go.Proofs.YtbchkopkgpfkgaaGreatDoor

namespace Go.Proofs.YtbchkopkgpfkgaaGreatDoor
open Go.Vc
open Classical

set_option maxRecDepth 100000 in
set_option maxHeartbeats 4000000 in
theorem mga_c {V : HV} :
    FnC Tryz.prog 19 [] V [] (fun v _ _ => v = (Value.bool true)) := by
 refine f_i Tryz.func19 ?_
 intro w0 D
 refine s_6 ?_
 refine ops_lit (n := 3) (s := 1) (cs := [(Value.int .i64 0), (Value.int .i64 1), (Value.int .i64 5)]) UL.out TZ.out (l_b rfl) rfl rfl rfl (l_b rfl) rfl (fun b1 => ?_)
 refine ops_lit (n := 3) (s := 1) (cs := [(Value.int .i64 1), (Value.int .i64 0), (Value.int .i64 2)]) UL.out TZ.out (l_b rfl) rfl rfl rfl (l_b rfl) rfl (fun b2 => ?_)
 refine ops_lit (n := 3) (s := 1) (cs := [(Value.int .i64 5), (Value.int .i64 2), (Value.int .i64 0)]) UL.out TZ.out (l_b rfl) rfl rfl rfl (l_b rfl) rfl (fun b3 => ?_)
 refine ops_lit (n := 3) (s := 1) (cs := [(.slice (some ⟨b1, 0, none⟩) 3 3), (.slice (some ⟨b2, 0, none⟩) 3 3), (.slice (some ⟨b3, 0, none⟩) 3 3)]) UL.out TZ.out (l_b rfl) rfl rfl rfl (l_b rfl) rfl (fun b4 => ?_)
 refine o_fz 0 fun Vf1 hVf1 hc1 => ?_
 refine o_fz 0 fun Vf2 hVf2 hc2 => ?_
 have hc1 := hc1.mono hVf2
 refine o_fz 0 fun Vf3 hVf3 hc3 => ?_
 have hc1 := hc1.mono hVf3
 have hc2 := hc2.mono hVf3
 refine o_fz 0 fun Vf4 hVf4 hc4 => ?_
 have hc1 := hc1.mono hVf4
 have hc2 := hc2.mono hVf4
 have hc3 := hc3.mono hVf4
 have hl : Mat .i64 Vf4 (.slice (some ⟨b4, 0, none⟩) 3 3) _ Mg.L0 := ⟨sl_cells hc4 rfl (Nat.le_refl _) o_m, rfl, fun i h0 h1 => by
   have h1 : i < 3 := h1
   have h2 : i = 0 ∨ i = 1 ∨ i = 2 := by omega
   rcases h2 with rfl | rfl | rfl
   · exact sl_cells hc1 rfl (Nat.le_refl _) o_m
   · exact sl_cells hc2 rfl (Nat.le_refl _) o_m
   · exact sl_cells hc3 rfl (Nat.le_refl _) o_m⟩
 refine c_l [] (Mg.Ordered_c (k := 2) hl) rfl rfl fun r1 V1 sg1 hV1 hp1 => ?_
 obtain ⟨rfl, gg, tt, tv, hv, hgg, htt⟩ := hp1
 rw [Mg.oN_0, Mg.oE_0] at hv
 subst hv
 have hl := hl.mono hV1
 refine s_15 ?_
 by_cases g1 : (0 : Int) = 0
 ·
  refine s_4 ?_
  by_cases g2 : (1 : Int) = 1
  ·
   refine s_1 ?_
   refine ops_want (want_t g2 rfl rfl rfl) ?_
   refine ops_lit (n := 3) (s := 1) (cs := [(Value.int .i64 0), (Value.int .i64 0), (Value.int .i64 2)]) UL.out TZ.out (l_b rfl) rfl rfl rfl (l_b rfl) rfl (fun b5 => ?_)
   refine o_fz 0 fun Vf5 hVf5 hc5 => ?_
   have hl := hl.mono hVf5
   have hgg := hgg.mono hVf5
   have htt := htt.mono hVf5
   have hg3 : Ints .i64 Vf5 (.slice (some ⟨b5, 0, none⟩) 3 3) [0, 0, 2] := sl_cells hc5 rfl (Nat.le_refl _) o_m
   refine og (f_c (Mg.Equal_c hgg hg3) rfl rfl) w_a ?_
   refine s_2 ?_
   by_cases g3 : Mg.oG Mg.L0 2 = [0, 0, 2]
   ·
    refine ops_want (want_t g3 rfl rfl rfl) ?_
    refine ops_lit (n := 3) (s := 1) (cs := [(Value.int .i64 0), (Value.int .i64 1), (Value.int .i64 5)]) UL.out TZ.out (l_b rfl) rfl rfl rfl (l_b rfl) rfl (fun b6 => ?_)
    refine ops_want (want_t g3 rfl rfl rfl) ?_
    refine ops_lit (n := 3) (s := 1) (cs := [(Value.int .i64 1), (Value.int .i64 0), (Value.int .i64 2)]) UL.out TZ.out (l_b rfl) rfl rfl rfl (l_b rfl) rfl (fun b7 => ?_)
    refine ops_want (want_t g3 rfl rfl rfl) ?_
    refine ops_lit (n := 3) (s := 1) (cs := [(Value.int .i64 5), (Value.int .i64 2), (Value.int .i64 0)]) UL.out TZ.out (l_b rfl) rfl rfl rfl (l_b rfl) rfl (fun b8 => ?_)
    refine ops_want (want_t g3 rfl rfl rfl) ?_
    refine ops_lit (n := 3) (s := 1) (cs := [(.slice (some ⟨b6, 0, none⟩) 3 3), (.slice (some ⟨b7, 0, none⟩) 3 3), (.slice (some ⟨b8, 0, none⟩) 3 3)]) UL.out TZ.out (l_b rfl) rfl rfl rfl (l_b rfl) rfl (fun b9 => ?_)
    refine s_1 ?_
    refine o_fz 0 fun Vf6 hVf6 hc6 => ?_
    have hl := hl.mono hVf6
    have hgg := hgg.mono hVf6
    have htt := htt.mono hVf6
    have hc5 := hc5.mono hVf6
    have hg3 := hg3.mono hVf6
    refine o_fz 0 fun Vf7 hVf7 hc7 => ?_
    have hl := hl.mono hVf7
    have hgg := hgg.mono hVf7
    have htt := htt.mono hVf7
    have hc5 := hc5.mono hVf7
    have hg3 := hg3.mono hVf7
    have hc6 := hc6.mono hVf7
    refine o_fz 0 fun Vf8 hVf8 hc8 => ?_
    have hl := hl.mono hVf8
    have hgg := hgg.mono hVf8
    have htt := htt.mono hVf8
    have hc5 := hc5.mono hVf8
    have hg3 := hg3.mono hVf8
    have hc6 := hc6.mono hVf8
    have hc7 := hc7.mono hVf8
    refine o_fz 0 fun Vf9 hVf9 hc9 => ?_
    have hl := hl.mono hVf9
    have hgg := hgg.mono hVf9
    have htt := htt.mono hVf9
    have hc5 := hc5.mono hVf9
    have hg3 := hg3.mono hVf9
    have hc6 := hc6.mono hVf9
    have hc7 := hc7.mono hVf9
    have hc8 := hc8.mono hVf9
    have hl2 : Mat .i64 Vf9 (.slice (some ⟨b9, 0, none⟩) 3 3) _ Mg.L0 := ⟨sl_cells hc9 rfl (Nat.le_refl _) o_m, rfl, fun i h0 h1 => by
      have h1 : i < 3 := h1
      have h2 : i = 0 ∨ i = 1 ∨ i = 2 := by omega
      rcases h2 with rfl | rfl | rfl
      · exact sl_cells hc6 rfl (Nat.le_refl _) o_m
      · exact sl_cells hc7 rfl (Nat.le_refl _) o_m
      · exact sl_cells hc8 rfl (Nat.le_refl _) o_m⟩
    refine og (f_c (Mg.ProveOrdered_c (k := 2) (c := 1) hl2 htt) rfl rfl) w_a ?_
    refine s_5 ?_
    exact rt1 (jdt (by exact Mg.po_1))
   ·
    exact absurd Mg.oG_0 g3
  ·
   exact absurd rfl g2
 ·
  exact absurd rfl g1

end Go.Proofs.YtbchkopkgpfkgaaGreatDoor
