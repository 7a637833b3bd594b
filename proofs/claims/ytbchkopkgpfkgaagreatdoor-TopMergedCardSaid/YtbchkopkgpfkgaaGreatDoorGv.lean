import Derived.Test.YtbchkopkgpfkgaaGreatDoorTi
import Derived.Test.YtbchkopkgpfkgaaGreatDoorGu
import Derived.Test.YtbchkopkgpfkgaaGreatDoorVf
import Derived.Test.YtbchkopkgpfkgaaGreatDoorWz
/- Walks of the top laws: what each function returns. Printed by a program out of notes. -/
namespace Go.Proofs.YtbchkopkgpfkgaaGreatDoor
open Go.Vc
open Classical

set_option maxRecDepth 100000 in
set_option maxHeartbeats 4000000 in
theorem gdiv_c {V : HV} {x : Value} {r : List Int} (hr : Ints .i64 V x r) (hq : ∀ i : Int, 0 ≤ i → i < r.length → 0 ≤ gi r i ∧ gi r i ≤ 1048576) :
    FnC Tryz.prog 49 [x] V [] (fun v _ _ => v = (.int .i64 (gcN (fun i => r.getD i 0) r.length))) := by
 refine f_i Tryz.func49 ?_
 intro w0 D
 have hb := hr.bound
 refine s_12 ?_
 refine oq (qv_lenI UL.out rfl hr) ?_
 refine s_3 ?_
 refine lc1 [0,2,6,7] (fun (j : Int) => [(3, (.int .i64 (gcN (fun i => r.getD i 0) j.toNat))), (8, (Value.int .i64 j))]) (fun j => 0 ≤ j ∧ j ≤ r.length) (fun j => (r.length - j).toNat) 0 ?_ ?_ ?_ 
 · exact ⟨(c_i (by rfl)), rfl, trivial⟩
 · exact ⟨by omega, by omega⟩
 rintro j e1 ⟨i1, i2⟩
 refine s_5 ?_
 refine iff' ?_ ?_ <;> intro c1
 ·
  refine s_4 ?_
  have hqj := hq j o_m o_m
  have hgn := gcN_nn (f := (fun i => r.getD i 0)) j.toNat
  have hgl := gcN_le (f := (fun i => r.getD i 0)) (B := 1048576) o_m j.toNat (fun i hi => by have h := hq (i : Nat) o_m o_m; exact h)
  refine s_1 ?_
  refine oq (qv_iai UL.out SZ.out e_vm (inVi hr) rfl o_m o_m) ?_
  refine oq (qv_ldi PL.out rfl (inVi hr) o_m o_m) ?_
  refine s_3 ?_
  refine lc2 [0,2,6,7,8,9] (fun (a : Int) (b : Int) => [(3, (Value.int .i64 a)), (5, (Value.int .i64 b))]) (fun a b => 0 ≤ a ∧ 0 ≤ b ∧ a ≤ 1048576 ∧ b ≤ 1048576 ∧ (Int.gcd a b : Int) = (Int.gcd (gcN (fun i => r.getD i 0) j.toNat) (gi r j) : Int)) (fun a b => b.toNat) ((gcN (fun i => r.getD i 0) j.toNat)) ((gi r j)) ?_ ?_ ?_ 
  · exact ⟨rfl, rfl, trivial⟩
  · exact ⟨by omega, by omega, by omega, by omega, rfl⟩
  rintro a b e2 ⟨i3, i4, i5, i6, hg⟩
  refine s_2 ?_
  
  refine s_4 ?_
  refine iff' ?_ ?_ <;> intro c2
  ·
   refine s_2 ?_
   have e1 := Int.emod_nonneg a (show b ≠ 0 by omega)
   have e2 := Int.emod_lt_of_pos a (show 0 < b by omega)
   refine s_4 ?_
   refine qq (qv_rem rfl rfl o_m o_m) ?_
   refine s_3 ?_
   exact le2 b (a % b) ⟨rfl, (c_i o_m), trivial⟩ ⟨by omega, by omega, by omega, by omega, by rw [gcd_step o_m o_m]; exact hg⟩
  ·
   refine s_2 ?_
   have ha : a = (Int.gcd (gcN (fun i => r.getD i 0) j.toNat) (gi r j) : Int) := by rw [← hg, show b = 0 by omega, Int.gcd_zero_right]; omega
   refine s_4 ?_
   exact le1 (j + 1) ⟨(c_i (by rw [show (j + 1).toNat = j.toNat + 1 by omega]; exact ha)), (c_i (by rfl)), trivial⟩ ⟨by omega, by omega⟩
 ·
  refine s_8 ?_
  exact rt1 (c_i (by rw [show j.toNat = r.length by omega]))

set_option maxRecDepth 100000 in
set_option maxHeartbeats 4000000 in
theorem turned_c {V : HV} {l : Value} {rv : List Value} {L : List (List Int)} (hl : Mat .i64 V l rv L) (hc : Chn L) :
    FnC Tryz.prog 48 [l] V [] (fun v V' σ' => σ' = [] ∧ ∃ cw, Mat .i64 V' v cw (trn L)) := by
 refine f_i Tryz.func48 ?_
 intro w0 D
 have hlen := hl.len
 have hwd : ((gr L 0).length : Int) = wdt L := rfl
 have hwl := hc.wle
 have hpos := hc.pos
 have hle := hc.le
 have hwe : (L.getD 0 []).length = wdt L := rfl
 refine s_5 ?_
 refine vc_nil 27 1 ?_
 refine s_7 ?_
 refine oq (qv_ia UL.out SZ.out e_vm (inV hl.sl) rfl o_m o_m) ?_
 refine oq (qv_ld PL.out rfl (inV hl.sl) o_m o_m) ?_
 refine oq (qv_lenI UL.out rfl (hl.row (0) o_m o_m)) ?_
 refine s_3 ?_
 refine lv3 [0,2,11] (fun (y : Int) (ov : Value) (cw : List Value) => [(3, ov), (12, (Value.int .i64 y))]) (fun y ov cw => [(Gr 27 1 ov y.toNat cw)]) (fun y ov cw V' => 0 ≤ y ∧ y ≤ wdt L ∧ Mat .i64 V' l rv L ∧ (cw.length : Int) = y ∧ HrO V' cw (gr (trn L)) y) (fun y ov cw => (wdt L - y).toNat) 0 ((Value.slice none 0 0)) ([]) ?_ ?_ ?_ ?_ 
 · exact ⟨(by first | rfl | (first | omega | simp)), rfl, trivial⟩
 · (rfl)
 · exact ⟨by omega, by omega, hl, rfl, fun x a b => by omega⟩
 rintro y ov cw e1 V0l ⟨y1, y2, hl, hcl, hcw⟩
 refine s_5 ?_
 refine iff' ?_ ?_ <;> intro c1
 ·
  refine s_9 ?_
  refine vc_nil 3 1 ?_
  refine s_7 ?_
  refine oq (qv_lenS UL.out rfl hl.sl) ?_
  refine s_3 ?_
  refine lp2 [0,2,3,4,11,12,13,15,16] (fun (x : Int) (cv : Value) => [(5, cv), (17, (Value.int .i64 x))]) (fun x cv => [(Gr 27 1 ov y.toNat cw), (Gr 3 1 cv x.toNat ((((clmn L y.toNat).take x.toNat).map (Value.int .i64))))]) (fun x cv => 0 ≤ x ∧ x ≤ rv.length) (fun x cv => (rv.length - x).toNat) 0 ((Value.slice none 0 0)) ?_ ?_ ?_ ?_ 
  · exact ⟨(by first | rfl | (first | omega | simp)), rfl, trivial⟩
  · (rfl)
  · exact ⟨by omega, by omega⟩
  rintro x cv e2 ⟨x1, x2⟩
  refine s_5 ?_
  refine iff' ?_ ?_ <;> intro c2
  ·
   refine s_4 ?_
   have hrl : ((gr L x).length : Int) = wdt L := by have := (hc.row x.toNat o_m).1; exact congrArg Nat.cast this
   refine s_1 ?_
   refine oq (qv_ia UL.out SZ.out e_vm (inV hl.sl) rfl o_m o_m) ?_
   refine oq (qv_ld PL.out rfl (inV hl.sl) o_m o_m) ?_
   refine s_6 ?_
   refine oq (qv_iai UL.out SZ.out e_vm (inVi (hl.row (x) o_m o_m)) rfl o_m o_m) ?_
   refine oq (qv_ldi PL.out rfl (inVi (hl.row (x) o_m o_m)) o_m o_m) ?_
   refine ops_lit (n := 1) (s := 1) (cs := [(.int .i64 (gi (gr L (x)) (y)))]) UL.out TZ.out (l_b rfl) rfl rfl rfl (l_b rfl) rfl (fun b1 => ?_)
   refine a_po rfl rfl rfl o_c o_m m_x fun v1 hn1 => ?_
   refine s_2 ?_
   refine v_d 2 ?_
   refine s_4 ?_
   exact le2 (x + 1) v1 ⟨rfl, (c_i o_m), trivial⟩ ⟨by omega, by omega⟩ (hr := by rw [clm_take o_m o_m y1, show (x + 1).toNat = x.toNat + 1 by omega])
  ·
   refine s_2 ?_
   refine v_fG 1 fun Vf1 hVf1 hc1 => ?_
   have hl := hl.mono hVf1
   have hcw := hcw.mono hVf1
   refine s_3 ?_
   have hcol : Ints .i64 Vf1 cv (gr (trn L) y) := by
     have hq := hc1
     rw [show x.toNat = (clmn L y.toNat).length by rw [clmn_len]; omega, List.take_length] at hq
     rw [trn_gr y1 o_m]; exact hq
   refine ops_lit (n := 1) (s := 1) (cs := [cv]) UL.out TZ.out (l_b rfl) rfl (by show cv.cells.toList ++ ([]) = _; rw [(Sl.cells hcol)]; rfl) (by show ((cv.cells.size == 1) && (true)) = true; rw [(Sl.cells hcol)]; rfl) (l_b rfl) rfl (fun b2 => ?_)
   refine a_po rfl rfl rfl (by intro u hu; simp at hu; subst hu; exact Sl.one hcol) o_m m_x fun v2 hn2 => ?_
   refine s_2 ?_
   refine v_d 1 ?_
   refine s_4 ?_
   exact lw3 (y + 1) v2 ((cw ++ [cv])) ⟨rfl, (c_i o_m), trivial⟩ ⟨by omega, by omega, hl, by rw [List.length_append]; simp only [List.length_singleton]; omega, hrow_snoc o_m hcw hcol⟩ (hr := by rw [show (y + 1).toNat = y.toNat + 1 by omega])
 ·
  refine s_7 ?_
  refine v_fG 0 fun Vf2 hVf2 hc2 => ?_
  have hl := hl.mono hVf2
  have hcw := hcw.mono hVf2
  refine s_1 ?_
  refine ra1 ?_
  exact ⟨rfl, cw, hc2, by rw [trn_len]; omega, fun x a b => hcw x a (by rw [trn_len] at b; omega)⟩

end Go.Proofs.YtbchkopkgpfkgaaGreatDoor
