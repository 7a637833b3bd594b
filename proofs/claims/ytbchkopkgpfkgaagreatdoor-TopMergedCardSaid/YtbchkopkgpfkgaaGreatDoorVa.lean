/- Va. -/
import Derived.Test.YtbchkopkgpfkgaaGreatDoorTi
import Derived.Test.YtbchkopkgpfkgaaGreatDoorWu
import Derived.Test.YtbchkopkgpfkgaaGreatDoorTy
import Derived.Test.YtbchkopkgpfkgaaGreatDoorWb
import Derived.Test.YtbchkopkgpfkgaaGreatDoorGt
namespace Go.Proofs.YtbchkopkgpfkgaaGreatDoor
open Go.Vc
open Classical

set_option maxRecDepth 100000 in
set_option maxHeartbeats 4000000 in
theorem sum_c {V : HV} {x : Value} {r : List Int} (hr : Ints .i64 V x r) :
    FnC Tryz.prog 103 [x] V [] (fun v _ _ => v = (.int .i64 (csum r))) := by
 refine f_i Tryz.func103 ?_
 intro w0 D
 have hb := hr.bound
 refine s_12 ?_
 refine oq (qv_lenI UL.out rfl hr) ?_
 refine s_3 ?_
 refine lc1 [0,6,7] (fun (j : Int) => [(3, (.int .i64 (sumN (fun i => r.getD i 0) j.toNat))), (8, (Value.int .i64 j))]) (fun j => 0 ≤ j ∧ j ≤ r.length ∧ (∀ i : Int, 0 ≤ i → i < j → 0 ≤ gi r i) ∧ 0 ≤ sumN (fun i => r.getD i 0) j.toNat ∧ sumN (fun i => r.getD i 0) j.toNat ≤ 1048576) (fun j => (r.length - j).toNat) 0 ?_ ?_ ?_ 
 · exact ⟨(c_i (by rfl)), rfl, trivial⟩
 · exact ⟨by omega, by omega, fun i a b => by omega, Int.le_refl _, by show (0 : Int) ≤ 1048576; omega⟩
 rintro j e1 ⟨i1, i2, hno, h0, h1⟩
 refine s_5 ?_
 refine iff' ?_ ?_ <;> intro c1
 ·
  refine s_5 ?_
  refine oq (qv_iai UL.out SZ.out e_vm (inVi hr) rfl o_m o_m) ?_
  refine oq (qv_ldi PL.out rfl (inVi hr) o_m o_m) ?_
  refine s_8 ?_
  by_cases g1 : (gi r (j)) < 0
  ·
   refine s_14 ?_
   exact rt1 (c_i (by first | (rw [csum_neg (j := j) o_m o_m o_m]; done) | (rw [csum_big (j := j) o_m o_m o_m]; done)))
  ·
   refine s_6 ?_
   refine iff' ?_ ?_ <;> intro c2
   ·
    refine s_7 ?_
    exact rt1 (c_i (by first | (rw [csum_neg (j := j) o_m o_m o_m]; done) | (rw [csum_big (j := j) o_m o_m o_m]; done)))
   ·
    refine s_11 ?_
    exact le1 (j + 1) ⟨(c_i (by rw [sumN_step o_m])), (c_i (by rfl)), trivial⟩ ⟨by omega, by omega, all_snoc hno o_m, by rw [sumN_step o_m]; show 0 ≤ _ + gi r j; omega, by rw [sumN_step o_m]; show _ + gi r j ≤ 1048576; omega⟩
 ·
  refine s_8 ?_
  exact rt1 (c_i (by rw [show j.toNat = r.length by omega] at *; exact (csum_end (fun i a b => hno i a o_m) h1).symm))

set_option maxRecDepth 100000 in
set_option maxHeartbeats 4000000 in
theorem Valid1_c {V : HV} {x : Value} {r : List Int} (hr : Ints .i64 V x r) {wd tt : Int} {b1 b2 : Nat} (hb1 : Cells V b1 [Value.int .i64 wd]) (hb2 : Cells V b2 [Value.int .i64 tt]) :
    FnC Tryz.prog 105 [x, (Value.pointer (some ⟨b1, 0, none⟩)), (Value.pointer (some ⟨b2, 0, none⟩))] V [] (fun v _ _ => v = (.bool (decide ((r.length : Int) ≠ wd ∨ csum r ≠ tt)))) := by
 refine f_i Tryz.func105 ?_
 intro w0 D
 refine s_7 ?_
 refine qq (qv_lenI UL.out rfl hr) ?_
 refine s_3 ?_
 by_cases g1 : ((r.length : Int)) ≠ wd
 ·
  refine s_8 ?_
  exact rt1 (jt o_m)
 ·
  refine s_1 ?_
  refine qg (f_c (sum_c hr) rfl rfl) w_a ?_
  refine s_6 ?_
  exact rt1 (jb o_m)

set_option maxRecDepth 100000 in
set_option maxHeartbeats 4000000 in
theorem idx_c {V : HV} {s : Value} {vals : List Value} {fid : Nat} {caps : List Value} {p : Int → Prop} (hs : Sl V s vals) (hf : ∀ i : Int, 0 ≤ i → i < vals.length → FnC Tryz.prog fid (gv vals i :: caps) V [] (fun v _ _ => v = .bool (decide (p i)))) :
    FnC Tryz.prog 163 [s, (Value.func (.func fid) #[] caps.toArray)] V [] (fun v _ _ => v = (.int .i64 (firstI p vals.length))) := by
 refine f_i Tryz.func163 ?_
 intro w0 D
 have hbd := hs.bound
 refine s_8 ?_
 refine oq (qv_lenS UL.out rfl hs) ?_
 refine s_3 ?_
 refine lc1 [0,1,7] (fun (j : Int) => [(8, (Value.int .i64 j))]) (fun j => 0 ≤ j ∧ j ≤ vals.length ∧ ∀ i : Int, 0 ≤ i → i < j → ¬ p i) (fun j => (vals.length - j).toNat) 0 ?_ ?_ ?_ 
 · exact ⟨rfl, trivial⟩
 · exact ⟨by omega, by omega, fun i a b => by omega⟩
 rintro j e1 ⟨i1, i2, hno⟩
 refine s_5 ?_
 refine iff' ?_ ?_ <;> intro c1
 ·
  refine s_13 ?_
  refine oq (qv_ia UL.out SZ.out e_vm (inV hs) rfl o_m o_m) ?_
  refine oq (qv_ld PL.out rfl (inV hs) o_m o_m) ?_
  refine oq (f_c (hf j o_m o_m) rfl rfl) ?_
  refine s_1 ?_
  refine iff' ?_ ?_ <;> intro c2
  ·
   refine s_8 ?_
   exact rt1 (c_i (by exact (firstI_some o_m (by assumption) hno _ o_m).symm))
  ·
   refine s_5 ?_
   exact le1 (j + 1) ⟨(c_i o_m), trivial⟩ ⟨by omega, by omega, all_snoc hno (by assumption)⟩
 ·
  refine s_7 ?_
  exact rt1 (c_i (by exact (firstI_none _ (fun i a b => hno i a o_m)).symm))

set_option maxRecDepth 100000 in
set_option maxHeartbeats 4000000 in
theorem con_c {V : HV} {s : Value} {vals : List Value} {fid : Nat} {caps : List Value} {p : Int → Prop} (hs : Sl V s vals) (hf : ∀ i : Int, 0 ≤ i → i < vals.length → FnC Tryz.prog fid (gv vals i :: caps) V [] (fun v _ _ => v = .bool (decide (p i)))) :
    FnC Tryz.prog 104 [s, (Value.func (.func fid) #[] caps.toArray)] V [] (fun v _ _ => v = (.bool (decide (∃ i : Int, 0 ≤ i ∧ i < vals.length ∧ p i)))) := by
 refine f_i Tryz.func104 ?_
 intro w0 D
 refine s_8 ?_
 refine oq (f_c (idx_c hs hf) rfl rfl) ?_
 refine s_4 ?_
 exact rt1 (jb (by exact firstI_nonneg _))

set_option maxRecDepth 100000 in
set_option maxHeartbeats 4000000 in
theorem CValid_c {V : HV} {l : Value} {rv : List Value} {L : List (List Int)} (hl : Mat .i64 V l rv L) :
    FnC Tryz.prog 38 [(.agg #[l])] V [] (fun v _ _ => v = (.bool (decide (Chn L)))) := by
 refine f_i Tryz.func38 ?_
 intro w0 D
 have hlen := hl.len
 have hbd := hl.sl.bound
 refine s_2 ?_
 refine b_ox fun b1 => ?_
 refine s_7 ?_
 refine oq (qv_lenS UL.out rfl hl.sl) ?_
 refine s_2 ?_
 by_cases g1 : ((rv.length : Int)) < 1
 ·
  refine s_12 ?_
  exact rt1 (jf (by exact fun q => by first | (have := q.pos; have := q.le; omega) | (have h1 := (chn_row (x := 0) o_m o_m q); have h2 := q.wpos; have h3 := q.wle; have e0 : gr L 0 = L.getD 0 [] := rfl; rw [← e0] at h2 h3; omega)))
 ·
  refine s_2 ?_
  refine og (qv_lenS UL.out rfl hl.sl) w_a ?_
  refine s_3 ?_
  refine iff' ?_ ?_ <;> intro c1
  ·
   refine s_5 ?_
   exact rt1 (jf (by exact fun q => by first | (have := q.pos; have := q.le; omega) | (have h1 := (chn_row (x := 0) o_m o_m q); have h2 := q.wpos; have h3 := q.wle; have e0 : gr L 0 = L.getD 0 [] := rfl; rw [← e0] at h2 h3; omega)))
  ·
   refine s_2 ?_
   refine vc_join (α := Nat × Nat) (fun xx => [(0, (.agg #[l])), (1, (Value.pointer (some ⟨b1, 0, none⟩))), (2, (Value.bool false)), (3, (Value.pointer (some ⟨xx.1, 0, none⟩))), (4, (Value.pointer (some ⟨xx.2, 0, none⟩))), (14, (.bool (decide (256 < ((rv.length : Int))))))]) (fun xx V' σ' => V = V' ∧ [(Arr 41 b1 [l]), (Arr 3 xx.1 [(.int .i64 (((gr L (0)).length : Int)))]), (Arr 3 xx.2 [(.int .i64 (csum (gr L 0)))])] = σ') ?_ ?_
   ·
    refine rE 14 [] ?_
    refine eq_ (i := 0) k_r rfl q_a ?_
    refine eq_ (i := 1) k_r rfl q_a ?_
    refine eq_ (i := 2) k_r rfl (qv_ia UL.out SZ.out e_vm (inV hl.sl) rfl o_m o_m) ?_
    refine eq_ (i := 3) k_r rfl (qv_ld PL.out rfl (inV hl.sl) o_m o_m) ?_
    refine eq_ (i := 4) k_r rfl (qv_lenI UL.out rfl (hl.row (0) o_m o_m)) ?_
    refine eq_ (i := 5) k_r rfl q_a ?_
    refine eq_ (i := 6) k_r rfl q_a ?_
    refine eq_ (i := 7) k_r rfl (qv_ia UL.out SZ.out e_vm (inV hl.sl) rfl o_m o_m) ?_
    refine eq_ (i := 8) k_r rfl (qv_ld PL.out rfl (inV hl.sl) o_m o_m) ?_
    refine eq_ (i := 9) k_r rfl (f_c (sum_c (hl.row 0 o_m o_m)) rfl rfl) ?_
    refine el2 (i := 10) (j := 11) k_r ?_ ?_
    ·
     refine el_o ?_
     refine a_lo fun b2 => ?_
     refine on3 [0,1] (Sub.refl _) ?_
     refine el1 (i := 11) k_r ?_
     refine el_o ?_
     refine a_lo fun b3 => ?_
     refine on3 [0,1] (Sub.refl _) ?_
     refine el1 (i := 12) k_r ?_
     refine el_o ?_
     refine s_1 ?_
     refine on3 [0,1] (Sub.refl _) ?_
     refine el1 (i := 13) k_r ?_
     refine el_o ?_
     refine s_1 ?_
     refine on4 [0,1] ?_
     refine enil (σ' := [(Arr 41 b1 [l]), (Arr 3 b2 [(.int .i64 (((gr L (0)).length : Int)))]), (Arr 3 b3 [(.int .i64 (csum (gr L 0)))])]) k_r (perm_idx _ _ [0, 1, 2] rfl rfl) ⟨(b2, b3), ⟨rfl, rfl, rfl, rfl, rfl, rfl, trivial⟩, rfl, rfl⟩
    ·
     refine el_o ?_
     refine a_lo fun b4 => ?_
     refine on3 [] (Sub.refl _) ?_
     refine el1 (i := 10) k_r ?_
     refine el_o ?_
     refine a_lo fun b5 => ?_
     refine on3 [0,0,1] (Sub.refl _) ?_
     refine el1 (i := 12) k_r ?_
     refine el_o ?_
     refine s_1 ?_
     refine on3 [0,0,1] (Sub.refl _) ?_
     refine el1 (i := 13) k_r ?_
     refine el_o ?_
     refine s_1 ?_
     refine on4 [0,0,1] ?_
     refine enil (σ' := [(Arr 41 b1 [l]), (Arr 3 b5 [(.int .i64 (((gr L (0)).length : Int)))]), (Arr 3 b4 [(.int .i64 (csum (gr L 0)))])]) k_r (perm_idx _ _ [0, 2, 1] rfl rfl) ⟨(b5, b4), ⟨rfl, rfl, rfl, rfl, rfl, rfl, trivial⟩, rfl, rfl⟩
   rintro ⟨z3, z4⟩ e1 Vj1 σj1 hJ1
   obtain ⟨rfl, rfl⟩ : V = Vj1 ∧ [(Arr 41 b1 [l]), (Arr 3 z3 [(.int .i64 (((gr L (0)).length : Int)))]), (Arr 3 z4 [(.int .i64 (csum (gr L 0)))])] = σj1 := hJ1
   change VC _ _ _ _ _ _ (upds 40 [(0, (.agg #[l])), (1, (Value.pointer (some ⟨b1, 0, none⟩))), (2, (Value.bool false)), (3, (Value.pointer (some ⟨z3, 0, none⟩))), (4, (Value.pointer (some ⟨z4, 0, none⟩))), (14, (.bool (decide (256 < ((rv.length : Int))))))] e1) _ _
   refine s_6 ?_
   by_cases g2 : (((gr L (0)).length : Int)) < 1
   ·
    refine s_14 ?_
    exact rt1 (jf (by exact fun q => by first | (have := q.pos; have := q.le; omega) | (have h1 := (chn_row (x := 0) o_m o_m q); have h2 := q.wpos; have h3 := q.wle; have e0 : gr L 0 = L.getD 0 [] := rfl; rw [← e0] at h2 h3; omega)))
   ·
    refine s_4 ?_
    by_cases g3 : 256 < (((gr L (0)).length : Int))
    ·
     refine s_10 ?_
     exact rt1 (jf (by exact fun q => by first | (have := q.pos; have := q.le; omega) | (have h1 := (chn_row (x := 0) o_m o_m q); have h2 := q.wpos; have h3 := q.wle; have e0 : gr L 0 = L.getD 0 [] := rfl; rw [← e0] at h2 h3; omega)))
    ·
     refine s_4 ?_
     refine iff' ?_ ?_ <;> intro c2
     ·
      refine s_5 ?_
      exact rt1 (jf (by exact fun q => by first | (have := q.pos; have := q.le; omega) | (have h1 := (chn_row (x := 0) o_m o_m q); have h2 := q.wpos; have h3 := q.wle; have e0 : gr L 0 = L.getD 0 [] := rfl; rw [← e0] at h2 h3; omega)))
     ·
      refine s_2 ?_
      refine v_f 1 fun Vf1 hVf1 hc1 => ?_
      have hl := hl.mono hVf1
      refine v_f 1 fun Vf2 hVf2 hc2 => ?_
      have hl := hl.mono hVf2
      have hc1 := hc1.mono hVf2
      refine s_3 ?_
      refine oq (qv_func (cs := [(Value.pointer (some ⟨z3, 0, none⟩)), (Value.pointer (some ⟨z4, 0, none⟩))]) rfl) ?_
      refine oq (f_c (con_c (fid := 105) (caps := [(Value.pointer (some ⟨z3, 0, none⟩)), (Value.pointer (some ⟨z4, 0, none⟩))]) (p := (fun i => ((gr L i).length : Int) ≠ ((gr L 0).length : Int) ∨ csum (gr L i) ≠ csum (gr L 0))) hl.sl (fun i a b => (Valid1_c (hl.row i a o_m) hc1 hc2).boolI)) rfl rfl) ?_
      refine s_4 ?_
      exact rt1 (jb (by exact ⟨fun q => chn_end o_m o_m o_m o_m o_m (fun x a b => Decidable.byContradiction fun z => q ⟨x, a, by omega, by show _ ∨ _; omega⟩), fun q ⟨x, a, b, z⟩ => by have z : _ ∨ _ := z; have := chn_row a o_m q; omega⟩))

end Go.Proofs.YtbchkopkgpfkgaaGreatDoor

namespace Go.Proofs.YtbchkopkgpfkgaaGreatDoor
open Go.Vc
open Classical

set_option maxRecDepth 100000 in
set_option maxHeartbeats 4000000 in
theorem total_c {V : HV} {x : Value} {r : List Int} (hr : Ints .i64 V x r) {B : Int} (hw : Wts r B) (hB : B ≤ 4611686018427387904) :
    FnC Tryz.prog 44 [x] V [] (fun v _ _ => v = (.int .i64 (tot r))) := by
 refine f_i Tryz.func44 ?_
 intro w0 D
 have hb := hr.bound
 refine s_12 ?_
 refine oq (qv_lenI UL.out rfl hr) ?_
 refine s_3 ?_
 refine lc1 [0,2,6,7] (fun (j : Int) => [(3, (.int .i64 (sumN (fun i => (r).getD i 0) j.toNat))), (8, (Value.int .i64 j))]) (fun j => 0 ≤ j ∧ j ≤ (r).length) (fun j => ((r).length - j).toNat) 0 ?_ ?_ ?_ 
 · exact ⟨(c_i (by rfl)), rfl, trivial⟩
 · exact ⟨by omega, by omega⟩
 rintro j e1 ⟨i1, i2⟩
 refine s_5 ?_
 refine iff' ?_ ?_ <;> intro c1
 ·
  refine s_5 ?_
  refine oq (qv_iai UL.out SZ.out e_vm (inVi hr) rfl o_m o_m) ?_
  refine oq (qv_ldi PL.out rfl (inVi hr) o_m o_m) ?_
  refine s_2 ?_
  have hs := wts_step (w := r) (j := j) hw o_m o_m
  refine s_10 ?_
  exact le1 (j + 1) ⟨(c_i (by rw [sumN_step o_m])), (c_i (by rfl)), trivial⟩ ⟨by omega, by omega⟩
 ·
  refine s_8 ?_
  exact rt1 (c_i (by rw [show j.toNat = (r).length by omega]; rfl))

set_option maxRecDepth 100000 in
set_option maxHeartbeats 4000000 in
theorem divisor_c {V : HV} {n d : Int} (h0 : 0 ≤ n) (h1 : n ≤ 9223372036854775807) (h2 : 1 ≤ d) (h3 : d ≤ 9223372036854775807) :
    FnC Tryz.prog 166 [(Value.int .i64 n), (Value.int .i64 d)] V [] (fun v _ _ => v = (.int .i64 ((Int.gcd n d : Int)))) := by
 refine f_i Tryz.func166 ?_
 intro w0 D
 refine s_6 ?_
 refine lc2 [4] (fun (a : Int) (b : Int) => [(0, (Value.int .i64 a)), (1, (Value.int .i64 b))]) (fun a b => 0 ≤ a ∧ 0 ≤ b ∧ a ≤ 9223372036854775807 ∧ b ≤ 9223372036854775807 ∧ Int.gcd a b = Int.gcd n d) (fun a b => b.toNat) n d ?_ ?_ ?_ 
 · exact ⟨rfl, rfl, trivial⟩
 · exact ⟨by omega, by omega, by omega, by omega, rfl⟩
 rintro a b e1 ⟨i1, i2, i3, i4, hg⟩
 refine s_6 ?_
 refine iff' ?_ ?_ <;> intro c1
 ·
  refine s_2 ?_
  have e1 := Int.emod_nonneg a (show b ≠ 0 by omega)
  have e2 := Int.emod_lt_of_pos a (show 0 < b by omega)
  refine s_4 ?_
  refine qq (qv_rem rfl rfl o_m o_m) ?_
  refine s_3 ?_
  exact le2 b (a % b) ⟨rfl, (c_i o_m), trivial⟩ ⟨by omega, by omega, by omega, by omega, by rw [gcd_step o_m o_m]; exact hg⟩
 ·
  refine s_3 ?_
  have ha : a = (Int.gcd n d : Int) := by rw [← hg, show b = 0 by omega, Int.gcd_zero_right]; omega
  refine s_5 ?_
  exact rt1 (c_i (by exact ha))

set_option maxRecDepth 100000 in
set_option maxHeartbeats 4000000 in
theorem Reduce_c {V : HV} {n d : Int} (h0 : 0 ≤ n) (h1 : n ≤ 9223372036854775807) (h2 : 1 ≤ d) (h3 : d ≤ 9223372036854775807) :
    FnC Tryz.prog 108 [(Value.int .i64 n), (Value.int .i64 d)] V [] (fun v _ _ => v = .tuple #[(.agg #[(.int .i64 (frN n d)), (.int .i64 (frD n d))]), (Value.int .i64 0)]) := by
 refine f_i Tryz.func108 ?_
 intro w0 D
 refine s_2 ?_
 refine a_lo fun b1 => ?_
 refine s_8 ?_
 by_cases g1 : n < 0
 ·
  omega
 ·
  refine s_4 ?_
  refine iff' ?_ ?_ <;> intro c1
  ·
   omega
  ·
   refine s_5 ?_
   refine oq (f_c (divisor_c h0 h1 h2 h3) rfl rfl) ?_
   refine s_3 ?_
   have hp := gcd_pos (n := n) h2
   refine ro1 [qt 0,qt 1,qt 2,qt 3,qt 4,qt 5,qt 6,ld 7,qt 8] ?_
   refine s_2 ?_
   refine rq rfl (qv_quo rfl rfl o_m o_m) ?_
   refine s_2 ?_
   refine rq rfl (qv_quo rfl rfl o_m o_m) ?_
   refine rq rfl (qv_build (out := [(.int .i64 (n / ((Int.gcd n d : Int)))), (.int .i64 (d / ((Int.gcd n d : Int))))]) BI.out [(0, [(.int .i64 (n / ((Int.gcd n d : Int))))]), (1, [(.int .i64 (d / ((Int.gcd n d : Int))))])] rfl rfl) ?_
   refine rl_o ?_
   refine s_1 ?_
   refine on1 ?_
   refine s_3 ?_
   refine rs2 _ (Value.int .i64 0) (r_va rfl) (rv_t rfl) ?_
   exact tup2 (aggc (consc (c_i (by rfl)) (consc (c_i (by rfl)) rfl))) rfl

set_option maxRecDepth 100000 in
set_option maxHeartbeats 4000000 in
theorem fraction_c {V : HV} {n d : Int} (h0 : 0 ≤ n) (h1 : n ≤ 9223372036854775807) (h2 : 1 ≤ d) (h3 : d ≤ 9223372036854775807) :
    FnC Tryz.prog 43 [(Value.int .i64 n), (Value.int .i64 d)] V [] (fun v _ _ => v = .tuple #[(.agg #[(.int .i64 (frN n d)), (.int .i64 (frD n d))]), (Value.int .i64 0)]) := by
 refine f_i Tryz.func43 ?_
 intro w0 D
 refine s_2 ?_
 refine a_lo fun b1 => ?_
 refine s_6 ?_
 refine oq (f_c (Reduce_c h0 h1 h2 h3) rfl rfl) ?_
 refine s_3 ?_
 refine a_lo fun b2 => ?_
 refine s_9 ?_
 refine iff' ?_ ?_ <;> intro c1
 ·
  exact absurd rfl c1
 ·
  refine s_8 ?_
  refine rs2 _ (Value.int .i64 0) (r_va rfl) (rv_t rfl) ?_
  exact tup2 rfl rfl

end Go.Proofs.YtbchkopkgpfkgaaGreatDoor
