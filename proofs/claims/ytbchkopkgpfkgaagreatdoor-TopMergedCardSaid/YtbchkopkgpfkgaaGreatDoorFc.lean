/- Fc. -/
import Derived.Test.YtbchkopkgpfkgaaGreatDoorTi
import Derived.Test.YtbchkopkgpfkgaaGreatDoorWp
import Derived.Test.YtbchkopkgpfkgaaGreatDoorTy
import Derived.Test.YtbchkopkgpfkgaaGreatDoorWb
namespace Go.Proofs.YtbchkopkgpfkgaaGreatDoor
open Go.Vc
open Classical

set_option maxRecDepth 100000 in
set_option maxHeartbeats 4000000 in
theorem isNameR_c {V : HV} {s : ByteArray} (hs : s.size ≤ 9223372036854775807) :
    FnC Tryz.prog 77 [(Value.string s)] V [] (fun v _ _ => v = (.bool (decide (NameOk s)))) := by
 refine f_i Tryz.func77 ?_
 intro w0 D
 refine s_6 ?_
 refine j_n [0,2] [(14, (.bool (decide ((((s.size : Int)) < 1) ∨ (40 < ((s.size : Int)))))))] ?_ (fun e1 => ?_)
 ·
  refine s_2 ?_
  refine oq (qv_lenstr UL.out rfl) ?_
  refine s_2 ?_
  by_cases g1 : ((s.size : Int)) < 1
  ·
   refine s_5 ?_
   exact j_e ⟨(jt (.inl g1)), trivial⟩
  ·
   refine s_1 ?_
   refine og (qv_lenstr UL.out rfl) w_a ?_
   refine s_3 ?_
   exact j_e ⟨(jb (jo g1 Iff.rfl)), trivial⟩
 refine iff' ?_ ?_ <;> intro c1
 ·
  refine s_5 ?_
  exact rt1 (jf (by first | (intro q; exact q.1 o_m) | (intro q; have z := q.2 i i1 o_m; unfold chOk lett othr at z; omega)))
 ·
  refine s_7 ?_
  refine lc1 [0,14] (fun (i : Int) => [(3, (Value.int .i64 i))]) (fun i => 0 ≤ i ∧ i ≤ s.size ∧ ∀ x : Int, 0 ≤ x → x < i → chOk s x) (fun i => (s.size - i).toNat) 0 ?_ ?_ ?_ 
  · exact ⟨rfl, trivial⟩
  · exact ⟨by omega, by omega, fun x a b => by omega⟩
  rintro i e2 ⟨i1, i2, hno⟩
  refine s_5 ?_
  refine oq (qv_lenstr UL.out rfl) ?_
  refine s_2 ?_
  refine iff' ?_ ?_ <;> intro c2
  ·
   refine s_7 ?_
   refine oq (qv_idxs UL.out rfl rfl o_m o_m) ?_
   refine s_3 ?_
   refine j_n [0,3,4,14,18] [(5, (.bool (decide ((97 ≤ (sAt s i)) ∧ ((sAt s i) ≤ 122)))))] ?_ (fun e3 => ?_)
   ·
    refine s_4 ?_
    by_cases g2 : 97 ≤ (sAt s i)
    ·
     refine s_5 ?_
     exact j_e ⟨(jb (ja g2 Iff.rfl)), trivial⟩
    ·
     refine s_5 ?_
     exact j_e ⟨(jf (fun z => g2 z.1)), trivial⟩
   refine s_1 ?_
   refine j_n [0,3,4,5,14,18] [(6, (.bool (decide ((((48 ≤ (sAt s i)) ∧ ((sAt s i) ≤ 57)) ∨ ((sAt s i) = 46)) ∨ ((sAt s i) = 95)))))] ?_ (fun e4 => ?_)
   ·
    refine s_4 ?_
    by_cases g3 : 48 ≤ (sAt s i)
    ·
     refine s_4 ?_
     by_cases g4 : (sAt s i) ≤ 57
     ·
      refine s_9 ?_
      exact j_e ⟨(jt (.inl (.inl ((ja g3 Iff.rfl).1 g4)))), trivial⟩
     ·
      refine s_4 ?_
      by_cases g5 : (sAt s i) = 46
      ·
       refine s_5 ?_
       exact j_e ⟨(jt (.inl ((jo (fun z => g4 ((ja g3 Iff.rfl).2 z)) Iff.rfl).1 g5))), trivial⟩
      ·
       refine s_5 ?_
       exact j_e ⟨(jb (jo (fun z => g5 ((jo (fun z => g4 ((ja g3 Iff.rfl).2 z)) Iff.rfl).2 z)) Iff.rfl)), trivial⟩
    ·
     refine s_8 ?_
     by_cases g6 : (sAt s i) = 46
     ·
      refine s_5 ?_
      exact j_e ⟨(jt (.inl ((jo (fun z => g3 z.1) Iff.rfl).1 g6))), trivial⟩
     ·
      refine s_5 ?_
      exact j_e ⟨(jb (jo (fun z => g6 ((jo (fun z => g3 z.1) Iff.rfl).2 z)) Iff.rfl)), trivial⟩
   refine s_1 ?_
   refine j_n [0,3,4,5,6,14,18] [(53, (.bool (decide ((¬ ((97 ≤ (sAt s i)) ∧ ((sAt s i) ≤ 122))) ∧ ((i = 0) ∨ (¬ ((((48 ≤ (sAt s i)) ∧ ((sAt s i) ≤ 57)) ∨ ((sAt s i) = 46)) ∨ ((sAt s i) = 95))))))))] ?_ (fun e5 => ?_)
   ·
    refine s_4 ?_
    by_cases g7 : ¬ ((97 ≤ (sAt s i)) ∧ ((sAt s i) ≤ 122))
    ·
     refine s_3 ?_
     by_cases g8 : i = 0
     ·
      refine s_5 ?_
      exact j_e ⟨(jt ⟨g7, (.inl g8)⟩), trivial⟩
     ·
      refine s_5 ?_
      exact j_e ⟨(jb (ja g7 (jo g8 Iff.rfl))), trivial⟩
    ·
     refine s_8 ?_
     exact j_e ⟨(jf (fun z => g7 z.1)), trivial⟩
   refine iff' ?_ ?_ <;> intro c3
   ·
    refine s_7 ?_
    exact rt1 (jf (by first | (intro q; exact q.1 o_m) | (intro q; have z := q.2 i i1 o_m; unfold chOk lett othr at z; omega)))
   ·
    refine s_6 ?_
    exact le1 (i + 1) ⟨(c_i o_m), trivial⟩ ⟨by omega, by omega, all_snoc hno (by unfold chOk lett othr; omega)⟩
  ·
   refine s_7 ?_
   exact rt1 (jt (by exact ⟨by first | assumption | omega, fun x a b => hno x a o_m⟩))

set_option maxRecDepth 100000 in
set_option maxHeartbeats 4000000 in
theorem boundedR_c {V : HV} {a b : Int} :
    FnC Tryz.prog 78 [(Value.int .i64 a), (Value.int .i64 b)] V [] (fun v _ _ => v = (.bool (decide (bndP a b)))) := by
 refine f_i Tryz.func78 ?_
 intro w0 D
 refine s_5 ?_
 refine j_n [] [(4, (.bool (decide (((a ≤ b) ∧ (((-1048576)) ≤ a)) ∧ (b ≤ 1048576)))))] ?_ (fun e1 => ?_)
 ·
  refine s_5 ?_
  by_cases g1 : a ≤ b
  ·
   refine s_4 ?_
   by_cases g2 : ((-1048576)) ≤ a
   ·
    refine s_5 ?_
    exact j_e ⟨(jb (ja ((ja g1 Iff.rfl).1 g2) Iff.rfl)), trivial⟩
   ·
    refine s_5 ?_
    exact j_e ⟨(jf (fun z => (fun z => g2 ((ja g1 Iff.rfl).2 z)) z.1)), trivial⟩
  ·
   refine s_9 ?_
   exact j_e ⟨(jf (fun z => (fun z => g1 z.1) z.1)), trivial⟩
 refine s_1 ?_
 exact rt1 (jb (by unfold bndP; omega))

set_option maxRecDepth 100000 in
set_option maxHeartbeats 4000000 in
theorem leastR_c {V : HV} {a b : Int} :
    FnC Tryz.prog 82 [(Value.int .i64 a), (Value.int .i64 b)] V [] (fun v _ _ => v = (.int .i64 (mnI a b))) := by
 refine f_i Tryz.func82 ?_
 intro w0 D
 refine s_11 ?_
 refine iff' ?_ ?_ <;> intro c1
 ·
  refine s_6 ?_
  exact rt1 (c_i (by unfold mnI; split <;> omega))
 ·
  refine s_7 ?_
  exact rt1 (c_i (by unfold mnI; split <;> omega))

set_option maxRecDepth 100000 in
set_option maxHeartbeats 4000000 in
theorem mostR_c {V : HV} {a b : Int} :
    FnC Tryz.prog 81 [(Value.int .i64 a), (Value.int .i64 b)] V [] (fun v _ _ => v = (.int .i64 (mxI a b))) := by
 refine f_i Tryz.func81 ?_
 intro w0 D
 refine s_11 ?_
 refine iff' ?_ ?_ <;> intro c1
 ·
  refine s_6 ?_
  exact rt1 (c_i (by unfold mxI; split <;> omega))
 ·
  refine s_7 ?_
  exact rt1 (c_i (by unfold mxI; split <;> omega))

set_option maxRecDepth 100000 in
set_option maxHeartbeats 4000000 in
theorem sizeR_c {V : HV} {a : Int} (h1 : -9223372036854775807 ≤ a) :
    FnC Tryz.prog 194 [(Value.int .i64 a)] V [] (fun v _ _ => v = (.int .i64 (mxI a (-a)))) := by
 refine f_i Tryz.func194 ?_
 intro w0 D
 refine s_10 ?_
 refine iff' ?_ ?_ <;> intro c1
 ·
  refine s_3 ?_
  refine oq (qv_neg rfl o_m) ?_
  refine s_3 ?_
  exact rt1 (c_i (by unfold mxI; split <;> omega))
 ·
  refine s_7 ?_
  exact rt1 (c_i (by unfold mxI; split <;> omega))

set_option maxRecDepth 100000 in
set_option maxHeartbeats 4000000 in
theorem modSpanR_c {V : HV} {a b : Int} (h1 : -1048576 ≤ a) (h2 : b ≤ 1048576) :
    FnC Tryz.prog 195 [(Value.int .i64 a), (Value.int .i64 b)] V [] (fun v _ _ => v = .tuple #[(.int .i64 (if a < 0 then mnI 0 (a + 1) else 0)), (.int .i64 (if 0 < b then mxI 0 (b - 1) else 0))]) := by
 refine f_i Tryz.func195 ?_
 intro w0 D
 refine s_16 ?_
 refine iff' ?_ ?_ <;> intro c1
 ·
  refine s_3 ?_
  refine oq (f_c (leastR_c) rfl rfl) ?_
  refine s_8 ?_
  refine iff' ?_ ?_ <;> intro c2
  ·
   refine s_3 ?_
   refine oq (f_c (mostR_c) rfl rfl) ?_
   refine s_10 ?_
   exact rt2 (c_i (by first | (rw [if_pos o_m]) | (rw [if_neg o_m]))) (c_i (by first | (rw [if_pos o_m]) | (rw [if_neg o_m])))
  ·
   refine s_9 ?_
   exact rt2 (c_i (by first | (rw [if_pos o_m]) | (rw [if_neg o_m]))) (c_i (by first | (rw [if_pos o_m]) | (rw [if_neg o_m])))
 ·
  refine s_7 ?_
  refine iff' ?_ ?_ <;> intro c3
  ·
   refine s_3 ?_
   refine oq (f_c (mostR_c) rfl rfl) ?_
   refine s_10 ?_
   exact rt2 (c_i (by first | (rw [if_pos o_m]) | (rw [if_neg o_m]))) (c_i (by first | (rw [if_pos o_m]) | (rw [if_neg o_m])))
  ·
   refine s_9 ?_
   exact rt2 (c_i (by first | (rw [if_pos o_m]) | (rw [if_neg o_m]))) (c_i (by first | (rw [if_pos o_m]) | (rw [if_neg o_m])))

set_option maxRecDepth 100000 in
set_option maxHeartbeats 4000000 in
theorem SpaceR_c {V : HV} {va : Value} {vs : List Vr} {k : Int} (hv : Vrs V va vs) (ho : ∀ v ∈ vs, v.lo ≤ v.hi ∧ -1048576 ≤ v.lo ∧ v.hi ≤ 1048576) :
    FnC Tryz.prog 132 [va, (Value.int .i64 k)] V [] (fun v _ _ => v = (.int .i64 (spK vs k 1))) := by
 refine f_i Tryz.func132 ?_
 intro w0 D
 have hb := SlS.bound hv
 refine s_14 ?_
 refine lc2 [0,1] (fun (i : Int) (n : Int) => [(5, (Value.int .i64 n)), (6, (Value.int .i64 i))]) (fun i n => 0 ≤ i ∧ i ≤ vs.length ∧ 1 ≤ n ∧ n ≤ 4096 ∧ spK vs k 1 = spK (vs.drop i.toNat) k n) (fun i n => (vs.length - i).toNat) 0 1 ?_ ?_ ?_ 
 · exact ⟨rfl, rfl, trivial⟩
 · exact ⟨by omega, by omega, by omega, by omega, rfl⟩
 rintro i n e1 ⟨i1, i2, n1, n2, hy⟩
 refine s_5 ?_
 refine oq (qv_lenSS UL.out rfl hv) ?_
 refine s_2 ?_
 refine iff' ?_ ?_ <;> intro c1
 ·
  refine s_5 ?_
  have hm := ho _ (vr_in (l := vs) i1 o_m)
  have hm1 := hm.1
  have hm2 := hm.2.1
  have hm3 := hm.2.2
  refine s_3 ?_
  refine oq (qv_ias UL.out SZ.out e_vm hv rfl o_m o_m) ?_
  refine oq (qv_fas FI.out rfl hv o_m o_m) ?_
  refine oq (qv_ldf PL.out rfl hv o_m o_m o_m (vrcs_el (o := 1) o_m o_m o_m rfl)) ?_
  refine s_3 ?_
  refine iff' ?_ ?_ <;> intro c2
  ·
   refine s_7 ?_
   exact le2 (i + 1) n ⟨rfl, (c_i o_m), trivial⟩ ⟨by omega, by omega, by omega, by omega, by rw [hy, vr_drop i1 o_m, spK]; exact if_pos (by assumption)⟩
  ·
   refine s_2 ?_
   have hp : n * 1 ≤ n * ((vr vs i).hi - (vr vs i).lo + 1) := Int.mul_le_mul_of_nonneg_left o_m o_m
   have hq : n * ((vr vs i).hi - (vr vs i).lo + 1) ≤ 4096 * ((vr vs i).hi - (vr vs i).lo + 1) := Int.mul_le_mul_of_nonneg_right n2 o_m
   refine s_4 ?_
   refine qq (qv_ias UL.out SZ.out e_vm hv rfl o_m o_m) ?_
   refine qq (qv_fas FI.out rfl hv o_m o_m) ?_
   refine qq (qv_ldf PL.out rfl hv o_m o_m o_m (vrcs_el (o := 3) o_m o_m o_m rfl)) ?_
   refine s_2 ?_
   refine qq (qv_ias UL.out SZ.out e_vm hv rfl o_m o_m) ?_
   refine qq (qv_fas FI.out rfl hv o_m o_m) ?_
   refine qq (qv_ldf PL.out rfl hv o_m o_m o_m (vrcs_el (o := 2) o_m o_m o_m rfl)) ?_
   refine s_10 ?_
   refine iff' ?_ ?_ <;> intro c3
   ·
    refine s_7 ?_
    exact rt1 (c_i (by rw [hy, vr_drop i1 o_m, spK, if_neg (by assumption), if_pos (by assumption)]))
   ·
    refine s_6 ?_
    exact le2 (i + 1) ((n * ((vr vs i).hi - (vr vs i).lo + 1))) ⟨(c_i o_m), (c_i o_m), trivial⟩ ⟨by omega, by omega, by omega, by omega, by rw [hy, vr_drop i1 o_m, spK]; rw [if_neg (by assumption), if_neg (by assumption)]⟩
 ·
  refine s_8 ?_
  exact rt1 (c_i (by rw [hy, List.drop_eq_nil_of_le o_m]; rfl))

set_option maxRecDepth 100000 in
set_option maxHeartbeats 4000000 in
theorem CheckVarsR_c {V : HV} {va : Value} {vs : List Vr} (hv : Vrs V va vs) (hn : ∀ v ∈ vs, v.nm.size ≤ 9223372036854775807) :
    FnC Tryz.prog 76 [va] V [] (fun v _ _ => v = (.int .i64 (cvC vs))) := by
 refine f_i Tryz.func76 ?_
 intro w0 D
 have hb := SlS.bound hv
 refine s_10 ?_
 refine lc1 [0] (fun (i : Int) => [(3, (Value.int .i64 i))]) (fun i => 0 ≤ i ∧ i ≤ vs.length ∧ ∀ x : Int, 0 ≤ x → x < i → cvE vs x = 0) (fun i => (vs.length - i).toNat) 0 ?_ ?_ ?_ 
 · exact ⟨rfl, trivial⟩
 · exact ⟨by omega, by omega, fun x a b => by omega⟩
 rintro i e1 ⟨i1, i2, hno⟩
 refine s_5 ?_
 refine oq (qv_lenSS UL.out rfl hv) ?_
 refine s_2 ?_
 refine iff' ?_ ?_ <;> intro c1
 ·
  refine s_7 ?_
  refine oq (qv_ias UL.out SZ.out e_vm hv rfl o_m o_m) ?_
  refine oq (qv_lds AG.out rfl hv o_m o_m (vrcs_at o_m o_m)) ?_
  refine a_lo fun b1 => ?_
  refine s_7 ?_
  refine oq (f_c (isNameR_c (hn _ (vr_in i1 o_m))) rfl rfl) ?_
  refine s_2 ?_
  refine iff' ?_ ?_ <;> intro c2
  ·
   refine s_7 ?_
   exact rt1 (c_i (by have z := cv_7 (vs := vs) (i := i) (by assumption); unfold cvC; rw [fnz_hit hno o_m i1 o_m, z]; rfl))
  ·
   refine s_3 ?_
   have hnm := (Decidable.not_not.1 c2)
   refine s_4 ?_
   refine lc1 [0,3,4,9,19] (fun (j : Int) => [(5, (Value.int .i64 j))]) (fun j => 0 ≤ j ∧ j ≤ i ∧ ∀ x : Int, 0 ≤ x → x < j → ¬ (vr vs x).nm = (vr vs i).nm) (fun j => (i - j).toNat) 0 ?_ ?_ ?_ 
   · exact ⟨rfl, trivial⟩
   · exact ⟨by omega, by omega, fun x a b => by omega⟩
   rintro j e2 ⟨j1, j2, hdu⟩
   refine s_7 ?_
   refine iff' ?_ ?_ <;> intro c3
   ·
    refine s_7 ?_
    refine qq (qv_ias UL.out SZ.out e_vm hv rfl o_m o_m) ?_
    refine qq (qv_fas FI.out rfl hv o_m o_m) ?_
    refine qq (qv_ldf PL.out rfl hv o_m o_m o_m (vrcs_el (o := 0) o_m o_m o_m rfl)) ?_
    refine s_2 ?_
    refine qq (qv_eqstr rfl rfl) ?_
    refine s_1 ?_
    refine iff' ?_ ?_ <;> intro c4
    ·
     refine s_9 ?_
     exact rt1 (c_i (by have z := cv_8 (vs := vs) (i := i) hnm (j := j) j1 o_m (by assumption); unfold cvC; rw [fnz_hit hno o_m i1 o_m, z]; rfl))
    ·
     refine s_6 ?_
     exact le1 (j + 1) ⟨(c_i o_m), trivial⟩ ⟨by omega, by omega, all_snoc hdu (by assumption)⟩
   ·
    refine s_4 ?_
    refine j_n [0,3,4,5,9,19,22] [(50, (.bool (decide ((((((vr vs (i)).kd) ≠ 0) ∧ (((vr vs (i)).kd) ≠ 1)) ∧ (((vr vs (i)).kd) ≠ 2)) ∧ (((vr vs (i)).kd) ≠ 3)))))] ?_ (fun e3 => ?_)
    ·
     refine s_5 ?_
     by_cases g1 : ((vr vs (i)).kd) ≠ 0
     ·
      refine s_5 ?_
      by_cases g2 : ((vr vs (i)).kd) ≠ 1
      ·
       refine s_5 ?_
       by_cases g3 : ((vr vs (i)).kd) ≠ 2
       ·
        refine s_5 ?_
        exact j_e ⟨(jb (ja ((ja ((ja g1 Iff.rfl).1 g2) Iff.rfl).1 g3) Iff.rfl)), trivial⟩
       ·
        refine s_5 ?_
        exact j_e ⟨(jf (fun z => (fun z => g3 ((ja ((ja g1 Iff.rfl).1 g2) Iff.rfl).2 z)) z.1)), trivial⟩
      ·
       refine s_10 ?_
       exact j_e ⟨(jf (fun z => (fun z => (fun z => g2 ((ja g1 Iff.rfl).2 z)) z.1) z.1)), trivial⟩
     ·
      refine s_15 ?_
      exact j_e ⟨(jf (fun z => (fun z => (fun z => g1 z.1) z.1) z.1)), trivial⟩
    refine iff' ?_ ?_ <;> intro c5
    ·
     refine s_7 ?_
     exact rt1 (c_i (by have z := cv_1 (vs := vs) (i := i) hnm (fun x a b => hdu x a o_m) (by unfold kdBad; omega); unfold cvC; rw [fnz_hit hno o_m i1 o_m, z]; rfl))
    ·
     refine s_8 ?_
     refine oq (f_c (boundedR_c) rfl rfl) ?_
     refine s_2 ?_
     refine iff' ?_ ?_ <;> intro c6
     ·
      refine s_7 ?_
      exact rt1 (c_i (by have z := cv_3 (vs := vs) (i := i) hnm (fun x a b => hdu x a o_m) (by unfold kdBad; omega) (by first | exact .inl (by assumption) | exact .inr (by unfold iniBad; omega)); unfold cvC; rw [fnz_hit hno o_m i1 o_m, z]; rfl))
     ·
      refine s_2 ?_
      have hbd := (Decidable.not_not.1 c6)
      refine j_n [0,3,4,5,9,19,22,50,56] [(83, (.bool (decide (((((vr vs (i)).kd) = 0) ∧ ((((vr vs (i)).ini) < ((vr vs (i)).lo)) ∨ (((vr vs (i)).hi) < ((vr vs (i)).ini)))) ∨ ((((vr vs (i)).kd) ≠ 0) ∧ (((vr vs (i)).ini) ≠ 0))))))] ?_ (fun e4 => ?_)
      ·
       refine s_5 ?_
       by_cases g4 : ((vr vs (i)).kd) = 0
       ·
        refine s_6 ?_
        by_cases g5 : ((vr vs (i)).ini) < ((vr vs (i)).lo)
        ·
         refine s_18 ?_
         exact j_e ⟨(jt (.inl ⟨g4, (.inl g5)⟩)), trivial⟩
        ·
         refine s_8 ?_
         by_cases g6 : ((vr vs (i)).hi) < ((vr vs (i)).ini)
         ·
          refine s_10 ?_
          exact j_e ⟨(jt (.inl ((ja g4 (jo g5 Iff.rfl)).1 g6))), trivial⟩
         ·
          refine s_4 ?_
          by_cases g7 : ((vr vs (i)).kd) ≠ 0
          ·
           exact absurd g4 g7
          ·
           refine s_6 ?_
           exact j_e ⟨(jf (fun z => z.elim (fun z => g6 ((ja g4 (jo g5 Iff.rfl)).2 z)) (fun z => g7 z.1))), trivial⟩
       ·
        refine s_18 ?_
        by_cases g8 : ((vr vs (i)).kd) ≠ 0
        ·
         refine s_6 ?_
         exact j_e ⟨(jb (jo (fun z => g4 z.1) (ja g8 Iff.rfl))), trivial⟩
        ·
         exact absurd g4 g8
      refine iff' ?_ ?_ <;> intro c7
      ·
       refine s_7 ?_
       exact rt1 (c_i (by have z := cv_3 (vs := vs) (i := i) hnm (fun x a b => hdu x a o_m) (by unfold kdBad; omega) (by first | exact .inl (by assumption) | exact .inr (by unfold iniBad; omega)); unfold cvC; rw [fnz_hit hno o_m i1 o_m, z]; rfl))
      ·
       refine s_1 ?_
       refine v_d 0 ?_
       refine s_5 ?_
       exact le1 (i + 1) ⟨(c_i o_m), trivial⟩ ⟨by omega, by omega, all_snoc hno (cv_0.2 ⟨hnm, fun x a b => hdu x a o_m, by unfold kdBad; omega, hbd, by unfold iniBad; omega⟩)⟩
 ·
  refine s_4 ?_
  have hz : fnz (cvE vs) vs.length = 0 := fnz_all fun x a b => hno x a o_m
  have hor : ∀ v ∈ vs, v.lo ≤ v.hi ∧ -1048576 ≤ v.lo ∧ v.hi ≤ 1048576 := fun v q => by obtain ⟨x, a, b, rfl⟩ := vr_mem q; exact (cv_0.1 (hno x a o_m)).2.2.2.1
  refine j_n [0,3,9] [(96, (.bool (decide (((4096 < (spK vs 1 1)) ∨ (4096 < (spK vs 2 1))) ∨ (256 < (spK vs 3 1))))))] ?_ (fun e5 => ?_)
  ·
   refine s_2 ?_
   refine oq (f_c (SpaceR_c hv hor) rfl rfl) ?_
   refine s_2 ?_
   by_cases g9 : 4096 < (spK vs 1 1)
   ·
    refine s_10 ?_
    exact j_e ⟨(jt (.inl (.inl g9))), trivial⟩
   ·
    refine s_1 ?_
    refine og (f_c (SpaceR_c hv hor) rfl rfl) w_a ?_
    refine s_3 ?_
    by_cases g10 : 4096 < (spK vs 2 1)
    ·
     refine s_5 ?_
     exact j_e ⟨(jt (.inl ((jo g9 Iff.rfl).1 g10))), trivial⟩
    ·
     refine s_1 ?_
     refine og (f_c (SpaceR_c hv hor) rfl rfl) w_a ?_
     refine s_3 ?_
     exact j_e ⟨(jb (jo (fun z => g10 ((jo g9 Iff.rfl).2 z)) Iff.rfl)), trivial⟩
  refine iff' ?_ ?_ <;> intro c8
  ·
   refine s_5 ?_
   exact rt1 (c_i (by unfold cvC; rw [if_neg (fun q => q hz), if_pos o_m]))
  ·
   refine s_6 ?_
   exact rt1 (c_i (by unfold cvC; rw [if_neg (fun q => q hz), if_neg o_m]))

set_option maxRecDepth 100000 in
set_option maxHeartbeats 4000000 in
theorem kidsR_c {V : HV} {o : Int} :
    FnC Tryz.prog 170 [(Value.int .i64 o)] V [] (fun v _ _ => v = (.int .i64 (knR o))) := by
 refine f_i Tryz.func170 ?_
 intro w0 D
 refine s_16 ?_
 refine iff' ?_ ?_ <;> intro c1
 ·
  refine s_1 ?_
  refine i_ft c1 ?_
  refine s_6 ?_
  exact rt1 (c_i (by unfold knR; (repeat' split) <;> omega))
 ·
  refine s_4 ?_
  refine iff' ?_ ?_ <;> intro c2
  ·
   refine s_6 ?_
   exact rt1 (c_i (by unfold knR; (repeat' split) <;> omega))
  ·
   refine s_6 ?_
   refine iff' ?_ ?_ <;> intro c3
   ·
    refine s_1 ?_
    refine i_ft c3 ?_
    refine s_6 ?_
    exact rt1 (c_i (by unfold knR; (repeat' split) <;> omega))
   ·
    refine s_4 ?_
    refine iff' ?_ ?_ <;> intro c4
    ·
     refine s_6 ?_
     exact rt1 (c_i (by unfold knR; (repeat' split) <;> omega))
    ·
     refine s_6 ?_
     refine iff' ?_ ?_ <;> intro c5
     ·
      refine s_1 ?_
      refine i_ft c5 ?_
      refine s_6 ?_
      exact rt1 (c_i (by unfold knR; (repeat' split) <;> omega))
     ·
      refine s_5 ?_
      refine iff' ?_ ?_ <;> intro c6
      ·
       refine s_1 ?_
       refine i_ft c6 ?_
       refine s_6 ?_
       exact rt1 (c_i (by unfold knR; (repeat' split) <;> omega))
      ·
       refine s_5 ?_
       refine iff' ?_ ?_ <;> intro c7
       ·
        refine s_1 ?_
        refine i_ft c7 ?_
        refine s_6 ?_
        exact rt1 (c_i (by unfold knR; (repeat' split) <;> omega))
       ·
        refine s_5 ?_
        refine iff' ?_ ?_ <;> intro c8
        ·
         refine s_1 ?_
         refine i_ft c8 ?_
         refine s_6 ?_
         exact rt1 (c_i (by unfold knR; (repeat' split) <;> omega))
        ·
         refine s_5 ?_
         refine iff' ?_ ?_ <;> intro c9
         ·
          refine s_1 ?_
          refine i_ft c9 ?_
          refine s_6 ?_
          exact rt1 (c_i (by unfold knR; (repeat' split) <;> omega))
         ·
          refine s_5 ?_
          refine iff' ?_ ?_ <;> intro c10
          ·
           refine s_1 ?_
           refine i_ft c10 ?_
           refine s_6 ?_
           exact rt1 (c_i (by unfold knR; (repeat' split) <;> omega))
          ·
           refine s_5 ?_
           refine iff' ?_ ?_ <;> intro c11
           ·
            refine s_1 ?_
            refine i_ft c11 ?_
            refine s_6 ?_
            exact rt1 (c_i (by unfold knR; (repeat' split) <;> omega))
           ·
            refine s_5 ?_
            refine iff' ?_ ?_ <;> intro c12
            ·
             refine s_1 ?_
             refine i_ft c12 ?_
             refine s_6 ?_
             exact rt1 (c_i (by unfold knR; (repeat' split) <;> omega))
            ·
             refine s_5 ?_
             refine iff' ?_ ?_ <;> intro c13
             ·
              refine s_1 ?_
              refine i_ft c13 ?_
              refine s_6 ?_
              exact rt1 (c_i (by unfold knR; (repeat' split) <;> omega))
             ·
              refine s_5 ?_
              refine iff' ?_ ?_ <;> intro c14
              ·
               refine s_1 ?_
               refine i_ft c14 ?_
               refine s_6 ?_
               exact rt1 (c_i (by unfold knR; (repeat' split) <;> omega))
              ·
               refine s_5 ?_
               refine iff' ?_ ?_ <;> intro c15
               ·
                refine s_1 ?_
                refine i_ft c15 ?_
                refine s_6 ?_
                exact rt1 (c_i (by unfold knR; (repeat' split) <;> omega))
               ·
                refine s_5 ?_
                refine iff' ?_ ?_ <;> intro c16
                ·
                 refine s_1 ?_
                 refine i_ft c16 ?_
                 refine s_6 ?_
                 exact rt1 (c_i (by unfold knR; (repeat' split) <;> omega))
                ·
                 refine s_5 ?_
                 refine iff' ?_ ?_ <;> intro c17
                 ·
                  refine s_1 ?_
                  refine i_ft c17 ?_
                  refine s_6 ?_
                  exact rt1 (c_i (by unfold knR; (repeat' split) <;> omega))
                 ·
                  refine s_5 ?_
                  refine iff' ?_ ?_ <;> intro c18
                  ·
                   refine s_1 ?_
                   refine i_ft c18 ?_
                   refine s_6 ?_
                   exact rt1 (c_i (by unfold knR; (repeat' split) <;> omega))
                  ·
                   refine s_4 ?_
                   refine iff' ?_ ?_ <;> intro c19
                   ·
                    refine s_6 ?_
                    exact rt1 (c_i (by unfold knR; (repeat' split) <;> omega))
                   ·
                    refine s_5 ?_
                    refine iff' ?_ ?_ <;> intro c20
                    ·
                     refine s_6 ?_
                     exact rt1 (c_i (by unfold knR; (repeat' split) <;> omega))
                    ·
                     refine s_5 ?_
                     refine iff' ?_ ?_ <;> intro c21
                     ·
                      refine s_6 ?_
                      exact rt1 (c_i (by unfold knR; (repeat' split) <;> omega))
                     ·
                      refine s_6 ?_
                      exact rt1 (c_i (by unfold knR; (repeat' split) <;> omega))

/-- What the function does, for arguments of a size below k. -/
def FMC (k : Nat) : Prop := ∀ (V : HV) (t : Tm) (ks va : Value) (vs : List Vr) (inp : Bool), Tms V ks t.kids → Vrs V va vs → t.sz < k → FnC Tryz.prog 133 [va, .agg #[.int .i64 t.op, .int .i64 t.n, ks], .bool (decide (inp = true))] V [] (fun v _ _ => v = .bool (@decide (fmd vs inp t) (Classical.propDecidable _)))

set_option maxRecDepth 100000 in
set_option maxHeartbeats 4000000 in
theorem formedR_step {V : HV} {t : Tm} {ks : Value} {va : Value} {vs : List Vr} {inp : Bool} {k : Nat} (IH : FMC k) (hT : Tms V ks t.kids) (hv : Vrs V va vs) (hk : t.sz < (k + 1 : Nat)) :
    FnC Tryz.prog 133 [va, (.agg #[(.int .i64 t.op), (.int .i64 t.n), ks]), (.bool (decide (inp = true)))] V [] (fun v _ _ => v = (.bool (decide (fmd vs inp t)))) := by
 refine f_i Tryz.func133 ?_
 intro w0 D
 obtain ⟨kvs, hS, hK⟩ := hT
 have hb := SlS.bound hS
 have hb2 := SlS.bound hv
 have hsk := sz_kids t
 refine s_2 ?_
 refine b_ox fun b1 => ?_
 refine s_6 ?_
 refine oq (f_c (kidsR_c) rfl rfl) ?_
 refine s_4 ?_
 refine j_n [0,1,2,4,6] [(40, (.bool (decide ((((knR t.op) = ((-1))) ∨ ((0 ≤ (knR t.op)) ∧ (((t.kids.length : Int)) ≠ (knR t.op)))) ∨ (((knR t.op) = ((-2))) ∧ ((((t.kids.length : Int)) < 2) ∨ (33 < ((t.kids.length : Int)))))))))] ?_ (fun e1 => ?_)
 ·
  refine s_4 ?_
  by_cases g1 : (knR t.op) = ((-1))
  ·
   refine s_27 ?_
   exact j_e ⟨(jt (.inl (.inl g1))), trivial⟩
  ·
   refine s_3 ?_
   by_cases g2 : 0 ≤ (knR t.op)
   ·
    refine s_2 ?_
    refine og (qv_lenSS UL.out rfl hS) w_a ?_
    refine s_5 ?_
    by_cases g3 : ((t.kids.length : Int)) ≠ (knR t.op)
    ·
     refine s_16 ?_
     exact j_e ⟨(jt (.inl ((jo g1 (ja g2 Iff.rfl)).1 g3))), trivial⟩
    ·
     refine s_3 ?_
     by_cases g4 : (knR t.op) = ((-2))
     ·
      refine s_2 ?_
      refine og (qv_lenSS UL.out rfl hS) w_a ?_
      refine s_2 ?_
      by_cases g5 : ((t.kids.length : Int)) < 2
      ·
       refine s_8 ?_
       exact j_e ⟨(jt (.inr ⟨g4, (.inl g5)⟩)), trivial⟩
      ·
       refine s_2 ?_
       refine og (qv_lenSS UL.out rfl hS) w_a ?_
       refine s_5 ?_
       exact j_e ⟨(jb (jo (fun z => g3 ((jo g1 (ja g2 Iff.rfl)).2 z)) (ja g4 (jo g5 Iff.rfl)))), trivial⟩
     ·
      refine s_13 ?_
      exact j_e ⟨(jf (fun z => z.elim (fun z => g3 ((jo g1 (ja g2 Iff.rfl)).2 z)) (fun z => g4 z.1))), trivial⟩
   ·
    refine s_11 ?_
    by_cases g6 : (knR t.op) = ((-2))
    ·
     refine s_2 ?_
     refine og (qv_lenSS UL.out rfl hS) w_a ?_
     refine s_2 ?_
     by_cases g7 : ((t.kids.length : Int)) < 2
     ·
      refine s_8 ?_
      exact j_e ⟨(jt (.inr ⟨g6, (.inl g7)⟩)), trivial⟩
     ·
      refine s_2 ?_
      refine og (qv_lenSS UL.out rfl hS) w_a ?_
      refine s_5 ?_
      exact j_e ⟨(jb (jo (fun z => z.elim g1 (fun z => g2 z.1)) (ja g6 (jo g7 Iff.rfl)))), trivial⟩
    ·
     refine s_13 ?_
     exact j_e ⟨(jf (fun z => z.elim (fun z => z.elim g1 (fun z => g2 z.1)) (fun z => g6 z.1))), trivial⟩
 refine iff' ?_ ?_ <;> intro c1
 ·
  refine s_5 ?_
  exact rt1 (jf (by intro q; have z := (fmd_eq t).1 q; first | exact absurd (fmdL_iff.1 z.2.2 i i1 o_m) (by assumption) | exact z.2.1 (.inl ⟨by assumption, by assumption⟩) | exact z.2.1 (.inr ⟨by assumption, by assumption⟩) | exact z.1 (by unfold kBad; omega)))
 ·
  refine s_3 ?_
  have hkb : ¬ kBad t.op t.kids.length := by unfold kBad; omega
  refine s_5 ?_
  refine iff' ?_ ?_ <;> intro c2
  ·
   refine s_1 ?_
   refine j_n [0,1,2,4,6,40,43] [(65, (.bool (decide (((t.n < 0) ∨ (((vs.length : Int)) ≤ t.n)) ∨ ((inp = true) ∧ (((vr vs (t.n)).kd) = 0))))))] ?_ (fun e2 => ?_)
   ·
    refine s_5 ?_
    by_cases g8 : t.n < 0
    ·
     refine s_19 ?_
     exact j_e ⟨(jt (.inl (.inl g8))), trivial⟩
    ·
     refine s_3 ?_
     refine og (qv_lenSS UL.out rfl hv) w_a ?_
     refine s_3 ?_
     by_cases g9 : ((vs.length : Int)) ≤ t.n
     ·
      refine s_12 ?_
      exact j_e ⟨(jt (.inl ((jo g8 Iff.rfl).1 g9))), trivial⟩
     ·
      refine s_2 ?_
      by_cases g10 : inp = true
      ·
       refine s_3 ?_
       refine og (qv_ias UL.out SZ.out e_vm hv rfl o_m o_m) w_a ?_
       refine og (qv_fas FI.out rfl hv o_m o_m) w_a ?_
       refine og (qv_ldf PL.out rfl hv o_m o_m o_m (vrcs_el (o := 1) o_m o_m o_m rfl)) w_a ?_
       refine s_4 ?_
       exact j_e ⟨(jb (jo (fun z => g9 ((jo g8 Iff.rfl).2 z)) (ja g10 Iff.rfl))), trivial⟩
      ·
       refine s_10 ?_
       exact j_e ⟨(jf (fun z => z.elim (fun z => g9 ((jo g8 Iff.rfl).2 z)) (fun z => g10 z.1))), trivial⟩
   refine iff' ?_ ?_ <;> intro c3
   ·
    refine s_5 ?_
    exact rt1 (jf (by intro q; have z := (fmd_eq t).1 q; first | exact absurd (fmdL_iff.1 z.2.2 i i1 o_m) (by assumption) | exact z.2.1 (.inl ⟨by assumption, by assumption⟩) | exact z.2.1 (.inr ⟨by assumption, by assumption⟩) | exact z.1 (by unfold kBad; omega)))
   ·
    refine s_3 ?_
    have hnb : ¬ nBad vs inp t.op t.n := by intro q; rcases q with ⟨q1, q2⟩ | ⟨q1, q2⟩ <;> first | exact absurd q2 (by assumption) | exact q1 (by assumption) | exact absurd q1 (by assumption)
    refine s_4 ?_
    refine lc1 [0,1,2,4,40,43,65] (fun (i : Int) => [(8, (Value.int .i64 i))]) (fun i => 0 ≤ i ∧ i ≤ t.kids.length ∧ ∀ x : Int, 0 ≤ x → x < i → fmd vs inp (tm t.kids x)) (fun i => (t.kids.length - i).toNat) 0 ?_ ?_ ?_ 
    · exact ⟨rfl, trivial⟩
    · exact ⟨by omega, by omega, fun x a b => by omega⟩
    rintro i e3 ⟨i1, i2, hno⟩
    refine s_6 ?_
    refine oq (qv_lenSS UL.out rfl hS) ?_
    refine s_2 ?_
    refine iff' ?_ ?_ <;> intro c4
    ·
     refine s_4 ?_
     have hsz := szL_at (l := t.kids) i1 o_m
     have hsn := szL_nn (t.kids.take i.toNat)
     refine s_5 ?_
     refine oq (qv_ias UL.out SZ.out e_vm hS rfl o_m o_m) ?_
     refine oq (qv_lds AG.out rfl hS o_m o_m (tmcs_at o_m o_m)) ?_
     refine s_1 ?_
     refine oq (f_c (IH _ _ _ _ _ _ (hK i i1 o_m) hv o_m) rfl rfl) ?_
     refine s_2 ?_
     refine iff' ?_ ?_ <;> intro c5
     ·
      refine s_7 ?_
      exact rt1 (jf (by intro q; have z := (fmd_eq t).1 q; first | exact absurd (fmdL_iff.1 z.2.2 i i1 o_m) (by assumption) | exact z.2.1 (.inl ⟨by assumption, by assumption⟩) | exact z.2.1 (.inr ⟨by assumption, by assumption⟩) | exact z.1 (by unfold kBad; omega)))
     ·
      refine s_6 ?_
      exact le1 (i + 1) ⟨(c_i o_m), trivial⟩ ⟨by omega, by omega, all_snoc hno (Classical.not_not.1 (by assumption))⟩
    ·
     refine s_7 ?_
     exact rt1 (jt (by exact (fmd_eq t).2 ⟨hkb, hnb, fmdL_iff.2 fun x a b => hno x a o_m⟩))
  ·
   refine s_1 ?_
   refine j_n [0,1,2,4,6,40,43] [(73, (.bool (decide ((t.op ≠ 0) ∧ (t.n ≠ 0)))))] ?_ (fun e4 => ?_)
   ·
    refine s_5 ?_
    by_cases g11 : t.op ≠ 0
    ·
     refine s_5 ?_
     exact j_e ⟨(jb (ja g11 Iff.rfl)), trivial⟩
    ·
     refine s_5 ?_
     exact j_e ⟨(jf (fun z => g11 z.1)), trivial⟩
   refine iff' ?_ ?_ <;> intro c6
   ·
    refine s_5 ?_
    exact rt1 (jf (by intro q; have z := (fmd_eq t).1 q; first | exact absurd (fmdL_iff.1 z.2.2 i i1 o_m) (by assumption) | exact z.2.1 (.inl ⟨by assumption, by assumption⟩) | exact z.2.1 (.inr ⟨by assumption, by assumption⟩) | exact z.1 (by unfold kBad; omega)))
   ·
    refine s_3 ?_
    have hnb : ¬ nBad vs inp t.op t.n := by intro q; rcases q with ⟨q1, q2⟩ | ⟨q1, q2⟩ <;> first | exact absurd q2 (by assumption) | exact q1 (by assumption) | exact absurd q1 (by assumption)
    refine s_4 ?_
    refine lc1 [0,1,2,4,40,43,73] (fun (i : Int) => [(8, (Value.int .i64 i))]) (fun i => 0 ≤ i ∧ i ≤ t.kids.length ∧ ∀ x : Int, 0 ≤ x → x < i → fmd vs inp (tm t.kids x)) (fun i => (t.kids.length - i).toNat) 0 ?_ ?_ ?_ 
    · exact ⟨rfl, trivial⟩
    · exact ⟨by omega, by omega, fun x a b => by omega⟩
    rintro i e5 ⟨i1, i2, hno⟩
    refine s_6 ?_
    refine oq (qv_lenSS UL.out rfl hS) ?_
    refine s_2 ?_
    refine iff' ?_ ?_ <;> intro c7
    ·
     refine s_4 ?_
     have hsz := szL_at (l := t.kids) i1 o_m
     have hsn := szL_nn (t.kids.take i.toNat)
     refine s_5 ?_
     refine oq (qv_ias UL.out SZ.out e_vm hS rfl o_m o_m) ?_
     refine oq (qv_lds AG.out rfl hS o_m o_m (tmcs_at o_m o_m)) ?_
     refine s_1 ?_
     refine oq (f_c (IH _ _ _ _ _ _ (hK i i1 o_m) hv o_m) rfl rfl) ?_
     refine s_2 ?_
     refine iff' ?_ ?_ <;> intro c8
     ·
      refine s_7 ?_
      exact rt1 (jf (by intro q; have z := (fmd_eq t).1 q; first | exact absurd (fmdL_iff.1 z.2.2 i i1 o_m) (by assumption) | exact z.2.1 (.inl ⟨by assumption, by assumption⟩) | exact z.2.1 (.inr ⟨by assumption, by assumption⟩) | exact z.1 (by unfold kBad; omega)))
     ·
      refine s_6 ?_
      exact le1 (i + 1) ⟨(c_i o_m), trivial⟩ ⟨by omega, by omega, all_snoc hno (Classical.not_not.1 (by assumption))⟩
    ·
     refine s_7 ?_
     exact rt1 (jt (by exact (fmd_eq t).2 ⟨hkb, hnb, fmdL_iff.2 fun x a b => hno x a o_m⟩))

theorem formedR_c : ∀ k, FMC k
  | 0 => fun _ t _ _ _ _ _ _ h => absurd h (by have := t.sz_pos; omega)
  | k + 1 => fun V t ks va vs inp hT hv hk => formedR_step (formedR_c k) hT hv hk
end Go.Proofs.YtbchkopkgpfkgaaGreatDoor

namespace Go.Proofs.YtbchkopkgpfkgaaGreatDoor
open Go.Vc
open Classical

set_option maxRecDepth 100000 in
set_option maxHeartbeats 4000000 in
theorem spanR_c {V : HV} {t : Tm} {ks : Value} {va lo hi : Value} {vs : List Vr} {K : List Pr2} {inp : Bool} (hv : Vrs V va vs) (hlo : Ints .i64 V lo (K.map Prod.fst)) (hhi : Ints .i64 V hi (K.map Prod.snd)) (hg : ∀ j : Int, gdR (pg K j)) (hkb : ¬ kBad t.op K.length) (hnb : ¬ nBad vs inp t.op t.n) (hT : Tms V ks t.kids) :
    FnC Tryz.prog 171 [va, (.agg #[(.int .i64 t.op), (.int .i64 t.n), ks]), lo, hi] V [] (fun v _ _ => v = .tuple #[(.int .i64 ((rul vs t.op t.n K).1)), (.int .i64 ((rul vs t.op t.n K).2))]) := by
 refine f_i Tryz.func171 ?_
 intro w0 D
 obtain ⟨kvs, hS, hK⟩ := hT
 have hb2 := SlS.bound hv
 have hb3 : K.length ≤ 9223372036854775807 := by have q := hlo.bound; rwa [List.length_map] at q
 have hl1 : (K.map Prod.fst).length = K.length := List.length_map ..
 have hl2 : (K.map Prod.snd).length = K.length := List.length_map ..
 refine s_2 ?_
 refine b_ox fun b1 => ?_
 refine s_15 ?_
 refine iff' ?_ ?_ <;> intro c1
 ·
  refine s_2 ?_
  refine j_n [0,1,2,3,5,8,9,19,20] [(29, (.bool (decide ((t.n < ((-1048576))) ∨ (1048576 < t.n)))))] ?_ (fun e1 => ?_)
  ·
   refine s_5 ?_
   by_cases g1 : t.n < ((-1048576))
   ·
    refine s_5 ?_
    exact j_e ⟨(jt (.inl g1)), trivial⟩
   ·
    refine s_5 ?_
    exact j_e ⟨(jb (jo g1 Iff.rfl)), trivial⟩
  refine iff' ?_ ?_ <;> intro c2
  ·
   refine s_7 ?_
   exact rt2 (c_i (by rw [c1]; first | rw [rul_0a o_m] | rw [rul_0b o_m])) (c_i (by rw [c1]; first | rw [rul_0a o_m] | rw [rul_0b o_m]))
  ·
   refine s_12 ?_
   exact rt2 (c_i (by rw [c1]; first | rw [rul_0a o_m] | rw [rul_0b o_m])) (c_i (by rw [c1]; first | rw [rul_0a o_m] | rw [rul_0b o_m]))
 ·
  refine s_5 ?_
  refine iff' ?_ ?_ <;> intro c3
  ·
   refine s_1 ?_
   have hnv : 0 ≤ t.n ∧ t.n < (vs.length : Int) := Classical.byContradiction fun q => hnb (.inl ⟨by assumption, .inl o_m⟩)
   refine s_4 ?_
   refine qq (qv_ias UL.out SZ.out e_vm hv rfl o_m o_m) ?_
   refine qq (qv_fas FI.out rfl hv o_m o_m) ?_
   refine qq (qv_ldf PL.out rfl hv o_m o_m o_m (vrcs_el (o := 2) o_m o_m o_m rfl)) ?_
   refine s_3 ?_
   refine qq (qv_ias UL.out SZ.out e_vm hv rfl o_m o_m) ?_
   refine qq (qv_fas FI.out rfl hv o_m o_m) ?_
   refine qq (qv_ldf PL.out rfl hv o_m o_m o_m (vrcs_el (o := 3) o_m o_m o_m rfl)) ?_
   refine s_5 ?_
   exact rt2 (c_i (by rw [c3]; rfl)) (c_i (by rw [c3]; rfl))
  ·
   refine s_5 ?_
   refine iff' ?_ ?_ <;> intro c4
   ·
    refine s_1 ?_
    have hln := kb1 hkb o_m
    have hg0 := hg 0
    have hg1 := hg 1
    obtain ⟨ga1, ga2, ga3⟩ := hg0
    obtain ⟨gb1, gb2, gb3⟩ := hg1
    have hp0 := pg_map (k := K) (i := 0) o_m o_m
    refine s_2 ?_
    refine qq (qv_iai UL.out SZ.out e_vm (inVi hhi) rfl o_m o_m) ?_
    refine qq (qv_ldi PL.out rfl (inVi hhi) o_m o_m) ?_
    refine qq (qv_neg rfl o_m) ?_
    refine s_1 ?_
    refine qq (qv_iai UL.out SZ.out e_vm (inVi hlo) rfl o_m o_m) ?_
    refine qq (qv_ldi PL.out rfl (inVi hlo) o_m o_m) ?_
    refine qq (qv_neg rfl o_m) ?_
    refine s_5 ?_
    exact rt2 (c_i (by rw [c4]; simp only [hp0.1, hp0.2]; rfl)) (c_i (by rw [c4]; simp only [hp0.1, hp0.2]; rfl))
   ·
    refine s_5 ?_
    refine iff' ?_ ?_ <;> intro c5
    ·
     refine s_1 ?_
     have hln := kb2 hkb o_m
     have hg0 := hg 0
     have hg1 := hg 1
     obtain ⟨ga1, ga2, ga3⟩ := hg0
     obtain ⟨gb1, gb2, gb3⟩ := hg1
     have hp0 := pg_map (k := K) (i := 0) o_m o_m
     have hp1 := pg_map (k := K) (i := 1) o_m o_m
     refine s_2 ?_
     refine qq (qv_iai UL.out SZ.out e_vm (inVi hlo) rfl o_m o_m) ?_
     refine qq (qv_ldi PL.out rfl (inVi hlo) o_m o_m) ?_
     refine s_1 ?_
     refine qq (qv_iai UL.out SZ.out e_vm (inVi hlo) rfl o_m o_m) ?_
     refine qq (qv_ldi PL.out rfl (inVi hlo) o_m o_m) ?_
     refine s_2 ?_
     refine qq (qv_iai UL.out SZ.out e_vm (inVi hhi) rfl o_m o_m) ?_
     refine qq (qv_ldi PL.out rfl (inVi hhi) o_m o_m) ?_
     refine s_1 ?_
     refine qq (qv_iai UL.out SZ.out e_vm (inVi hhi) rfl o_m o_m) ?_
     refine qq (qv_ldi PL.out rfl (inVi hhi) o_m o_m) ?_
     refine s_6 ?_
     exact rt2 (c_i (by rw [c5]; simp only [hp0.1, hp0.2, hp1.1, hp1.2]; rfl)) (c_i (by rw [c5]; simp only [hp0.1, hp0.2, hp1.1, hp1.2]; rfl))
    ·
     refine s_5 ?_
     refine iff' ?_ ?_ <;> intro c6
     ·
      refine s_1 ?_
      have hln := kb2 hkb o_m
      have hg0 := hg 0
      have hg1 := hg 1
      obtain ⟨ga1, ga2, ga3⟩ := hg0
      obtain ⟨gb1, gb2, gb3⟩ := hg1
      have hp0 := pg_map (k := K) (i := 0) o_m o_m
      have hp1 := pg_map (k := K) (i := 1) o_m o_m
      refine s_2 ?_
      refine qq (qv_iai UL.out SZ.out e_vm (inVi hlo) rfl o_m o_m) ?_
      refine qq (qv_ldi PL.out rfl (inVi hlo) o_m o_m) ?_
      refine s_1 ?_
      refine qq (qv_iai UL.out SZ.out e_vm (inVi hhi) rfl o_m o_m) ?_
      refine qq (qv_ldi PL.out rfl (inVi hhi) o_m o_m) ?_
      refine s_2 ?_
      refine qq (qv_iai UL.out SZ.out e_vm (inVi hhi) rfl o_m o_m) ?_
      refine qq (qv_ldi PL.out rfl (inVi hhi) o_m o_m) ?_
      refine s_1 ?_
      refine qq (qv_iai UL.out SZ.out e_vm (inVi hlo) rfl o_m o_m) ?_
      refine qq (qv_ldi PL.out rfl (inVi hlo) o_m o_m) ?_
      refine s_6 ?_
      exact rt2 (c_i (by rw [c6]; simp only [hp0.1, hp0.2, hp1.1, hp1.2]; rfl)) (c_i (by rw [c6]; simp only [hp0.1, hp0.2, hp1.1, hp1.2]; rfl))
     ·
      refine s_5 ?_
      refine iff' ?_ ?_ <;> intro c7
      ·
       refine s_1 ?_
       have hln := kb2 hkb o_m
       have hg0 := hg 0
       have hg1 := hg 1
       obtain ⟨ga1, ga2, ga3⟩ := hg0
       obtain ⟨gb1, gb2, gb3⟩ := hg1
       have hp0 := pg_map (k := K) (i := 0) o_m o_m
       have hp1 := pg_map (k := K) (i := 1) o_m o_m
       have m1 := mul20 (a := gi (K.map Prod.fst) 0) (b := gi (K.map Prod.fst) 1) o_m o_m o_m o_m
       have m2 := mul20 (a := gi (K.map Prod.fst) 0) (b := gi (K.map Prod.snd) 1) o_m o_m o_m o_m
       have m3 := mul20 (a := gi (K.map Prod.snd) 0) (b := gi (K.map Prod.fst) 1) o_m o_m o_m o_m
       have m4 := mul20 (a := gi (K.map Prod.snd) 0) (b := gi (K.map Prod.snd) 1) o_m o_m o_m o_m
       refine s_2 ?_
       refine qq (qv_iai UL.out SZ.out e_vm (inVi hlo) rfl o_m o_m) ?_
       refine qq (qv_ldi PL.out rfl (inVi hlo) o_m o_m) ?_
       refine s_1 ?_
       refine qq (qv_iai UL.out SZ.out e_vm (inVi hlo) rfl o_m o_m) ?_
       refine qq (qv_ldi PL.out rfl (inVi hlo) o_m o_m) ?_
       refine s_2 ?_
       refine qq (qv_iai UL.out SZ.out e_vm (inVi hlo) rfl o_m o_m) ?_
       refine qq (qv_ldi PL.out rfl (inVi hlo) o_m o_m) ?_
       refine s_1 ?_
       refine qq (qv_iai UL.out SZ.out e_vm (inVi hhi) rfl o_m o_m) ?_
       refine qq (qv_ldi PL.out rfl (inVi hhi) o_m o_m) ?_
       refine s_2 ?_
       refine qq (qv_iai UL.out SZ.out e_vm (inVi hhi) rfl o_m o_m) ?_
       refine qq (qv_ldi PL.out rfl (inVi hhi) o_m o_m) ?_
       refine s_1 ?_
       refine qq (qv_iai UL.out SZ.out e_vm (inVi hlo) rfl o_m o_m) ?_
       refine qq (qv_ldi PL.out rfl (inVi hlo) o_m o_m) ?_
       refine s_2 ?_
       refine qq (qv_iai UL.out SZ.out e_vm (inVi hhi) rfl o_m o_m) ?_
       refine qq (qv_ldi PL.out rfl (inVi hhi) o_m o_m) ?_
       refine s_1 ?_
       refine qq (qv_iai UL.out SZ.out e_vm (inVi hhi) rfl o_m o_m) ?_
       refine qq (qv_ldi PL.out rfl (inVi hhi) o_m o_m) ?_
       refine s_10 ?_
       refine oq (f_c (leastR_c) rfl rfl) ?_
       refine s_2 ?_
       refine oq (f_c (leastR_c) rfl rfl) ?_
       refine oq (f_c (leastR_c) rfl rfl) ?_
       refine s_2 ?_
       refine oq (f_c (mostR_c) rfl rfl) ?_
       refine s_2 ?_
       refine oq (f_c (mostR_c) rfl rfl) ?_
       refine oq (f_c (mostR_c) rfl rfl) ?_
       refine s_5 ?_
       exact rt2 (c_i (by rw [c7]; simp only [hp0.1, hp0.2, hp1.1, hp1.2]; rfl)) (c_i (by rw [c7]; simp only [hp0.1, hp0.2, hp1.1, hp1.2]; rfl))
      ·
       refine s_5 ?_
       refine iff' ?_ ?_ <;> intro c8
       ·
        refine s_1 ?_
        have hln := kb2 hkb o_m
        have hg0 := hg 0
        have hg1 := hg 1
        obtain ⟨ga1, ga2, ga3⟩ := hg0
        obtain ⟨gb1, gb2, gb3⟩ := hg1
        have hp0 := pg_map (k := K) (i := 0) o_m o_m
        have hp1 := pg_map (k := K) (i := 1) o_m o_m
        refine s_2 ?_
        refine qq (qv_iai UL.out SZ.out e_vm (inVi hlo) rfl o_m o_m) ?_
        refine qq (qv_ldi PL.out rfl (inVi hlo) o_m o_m) ?_
        refine qq (f_c (sizeR_c o_m) rfl rfl) ?_
        refine s_1 ?_
        refine qq (qv_iai UL.out SZ.out e_vm (inVi hhi) rfl o_m o_m) ?_
        refine qq (qv_ldi PL.out rfl (inVi hhi) o_m o_m) ?_
        refine qq (f_c (sizeR_c o_m) rfl rfl) ?_
        refine qq (f_c (mostR_c) rfl rfl) ?_
        refine s_4 ?_
        refine j_n [0,1,2,3,5,8,9,14,19,20,34,48,58,74,90,134] [(154, (.bool (decide ((0 ≤ (gi ((K.map Prod.fst)) (0))) ∧ (0 ≤ (gi ((K.map Prod.fst)) (1)))))))] ?_ (fun e2 => ?_)
        ·
         refine s_2 ?_
         refine oq (qv_iai UL.out SZ.out e_vm (inVi hlo) rfl o_m o_m) ?_
         refine oq (qv_ldi PL.out rfl (inVi hlo) o_m o_m) ?_
         refine s_2 ?_
         by_cases g2 : 0 ≤ (gi ((K.map Prod.fst)) (0))
         ·
          refine s_1 ?_
          refine og (qv_iai UL.out SZ.out e_vm (inVi hlo) rfl o_m o_m) w_a ?_
          refine og (qv_ldi PL.out rfl (inVi hlo) o_m o_m) w_a ?_
          refine s_3 ?_
          exact j_e ⟨(jb (ja g2 Iff.rfl)), trivial⟩
         ·
          refine s_6 ?_
          exact j_e ⟨(jf (fun z => g2 z.1)), trivial⟩
        refine iff' ?_ ?_ <;> intro c9
        ·
         refine s_8 ?_
         exact rt2 (c_i (by rw [c8]; first | rw [rul_11a (by rw [← hp0.1, ← hp1.1]; assumption)] | rw [rul_11b (by rw [← hp0.1, ← hp1.1]; assumption)])) (c_i (by rw [c8]; simp only [hp0.1, hp0.2]; first | rw [rul_11a (by rw [← hp0.1, ← hp1.1]; assumption)] | rw [rul_11b (by rw [← hp0.1, ← hp1.1]; assumption)]))
        ·
         refine s_2 ?_
         have hmx := mx4_bd (a := gi (K.map Prod.fst) 0) (b := gi (K.map Prod.snd) 0) o_m o_m o_m
         refine s_2 ?_
         refine oq (qv_neg rfl o_m) ?_
         refine s_6 ?_
         exact rt2 (c_i (by rw [c8]; simp only [hp0.1, hp0.2]; first | rw [rul_11a (by rw [← hp0.1, ← hp1.1]; assumption)] | rw [rul_11b (by rw [← hp0.1, ← hp1.1]; assumption)])) (c_i (by rw [c8]; simp only [hp0.1, hp0.2]; first | rw [rul_11a (by rw [← hp0.1, ← hp1.1]; assumption)] | rw [rul_11b (by rw [← hp0.1, ← hp1.1]; assumption)]))
       ·
        refine s_5 ?_
        refine iff' ?_ ?_ <;> intro c10
        ·
         refine s_1 ?_
         have hln := kb2 hkb o_m
         have hg0 := hg 0
         have hg1 := hg 1
         obtain ⟨ga1, ga2, ga3⟩ := hg0
         obtain ⟨gb1, gb2, gb3⟩ := hg1
         have hp0 := pg_map (k := K) (i := 0) o_m o_m
         have hp1 := pg_map (k := K) (i := 1) o_m o_m
         refine s_2 ?_
         refine qq (qv_iai UL.out SZ.out e_vm (inVi hlo) rfl o_m o_m) ?_
         refine qq (qv_ldi PL.out rfl (inVi hlo) o_m o_m) ?_
         refine s_1 ?_
         refine qq (qv_iai UL.out SZ.out e_vm (inVi hhi) rfl o_m o_m) ?_
         refine qq (qv_ldi PL.out rfl (inVi hhi) o_m o_m) ?_
         refine qq (f_c (modSpanR_c o_m o_m) rfl rfl) ?_
         refine s_7 ?_
         exact rt2 (c_i (by rw [c10]; simp only [hp1.1, hp1.2]; rfl)) (c_i (by rw [c10]; simp only [hp1.1, hp1.2]; rfl))
        ·
         refine s_5 ?_
         refine iff' ?_ ?_ <;> intro c11
         ·
          refine s_1 ?_
          have hln := kb2 hkb o_m
          have hg0 := hg 0
          have hg1 := hg 1
          obtain ⟨ga1, ga2, ga3⟩ := hg0
          obtain ⟨gb1, gb2, gb3⟩ := hg1
          have hp0 := pg_map (k := K) (i := 0) o_m o_m
          have hp1 := pg_map (k := K) (i := 1) o_m o_m
          refine s_2 ?_
          refine qq (qv_iai UL.out SZ.out e_vm (inVi hlo) rfl o_m o_m) ?_
          refine qq (qv_ldi PL.out rfl (inVi hlo) o_m o_m) ?_
          refine s_1 ?_
          refine qq (qv_iai UL.out SZ.out e_vm (inVi hlo) rfl o_m o_m) ?_
          refine qq (qv_ldi PL.out rfl (inVi hlo) o_m o_m) ?_
          refine qq (f_c (leastR_c) rfl rfl) ?_
          refine s_1 ?_
          refine qq (qv_iai UL.out SZ.out e_vm (inVi hhi) rfl o_m o_m) ?_
          refine qq (qv_ldi PL.out rfl (inVi hhi) o_m o_m) ?_
          refine s_1 ?_
          refine qq (qv_iai UL.out SZ.out e_vm (inVi hhi) rfl o_m o_m) ?_
          refine qq (qv_ldi PL.out rfl (inVi hhi) o_m o_m) ?_
          refine qq (f_c (leastR_c) rfl rfl) ?_
          refine s_5 ?_
          exact rt2 (c_i (by rw [c11]; simp only [hp0.1, hp0.2, hp1.1, hp1.2]; rfl)) (c_i (by rw [c11]; simp only [hp0.1, hp0.2, hp1.1, hp1.2]; rfl))
         ·
          refine s_5 ?_
          refine iff' ?_ ?_ <;> intro c12
          ·
           refine s_1 ?_
           have hln := kb2 hkb o_m
           have hg0 := hg 0
           have hg1 := hg 1
           obtain ⟨ga1, ga2, ga3⟩ := hg0
           obtain ⟨gb1, gb2, gb3⟩ := hg1
           have hp0 := pg_map (k := K) (i := 0) o_m o_m
           have hp1 := pg_map (k := K) (i := 1) o_m o_m
           refine s_2 ?_
           refine qq (qv_iai UL.out SZ.out e_vm (inVi hlo) rfl o_m o_m) ?_
           refine qq (qv_ldi PL.out rfl (inVi hlo) o_m o_m) ?_
           refine s_1 ?_
           refine qq (qv_iai UL.out SZ.out e_vm (inVi hlo) rfl o_m o_m) ?_
           refine qq (qv_ldi PL.out rfl (inVi hlo) o_m o_m) ?_
           refine qq (f_c (mostR_c) rfl rfl) ?_
           refine s_1 ?_
           refine qq (qv_iai UL.out SZ.out e_vm (inVi hhi) rfl o_m o_m) ?_
           refine qq (qv_ldi PL.out rfl (inVi hhi) o_m o_m) ?_
           refine s_1 ?_
           refine qq (qv_iai UL.out SZ.out e_vm (inVi hhi) rfl o_m o_m) ?_
           refine qq (qv_ldi PL.out rfl (inVi hhi) o_m o_m) ?_
           refine qq (f_c (mostR_c) rfl rfl) ?_
           refine s_5 ?_
           exact rt2 (c_i (by rw [c12]; simp only [hp0.1, hp0.2, hp1.1, hp1.2]; rfl)) (c_i (by rw [c12]; simp only [hp0.1, hp0.2, hp1.1, hp1.2]; rfl))
          ·
           refine s_6 ?_
           refine iff' ?_ ?_ <;> intro c13
           ·
            refine s_1 ?_
            refine i_ft c13 ?_
            refine s_1 ?_
            have hln : 2 ≤ (K.length : Int) := by have := kb3 (op := t.op) (k := K.length); have := kb4 (op := t.op) (k := K.length); first | (have := kb3 hkb (by assumption); omega) | exact (kb4 hkb (by assumption)).1
            have hp1 := pg_map (k := K) (i := 1) o_m o_m
            refine s_2 ?_
            refine qq (qv_iai UL.out SZ.out e_vm (inVi hlo) rfl o_m o_m) ?_
            refine qq (qv_ldi PL.out rfl (inVi hlo) o_m o_m) ?_
            refine s_1 ?_
            refine qq (qv_iai UL.out SZ.out e_vm (inVi hhi) rfl o_m o_m) ?_
            refine qq (qv_ldi PL.out rfl (inVi hhi) o_m o_m) ?_
            refine s_9 ?_
            refine lc1 [0,1,2,3,5,8,9,19,20,34,48,58,74,90,134,159,170,186,202] (fun (i : Int) => [(15, (.int .i64 ((hulL (pg K 1) ((K.take i.toNat).drop 2)).1))), (16, (.int .i64 ((hulL (pg K 1) ((K.take i.toNat).drop 2)).2))), (17, (Value.int .i64 i))]) (fun i => 2 ≤ i ∧ i ≤ K.length) (fun i => (K.length - i).toNat) 2 ?_ ?_ ?_ 
            · exact ⟨(c_i (by rw [hp1.1, show (K.take (2 : Int).toNat).drop 2 = [] from List.drop_eq_nil_of_le (by rw [List.length_take]; omega)]; rfl)), (c_i (by rw [hp1.2, show (K.take (2 : Int).toNat).drop 2 = [] from List.drop_eq_nil_of_le (by rw [List.length_take]; omega)]; rfl)), rfl, trivial⟩
            · exact ⟨by omega, by omega⟩
            rintro i e3 ⟨i1, i2⟩
            refine s_5 ?_
            refine oq (qv_lenI UL.out rfl hlo) ?_
            refine s_2 ?_
            refine iff' ?_ ?_ <;> intro c14
            ·
             refine s_3 ?_
             have hpi := pg_map (k := K) (i := i) o_m o_m
             refine s_4 ?_
             refine qq (qv_iai UL.out SZ.out e_vm (inVi hlo) rfl o_m o_m) ?_
             refine qq (qv_ldi PL.out rfl (inVi hlo) o_m o_m) ?_
             refine qq (f_c (leastR_c) rfl rfl) ?_
             refine s_3 ?_
             refine qq (qv_iai UL.out SZ.out e_vm (inVi hhi) rfl o_m o_m) ?_
             refine qq (qv_ldi PL.out rfl (inVi hhi) o_m o_m) ?_
             refine qq (f_c (mostR_c) rfl rfl) ?_
             refine s_8 ?_
             exact le1 (i + 1) ⟨(c_i (by rw [show (i + 1).toNat = i.toNat + 1 by omega, hul_take i1 o_m, hpi.1])), (c_i (by rw [show (i + 1).toNat = i.toNat + 1 by omega, hul_take i1 o_m, hpi.2])), (c_i (by rfl)), trivial⟩ ⟨by omega, by omega⟩
            ·
             refine s_11 ?_
             exact rt2 (c_i (by first | (rw [show t.op = 23 by assumption, List.take_of_length_le o_m]; rfl) | (rw [show t.op = 25 by assumption, List.take_of_length_le o_m]; rfl))) (c_i (by first | (rw [show t.op = 23 by assumption, List.take_of_length_le o_m]; rfl) | (rw [show t.op = 25 by assumption, List.take_of_length_le o_m]; rfl)))
           ·
            refine s_4 ?_
            refine iff' ?_ ?_ <;> intro c15
            ·
             refine s_1 ?_
             have hln : 2 ≤ (K.length : Int) := by have := kb3 (op := t.op) (k := K.length); have := kb4 (op := t.op) (k := K.length); first | (have := kb3 hkb (by assumption); omega) | exact (kb4 hkb (by assumption)).1
             have hp1 := pg_map (k := K) (i := 1) o_m o_m
             refine s_2 ?_
             refine qq (qv_iai UL.out SZ.out e_vm (inVi hlo) rfl o_m o_m) ?_
             refine qq (qv_ldi PL.out rfl (inVi hlo) o_m o_m) ?_
             refine s_1 ?_
             refine qq (qv_iai UL.out SZ.out e_vm (inVi hhi) rfl o_m o_m) ?_
             refine qq (qv_ldi PL.out rfl (inVi hhi) o_m o_m) ?_
             refine s_9 ?_
             refine lc1 [0,1,2,3,5,8,9,19,20,34,48,58,74,90,134,159,170,186,202] (fun (i : Int) => [(15, (.int .i64 ((hulL (pg K 1) ((K.take i.toNat).drop 2)).1))), (16, (.int .i64 ((hulL (pg K 1) ((K.take i.toNat).drop 2)).2))), (17, (Value.int .i64 i))]) (fun i => 2 ≤ i ∧ i ≤ K.length) (fun i => (K.length - i).toNat) 2 ?_ ?_ ?_ 
             · exact ⟨(c_i (by rw [hp1.1, show (K.take (2 : Int).toNat).drop 2 = [] from List.drop_eq_nil_of_le (by rw [List.length_take]; omega)]; rfl)), (c_i (by rw [hp1.2, show (K.take (2 : Int).toNat).drop 2 = [] from List.drop_eq_nil_of_le (by rw [List.length_take]; omega)]; rfl)), rfl, trivial⟩
             · exact ⟨by omega, by omega⟩
             rintro i e4 ⟨i1, i2⟩
             refine s_5 ?_
             refine oq (qv_lenI UL.out rfl hlo) ?_
             refine s_2 ?_
             refine iff' ?_ ?_ <;> intro c16
             ·
              refine s_3 ?_
              have hpi := pg_map (k := K) (i := i) o_m o_m
              refine s_4 ?_
              refine qq (qv_iai UL.out SZ.out e_vm (inVi hlo) rfl o_m o_m) ?_
              refine qq (qv_ldi PL.out rfl (inVi hlo) o_m o_m) ?_
              refine qq (f_c (leastR_c) rfl rfl) ?_
              refine s_3 ?_
              refine qq (qv_iai UL.out SZ.out e_vm (inVi hhi) rfl o_m o_m) ?_
              refine qq (qv_ldi PL.out rfl (inVi hhi) o_m o_m) ?_
              refine qq (f_c (mostR_c) rfl rfl) ?_
              refine s_8 ?_
              exact le1 (i + 1) ⟨(c_i (by rw [show (i + 1).toNat = i.toNat + 1 by omega, hul_take i1 o_m, hpi.1])), (c_i (by rw [show (i + 1).toNat = i.toNat + 1 by omega, hul_take i1 o_m, hpi.2])), (c_i (by rfl)), trivial⟩ ⟨by omega, by omega⟩
             ·
              refine s_11 ?_
              exact rt2 (c_i (by first | (rw [show t.op = 23 by assumption, List.take_of_length_le o_m]; rfl) | (rw [show t.op = 25 by assumption, List.take_of_length_le o_m]; rfl))) (c_i (by first | (rw [show t.op = 23 by assumption, List.take_of_length_le o_m]; rfl) | (rw [show t.op = 25 by assumption, List.take_of_length_le o_m]; rfl)))
            ·
             refine s_7 ?_
             exact rt2 (c_i (by rw [rul_e o_m])) (c_i (by rw [rul_e o_m]))

end Go.Proofs.YtbchkopkgpfkgaaGreatDoor

namespace Go.Proofs.YtbchkopkgpfkgaaGreatDoor
open Go.Vc
open Classical

/-- What the function does, for arguments of a size below k. -/
def RGC (k : Nat) : Prop := ∀ (V : HV) (t : Tm) (ks va : Value) (vs : List Vr) (inp : Bool), Tms V ks t.kids → Vrs V va vs → VarsOk vs → fmd vs inp t → t.sz < k → FnC Tryz.prog 134 [va, .agg #[.int .i64 t.op, .int .i64 t.n, ks]] V [] (fun v _ _ => v = .tuple #[.int .i64 (@ite _ (rgoL vs t.kids) (Classical.propDecidable _) (rg vs t).1 0), .int .i64 (@ite _ (rgoL vs t.kids) (Classical.propDecidable _) (rg vs t).2 0), .bool (@decide (rgo vs t) (Classical.propDecidable _))])

set_option maxRecDepth 100000 in
set_option maxHeartbeats 4000000 in
theorem RangeR_step {V : HV} {t : Tm} {ks : Value} {va : Value} {vs : List Vr} {inp : Bool} {k : Nat} (IH : RGC k) (hT : Tms V ks t.kids) (hv : Vrs V va vs) (hV : VarsOk vs) (hf : fmd vs inp t) (hk : t.sz < (k + 1 : Nat)) :
    FnC Tryz.prog 134 [va, (.agg #[(.int .i64 t.op), (.int .i64 t.n), ks])] V [] (fun v _ _ => v = .tuple #[(.int .i64 ((if rgoL vs t.kids then (rg vs t).1 else 0))), (.int .i64 ((if rgoL vs t.kids then (rg vs t).2 else 0))), (.bool (decide (rgo vs t)))]) := by
 refine f_i Tryz.func134 ?_
 intro w0 D
 obtain ⟨kvs, hS, hK⟩ := hT
 have hT : Tms V ks t.kids := .mk kvs hS hK
 have hb := SlS.bound hS
 have hb2 := SlS.bound hv
 have hsk := sz_kids t
 have hff := (fmd_eq t).1 hf
 have hfk := fmdL_iff.1 hff.2.2
 have hln := kb_le hff.1
 refine s_2 ?_
 refine b_ox fun b1 => ?_
 refine s_6 ?_
 refine ops_lit (n := 0) (s := 1) (cs := []) UL.out TZ.out (l_b rfl) rfl rfl rfl (l_b rfl) rfl (fun b2 => ?_)
 refine ops_to_gr (k := 1) (b := b2) (n := 0) (cap := 0) (cs := #[]) 1 [] rfl rfl (Nat.le_refl _) (Nat.zero_le _) rfl rfl ?_
 refine s_4 ?_
 refine ops_lit (n := 0) (s := 1) (cs := []) UL.out TZ.out (l_b rfl) rfl rfl rfl (l_b rfl) rfl (fun b3 => ?_)
 refine ops_to_gr (k := 2) (b := b3) (n := 0) (cap := 0) (cs := #[]) 1 [] rfl rfl (Nat.le_refl _) (Nat.zero_le _) rfl rfl ?_
 refine s_8 ?_
 refine lp3 [0,1,3] (fun (i : Int) (ul : Value) (uh : Value) => [(7, ul), (8, uh), (9, (Value.int .i64 i))]) (fun i ul uh => [(Arr 76 b1 [(.int .i64 t.op), (.int .i64 t.n), ks]), (Gr 3 1 ul i.toNat ((((rgL vs (t.kids.take i.toNat)).map Prod.fst).map (Value.int .i64)))), (Gr 3 1 uh i.toNat ((((rgL vs (t.kids.take i.toNat)).map Prod.snd).map (Value.int .i64))))]) (fun i ul uh => 0 ≤ i ∧ i ≤ t.kids.length ∧ ∀ x : Int, 0 ≤ x → x < i → rgo vs (tm t.kids x)) (fun i ul uh => (t.kids.length - i).toNat) 0 ((.slice (some ⟨b2, 0, none⟩) 0 0)) ((.slice (some ⟨b3, 0, none⟩) 0 0)) ?_ ?_ ?_ ?_ 
 · exact ⟨(by first | rfl | (first | omega | simp)), (by first | rfl | (first | omega | simp)), rfl, trivial⟩
 · (rfl)
 · exact ⟨by omega, by omega, fun x a b => by omega⟩
 rintro i ul uh e1 ⟨i1, i2, hno⟩
 refine s_6 ?_
 refine oq (qv_lenSS UL.out rfl hS) ?_
 refine s_2 ?_
 refine iff' ?_ ?_ <;> intro c1
 ·
  refine s_4 ?_
  have hsz := szL_at (l := t.kids) i1 o_m
  have hsn := szL_nn (t.kids.take i.toNat)
  refine s_5 ?_
  refine oq (qv_ias UL.out SZ.out e_vm hS rfl o_m o_m) ?_
  refine oq (qv_lds AG.out rfl hS o_m o_m (tmcs_at o_m o_m)) ?_
  refine oq (f_c (IH _ _ _ _ _ _ (hK i i1 o_m) hv hV (hfk i i1 o_m) o_m) rfl rfl) ?_
  refine s_14 ?_
  refine iff' ?_ ?_ <;> intro c2
  ·
   refine s_9 ?_
   exact rt3 (c_i (by exact (if_neg (fun q => absurd (rgoL_iff.1 q i i1 o_m) (by assumption))).symm)) (c_i (by exact (if_neg (fun q => absurd (rgoL_iff.1 q i i1 o_m) (by assumption))).symm)) (jf (by exact fun q => absurd (rgoL_iff.1 ((rgo_eq t).1 q).1 i i1 o_m) (by assumption)))
  ·
   refine s_2 ?_
   have hro : rgo vs (tm t.kids (i)) := Classical.not_not.1 (by assumption)
   have hq1 : (if rgoL vs (tm t.kids (i)).kids then (rg vs (tm t.kids (i))).1 else 0) = (rg vs (tm t.kids (i))).1 := if_pos ((rgo_eq _).1 hro).1
   have hq2 : (if rgoL vs (tm t.kids (i)).kids then (rg vs (tm t.kids (i))).2 else 0) = (rg vs (tm t.kids (i))).2 := if_pos ((rgo_eq _).1 hro).1
   refine s_3 ?_
   refine ops_lit (n := 1) (s := 1) (cs := [(.int .i64 ((if rgoL vs (tm t.kids (i)).kids then (rg vs (tm t.kids (i))).1 else 0)))]) UL.out TZ.out (l_b rfl) rfl rfl rfl (l_b rfl) rfl (fun b4 => ?_)
   refine a_po rfl rfl rfl o_c o_m m_x fun v1 hn1 => ?_
   refine s_5 ?_
   refine ops_lit (n := 1) (s := 1) (cs := [(.int .i64 ((if rgoL vs (tm t.kids (i)).kids then (rg vs (tm t.kids (i))).2 else 0)))]) UL.out TZ.out (l_b rfl) rfl rfl rfl (l_b rfl) rfl (fun b5 => ?_)
   refine a_po rfl rfl rfl o_c o_m m_x fun v2 hn2 => ?_
   refine s_2 ?_
   refine v_d 4 ?_
   refine v_d 3 ?_
   refine s_5 ?_
   exact le3 (i + 1) v1 v2 ⟨rfl, rfl, (c_i o_m), trivial⟩ ⟨by omega, by omega, all_snoc hno hro⟩ (hr := by rw [show (i + 1).toNat = i.toNat + 1 by omega, rgL_take i1 o_m]; simp only [List.map_append, List.map_cons, List.map_nil, hq1, hq2])
 ·
  refine s_3 ?_
  refine v_fG 1 fun Vf1 hVf1 hc1 => ?_
  have hT := hT.mono hVf1
  have hv := hv.mono hVf1
  refine v_fG 1 fun Vf2 hVf2 hc2 => ?_
  have hT := hT.mono hVf2
  have hv := hv.mono hVf2
  have hc1 := hc1.mono hVf2
  refine s_5 ?_
  have hkk : rgoL vs t.kids := rgoL_iff.2 fun x a b => hno x a o_m
  have hlo : Ints .i64 Vf2 ul ((rgL vs t.kids).map Prod.fst) := by have q := hc1; rw [List.take_of_length_le o_m] at q; exact q
  have hhi : Ints .i64 Vf2 uh ((rgL vs t.kids).map Prod.snd) := by have q := hc2; rw [List.take_of_length_le o_m] at q; exact q
  refine oq (f_c (by have h := spanR_c (inp := inp) (K := rgL vs t.kids) hv hlo hhi (rgL_gd hV t.kids hff.2.2 hkk) (by rw [rgL_len]; exact hff.1) hff.2.1 hT; rw [← rg_eq] at h; exact h) rfl rfl) ?_
  refine s_13 ?_
  by_cases g1 : ((-1048576)) ≤ ((rg vs t).1)
  ·
   refine s_8 ?_
   exact rt3 (c_i (by exact (if_pos hkk).symm)) (c_i (by exact (if_pos hkk).symm)) (jb (by exact ⟨fun q => (rgo_eq t).2 ⟨hkk, by assumption, q⟩, fun q => ((rgo_eq t).1 q).2.2⟩))
  ·
   refine s_8 ?_
   exact rt3 (c_i (by exact (if_pos hkk).symm)) (c_i (by exact (if_pos hkk).symm)) (jf (by exact fun q => absurd ((rgo_eq t).1 q).2.1 (by assumption)))

theorem RangeR_c : ∀ k, RGC k
  | 0 => fun _ t _ _ _ _ _ _ _ _ h => absurd h (by have := t.sz_pos; omega)
  | k + 1 => fun V t ks va vs inp hT hv hV hf hk => RangeR_step (RangeR_c k) hT hv hV hf hk
set_option maxRecDepth 100000 in
set_option maxHeartbeats 4000000 in
theorem CheckTermR_c {V : HV} {t : Tm} {ks : Value} {va : Value} {vs : List Vr} {inp : Bool} (hT : Tms V ks t.kids) (hv : Vrs V va vs) (hV : VarsOk vs) :
    FnC Tryz.prog 79 [va, (.agg #[(.int .i64 t.op), (.int .i64 t.n), ks]), (.bool (decide (inp = true)))] V [] (fun v _ _ => v = (.int .i64 (ctC vs t inp))) := by
 refine f_i Tryz.func79 ?_
 intro w0 D
 have hT0 := hT
 obtain ⟨kvs, hS, hK⟩ := hT
 refine s_2 ?_
 refine b_ox fun b1 => ?_
 refine s_8 ?_
 refine oq (f_c (formedR_c (t.sz.toNat + 1) _ _ _ _ _ _ hT0 hv o_m) rfl rfl) ?_
 refine s_2 ?_
 refine iff' ?_ ?_ <;> intro c1
 ·
  refine s_5 ?_
  exact rt1 (c_i (by exact (if_pos (by assumption)).symm))
 ·
  refine s_5 ?_
  refine oq (f_c (RangeR_c (t.sz.toNat + 1) _ _ _ _ _ inp hT0 hv hV (Classical.not_not.1 (by assumption)) o_m) rfl rfl) ?_
  refine s_14 ?_
  refine iff' ?_ ?_ <;> intro c2
  ·
   refine s_5 ?_
   exact rt1 (c_i (by unfold ctC; rw [if_neg (by assumption), if_pos (by assumption)]))
  ·
   refine s_6 ?_
   exact rt1 (c_i (by unfold ctC; rw [if_neg (by assumption), if_neg (by assumption)]))

end Go.Proofs.YtbchkopkgpfkgaaGreatDoor
