import Derived.Test.YtbchkopkgpfkgaaGreatDoorTi
import Derived.Test.YtbchkopkgpfkgaaGreatDoorWp
import Derived.Test.YtbchkopkgpfkgaaGreatDoorTy
import Derived.Test.YtbchkopkgpfkgaaGreatDoorWb
/- Walks of the top laws: what each function returns. Printed by a program out of notes. -/
namespace Go.Proofs.YtbchkopkgpfkgaaGreatDoor
open Go.Vc
open Classical

set_option maxRecDepth 100000 in
set_option maxHeartbeats 4000000 in
theorem isNameR_c {V : HV} {s : ByteArray} (hs : s.size ≤ 9223372036854775807) :
    FnC Tryz.prog 77 [(Value.string s)] V [] (fun v _ _ => v = (.bool (decide (NameOk s)))) := by
 refine f_i Tryz.func77 ?_
 intro w0 D
 refine s_6 ?_
 refine j_n [0,2] [(14, (.bool (decide ((((s.size : Int)) < 1) ∨ (40 < ((s.size : Int)))))))] ?_ (fun e1 => ?_)
 ·
  refine s_2 ?_
  refine oq (qv_lenstr UL.out rfl) ?_
  refine s_2 ?_
  by_cases g1 : ((s.size : Int)) < 1
  ·
   refine s_5 ?_
   exact j_e ⟨(jt (.inl g1)), trivial⟩
  ·
   refine s_1 ?_
   refine og (qv_lenstr UL.out rfl) w_a ?_
   refine s_3 ?_
   exact j_e ⟨(jb (jo g1 Iff.rfl)), trivial⟩
 refine iff' ?_ ?_ <;> intro c1
 ·
  refine s_5 ?_
  exact rt1 (jf (by first | (intro q; exact q.1 o_m) | (intro q; have z := q.2 i i1 o_m; unfold chOk lett othr at z; omega)))
 ·
  refine s_7 ?_
  refine lc1 [0,14] (fun (i : Int) => [(3, (Value.int .i64 i))]) (fun i => 0 ≤ i ∧ i ≤ s.size ∧ ∀ x : Int, 0 ≤ x → x < i → chOk s x) (fun i => (s.size - i).toNat) 0 ?_ ?_ ?_ 
  · exact ⟨rfl, trivial⟩
  · exact ⟨by omega, by omega, fun x a b => by omega⟩
  rintro i e2 ⟨i1, i2, hno⟩
  refine s_5 ?_
  refine oq (qv_lenstr UL.out rfl) ?_
  refine s_2 ?_
  refine iff' ?_ ?_ <;> intro c2
  ·
   refine s_7 ?_
   refine oq (qv_idxs UL.out rfl rfl o_m o_m) ?_
   refine s_3 ?_
   refine j_n [0,3,4,14,18] [(5, (.bool (decide ((97 ≤ (sAt s i)) ∧ ((sAt s i) ≤ 122)))))] ?_ (fun e3 => ?_)
   ·
    refine s_4 ?_
    by_cases g2 : 97 ≤ (sAt s i)
    ·
     refine s_5 ?_
     exact j_e ⟨(jb (ja g2 Iff.rfl)), trivial⟩
    ·
     refine s_5 ?_
     exact j_e ⟨(jf (fun z => g2 z.1)), trivial⟩
   refine s_1 ?_
   refine j_n [0,3,4,5,14,18] [(6, (.bool (decide ((((48 ≤ (sAt s i)) ∧ ((sAt s i) ≤ 57)) ∨ ((sAt s i) = 46)) ∨ ((sAt s i) = 95)))))] ?_ (fun e4 => ?_)
   ·
    refine s_4 ?_
    by_cases g3 : 48 ≤ (sAt s i)
    ·
     refine s_4 ?_
     by_cases g4 : (sAt s i) ≤ 57
     ·
      refine s_9 ?_
      exact j_e ⟨(jt (.inl (.inl ((ja g3 Iff.rfl).1 g4)))), trivial⟩
     ·
      refine s_4 ?_
      by_cases g5 : (sAt s i) = 46
      ·
       refine s_5 ?_
       exact j_e ⟨(jt (.inl ((jo (fun z => g4 ((ja g3 Iff.rfl).2 z)) Iff.rfl).1 g5))), trivial⟩
      ·
       refine s_5 ?_
       exact j_e ⟨(jb (jo (fun z => g5 ((jo (fun z => g4 ((ja g3 Iff.rfl).2 z)) Iff.rfl).2 z)) Iff.rfl)), trivial⟩
    ·
     refine s_8 ?_
     by_cases g6 : (sAt s i) = 46
     ·
      refine s_5 ?_
      exact j_e ⟨(jt (.inl ((jo (fun z => g3 z.1) Iff.rfl).1 g6))), trivial⟩
     ·
      refine s_5 ?_
      exact j_e ⟨(jb (jo (fun z => g6 ((jo (fun z => g3 z.1) Iff.rfl).2 z)) Iff.rfl)), trivial⟩
   refine s_1 ?_
   refine j_n [0,3,4,5,6,14,18] [(53, (.bool (decide ((¬ ((97 ≤ (sAt s i)) ∧ ((sAt s i) ≤ 122))) ∧ ((i = 0) ∨ (¬ ((((48 ≤ (sAt s i)) ∧ ((sAt s i) ≤ 57)) ∨ ((sAt s i) = 46)) ∨ ((sAt s i) = 95))))))))] ?_ (fun e5 => ?_)
   ·
    refine s_4 ?_
    by_cases g7 : ¬ ((97 ≤ (sAt s i)) ∧ ((sAt s i) ≤ 122))
    ·
     refine s_3 ?_
     by_cases g8 : i = 0
     ·
      refine s_5 ?_
      exact j_e ⟨(jt ⟨g7, (.inl g8)⟩), trivial⟩
     ·
      refine s_5 ?_
      exact j_e ⟨(jb (ja g7 (jo g8 Iff.rfl))), trivial⟩
    ·
     refine s_8 ?_
     exact j_e ⟨(jf (fun z => g7 z.1)), trivial⟩
   refine iff' ?_ ?_ <;> intro c3
   ·
    refine s_7 ?_
    exact rt1 (jf (by first | (intro q; exact q.1 o_m) | (intro q; have z := q.2 i i1 o_m; unfold chOk lett othr at z; omega)))
   ·
    refine s_6 ?_
    exact le1 (i + 1) ⟨(c_i o_m), trivial⟩ ⟨by omega, by omega, all_snoc hno (by unfold chOk lett othr; omega)⟩
  ·
   refine s_7 ?_
   exact rt1 (jt (by exact ⟨by first | assumption | omega, fun x a b => hno x a o_m⟩))

set_option maxRecDepth 100000 in
set_option maxHeartbeats 4000000 in
theorem boundedR_c {V : HV} {a b : Int} :
    FnC Tryz.prog 78 [(Value.int .i64 a), (Value.int .i64 b)] V [] (fun v _ _ => v = (.bool (decide (bndP a b)))) := by
 refine f_i Tryz.func78 ?_
 intro w0 D
 refine s_5 ?_
 refine j_n [] [(4, (.bool (decide (((a ≤ b) ∧ (((-1048576)) ≤ a)) ∧ (b ≤ 1048576)))))] ?_ (fun e1 => ?_)
 ·
  refine s_5 ?_
  by_cases g1 : a ≤ b
  ·
   refine s_4 ?_
   by_cases g2 : ((-1048576)) ≤ a
   ·
    refine s_5 ?_
    exact j_e ⟨(jb (ja ((ja g1 Iff.rfl).1 g2) Iff.rfl)), trivial⟩
   ·
    refine s_5 ?_
    exact j_e ⟨(jf (fun z => (fun z => g2 ((ja g1 Iff.rfl).2 z)) z.1)), trivial⟩
  ·
   refine s_9 ?_
   exact j_e ⟨(jf (fun z => (fun z => g1 z.1) z.1)), trivial⟩
 refine s_1 ?_
 exact rt1 (jb (by unfold bndP; omega))

set_option maxRecDepth 100000 in
set_option maxHeartbeats 4000000 in
theorem leastR_c {V : HV} {a b : Int} :
    FnC Tryz.prog 82 [(Value.int .i64 a), (Value.int .i64 b)] V [] (fun v _ _ => v = (.int .i64 (mnI a b))) := by
 refine f_i Tryz.func82 ?_
 intro w0 D
 refine s_11 ?_
 refine iff' ?_ ?_ <;> intro c1
 ·
  refine s_6 ?_
  exact rt1 (c_i (by unfold mnI; split <;> omega))
 ·
  refine s_7 ?_
  exact rt1 (c_i (by unfold mnI; split <;> omega))

set_option maxRecDepth 100000 in
set_option maxHeartbeats 4000000 in
theorem mostR_c {V : HV} {a b : Int} :
    FnC Tryz.prog 81 [(Value.int .i64 a), (Value.int .i64 b)] V [] (fun v _ _ => v = (.int .i64 (mxI a b))) := by
 refine f_i Tryz.func81 ?_
 intro w0 D
 refine s_11 ?_
 refine iff' ?_ ?_ <;> intro c1
 ·
  refine s_6 ?_
  exact rt1 (c_i (by unfold mxI; split <;> omega))
 ·
  refine s_7 ?_
  exact rt1 (c_i (by unfold mxI; split <;> omega))

set_option maxRecDepth 100000 in
set_option maxHeartbeats 4000000 in
theorem sizeR_c {V : HV} {a : Int} (h1 : -9223372036854775807 ≤ a) :
    FnC Tryz.prog 194 [(Value.int .i64 a)] V [] (fun v _ _ => v = (.int .i64 (mxI a (-a)))) := by
 refine f_i Tryz.func194 ?_
 intro w0 D
 refine s_10 ?_
 refine iff' ?_ ?_ <;> intro c1
 ·
  refine s_3 ?_
  refine oq (qv_neg rfl o_m) ?_
  refine s_3 ?_
  exact rt1 (c_i (by unfold mxI; split <;> omega))
 ·
  refine s_7 ?_
  exact rt1 (c_i (by unfold mxI; split <;> omega))

set_option maxRecDepth 100000 in
set_option maxHeartbeats 4000000 in
theorem modSpanR_c {V : HV} {a b : Int} (h1 : -1048576 ≤ a) (h2 : b ≤ 1048576) :
    FnC Tryz.prog 195 [(Value.int .i64 a), (Value.int .i64 b)] V [] (fun v _ _ => v = .tuple #[(.int .i64 (if a < 0 then mnI 0 (a + 1) else 0)), (.int .i64 (if 0 < b then mxI 0 (b - 1) else 0))]) := by
 refine f_i Tryz.func195 ?_
 intro w0 D
 refine s_16 ?_
 refine iff' ?_ ?_ <;> intro c1
 ·
  refine s_3 ?_
  refine oq (f_c (leastR_c) rfl rfl) ?_
  refine s_8 ?_
  refine iff' ?_ ?_ <;> intro c2
  ·
   refine s_3 ?_
   refine oq (f_c (mostR_c) rfl rfl) ?_
   refine s_10 ?_
   exact rt2 (c_i (by first | (rw [if_pos o_m]) | (rw [if_neg o_m]))) (c_i (by first | (rw [if_pos o_m]) | (rw [if_neg o_m])))
  ·
   refine s_9 ?_
   exact rt2 (c_i (by first | (rw [if_pos o_m]) | (rw [if_neg o_m]))) (c_i (by first | (rw [if_pos o_m]) | (rw [if_neg o_m])))
 ·
  refine s_7 ?_
  refine iff' ?_ ?_ <;> intro c3
  ·
   refine s_3 ?_
   refine oq (f_c (mostR_c) rfl rfl) ?_
   refine s_10 ?_
   exact rt2 (c_i (by first | (rw [if_pos o_m]) | (rw [if_neg o_m]))) (c_i (by first | (rw [if_pos o_m]) | (rw [if_neg o_m])))
  ·
   refine s_9 ?_
   exact rt2 (c_i (by first | (rw [if_pos o_m]) | (rw [if_neg o_m]))) (c_i (by first | (rw [if_pos o_m]) | (rw [if_neg o_m])))

set_option maxRecDepth 100000 in
set_option maxHeartbeats 4000000 in
theorem SpaceR_c {V : HV} {va : Value} {vs : List Vr} {k : Int} (hv : Vrs V va vs) (ho : ∀ v ∈ vs, v.lo ≤ v.hi ∧ -1048576 ≤ v.lo ∧ v.hi ≤ 1048576) :
    FnC Tryz.prog 132 [va, (Value.int .i64 k)] V [] (fun v _ _ => v = (.int .i64 (spK vs k 1))) := by
 refine f_i Tryz.func132 ?_
 intro w0 D
 have hb := SlS.bound hv
 refine s_14 ?_
 refine lc2 [0,1] (fun (i : Int) (n : Int) => [(5, (Value.int .i64 n)), (6, (Value.int .i64 i))]) (fun i n => 0 ≤ i ∧ i ≤ vs.length ∧ 1 ≤ n ∧ n ≤ 4096 ∧ spK vs k 1 = spK (vs.drop i.toNat) k n) (fun i n => (vs.length - i).toNat) 0 1 ?_ ?_ ?_ 
 · exact ⟨rfl, rfl, trivial⟩
 · exact ⟨by omega, by omega, by omega, by omega, rfl⟩
 rintro i n e1 ⟨i1, i2, n1, n2, hy⟩
 refine s_5 ?_
 refine oq (qv_lenSS UL.out rfl hv) ?_
 refine s_2 ?_
 refine iff' ?_ ?_ <;> intro c1
 ·
  refine s_5 ?_
  have hm := ho _ (vr_in (l := vs) i1 o_m)
  have hm1 := hm.1
  have hm2 := hm.2.1
  have hm3 := hm.2.2
  refine s_3 ?_
  refine oq (qv_ias UL.out SZ.out e_vm hv rfl o_m o_m) ?_
  refine oq (qv_fas FI.out rfl hv o_m o_m) ?_
  refine oq (qv_ldf PL.out rfl hv o_m o_m o_m (vrcs_el (o := 1) o_m o_m o_m rfl)) ?_
  refine s_3 ?_
  refine iff' ?_ ?_ <;> intro c2
  ·
   refine s_7 ?_
   exact le2 (i + 1) n ⟨rfl, (c_i o_m), trivial⟩ ⟨by omega, by omega, by omega, by omega, by rw [hy, vr_drop i1 o_m, spK]; exact if_pos (by assumption)⟩
  ·
   refine s_2 ?_
   have hp : n * 1 ≤ n * ((vr vs i).hi - (vr vs i).lo + 1) := Int.mul_le_mul_of_nonneg_left o_m o_m
   have hq : n * ((vr vs i).hi - (vr vs i).lo + 1) ≤ 4096 * ((vr vs i).hi - (vr vs i).lo + 1) := Int.mul_le_mul_of_nonneg_right n2 o_m
   refine s_4 ?_
   refine qq (qv_ias UL.out SZ.out e_vm hv rfl o_m o_m) ?_
   refine qq (qv_fas FI.out rfl hv o_m o_m) ?_
   refine qq (qv_ldf PL.out rfl hv o_m o_m o_m (vrcs_el (o := 3) o_m o_m o_m rfl)) ?_
   refine s_2 ?_
   refine qq (qv_ias UL.out SZ.out e_vm hv rfl o_m o_m) ?_
   refine qq (qv_fas FI.out rfl hv o_m o_m) ?_
   refine qq (qv_ldf PL.out rfl hv o_m o_m o_m (vrcs_el (o := 2) o_m o_m o_m rfl)) ?_
   refine s_10 ?_
   refine iff' ?_ ?_ <;> intro c3
   ·
    refine s_7 ?_
    exact rt1 (c_i (by rw [hy, vr_drop i1 o_m, spK, if_neg (by assumption), if_pos (by assumption)]))
   ·
    refine s_6 ?_
    exact le2 (i + 1) ((n * ((vr vs i).hi - (vr vs i).lo + 1))) ⟨(c_i o_m), (c_i o_m), trivial⟩ ⟨by omega, by omega, by omega, by omega, by rw [hy, vr_drop i1 o_m, spK]; rw [if_neg (by assumption), if_neg (by assumption)]⟩
 ·
  refine s_8 ?_
  exact rt1 (c_i (by rw [hy, List.drop_eq_nil_of_le o_m]; rfl))

set_option maxRecDepth 100000 in
set_option maxHeartbeats 4000000 in
theorem CheckVarsR_c {V : HV} {va : Value} {vs : List Vr} (hv : Vrs V va vs) (hn : ∀ v ∈ vs, v.nm.size ≤ 9223372036854775807) :
    FnC Tryz.prog 76 [va] V [] (fun v _ _ => v = (.int .i64 (cvC vs))) := by
 refine f_i Tryz.func76 ?_
 intro w0 D
 have hb := SlS.bound hv
 refine s_10 ?_
 refine lc1 [0] (fun (i : Int) => [(3, (Value.int .i64 i))]) (fun i => 0 ≤ i ∧ i ≤ vs.length ∧ ∀ x : Int, 0 ≤ x → x < i → cvE vs x = 0) (fun i => (vs.length - i).toNat) 0 ?_ ?_ ?_ 
 · exact ⟨rfl, trivial⟩
 · exact ⟨by omega, by omega, fun x a b => by omega⟩
 rintro i e1 ⟨i1, i2, hno⟩
 refine s_5 ?_
 refine oq (qv_lenSS UL.out rfl hv) ?_
 refine s_2 ?_
 refine iff' ?_ ?_ <;> intro c1
 ·
  refine s_7 ?_
  refine oq (qv_ias UL.out SZ.out e_vm hv rfl o_m o_m) ?_
  refine oq (qv_lds AG.out rfl hv o_m o_m (vrcs_at o_m o_m)) ?_
  refine a_lo fun b1 => ?_
  refine s_7 ?_
  refine oq (f_c (isNameR_c (hn _ (vr_in i1 o_m))) rfl rfl) ?_
  refine s_2 ?_
  refine iff' ?_ ?_ <;> intro c2
  ·
   refine s_7 ?_
   exact rt1 (c_i (by have z := cv_7 (vs := vs) (i := i) (by assumption); unfold cvC; rw [fnz_hit hno o_m i1 o_m, z]; rfl))
  ·
   refine s_3 ?_
   have hnm := (Decidable.not_not.1 c2)
   refine s_4 ?_
   refine lc1 [0,3,4,9,19] (fun (j : Int) => [(5, (Value.int .i64 j))]) (fun j => 0 ≤ j ∧ j ≤ i ∧ ∀ x : Int, 0 ≤ x → x < j → ¬ (vr vs x).nm = (vr vs i).nm) (fun j => (i - j).toNat) 0 ?_ ?_ ?_ 
   · exact ⟨rfl, trivial⟩
   · exact ⟨by omega, by omega, fun x a b => by omega⟩
   rintro j e2 ⟨j1, j2, hdu⟩
   refine s_7 ?_
   refine iff' ?_ ?_ <;> intro c3
   ·
    refine s_7 ?_
    refine qq (qv_ias UL.out SZ.out e_vm hv rfl o_m o_m) ?_
    refine qq (qv_fas FI.out rfl hv o_m o_m) ?_
    refine qq (qv_ldf PL.out rfl hv o_m o_m o_m (vrcs_el (o := 0) o_m o_m o_m rfl)) ?_
    refine s_2 ?_
    refine qq (qv_eqstr rfl rfl) ?_
    refine s_1 ?_
    refine iff' ?_ ?_ <;> intro c4
    ·
     refine s_9 ?_
     exact rt1 (c_i (by have z := cv_8 (vs := vs) (i := i) hnm (j := j) j1 o_m (by assumption); unfold cvC; rw [fnz_hit hno o_m i1 o_m, z]; rfl))
    ·
     refine s_6 ?_
     exact le1 (j + 1) ⟨(c_i o_m), trivial⟩ ⟨by omega, by omega, all_snoc hdu (by assumption)⟩
   ·
    refine s_4 ?_
    refine j_n [0,3,4,5,9,19,22] [(50, (.bool (decide ((((((vr vs (i)).kd) ≠ 0) ∧ (((vr vs (i)).kd) ≠ 1)) ∧ (((vr vs (i)).kd) ≠ 2)) ∧ (((vr vs (i)).kd) ≠ 3)))))] ?_ (fun e3 => ?_)
    ·
     refine s_5 ?_
     by_cases g1 : ((vr vs (i)).kd) ≠ 0
     ·
      refine s_5 ?_
      by_cases g2 : ((vr vs (i)).kd) ≠ 1
      ·
       refine s_5 ?_
       by_cases g3 : ((vr vs (i)).kd) ≠ 2
       ·
        refine s_5 ?_
        exact j_e ⟨(jb (ja ((ja ((ja g1 Iff.rfl).1 g2) Iff.rfl).1 g3) Iff.rfl)), trivial⟩
       ·
        refine s_5 ?_
        exact j_e ⟨(jf (fun z => (fun z => g3 ((ja ((ja g1 Iff.rfl).1 g2) Iff.rfl).2 z)) z.1)), trivial⟩
      ·
       refine s_10 ?_
       exact j_e ⟨(jf (fun z => (fun z => (fun z => g2 ((ja g1 Iff.rfl).2 z)) z.1) z.1)), trivial⟩
     ·
      refine s_15 ?_
      exact j_e ⟨(jf (fun z => (fun z => (fun z => g1 z.1) z.1) z.1)), trivial⟩
    refine iff' ?_ ?_ <;> intro c5
    ·
     refine s_7 ?_
     exact rt1 (c_i (by have z := cv_1 (vs := vs) (i := i) hnm (fun x a b => hdu x a o_m) (by unfold kdBad; omega); unfold cvC; rw [fnz_hit hno o_m i1 o_m, z]; rfl))
    ·
     refine s_8 ?_
     refine oq (f_c (boundedR_c) rfl rfl) ?_
     refine s_2 ?_
     refine iff' ?_ ?_ <;> intro c6
     ·
      refine s_7 ?_
      exact rt1 (c_i (by have z := cv_3 (vs := vs) (i := i) hnm (fun x a b => hdu x a o_m) (by unfold kdBad; omega) (by first | exact .inl (by assumption) | exact .inr (by unfold iniBad; omega)); unfold cvC; rw [fnz_hit hno o_m i1 o_m, z]; rfl))
     ·
      refine s_2 ?_
      have hbd := (Decidable.not_not.1 c6)
      refine j_n [0,3,4,5,9,19,22,50,56] [(83, (.bool (decide (((((vr vs (i)).kd) = 0) ∧ ((((vr vs (i)).ini) < ((vr vs (i)).lo)) ∨ (((vr vs (i)).hi) < ((vr vs (i)).ini)))) ∨ ((((vr vs (i)).kd) ≠ 0) ∧ (((vr vs (i)).ini) ≠ 0))))))] ?_ (fun e4 => ?_)
      ·
       refine s_5 ?_
       by_cases g4 : ((vr vs (i)).kd) = 0
       ·
        refine s_6 ?_
        by_cases g5 : ((vr vs (i)).ini) < ((vr vs (i)).lo)
        ·
         refine s_18 ?_
         exact j_e ⟨(jt (.inl ⟨g4, (.inl g5)⟩)), trivial⟩
        ·
         refine s_8 ?_
         by_cases g6 : ((vr vs (i)).hi) < ((vr vs (i)).ini)
         ·
          refine s_10 ?_
          exact j_e ⟨(jt (.inl ((ja g4 (jo g5 Iff.rfl)).1 g6))), trivial⟩
         ·
          refine s_4 ?_
          by_cases g7 : ((vr vs (i)).kd) ≠ 0
          ·
           exact absurd g4 g7
          ·
           refine s_6 ?_
           exact j_e ⟨(jf (fun z => z.elim (fun z => g6 ((ja g4 (jo g5 Iff.rfl)).2 z)) (fun z => g7 z.1))), trivial⟩
       ·
        refine s_18 ?_
        by_cases g8 : ((vr vs (i)).kd) ≠ 0
        ·
         refine s_6 ?_
         exact j_e ⟨(jb (jo (fun z => g4 z.1) (ja g8 Iff.rfl))), trivial⟩
        ·
         exact absurd g4 g8
      refine iff' ?_ ?_ <;> intro c7
      ·
       refine s_7 ?_
       exact rt1 (c_i (by have z := cv_3 (vs := vs) (i := i) hnm (fun x a b => hdu x a o_m) (by unfold kdBad; omega) (by first | exact .inl (by assumption) | exact .inr (by unfold iniBad; omega)); unfold cvC; rw [fnz_hit hno o_m i1 o_m, z]; rfl))
      ·
       refine s_1 ?_
       refine v_d 0 ?_
       refine s_5 ?_
       exact le1 (i + 1) ⟨(c_i o_m), trivial⟩ ⟨by omega, by omega, all_snoc hno (cv_0.2 ⟨hnm, fun x a b => hdu x a o_m, by unfold kdBad; omega, hbd, by unfold iniBad; omega⟩)⟩
 ·
  refine s_4 ?_
  have hz : fnz (cvE vs) vs.length = 0 := fnz_all fun x a b => hno x a o_m
  have hor : ∀ v ∈ vs, v.lo ≤ v.hi ∧ -1048576 ≤ v.lo ∧ v.hi ≤ 1048576 := fun v q => by obtain ⟨x, a, b, rfl⟩ := vr_mem q; exact (cv_0.1 (hno x a o_m)).2.2.2.1
  refine j_n [0,3,9] [(96, (.bool (decide (((4096 < (spK vs 1 1)) ∨ (4096 < (spK vs 2 1))) ∨ (256 < (spK vs 3 1))))))] ?_ (fun e5 => ?_)
  ·
   refine s_2 ?_
   refine oq (f_c (SpaceR_c hv hor) rfl rfl) ?_
   refine s_2 ?_
   by_cases g9 : 4096 < (spK vs 1 1)
   ·
    refine s_10 ?_
    exact j_e ⟨(jt (.inl (.inl g9))), trivial⟩
   ·
    refine s_1 ?_
    refine og (f_c (SpaceR_c hv hor) rfl rfl) w_a ?_
    refine s_3 ?_
    by_cases g10 : 4096 < (spK vs 2 1)
    ·
     refine s_5 ?_
     exact j_e ⟨(jt (.inl ((jo g9 Iff.rfl).1 g10))), trivial⟩
    ·
     refine s_1 ?_
     refine og (f_c (SpaceR_c hv hor) rfl rfl) w_a ?_
     refine s_3 ?_
     exact j_e ⟨(jb (jo (fun z => g10 ((jo g9 Iff.rfl).2 z)) Iff.rfl)), trivial⟩
  refine iff' ?_ ?_ <;> intro c8
  ·
   refine s_5 ?_
   exact rt1 (c_i (by unfold cvC; rw [if_neg (fun q => q hz), if_pos o_m]))
  ·
   refine s_6 ?_
   exact rt1 (c_i (by unfold cvC; rw [if_neg (fun q => q hz), if_neg o_m]))

set_option maxRecDepth 100000 in
set_option maxHeartbeats 4000000 in
theorem kidsR_c {V : HV} {o : Int} :
    FnC Tryz.prog 170 [(Value.int .i64 o)] V [] (fun v _ _ => v = (.int .i64 (knR o))) := by
 refine f_i Tryz.func170 ?_
 intro w0 D
 refine s_16 ?_
 refine iff' ?_ ?_ <;> intro c1
 ·
  refine s_1 ?_
  refine i_ft c1 ?_
  refine s_6 ?_
  exact rt1 (c_i (by unfold knR; (repeat' split) <;> omega))
 ·
  refine s_4 ?_
  refine iff' ?_ ?_ <;> intro c2
  ·
   refine s_6 ?_
   exact rt1 (c_i (by unfold knR; (repeat' split) <;> omega))
  ·
   refine s_6 ?_
   refine iff' ?_ ?_ <;> intro c3
   ·
    refine s_1 ?_
    refine i_ft c3 ?_
    refine s_6 ?_
    exact rt1 (c_i (by unfold knR; (repeat' split) <;> omega))
   ·
    refine s_4 ?_
    refine iff' ?_ ?_ <;> intro c4
    ·
     refine s_6 ?_
     exact rt1 (c_i (by unfold knR; (repeat' split) <;> omega))
    ·
     refine s_6 ?_
     refine iff' ?_ ?_ <;> intro c5
     ·
      refine s_1 ?_
      refine i_ft c5 ?_
      refine s_6 ?_
      exact rt1 (c_i (by unfold knR; (repeat' split) <;> omega))
     ·
      refine s_5 ?_
      refine iff' ?_ ?_ <;> intro c6
      ·
       refine s_1 ?_
       refine i_ft c6 ?_
       refine s_6 ?_
       exact rt1 (c_i (by unfold knR; (repeat' split) <;> omega))
      ·
       refine s_5 ?_
       refine iff' ?_ ?_ <;> intro c7
       ·
        refine s_1 ?_
        refine i_ft c7 ?_
        refine s_6 ?_
        exact rt1 (c_i (by unfold knR; (repeat' split) <;> omega))
       ·
        refine s_5 ?_
        refine iff' ?_ ?_ <;> intro c8
        ·
         refine s_1 ?_
         refine i_ft c8 ?_
         refine s_6 ?_
         exact rt1 (c_i (by unfold knR; (repeat' split) <;> omega))
        ·
         refine s_5 ?_
         refine iff' ?_ ?_ <;> intro c9
         ·
          refine s_1 ?_
          refine i_ft c9 ?_
          refine s_6 ?_
          exact rt1 (c_i (by unfold knR; (repeat' split) <;> omega))
         ·
          refine s_5 ?_
          refine iff' ?_ ?_ <;> intro c10
          ·
           refine s_1 ?_
           refine i_ft c10 ?_
           refine s_6 ?_
           exact rt1 (c_i (by unfold knR; (repeat' split) <;> omega))
          ·
           refine s_5 ?_
           refine iff' ?_ ?_ <;> intro c11
           ·
            refine s_1 ?_
            refine i_ft c11 ?_
            refine s_6 ?_
            exact rt1 (c_i (by unfold knR; (repeat' split) <;> omega))
           ·
            refine s_5 ?_
            refine iff' ?_ ?_ <;> intro c12
            ·
             refine s_1 ?_
             refine i_ft c12 ?_
             refine s_6 ?_
             exact rt1 (c_i (by unfold knR; (repeat' split) <;> omega))
            ·
             refine s_5 ?_
             refine iff' ?_ ?_ <;> intro c13
             ·
              refine s_1 ?_
              refine i_ft c13 ?_
              refine s_6 ?_
              exact rt1 (c_i (by unfold knR; (repeat' split) <;> omega))
             ·
              refine s_5 ?_
              refine iff' ?_ ?_ <;> intro c14
              ·
               refine s_1 ?_
               refine i_ft c14 ?_
               refine s_6 ?_
               exact rt1 (c_i (by unfold knR; (repeat' split) <;> omega))
              ·
               refine s_5 ?_
               refine iff' ?_ ?_ <;> intro c15
               ·
                refine s_1 ?_
                refine i_ft c15 ?_
                refine s_6 ?_
                exact rt1 (c_i (by unfold knR; (repeat' split) <;> omega))
               ·
                refine s_5 ?_
                refine iff' ?_ ?_ <;> intro c16
                ·
                 refine s_1 ?_
                 refine i_ft c16 ?_
                 refine s_6 ?_
                 exact rt1 (c_i (by unfold knR; (repeat' split) <;> omega))
                ·
                 refine s_5 ?_
                 refine iff' ?_ ?_ <;> intro c17
                 ·
                  refine s_1 ?_
                  refine i_ft c17 ?_
                  refine s_6 ?_
                  exact rt1 (c_i (by unfold knR; (repeat' split) <;> omega))
                 ·
                  refine s_5 ?_
                  refine iff' ?_ ?_ <;> intro c18
                  ·
                   refine s_1 ?_
                   refine i_ft c18 ?_
                   refine s_6 ?_
                   exact rt1 (c_i (by unfold knR; (repeat' split) <;> omega))
                  ·
                   refine s_4 ?_
                   refine iff' ?_ ?_ <;> intro c19
                   ·
                    refine s_6 ?_
                    exact rt1 (c_i (by unfold knR; (repeat' split) <;> omega))
                   ·
                    refine s_5 ?_
                    refine iff' ?_ ?_ <;> intro c20
                    ·
                     refine s_6 ?_
                     exact rt1 (c_i (by unfold knR; (repeat' split) <;> omega))
                    ·
                     refine s_5 ?_
                     refine iff' ?_ ?_ <;> intro c21
                     ·
                      refine s_6 ?_
                      exact rt1 (c_i (by unfold knR; (repeat' split) <;> omega))
                     ·
                      refine s_6 ?_
                      exact rt1 (c_i (by unfold knR; (repeat' split) <;> omega))

/-- What the function does, for arguments of a size below k. -/
def FMC (k : Nat) : Prop := ∀ (V : HV) (t : Tm) (ks va : Value) (vs : List Vr) (inp : Bool), Tms V ks t.kids → Vrs V va vs → t.sz < k → FnC Tryz.prog 133 [va, .agg #[.int .i64 t.op, .int .i64 t.n, ks], .bool (decide (inp = true))] V [] (fun v _ _ => v = .bool (@decide (fmd vs inp t) (Classical.propDecidable _)))

set_option maxRecDepth 100000 in
set_option maxHeartbeats 4000000 in
theorem formedR_step {V : HV} {t : Tm} {ks : Value} {va : Value} {vs : List Vr} {inp : Bool} {k : Nat} (IH : FMC k) (hT : Tms V ks t.kids) (hv : Vrs V va vs) (hk : t.sz < (k + 1 : Nat)) :
    FnC Tryz.prog 133 [va, (.agg #[(.int .i64 t.op), (.int .i64 t.n), ks]), (.bool (decide (inp = true)))] V [] (fun v _ _ => v = (.bool (decide (fmd vs inp t)))) := by
 refine f_i Tryz.func133 ?_
 intro w0 D
 obtain ⟨kvs, hS, hK⟩ := hT
 have hb := SlS.bound hS
 have hb2 := SlS.bound hv
 have hsk := sz_kids t
 refine s_2 ?_
 refine b_ox fun b1 => ?_
 refine s_6 ?_
 refine oq (f_c (kidsR_c) rfl rfl) ?_
 refine s_4 ?_
 refine j_n [0,1,2,4,6] [(40, (.bool (decide ((((knR t.op) = ((-1))) ∨ ((0 ≤ (knR t.op)) ∧ (((t.kids.length : Int)) ≠ (knR t.op)))) ∨ (((knR t.op) = ((-2))) ∧ ((((t.kids.length : Int)) < 2) ∨ (33 < ((t.kids.length : Int)))))))))] ?_ (fun e1 => ?_)
 ·
  refine s_4 ?_
  by_cases g1 : (knR t.op) = ((-1))
  ·
   refine s_27 ?_
   exact j_e ⟨(jt (.inl (.inl g1))), trivial⟩
  ·
   refine s_3 ?_
   by_cases g2 : 0 ≤ (knR t.op)
   ·
    refine s_2 ?_
    refine og (qv_lenSS UL.out rfl hS) w_a ?_
    refine s_5 ?_
    by_cases g3 : ((t.kids.length : Int)) ≠ (knR t.op)
    ·
     refine s_16 ?_
     exact j_e ⟨(jt (.inl ((jo g1 (ja g2 Iff.rfl)).1 g3))), trivial⟩
    ·
     refine s_3 ?_
     by_cases g4 : (knR t.op) = ((-2))
     ·
      refine s_2 ?_
      refine og (qv_lenSS UL.out rfl hS) w_a ?_
      refine s_2 ?_
      by_cases g5 : ((t.kids.length : Int)) < 2
      ·
       refine s_8 ?_
       exact j_e ⟨(jt (.inr ⟨g4, (.inl g5)⟩)), trivial⟩
      ·
       refine s_2 ?_
       refine og (qv_lenSS UL.out rfl hS) w_a ?_
       refine s_5 ?_
       exact j_e ⟨(jb (jo (fun z => g3 ((jo g1 (ja g2 Iff.rfl)).2 z)) (ja g4 (jo g5 Iff.rfl)))), trivial⟩
     ·
      refine s_13 ?_
      exact j_e ⟨(jf (fun z => z.elim (fun z => g3 ((jo g1 (ja g2 Iff.rfl)).2 z)) (fun z => g4 z.1))), trivial⟩
   ·
    refine s_11 ?_
    by_cases g6 : (knR t.op) = ((-2))
    ·
     refine s_2 ?_
     refine og (qv_lenSS UL.out rfl hS) w_a ?_
     refine s_2 ?_
     by_cases g7 : ((t.kids.length : Int)) < 2
     ·
      refine s_8 ?_
      exact j_e ⟨(jt (.inr ⟨g6, (.inl g7)⟩)), trivial⟩
     ·
      refine s_2 ?_
      refine og (qv_lenSS UL.out rfl hS) w_a ?_
      refine s_5 ?_
      exact j_e ⟨(jb (jo (fun z => z.elim g1 (fun z => g2 z.1)) (ja g6 (jo g7 Iff.rfl)))), trivial⟩
    ·
     refine s_13 ?_
     exact j_e ⟨(jf (fun z => z.elim (fun z => z.elim g1 (fun z => g2 z.1)) (fun z => g6 z.1))), trivial⟩
 refine iff' ?_ ?_ <;> intro c1
 ·
  refine s_5 ?_
  exact rt1 (jf (by intro q; have z := (fmd_eq t).1 q; first | exact absurd (fmdL_iff.1 z.2.2 i i1 o_m) (by assumption) | exact z.2.1 (.inl ⟨by assumption, by assumption⟩) | exact z.2.1 (.inr ⟨by assumption, by assumption⟩) | exact z.1 (by unfold kBad; omega)))
 ·
  refine s_3 ?_
  have hkb : ¬ kBad t.op t.kids.length := by unfold kBad; omega
  refine s_5 ?_
  refine iff' ?_ ?_ <;> intro c2
  ·
   refine s_1 ?_
   refine j_n [0,1,2,4,6,40,43] [(65, (.bool (decide (((t.n < 0) ∨ (((vs.length : Int)) ≤ t.n)) ∨ ((inp = true) ∧ (((vr vs (t.n)).kd) = 0))))))] ?_ (fun e2 => ?_)
   ·
    refine s_5 ?_
    by_cases g8 : t.n < 0
    ·
     refine s_19 ?_
     exact j_e ⟨(jt (.inl (.inl g8))), trivial⟩
    ·
     refine s_3 ?_
     refine og (qv_lenSS UL.out rfl hv) w_a ?_
     refine s_3 ?_
     by_cases g9 : ((vs.length : Int)) ≤ t.n
     ·
      refine s_12 ?_
      exact j_e ⟨(jt (.inl ((jo g8 Iff.rfl).1 g9))), trivial⟩
     ·
      refine s_2 ?_
      by_cases g10 : inp = true
      ·
       refine s_3 ?_
       refine og (qv_ias UL.out SZ.out e_vm hv rfl o_m o_m) w_a ?_
       refine og (qv_fas FI.out rfl hv o_m o_m) w_a ?_
       refine og (qv_ldf PL.out rfl hv o_m o_m o_m (vrcs_el (o := 1) o_m o_m o_m rfl)) w_a ?_
       refine s_4 ?_
       exact j_e ⟨(jb (jo (fun z => g9 ((jo g8 Iff.rfl).2 z)) (ja g10 Iff.rfl))), trivial⟩
      ·
       refine s_10 ?_
       exact j_e ⟨(jf (fun z => z.elim (fun z => g9 ((jo g8 Iff.rfl).2 z)) (fun z => g10 z.1))), trivial⟩
   refine iff' ?_ ?_ <;> intro c3
   ·
    refine s_5 ?_
    exact rt1 (jf (by intro q; have z := (fmd_eq t).1 q; first | exact absurd (fmdL_iff.1 z.2.2 i i1 o_m) (by assumption) | exact z.2.1 (.inl ⟨by assumption, by assumption⟩) | exact z.2.1 (.inr ⟨by assumption, by assumption⟩) | exact z.1 (by unfold kBad; omega)))
   ·
    refine s_3 ?_
    have hnb : ¬ nBad vs inp t.op t.n := by intro q; rcases q with ⟨q1, q2⟩ | ⟨q1, q2⟩ <;> first | exact absurd q2 (by assumption) | exact q1 (by assumption) | exact absurd q1 (by assumption)
    refine s_4 ?_
    refine lc1 [0,1,2,4,40,43,65] (fun (i : Int) => [(8, (Value.int .i64 i))]) (fun i => 0 ≤ i ∧ i ≤ t.kids.length ∧ ∀ x : Int, 0 ≤ x → x < i → fmd vs inp (tm t.kids x)) (fun i => (t.kids.length - i).toNat) 0 ?_ ?_ ?_ 
    · exact ⟨rfl, trivial⟩
    · exact ⟨by omega, by omega, fun x a b => by omega⟩
    rintro i e3 ⟨i1, i2, hno⟩
    refine s_6 ?_
    refine oq (qv_lenSS UL.out rfl hS) ?_
    refine s_2 ?_
    refine iff' ?_ ?_ <;> intro c4
    ·
     refine s_4 ?_
     have hsz := szL_at (l := t.kids) i1 o_m
     have hsn := szL_nn (t.kids.take i.toNat)
     refine s_5 ?_
     refine oq (qv_ias UL.out SZ.out e_vm hS rfl o_m o_m) ?_
     refine oq (qv_lds AG.out rfl hS o_m o_m (tmcs_at o_m o_m)) ?_
     refine s_1 ?_
     refine oq (f_c (IH _ _ _ _ _ _ (hK i i1 o_m) hv o_m) rfl rfl) ?_
     refine s_2 ?_
     refine iff' ?_ ?_ <;> intro c5
     ·
      refine s_7 ?_
      exact rt1 (jf (by intro q; have z := (fmd_eq t).1 q; first | exact absurd (fmdL_iff.1 z.2.2 i i1 o_m) (by assumption) | exact z.2.1 (.inl ⟨by assumption, by assumption⟩) | exact z.2.1 (.inr ⟨by assumption, by assumption⟩) | exact z.1 (by unfold kBad; omega)))
     ·
      refine s_6 ?_
      exact le1 (i + 1) ⟨(c_i o_m), trivial⟩ ⟨by omega, by omega, all_snoc hno (Classical.not_not.1 (by assumption))⟩
    ·
     refine s_7 ?_
     exact rt1 (jt (by exact (fmd_eq t).2 ⟨hkb, hnb, fmdL_iff.2 fun x a b => hno x a o_m⟩))
  ·
   refine s_1 ?_
   refine j_n [0,1,2,4,6,40,43] [(73, (.bool (decide ((t.op ≠ 0) ∧ (t.n ≠ 0)))))] ?_ (fun e4 => ?_)
   ·
    refine s_5 ?_
    by_cases g11 : t.op ≠ 0
    ·
     refine s_5 ?_
     exact j_e ⟨(jb (ja g11 Iff.rfl)), trivial⟩
    ·
     refine s_5 ?_
     exact j_e ⟨(jf (fun z => g11 z.1)), trivial⟩
   refine iff' ?_ ?_ <;> intro c6
   ·
    refine s_5 ?_
    exact rt1 (jf (by intro q; have z := (fmd_eq t).1 q; first | exact absurd (fmdL_iff.1 z.2.2 i i1 o_m) (by assumption) | exact z.2.1 (.inl ⟨by assumption, by assumption⟩) | exact z.2.1 (.inr ⟨by assumption, by assumption⟩) | exact z.1 (by unfold kBad; omega)))
   ·
    refine s_3 ?_
    have hnb : ¬ nBad vs inp t.op t.n := by intro q; rcases q with ⟨q1, q2⟩ | ⟨q1, q2⟩ <;> first | exact absurd q2 (by assumption) | exact q1 (by assumption) | exact absurd q1 (by assumption)
    refine s_4 ?_
    refine lc1 [0,1,2,4,40,43,73] (fun (i : Int) => [(8, (Value.int .i64 i))]) (fun i => 0 ≤ i ∧ i ≤ t.kids.length ∧ ∀ x : Int, 0 ≤ x → x < i → fmd vs inp (tm t.kids x)) (fun i => (t.kids.length - i).toNat) 0 ?_ ?_ ?_ 
    · exact ⟨rfl, trivial⟩
    · exact ⟨by omega, by omega, fun x a b => by omega⟩
    rintro i e5 ⟨i1, i2, hno⟩
    refine s_6 ?_
    refine oq (qv_lenSS UL.out rfl hS) ?_
    refine s_2 ?_
    refine iff' ?_ ?_ <;> intro c7
    ·
     refine s_4 ?_
     have hsz := szL_at (l := t.kids) i1 o_m
     have hsn := szL_nn (t.kids.take i.toNat)
     refine s_5 ?_
     refine oq (qv_ias UL.out SZ.out e_vm hS rfl o_m o_m) ?_
     refine oq (qv_lds AG.out rfl hS o_m o_m (tmcs_at o_m o_m)) ?_
     refine s_1 ?_
     refine oq (f_c (IH _ _ _ _ _ _ (hK i i1 o_m) hv o_m) rfl rfl) ?_
     refine s_2 ?_
     refine iff' ?_ ?_ <;> intro c8
     ·
      refine s_7 ?_
      exact rt1 (jf (by intro q; have z := (fmd_eq t).1 q; first | exact absurd (fmdL_iff.1 z.2.2 i i1 o_m) (by assumption) | exact z.2.1 (.inl ⟨by assumption, by assumption⟩) | exact z.2.1 (.inr ⟨by assumption, by assumption⟩) | exact z.1 (by unfold kBad; omega)))
     ·
      refine s_6 ?_
      exact le1 (i + 1) ⟨(c_i o_m), trivial⟩ ⟨by omega, by omega, all_snoc hno (Classical.not_not.1 (by assumption))⟩
    ·
     refine s_7 ?_
     exact rt1 (jt (by exact (fmd_eq t).2 ⟨hkb, hnb, fmdL_iff.2 fun x a b => hno x a o_m⟩))

theorem formedR_c : ∀ k, FMC k
  | 0 => fun _ t _ _ _ _ _ _ h => absurd h (by have := t.sz_pos; omega)
  | k + 1 => fun V t ks va vs inp hT hv hk => formedR_step (formedR_c k) hT hv hk
end Go.Proofs.YtbchkopkgpfkgaaGreatDoor
