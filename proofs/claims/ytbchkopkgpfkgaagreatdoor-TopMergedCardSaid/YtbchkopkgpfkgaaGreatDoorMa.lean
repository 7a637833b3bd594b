/- Ma. -/
import Derived.Test.YtbchkopkgpfkgaaGreatDoorWg
import Derived.Test.YtbchkopkgpfkgaaGreatDoorTi
namespace Go.Proofs.YtbchkopkgpfkgaaGreatDoor.Mg
open Go.Vc
open Classical

set_option maxRecDepth 100000 in
set_option maxHeartbeats 4000000 in
theorem whole_c {V : HV} {l : Value} {rv : List Value} {L : List (List Int)} {h i r : Int} (hl : Mat .i64 V l rv L) (hg : Good L) (h0 : 0 ≤ h) (h1 : h ≤ i) (h2 : i ≤ L.length) (h3 : 0 ≤ r) (h4 : r < L.length) :
    FnC Tryz.prog 124 [l, (Value.int .i64 h), (Value.int .i64 i), (Value.int .i64 r)] V [] (fun v _ _ => v = (.int .i64 (wsum L r.toNat h.toNat (i - h).toNat))) := by
 refine f_i Tryz.func124 ?_
 intro w0 D
 have hlen := hl.len
 have hle := hg.le
 refine s_15 ?_
 refine lc1 [0,1,2,3,8] (fun (j : Int) => [(9, (.int .i64 (wsum L r.toNat h.toNat (j - h).toNat))), (10, (Value.int .i64 j))]) (fun j => h ≤ j ∧ j ≤ i) (fun j => (i - j).toNat) h ?_ ?_ ?_ 
 · exact ⟨(c_i (by rw [show (h - h).toNat = 0 by omega]; rfl)), rfl, trivial⟩
 · exact ⟨by omega, by omega⟩
 rintro j e1 ⟨i1, i2⟩
 refine s_7 ?_
 refine iff' ?_ ?_ <;> intro c1
 ·
  refine s_3 ?_
  have e1 : wsum L r.toNat h.toNat (j - h).toNat + gi (gr L (j)) (r) = wsum L r.toNat h.toNat (j + 1 - h).toNat := by
    rw [show (j + 1 - h).toNat = (j - h).toNat + 1 by omega, wsum, show h.toNat + (j - h).toNat = j.toNat by omega]
  have e2 := wsum_bd hg (r := r.toNat) (h := h.toNat) o_m (j + 1 - h).toNat o_m
  have e3 := hg.row j o_m o_m
  refine s_4 ?_
  refine oq (qv_ia UL.out SZ.out e_vm (inV hl.sl) rfl o_m o_m) ?_
  refine oq (qv_ld PL.out rfl (inV hl.sl) o_m o_m) ?_
  refine s_1 ?_
  refine oq (qv_iai UL.out SZ.out e_vm (inVi (hl.row (j) o_m o_m)) rfl o_m o_m) ?_
  refine oq (qv_ldi PL.out rfl (inVi (hl.row (j) o_m o_m)) o_m o_m) ?_
  refine s_8 ?_
  exact le1 (j + 1) ⟨(c_i (by exact e1)), (c_i (by rfl)), trivial⟩ ⟨by omega, by omega⟩
 ·
  refine s_8 ?_
  exact rt1 (c_i (by rw [show j = i by omega]))

set_option maxRecDepth 100000 in
set_option maxHeartbeats 4000000 in
theorem ck2_c {V : HV} {n : Int} :
    FnC Tryz.prog 122 [(Value.int .i64 n)] V [] (fun v _ _ => v = (.bool (decide (n < 0 ∨ 1048576 < n)))) := by
 refine f_i Tryz.func122 ?_
 intro w0 D
 refine s_9 ?_
 by_cases g1 : n < 0
 ·
  refine s_6 ?_
  exact rt1 (jt o_m)
 ·
  refine s_6 ?_
  exact rt1 (jb o_m)

set_option maxRecDepth 100000 in
set_option maxHeartbeats 4000000 in
theorem po2_c {V : HV} {n : Int} :
    FnC Tryz.prog 71 [(Value.int .i64 n)] V [] (fun v _ _ => v = (.bool (decide (n < 0 ∨ 1152921504606846976 < n)))) := by
 refine f_i Tryz.func71 ?_
 intro w0 D
 refine s_9 ?_
 by_cases g1 : n < 0
 ·
  refine s_6 ?_
  exact rt1 (jt o_m)
 ·
  refine s_6 ?_
  exact rt1 (jb o_m)

set_option maxRecDepth 100000 in
set_option maxHeartbeats 4000000 in
theorem groups_c {V : HV} {k : Int} :
    FnC Tryz.prog 59 [(Value.int .i64 k)] V [] (fun v _ _ => v = (.bool (decide (1 ≤ k ∧ k ≤ 32)))) := by
 refine f_i Tryz.func59 ?_
 intro w0 D
 refine s_9 ?_
 by_cases g1 : 1 ≤ k
 ·
  refine s_6 ?_
  exact rt1 (jb o_m)
 ·
  refine s_6 ?_
  exact rt1 (jf o_m)

set_option maxRecDepth 100000 in
set_option maxHeartbeats 4000000 in
theorem ck1_c {V : HV} {row l : Value} {R : List Int} {vals : List Value} {b : Nat} (hr : Ints .i64 V row R) (hl : Sl V l vals) (hb : Cells V b [l]) :
    FnC Tryz.prog 121 [row, (Value.pointer (some ⟨b, 0, none⟩))] V [] (fun v _ _ => v = (.bool (decide (R.length ≠ vals.length)))) := by
 refine f_i Tryz.func121 ?_
 intro w0 D
 refine s_7 ?_
 refine oq (qv_lenI UL.out rfl hr) ?_
 refine s_1 ?_
 refine oq (qv_lenS UL.out rfl hl) ?_
 refine s_4 ?_
 exact rt1 (jb o_m)

set_option maxRecDepth 100000 in
set_option maxHeartbeats 4000000 in
theorem po1_c {V : HV} {row : Value} {R : List Int} {n : Int} {b : Nat} (hr : Ints .i64 V row R) (hb : Cells V b [Value.int .i64 n]) (h0 : 0 ≤ n) (h1 : n ≤ 1000000) :
    FnC Tryz.prog 70 [row, (Value.pointer (some ⟨b, 0, none⟩))] V [] (fun v _ _ => v = (.bool (decide ((R.length : Int) ≠ n + 1)))) := by
 refine f_i Tryz.func70 ?_
 intro w0 D
 refine s_7 ?_
 refine oq (qv_lenI UL.out rfl hr) ?_
 refine s_6 ?_
 exact rt1 (jb o_m)

set_option maxRecDepth 100000 in
set_option maxHeartbeats 4000000 in
theorem idxL_c {V : HV} {s : Value} {vals : List Value} {fid : Nat} {caps : List Value} {p : Int → Prop} (hs : Sl V s vals) (hf : ∀ i : Int, 0 ≤ i → i < vals.length → FnC Tryz.prog fid (gv vals i :: caps) V [] (fun v _ _ => v = .bool (decide (p i)))) :
    FnC Tryz.prog 169 [s, (Value.func (.func fid) #[] caps.toArray)] V [] (fun v _ _ => v = (.int .i64 (firstI p vals.length))) := by
 refine f_i Tryz.func169 ?_
 intro w0 D
 have hbd := hs.bound
 refine s_8 ?_
 refine oq (qv_lenS UL.out rfl hs) ?_
 refine s_3 ?_
 refine lc1 [0,1,7] (fun (j : Int) => [(8, (Value.int .i64 j))]) (fun j => 0 ≤ j ∧ j ≤ vals.length ∧ ∀ i : Int, 0 ≤ i → i < j → ¬ p i) (fun j => (vals.length - j).toNat) 0 ?_ ?_ ?_ 
 · exact ⟨rfl, trivial⟩
 · exact ⟨by omega, by omega, fun i a b => by omega⟩
 rintro j e1 ⟨i1, i2, hno⟩
 refine s_5 ?_
 refine iff' ?_ ?_ <;> intro c1
 ·
  refine s_13 ?_
  refine oq (qv_ia UL.out SZ.out e_vm (inV hs) rfl o_m o_m) ?_
  refine oq (qv_ld PL.out rfl (inV hs) o_m o_m) ?_
  refine oq (f_c (hf j o_m o_m) rfl rfl) ?_
  refine s_1 ?_
  refine iff' ?_ ?_ <;> intro c2
  ·
   refine s_8 ?_
   exact rt1 (c_i (by exact (firstI_some o_m (by assumption) hno _ o_m).symm))
  ·
   refine s_5 ?_
   exact le1 (j + 1) ⟨(c_i o_m), trivial⟩ ⟨by omega, by omega, all_snoc hno (by assumption)⟩
 ·
  refine s_7 ?_
  exact rt1 (c_i (by exact (firstI_none _ (fun i a b => hno i a o_m)).symm))

set_option maxRecDepth 100000 in
set_option maxHeartbeats 4000000 in
theorem conL_c {V : HV} {s : Value} {vals : List Value} {fid : Nat} {caps : List Value} {p : Int → Prop} (hs : Sl V s vals) (hf : ∀ i : Int, 0 ≤ i → i < vals.length → FnC Tryz.prog fid (gv vals i :: caps) V [] (fun v _ _ => v = .bool (decide (p i)))) :
    FnC Tryz.prog 120 [s, (Value.func (.func fid) #[] caps.toArray)] V [] (fun v _ _ => v = (.bool (decide (∃ i : Int, 0 ≤ i ∧ i < vals.length ∧ p i)))) := by
 refine f_i Tryz.func120 ?_
 intro w0 D
 refine s_8 ?_
 refine oq (f_c (idxL_c hs hf) rfl rfl) ?_
 refine s_4 ?_
 exact rt1 (jb (by exact firstI_nonneg _))

set_option maxRecDepth 100000 in
set_option maxHeartbeats 4000000 in
theorem idxI_c {V : HV} {s : Value} {vals : List Value} {fid : Nat} {caps : List Value} {p : Int → Prop} (hs : Sl V s vals) (hf : ∀ i : Int, 0 ≤ i → i < vals.length → FnC Tryz.prog fid (gv vals i :: caps) V [] (fun v _ _ => v = .bool (decide (p i)))) :
    FnC Tryz.prog 125 [s, (Value.func (.func fid) #[] caps.toArray)] V [] (fun v _ _ => v = (.int .i64 (firstI p vals.length))) := by
 refine f_i Tryz.func125 ?_
 intro w0 D
 have hbd := hs.bound
 refine s_8 ?_
 refine oq (qv_lenS UL.out rfl hs) ?_
 refine s_3 ?_
 refine lc1 [0,1,7] (fun (j : Int) => [(8, (Value.int .i64 j))]) (fun j => 0 ≤ j ∧ j ≤ vals.length ∧ ∀ i : Int, 0 ≤ i → i < j → ¬ p i) (fun j => (vals.length - j).toNat) 0 ?_ ?_ ?_ 
 · exact ⟨rfl, trivial⟩
 · exact ⟨by omega, by omega, fun i a b => by omega⟩
 rintro j e1 ⟨i1, i2, hno⟩
 refine s_5 ?_
 refine iff' ?_ ?_ <;> intro c1
 ·
  refine s_13 ?_
  refine oq (qv_ia UL.out SZ.out e_vm (inV hs) rfl o_m o_m) ?_
  refine oq (qv_ld PL.out rfl (inV hs) o_m o_m) ?_
  refine oq (f_c (hf j o_m o_m) rfl rfl) ?_
  refine s_1 ?_
  refine iff' ?_ ?_ <;> intro c2
  ·
   refine s_8 ?_
   exact rt1 (c_i (by exact (firstI_some o_m (by assumption) hno _ o_m).symm))
  ·
   refine s_5 ?_
   exact le1 (j + 1) ⟨(c_i o_m), trivial⟩ ⟨by omega, by omega, all_snoc hno (by assumption)⟩
 ·
  refine s_7 ?_
  exact rt1 (c_i (by exact (firstI_none _ (fun i a b => hno i a o_m)).symm))

set_option maxRecDepth 100000 in
set_option maxHeartbeats 4000000 in
theorem conI_c {V : HV} {s : Value} {vals : List Value} {fid : Nat} {caps : List Value} {p : Int → Prop} (hs : Sl V s vals) (hf : ∀ i : Int, 0 ≤ i → i < vals.length → FnC Tryz.prog fid (gv vals i :: caps) V [] (fun v _ _ => v = .bool (decide (p i)))) :
    FnC Tryz.prog 65 [s, (Value.func (.func fid) #[] caps.toArray)] V [] (fun v _ _ => v = (.bool (decide (∃ i : Int, 0 ≤ i ∧ i < vals.length ∧ p i)))) := by
 refine f_i Tryz.func65 ?_
 intro w0 D
 refine s_8 ?_
 refine oq (f_c (idxI_c hs hf) rfl rfl) ?_
 refine s_4 ?_
 exact rt1 (jb (by exact firstI_nonneg _))

set_option maxRecDepth 100000 in
set_option maxHeartbeats 4000000 in
theorem idxS_c {V : HV} {s : Value} {vals : List Value} {fid : Nat} {caps : List Value} {p : Int → Prop} (hs : Sl V s vals) (hf : ∀ i : Int, 0 ≤ i → i < vals.length → FnC Tryz.prog fid (gv vals i :: caps) V [] (fun v _ _ => v = .bool (decide (p i)))) :
    FnC Tryz.prog 126 [s, (Value.func (.func fid) #[] caps.toArray)] V [] (fun v _ _ => v = (.int .i64 (firstI p vals.length))) := by
 refine f_i Tryz.func126 ?_
 intro w0 D
 have hbd := hs.bound
 refine s_8 ?_
 refine oq (qv_lenS UL.out rfl hs) ?_
 refine s_3 ?_
 refine lc1 [0,1,7] (fun (j : Int) => [(8, (Value.int .i64 j))]) (fun j => 0 ≤ j ∧ j ≤ vals.length ∧ ∀ i : Int, 0 ≤ i → i < j → ¬ p i) (fun j => (vals.length - j).toNat) 0 ?_ ?_ ?_ 
 · exact ⟨rfl, trivial⟩
 · exact ⟨by omega, by omega, fun i a b => by omega⟩
 rintro j e1 ⟨i1, i2, hno⟩
 refine s_5 ?_
 refine iff' ?_ ?_ <;> intro c1
 ·
  refine s_13 ?_
  refine oq (qv_ia UL.out SZ.out e_vm (inV hs) rfl o_m o_m) ?_
  refine oq (qv_ld PL.out rfl (inV hs) o_m o_m) ?_
  refine oq (f_c (hf j o_m o_m) rfl rfl) ?_
  refine s_1 ?_
  refine iff' ?_ ?_ <;> intro c2
  ·
   refine s_8 ?_
   exact rt1 (c_i (by exact (firstI_some o_m (by assumption) hno _ o_m).symm))
  ·
   refine s_5 ?_
   exact le1 (j + 1) ⟨(c_i o_m), trivial⟩ ⟨by omega, by omega, all_snoc hno (by assumption)⟩
 ·
  refine s_7 ?_
  exact rt1 (c_i (by exact (firstI_none _ (fun i a b => hno i a o_m)).symm))

set_option maxRecDepth 100000 in
set_option maxHeartbeats 4000000 in
theorem conS_c {V : HV} {s : Value} {vals : List Value} {fid : Nat} {caps : List Value} {p : Int → Prop} (hs : Sl V s vals) (hf : ∀ i : Int, 0 ≤ i → i < vals.length → FnC Tryz.prog fid (gv vals i :: caps) V [] (fun v _ _ => v = .bool (decide (p i)))) :
    FnC Tryz.prog 69 [s, (Value.func (.func fid) #[] caps.toArray)] V [] (fun v _ _ => v = (.bool (decide (∃ i : Int, 0 ≤ i ∧ i < vals.length ∧ p i)))) := by
 refine f_i Tryz.func69 ?_
 intro w0 D
 refine s_8 ?_
 refine oq (f_c (idxS_c hs hf) rfl rfl) ?_
 refine s_4 ?_
 exact rt1 (jb (by exact firstI_nonneg _))

end Go.Proofs.YtbchkopkgpfkgaaGreatDoor.Mg

namespace Go.Proofs.YtbchkopkgpfkgaaGreatDoor.Mg
open Go.Vc
open Classical

set_option maxRecDepth 100000 in
set_option maxHeartbeats 4000000 in
theorem Check_c {V : HV} {l : Value} {rv : List Value} {L : List (List Int)} (hl : Mat .i64 V l rv L) :
    FnC Tryz.prog 58 [l] V [] (fun v _ _ => v = (.int .i64 (chk L))) := by
 refine f_i Tryz.func58 ?_
 intro w0 D
 have hlen := hl.len
 have hbd := hl.sl.bound
 refine s_2 ?_
 refine ops_box (v := l) (cs := [l]) rfl hl.sl.cells (fun b1 => ?_)
 refine s_5 ?_
 refine v_f 0 fun Vf1 hVf1 hc1 => ?_
 have hl := hl.mono hVf1
 refine s_2 ?_
 refine oq (qv_lenS UL.out rfl hl.sl) ?_
 refine s_3 ?_
 refine iff' ?_ ?_ <;> intro c1
 ·
  refine s_6 ?_
  exact rt1 (c_i (by rw [chk1 o_m]))
 ·
  refine s_3 ?_
  refine oq (qv_lenS UL.out rfl hl.sl) ?_
  refine s_3 ?_
  refine iff' ?_ ?_ <;> intro c2
  ·
   refine s_6 ?_
   exact rt1 (c_i (by rw [chk4 o_m]))
  ·
   refine s_5 ?_
   refine oq (qv_func (cs := [(Value.pointer (some ⟨b1, 0, none⟩))]) rfl) ?_
   refine oq (f_c (conL_c (fid := 121) (caps := [(Value.pointer (some ⟨b1, 0, none⟩))]) (p := fun i => (gr L i).length ≠ rv.length) hl.sl (fun i a b => (ck1_c (hl.row i a o_m) hl.sl hc1).boolI)) rfl rfl) ?_
   refine s_1 ?_
   refine iff' ?_ ?_ <;> intro c3
   ·
    refine s_5 ?_
    exact rt1 (c_i (by rw [chk2 o_m o_m (by obtain ⟨i, a, b, c⟩ := c3; have c : (gr L i).length ≠ rv.length := c; exact ⟨i, a, by omega, by omega⟩)]))
   ·
    refine s_3 ?_
    have hrag : ¬ Ragged L := fun ⟨i, a, b, c⟩ => c3 ⟨i, a, by omega, by show (gr L i).length ≠ rv.length; omega⟩
    have hrow : ∀ i : Int, 0 ≤ i → i < L.length → (gr L i).length = L.length := fun i a b => Decidable.not_not.1 fun c => hrag ⟨i, a, b, c⟩
    refine s_2 ?_
    refine oq (qv_lenS UL.out rfl hl.sl) ?_
    refine s_3 ?_
    refine lc1 [0,1,5,9,15,16,17] (fun (p : Int) => [(18, (Value.int .i64 p))]) (fun p => 0 ≤ p ∧ p ≤ rv.length ∧ ∀ i : Int, 0 ≤ i → i < p → ∀ j : Int, 0 ≤ j → j < L.length → ¬ Bad L i j) (fun p => (rv.length - p).toNat) 0 ?_ ?_ ?_ 
    · exact ⟨rfl, trivial⟩
    · exact ⟨by omega, by omega, fun i a b => by omega⟩
    rintro p e1 ⟨i1, i2, hp⟩
    refine s_5 ?_
    refine iff' ?_ ?_ <;> intro c4
    ·
     refine s_6 ?_
     refine oq (qv_ia UL.out SZ.out e_vm (inV hl.sl) rfl o_m o_m) ?_
     refine oq (qv_ld PL.out rfl (inV hl.sl) o_m o_m) ?_
     refine s_4 ?_
     have hrp : (gr L p).length = L.length := hrow p o_m o_m
     have hrb := (hl.row p o_m o_m).bound
     refine s_3 ?_
     refine oq (qv_iai UL.out SZ.out e_vm (inVi (hl.row (p) o_m o_m)) rfl o_m o_m) ?_
     refine oq (qv_ldi PL.out rfl (inVi (hl.row (p) o_m o_m)) o_m o_m) ?_
     refine s_2 ?_
     by_cases g1 : (gi (gr L (p)) (p)) ≠ 0
     ·
      refine s_12 ?_
      exact rt1 (c_i (by rw [chk3 o_m o_m hrag (by first | exact ⟨p, p, by omega, by omega, by omega, by omega, by unfold Bad; omega⟩ | (obtain ⟨i, a, b, c⟩ := trivial; exact ⟨p, i, by omega, by omega, a, by simp only [List.length_map] at b; omega, by rcases c with c | c; exact Or.inl c; exact Or.inr (Or.inl c)⟩))]))
     ·
      refine s_1 ?_
      refine og (f_c (conI_c (fid := 122) (caps := []) (p := fun i => gi (gr L p) i < 0 ∨ 1048576 < gi (gr L p) i) (hl.row p o_m o_m) (fun i a b => by rw [gv_ints a (by simpa using b)]; exact ck2_c.boolI)) rfl rfl) w_a ?_
      refine s_2 ?_
      refine iff' ?_ ?_ <;> intro c5
      ·
       refine s_7 ?_
       exact rt1 (c_i (by rw [chk3 o_m o_m hrag (by first | exact ⟨p, p, by omega, by omega, by omega, by omega, by unfold Bad; omega⟩ | (obtain ⟨i, a, b, c⟩ := c5; exact ⟨p, i, by omega, by omega, a, by simp only [List.length_map] at b; omega, by rcases c with c | c; exact Or.inl c; exact Or.inr (Or.inl c)⟩))]))
      ·
       refine s_5 ?_
       exact le1 (p + 1) ⟨(c_i o_m), trivial⟩ ⟨by omega, by omega, all_snoc hp (fun j c d hb => by rcases hb with hb | hb | ⟨rfl, hb⟩; exact c5 ⟨j, c, by simp only [List.length_map]; omega, Or.inl hb⟩; exact c5 ⟨j, c, by simp only [List.length_map]; omega, Or.inr hb⟩; omega)⟩
    ·
     refine s_7 ?_
     exact rt1 (c_i (by rw [chk0 o_m o_m hrag (fun ⟨i, j, a, b, c, d, e⟩ => hp i a o_m j c d e)]))

set_option maxRecDepth 100000 in
set_option maxHeartbeats 4000000 in
theorem interval_c {V : HV} {l : Value} {rv : List Value} {L : List (List Int)} {h i : Int} (hl : Mat .i64 V l rv L) (hg : Good L) (h0 : 0 ≤ h) (h1 : h ≤ i) (h2 : i ≤ L.length) :
    FnC Tryz.prog 123 [l, (Value.int .i64 h), (Value.int .i64 i)] V [] (fun v _ _ => v = (.int .i64 (ivTo L h.toNat i.toNat (i - h).toNat))) := by
 refine f_i Tryz.func123 ?_
 intro w0 D
 have hlen := hl.len
 have hle := hg.le
 refine s_15 ?_
 refine lc1 [0,1,2,6] (fun (r : Int) => [(7, (.int .i64 (ivTo L h.toNat i.toNat (r - h).toNat))), (8, (Value.int .i64 r))]) (fun r => h ≤ r ∧ r ≤ i) (fun r => (i - r).toNat) h ?_ ?_ ?_ 
 · exact ⟨(c_i (by rw [show (h - h).toNat = 0 by omega]; rfl)), rfl, trivial⟩
 · exact ⟨by omega, by omega⟩
 rintro r e1 ⟨i1, i2⟩
 refine s_7 ?_
 refine iff' ?_ ?_ <;> intro c1
 ·
  refine s_9 ?_
  refine oq (f_c (whole_c hl hg o_m o_m o_m o_m o_m) rfl rfl) ?_
  refine s_8 ?_
  by_cases g1 : r = h
  ·
   refine s_15 ?_
   exact le1 (r + 1) ⟨(c_i (by rw [ivTo_step L h0 o_m o_m]; first | rw [if_pos o_m] | rw [if_neg o_m])), (c_i (by rfl)), trivial⟩ ⟨by omega, by omega⟩
  ·
   refine s_5 ?_
   refine iff' ?_ ?_ <;> intro c2
   ·
    refine s_9 ?_
    exact le1 (r + 1) ⟨(c_i (by rw [ivTo_step L h0 o_m o_m]; first | rw [if_pos o_m] | rw [if_neg o_m])), (c_i (by rfl)), trivial⟩ ⟨by omega, by omega⟩
   ·
    refine s_6 ?_
    exact le1 (r + 1) ⟨(c_i (by rw [ivTo_step L h0 o_m o_m]; first | rw [if_pos o_m] | rw [if_neg o_m])), (c_i (by rfl)), trivial⟩ ⟨by omega, by omega⟩
 ·
  refine s_8 ?_
  exact rt1 (c_i (by rw [show r = i by omega]))

set_option maxRecDepth 100000 in
set_option maxHeartbeats 4000000 in
theorem intervals_c {V : HV} {l : Value} {rv : List Value} {L : List (List Int)} (hl : Mat .i64 V l rv L) (hg : Good L) :
    FnC Tryz.prog 60 [l] V [] (fun v V' σ' => σ' = [] ∧ ∃ cv, Mat .i64 V' v cv (ivals L)) := by
 refine f_i Tryz.func60 ?_
 intro w0 D
 have hlen := hl.len
 have hle := hg.le
 have hpos := hg.pos
 refine s_7 ?_
 refine oq (qv_lenS UL.out rfl hl.sl) ?_
 refine s_6 ?_
 refine ops_make (n := ((rv.length : Int)) + 1) UL.out TZ.out rfl rfl rfl rfl o_m o_m o_m (fun b1 => ?_)
 refine s_6 ?_
 refine oq (qv_len UL.out rfl rfl) ?_
 refine s_3 ?_
 refine lv2 [0,2,3,4,13] (fun (h : Int) (top : List Value) => [(14, (Value.int .i64 h))]) (fun h top => [(Arr 27 b1 top)]) (fun h top V' => Mat .i64 V' l rv L ∧ 0 ≤ h ∧ h ≤ rv.length + 1 ∧ top.length = rv.length + 1 ∧ ∀ j : Int, 0 ≤ j → j < h → Ints .i64 V' (gv top j) (gr (ivals L) j)) (fun h top => (rv.length + 1 - h).toNat) 0 ((List.replicate ((rv.length : Int) + 1).toNat (Value.slice none 0 0))) ?_ ?_ ?_ ?_ 
 · exact ⟨rfl, trivial⟩
 · rfl
 · exact ⟨hl, by omega, by omega, by rw [List.length_replicate]; omega, fun j a b => by omega⟩
 rintro h top e1 V0l ⟨hl, h0, h1, h2, h3⟩
 refine s_5 ?_
 refine iff' ?_ ?_ <;> intro c1
 ·
  refine s_14 ?_
  refine ops_make (n := ((rv.length : Int)) + 1) UL.out TZ.out rfl rfl rfl rfl o_m o_m o_m (fun b2 => ?_)
  refine oq (qv_ia (v := (.slice (some ⟨b1, 0, none⟩) (((rv.length : Int)) + 1).toNat (((rv.length : Int)) + 1).toNat)) UL.out SZ.out rfl (inO (k := 0) rfl (by first | (simp only [List.length_set]; omega) | omega) (Nat.le_refl _) o_m) rfl o_m o_m) ?_
  refine ops_ste (k := 0) (b := b1) (n := (((rv.length : Int)) + 1).toNat) (c := (((rv.length : Int)) + 1).toNat) (i := h) (cs := top) SZ.out rfl (rfl : ev _ _ = (.slice (some ⟨b2, 0, none⟩) (((rv.length : Int)) + 1).toNat (((rv.length : Int)) + 1).toNat)) rfl rfl o_m o_m ?_
  refine s_7 ?_
  refine lp1 [0,2,3,4,5,13,14,15] (fun (i : Int) => [(6, (Value.int .i64 i))]) (fun i => [(Arr 27 b1 (top.set h.toNat (.slice (some ⟨b2, 0, none⟩) ((rv.length : Int) + 1).toNat ((rv.length : Int) + 1).toNat))), (Arr 3 b2 ((ivPart L h.toNat i.toNat).map (Value.int .i64)))]) (fun i => h ≤ i ∧ i ≤ rv.length + 1) (fun i => (rv.length + 1 - i).toNat) h ?_ ?_ ?_ ?_ 
  · exact ⟨rfl, trivial⟩
  · (rw [← ivPart_start, show ((rv.length : Int) + 1).toNat = L.length + 1 by omega])
  · exact ⟨by omega, by omega⟩
  rintro i e2 ⟨g0, g1⟩
  refine s_7 ?_
  refine iff' ?_ ?_ <;> intro c2
  ·
   refine s_3 ?_
   refine ro1 [qt 0,qt 1,qt 2,qt 3,qt 4,qt 5,qt 6,qt 7,qt 8,qt 9,ld 10] ?_
   refine s_2 ?_
   refine rq rfl (qv_ia (v := (.slice (some ⟨b1, 0, none⟩) (((rv.length : Int)) + 1).toNat (((rv.length : Int)) + 1).toNat)) UL.out SZ.out rfl (inO (k := 0) rfl (by first | (simp only [List.length_set]; omega) | omega) (Nat.le_refl _) o_m) rfl o_m (by rw [List.length_set]; omega)) ?_
   refine rq rfl (qv_ldv (u := (.slice (some ⟨b2, 0, none⟩) ((rv.length : Int) + 1).toNat ((rv.length : Int) + 1).toNat)) (v := (.slice (some ⟨b1, 0, none⟩) (((rv.length : Int)) + 1).toNat (((rv.length : Int)) + 1).toNat)) (i := h) PL.out rfl (inO (k := 0) rfl (by first | (simp only [List.length_set]; omega) | omega) (Nat.le_refl _) o_m) o_m (by rw [List.length_set]; omega) (gv_set_same h0 o_m)) ?_
   refine s_4 ?_
   refine rq rfl (f_c (interval_c hl hg o_m o_m o_m) rfl rfl) ?_
   refine rq rfl (qv_ia (v := (.slice (some ⟨b2, 0, none⟩) ((rv.length : Int) + 1).toNat ((rv.length : Int) + 1).toNat)) UL.out SZ.out rfl (inO (k := 1) rfl (by rw [List.length_map, ivPart_len]; omega) (Nat.le_refl _) o_m) rfl o_m (by rw [List.length_map, ivPart_len]; omega)) ?_
   refine rl_o ?_
   refine ops_ste (k := 1) (b := b2) (n := ((rv.length : Int) + 1).toNat) (c := ((rv.length : Int) + 1).toNat) (i := i) (cs := ((ivPart L h.toNat i.toNat).map (Value.int .i64))) SZ.out rfl (rfl : ev _ _ = (.int .i64 (ivTo L h.toNat i.toNat (i - h).toNat))) rfl rfl o_m (by rw [List.length_map, ivPart_len]; omega) ?_
   refine on1 ?_
   refine s_6 ?_
   exact le1 (i + 1) ⟨(c_i o_m), trivial⟩ ⟨by omega, by omega⟩ (hr := by rw [show (i + 1).toNat = i.toNat + 1 by omega, ← ivPart_step L o_m, List.map_set, cF, show i.toNat - h.toNat = (i - h).toNat by omega])
  ·
   refine s_2 ?_
   refine vc_freeze (b := b2) (o := .cells (((ivPart L h.toNat i.toNat).map (Value.int .i64)) : List Value).toArray 3 (0, 0)) (σr := [(Arr 27 b1 (top.set h.toNat (Value.slice (some ⟨b2, 0, none⟩) ((rv.length : Int) + 1).toNat ((rv.length : Int) + 1).toNat)))]) (List.perm_middle (l₁ := [(Arr 27 b1 (top.set h.toNat (Value.slice (some ⟨b2, 0, none⟩) ((rv.length : Int) + 1).toNat ((rv.length : Int) + 1).toNat)))]) (l₂ := [])) (fun Vf1 hVf1 hb1 => ?_)
   have hc1 : Cells Vf1 b2 ((ivPart L h.toNat i.toNat).map (Value.int .i64)) := ⟨_, _, hb1⟩
   have hl := hl.mono hVf1
   refine s_4 ?_
   exact lw2 (h + 1) (top.set h.toNat (.slice (some ⟨b2, 0, none⟩) ((rv.length : Int) + 1).toNat ((rv.length : Int) + 1).toNat)) ⟨(c_i o_m), trivial⟩ ⟨hl, by omega, by omega, by rw [List.length_set]; exact h2, by
     refine all_snoc (fun j a b => ?_) ?_
     · rw [gv_set_other h0 a o_m]; exact (h3 j a b).mono hVf1
     · rw [gv_set_same h0 o_m, ivals_row L h h0 o_m, ivRow, show L.length + 1 = i.toNat by omega]
       exact sl_own hb1 (by rw [List.length_map, ivPart_len]; omega) (Nat.le_refl _) o_m⟩
 ·
  refine s_3 ?_
  refine vc_freeze (b := b1) (o := .cells (top : List Value).toArray 27 (0, 0)) (σr := []) (List.perm_middle (l₁ := []) (l₂ := [])) (fun Vf2 hVf2 hb2 => ?_)
  have hc2 : Cells Vf2 b1 top := ⟨_, _, hb2⟩
  have hl := hl.mono hVf2
  refine s_5 ?_
  refine ra1 ?_
  exact ⟨rfl, top, sl_own hb2 o_m (Nat.le_refl _) o_m, by rw [ivals_len]; omega, fun j a b => (h3 j a (by rw [ivals_len] at b; omega)).mono hVf2⟩

end Go.Proofs.YtbchkopkgpfkgaaGreatDoor.Mg

namespace Go.Proofs.YtbchkopkgpfkgaaGreatDoor.Mg
open Go.Vc
open Classical

set_option maxRecDepth 100000 in
set_option maxHeartbeats 4000000 in
theorem suffixes_c {V : HV} {c : Value} {cv : List Value} {C : List (List Int)} {n k : Int} (hc : Mat .i64 V c cv C) (hC : Costs C n) (k0 : 1 ≤ k) (k1 : k ≤ 32) :
    FnC Tryz.prog 61 [c, (Value.int .i64 n), (Value.int .i64 k)] V [] (fun v V' σ' => σ' = [] ∧ ∃ sv, Mat .i64 V' v sv (sufs C n k)) := by
 refine f_i Tryz.func61 ?_
 intro w0 D
 have hlen := hc.len
 have hn0 := hC.n0
 have hn1 := hC.n1
 have hcl := hC.len
 refine s_8 ?_
 refine ops_make (n := k + 1) UL.out TZ.out rfl rfl rfl rfl o_m o_m o_m (fun b1 => ?_)
 refine s_6 ?_
 refine oq (qv_len UL.out rfl rfl) ?_
 refine s_3 ?_
 refine lv2 [0,1,2,6,7,15] (fun (j : Int) (top : List Value) => [(16, (Value.int .i64 j))]) (fun j top => [(Arr 27 b1 top)]) (fun j top V' => Mat .i64 V' c cv C ∧ 0 ≤ j ∧ j ≤ k + 1 ∧ top.length = k + 1 ∧ ∀ y : Int, 0 ≤ y → y < j → Ints .i64 V' (gv top y) (gr (sufs C n k) y)) (fun j top => (k + 1 - j).toNat) 0 ((List.replicate (k + 1).toNat (Value.slice none 0 0))) ?_ ?_ ?_ ?_ 
 · exact ⟨rfl, trivial⟩
 · rfl
 · exact ⟨hc, by omega, by omega, by rw [List.length_replicate]; omega, fun j a b => by omega⟩
 rintro j top e1 V0l ⟨hc, h0, h1, h2, h3⟩
 refine s_5 ?_
 refine iff' ?_ ?_ <;> intro c1
 ·
  refine s_14 ?_
  refine ops_make (n := n + 1) UL.out TZ.out rfl rfl rfl rfl o_m o_m o_m (fun b2 => ?_)
  refine oq (qv_ia (v := (.slice (some ⟨b1, 0, none⟩) (k + 1).toNat (k + 1).toNat)) UL.out SZ.out rfl (inO (k := 0) rfl (by first | (simp only [List.length_set]; omega) | omega) (Nat.le_refl _) o_m) rfl o_m o_m) ?_
  refine ops_ste (k := 0) (b := b1) (n := (k + 1).toNat) (c := (k + 1).toNat) (i := j) (cs := top) SZ.out rfl (rfl : ev _ _ = (.slice (some ⟨b2, 0, none⟩) (n + 1).toNat (n + 1).toNat)) rfl rfl o_m o_m ?_
  refine s_8 ?_
  refine lp1 [0,1,2,6,7,8,15,16,17] (fun (i : Int) => [(9, (Value.int .i64 i))]) (fun i => [(Arr 27 b1 (top.set j.toNat (.slice (some ⟨b2, 0, none⟩) (n + 1).toNat (n + 1).toNat))), (Arr 3 b2 ((sufPart C n j (i + 1)).map (Value.int .i64)))]) (fun i => -1 ≤ i ∧ i < n) (fun i => (i + 1).toNat) (n - 1) ?_ ?_ ?_ ?_ 
  · exact ⟨(c_i (by first | omega | simp)), trivial⟩
  · (rw [show n - 1 + 1 = n by omega, ← sufPart_start C o_m, show (n + 1).toNat = n.toNat + 1 by omega])
  · exact ⟨by omega, by omega⟩
  rintro i e2 ⟨g0, g1⟩
  refine s_6 ?_
  refine iff' ?_ ?_ <;> intro c2
  ·
   refine s_7 ?_
   refine oq (qv_ia (v := (.slice (some ⟨b1, 0, none⟩) (k + 1).toNat (k + 1).toNat)) UL.out SZ.out rfl (inO (k := 0) rfl (by first | (simp only [List.length_set]; omega) | omega) (Nat.le_refl _) o_m) rfl o_m (by rw [List.length_set]; omega)) ?_
   refine oq (qv_ldv (u := (.slice (some ⟨b2, 0, none⟩) (n + 1).toNat (n + 1).toNat)) (v := (.slice (some ⟨b1, 0, none⟩) (k + 1).toNat (k + 1).toNat)) (i := j) PL.out rfl (inO (k := 0) rfl (by first | (simp only [List.length_set]; omega) | omega) (Nat.le_refl _) o_m) o_m (by rw [List.length_set]; omega) (gv_set_same h0 o_m)) ?_
   refine s_1 ?_
   refine oq (qv_ia (v := (.slice (some ⟨b2, 0, none⟩) (n + 1).toNat (n + 1).toNat)) UL.out SZ.out rfl (inO (k := 1) rfl (by simp only [List.length_map, List.length_set, sufPart_len]; omega) (Nat.le_refl _) o_m) rfl o_m (by simp only [List.length_map, List.length_set, sufPart_len]; omega)) ?_
   refine ops_ste (k := 1) (b := b2) (n := (n + 1).toNat) (c := (n + 1).toNat) (i := i) (cs := ((sufPart C n j (i + 1)).map (Value.int .i64))) SZ.out rfl (rfl : ev _ _ = (Value.int .i64 1152921504606846976)) rfl rfl o_m (by simp only [List.length_map, List.length_set, sufPart_len]; omega) ?_
   refine s_8 ?_
   refine lp1 [0,1,2,6,7,8,9,15,16,17,28] (fun (e : Int) => [(10, (Value.int .i64 e))]) (fun e => [(Arr 27 b1 (top.set j.toNat (.slice (some ⟨b2, 0, none⟩) (n + 1).toNat (n + 1).toNat))), (Arr 3 b2 (((sufPart C n j (i + 1)).map (Value.int .i64)).set (i).toNat (.int .i64 (sV C n j i e))))]) (fun e => i + 1 ≤ e ∧ e ≤ n + 1) (fun e => (n + 1 - e).toNat) (i + 1) ?_ ?_ ?_ ?_ 
   · exact ⟨(c_i (by first | omega | simp)), trivial⟩
   · (rw [sV_start])
   · exact ⟨by omega, by omega⟩
   rintro e e3 ⟨f0, f1⟩
   refine s_6 ?_
   by_cases g1 : 0 < j
   ·
    refine s_5 ?_
    refine iff' ?_ ?_ <;> intro c3
    ·
     refine s_3 ?_
     have e1 := sufRow_bd hC (j - 1).toNat e o_m o_m
     have e2 := hC.rng i e o_m o_m o_m o_m
     have e3 := hC.row i o_m o_m
     refine ro1 [qt 0,qt 1,qt 2,qt 3,qt 4,qt 5,qt 6,qt 7,qt 8,qt 9,qt 10,qt 11,qt 12,qt 13,qt 14,qt 15,qt 16,qt 17,qt 18,qt 19,qt 20,qt 21,qt 22,qt 23,qt 24,qt 25,qt 26,qt 27,qt 28,qt 29,ld 30] ?_
     refine s_2 ?_
     refine rq rfl (qv_ia (v := (.slice (some ⟨b1, 0, none⟩) (k + 1).toNat (k + 1).toNat)) UL.out SZ.out rfl (inO (k := 0) rfl (by first | (simp only [List.length_set]; omega) | omega) (Nat.le_refl _) o_m) rfl o_m (by rw [List.length_set]; omega)) ?_
     refine rq rfl (qv_ldv (u := (.slice (some ⟨b2, 0, none⟩) (n + 1).toNat (n + 1).toNat)) (v := (.slice (some ⟨b1, 0, none⟩) (k + 1).toNat (k + 1).toNat)) (i := j) PL.out rfl (inO (k := 0) rfl (by first | (simp only [List.length_set]; omega) | omega) (Nat.le_refl _) o_m) o_m (by rw [List.length_set]; omega) (gv_set_same h0 o_m)) ?_
     refine s_3 ?_
     refine rq rfl (qv_ia (v := (.slice (some ⟨b1, 0, none⟩) (k + 1).toNat (k + 1).toNat)) UL.out SZ.out rfl (inO (k := 0) rfl (by first | (simp only [List.length_set]; omega) | omega) (Nat.le_refl _) o_m) rfl o_m (by rw [List.length_set]; omega)) ?_
     refine rq rfl (qv_ldv (u := (.slice (some ⟨b2, 0, none⟩) (n + 1).toNat (n + 1).toNat)) (v := (.slice (some ⟨b1, 0, none⟩) (k + 1).toNat (k + 1).toNat)) (i := j) PL.out rfl (inO (k := 0) rfl (by first | (simp only [List.length_set]; omega) | omega) (Nat.le_refl _) o_m) o_m (by rw [List.length_set]; omega) (gv_set_same h0 o_m)) ?_
     refine s_1 ?_
     refine rq rfl (qv_ia (v := (.slice (some ⟨b2, 0, none⟩) (n + 1).toNat (n + 1).toNat)) UL.out SZ.out rfl (inO (k := 1) rfl (by simp only [List.length_map, List.length_set, sufPart_len]; omega) (Nat.le_refl _) o_m) rfl o_m (by simp only [List.length_map, List.length_set, sufPart_len]; omega)) ?_
     refine rq rfl (qv_ldv (u := (.int .i64 (sV C n j i e))) (v := (.slice (some ⟨b2, 0, none⟩) (n + 1).toNat (n + 1).toNat)) (i := i) PL.out rfl (inO (k := 1) rfl (by simp only [List.length_map, List.length_set, sufPart_len]; omega) (Nat.le_refl _) o_m) o_m (by simp only [List.length_map, List.length_set, sufPart_len]; omega) (gv_set_same o_m (by simp only [List.length_map, sufPart_len]; omega))) ?_
     refine s_2 ?_
     refine rq rfl (qv_ia UL.out SZ.out e_vm (inV hc.sl) rfl o_m o_m) ?_
     refine rq rfl (qv_ld PL.out rfl (inV hc.sl) o_m o_m) ?_
     refine s_1 ?_
     refine rq rfl (qv_iai UL.out SZ.out e_vm (inVi (hc.row (i) o_m o_m)) rfl o_m o_m) ?_
     refine rq rfl (qv_ldi PL.out rfl (inVi (hc.row (i) o_m o_m)) o_m o_m) ?_
     refine s_3 ?_
     refine rq rfl (qv_ia (v := (.slice (some ⟨b1, 0, none⟩) (k + 1).toNat (k + 1).toNat)) UL.out SZ.out rfl (inO (k := 0) rfl (by first | (simp only [List.length_set]; omega) | omega) (Nat.le_refl _) o_m) rfl o_m (by rw [List.length_set]; omega)) ?_
     refine rq rfl (qv_ldv (u := (gv top (j - 1))) (v := (.slice (some ⟨b1, 0, none⟩) (k + 1).toNat (k + 1).toNat)) (i := j - 1) PL.out rfl (inO (k := 0) rfl (by first | (simp only [List.length_set]; omega) | omega) (Nat.le_refl _) o_m) o_m (by rw [List.length_set]; omega) (gv_set_other h0 o_m o_m)) ?_
     refine s_1 ?_
     refine rq rfl (qv_iai UL.out SZ.out e_vm (inVi (h3 (j - 1) o_m o_m)) rfl o_m (by rw [sufs_row C n k (j - 1) o_m o_m, sufRow_len]; omega)) ?_
     refine rq rfl (qv_ldi PL.out rfl (inVi (h3 (j - 1) o_m o_m)) o_m (by rw [sufs_row C n k (j - 1) o_m o_m, sufRow_len]; omega)) ?_
     refine rq rfl (qv_add rfl rfl (by rw [sufs_row C n k (j - 1) o_m o_m]; omega)) ?_
     refine s_1 ?_
     refine rq rfl (qv_ia (v := (.slice (some ⟨b2, 0, none⟩) (n + 1).toNat (n + 1).toNat)) UL.out SZ.out rfl (inO (k := 1) rfl (by simp only [List.length_map, List.length_set, sufPart_len]; omega) (Nat.le_refl _) o_m) rfl o_m (by simp only [List.length_map, List.length_set, sufPart_len]; omega)) ?_
     refine rl_o ?_
     refine ops_ste (k := 1) (b := b2) (n := (n + 1).toNat) (c := (n + 1).toNat) (i := i) (cs := (((sufPart C n j (i + 1)).map (Value.int .i64)).set (i).toNat (.int .i64 (sV C n j i e)))) SZ.out rfl (rfl : ev _ _ = (.int .i64 (if ((gi (gr C (i)) (e)) + (gi (gr (sufs C n k) (j - 1)) (e))) < (sV C n j i e) then (gi (gr C (i)) (e)) + (gi (gr (sufs C n k) (j - 1)) (e)) else sV C n j i e))) rfl rfl o_m (by simp only [List.length_map, List.length_set, sufPart_len]; omega) ?_
     refine on1 ?_
     refine s_6 ?_
     exact le1 (e + 1) ⟨(c_i o_m), trivial⟩ ⟨by omega, by omega⟩ (hr := by rw [sV_step C o_m o_m, List.set_set, sufs_row C n k (j - 1) o_m o_m])
    ·
     refine s_7 ?_
     exact le1 (i - 1) ⟨(c_i o_m), trivial⟩ ⟨by omega, by omega⟩ (hr := by rw [show i - 1 + 1 = i by omega, ← sufPart_step C (v := sV C n j i e) o_m o_m (sV_end C o_m o_m o_m o_m), List.map_set])
   ·
    refine s_13 ?_
    exact le1 (i - 1) ⟨(c_i o_m), trivial⟩ ⟨by omega, by omega⟩ (hr := by rw [show i - 1 + 1 = i by omega, ← sufPart_step C (v := sV C n j i e) o_m o_m (sV_end C o_m o_m o_m o_m), List.map_set])
  ·
   refine s_2 ?_
   refine vc_freeze (b := b2) (o := .cells (((sufPart C n j (i + 1)).map (Value.int .i64)) : List Value).toArray 3 (0, 0)) (σr := [(Arr 27 b1 (top.set j.toNat (Value.slice (some ⟨b2, 0, none⟩) (n + 1).toNat (n + 1).toNat)))]) (List.perm_middle (l₁ := [(Arr 27 b1 (top.set j.toNat (Value.slice (some ⟨b2, 0, none⟩) (n + 1).toNat (n + 1).toNat)))]) (l₂ := [])) (fun Vf1 hVf1 hb1 => ?_)
   have hc1 : Cells Vf1 b2 ((sufPart C n j (i + 1)).map (Value.int .i64)) := ⟨_, _, hb1⟩
   have hc := hc.mono hVf1
   refine s_4 ?_
   exact lw2 (j + 1) (top.set j.toNat (.slice (some ⟨b2, 0, none⟩) (n + 1).toNat (n + 1).toNat)) ⟨(c_i o_m), trivial⟩ ⟨hc, by omega, by omega, by rw [List.length_set]; exact h2, by
     refine all_snoc (fun j a b => ?_) ?_
     · rw [gv_set_other h0 a o_m]; exact (h3 j a b).mono hVf1
     · rw [gv_set_same h0 o_m, sufs_row C n k j h0 o_m, ← sufPart_end, show (0 : Int) = i + 1 by omega]
       exact sl_own hb1 (by rw [List.length_map, sufPart_len]; omega) (Nat.le_refl _) o_m⟩
 ·
  refine s_3 ?_
  refine vc_freeze (b := b1) (o := .cells (top : List Value).toArray 27 (0, 0)) (σr := []) (List.perm_middle (l₁ := []) (l₂ := [])) (fun Vf2 hVf2 hb2 => ?_)
  have hc2 : Cells Vf2 b1 top := ⟨_, _, hb2⟩
  have hc := hc.mono hVf2
  refine s_5 ?_
  refine ra1 ?_
  exact ⟨rfl, top, sl_own hb2 o_m (Nat.le_refl _) o_m, by rw [sufs_len]; omega, fun j a b => (h3 j a (by rw [sufs_len] at b; omega)).mono hVf2⟩

set_option maxRecDepth 100000 in
set_option maxHeartbeats 4000000 in
theorem prefixes_c {V : HV} {c : Value} {cv : List Value} {C : List (List Int)} {n k : Int} (hc : Mat .i64 V c cv C) (hC : Costs C n) (k0 : 1 ≤ k) (k1 : k ≤ 32) :
    FnC Tryz.prog 63 [c, (Value.int .i64 n), (Value.int .i64 k)] V [] (fun v V' σ' => σ' = [] ∧ ∃ sv, Mat .i64 V' v sv (pres C n k)) := by
 refine f_i Tryz.func63 ?_
 intro w0 D
 have hlen := hc.len
 have hn0 := hC.n0
 have hn1 := hC.n1
 have hcl := hC.len
 refine s_8 ?_
 refine ops_make (n := k + 1) UL.out TZ.out rfl rfl rfl rfl o_m o_m o_m (fun b1 => ?_)
 refine s_6 ?_
 refine oq (qv_len UL.out rfl rfl) ?_
 refine s_3 ?_
 refine lv2 [0,1,2,6,7,15] (fun (j : Int) (top : List Value) => [(16, (Value.int .i64 j))]) (fun j top => [(Arr 27 b1 top)]) (fun j top V' => Mat .i64 V' c cv C ∧ 0 ≤ j ∧ j ≤ k + 1 ∧ top.length = k + 1 ∧ ∀ y : Int, 0 ≤ y → y < j → Ints .i64 V' (gv top y) (gr (pres C n k) y)) (fun j top => (k + 1 - j).toNat) 0 ((List.replicate (k + 1).toNat (Value.slice none 0 0))) ?_ ?_ ?_ ?_ 
 · exact ⟨rfl, trivial⟩
 · rfl
 · exact ⟨hc, by omega, by omega, by rw [List.length_replicate]; omega, fun j a b => by omega⟩
 rintro j top e1 V0l ⟨hc, h0, h1, h2, h3⟩
 refine s_5 ?_
 refine iff' ?_ ?_ <;> intro c1
 ·
  refine s_14 ?_
  refine ops_make (n := n + 1) UL.out TZ.out rfl rfl rfl rfl o_m o_m o_m (fun b2 => ?_)
  refine oq (qv_ia (v := (.slice (some ⟨b1, 0, none⟩) (k + 1).toNat (k + 1).toNat)) UL.out SZ.out rfl (inO (k := 0) rfl (by first | (simp only [List.length_set]; omega) | omega) (Nat.le_refl _) o_m) rfl o_m o_m) ?_
  refine ops_ste (k := 0) (b := b1) (n := (k + 1).toNat) (c := (k + 1).toNat) (i := j) (cs := top) SZ.out rfl (rfl : ev _ _ = (.slice (some ⟨b2, 0, none⟩) (n + 1).toNat (n + 1).toNat)) rfl rfl o_m o_m ?_
  refine s_6 ?_
  refine lp1 [0,1,2,6,7,8,15,16,17] (fun (i : Int) => [(9, (Value.int .i64 i))]) (fun i => [(Arr 27 b1 (top.set j.toNat (.slice (some ⟨b2, 0, none⟩) (n + 1).toNat (n + 1).toNat))), (Arr 3 b2 ((prePart C n j (i)).map (Value.int .i64)))]) (fun i => 1 ≤ i ∧ i ≤ n + 1) (fun i => (n + 1 - i).toNat) 1 ?_ ?_ ?_ ?_ 
  · exact ⟨rfl, trivial⟩
  · (rw [← prePart_start C o_m, show (n + 1).toNat = n.toNat + 1 by omega])
  · exact ⟨by omega, by omega⟩
  rintro i e2 ⟨g0, g1⟩
  refine s_7 ?_
  refine iff' ?_ ?_ <;> intro c2
  ·
   refine s_7 ?_
   refine oq (qv_ia (v := (.slice (some ⟨b1, 0, none⟩) (k + 1).toNat (k + 1).toNat)) UL.out SZ.out rfl (inO (k := 0) rfl (by first | (simp only [List.length_set]; omega) | omega) (Nat.le_refl _) o_m) rfl o_m (by rw [List.length_set]; omega)) ?_
   refine oq (qv_ldv (u := (.slice (some ⟨b2, 0, none⟩) (n + 1).toNat (n + 1).toNat)) (v := (.slice (some ⟨b1, 0, none⟩) (k + 1).toNat (k + 1).toNat)) (i := j) PL.out rfl (inO (k := 0) rfl (by first | (simp only [List.length_set]; omega) | omega) (Nat.le_refl _) o_m) o_m (by rw [List.length_set]; omega) (gv_set_same h0 o_m)) ?_
   refine s_1 ?_
   refine oq (qv_ia (v := (.slice (some ⟨b2, 0, none⟩) (n + 1).toNat (n + 1).toNat)) UL.out SZ.out rfl (inO (k := 1) rfl (by simp only [List.length_map, List.length_set, prePart_len]; omega) (Nat.le_refl _) o_m) rfl o_m (by simp only [List.length_map, List.length_set, prePart_len]; omega)) ?_
   refine ops_ste (k := 1) (b := b2) (n := (n + 1).toNat) (c := (n + 1).toNat) (i := i) (cs := ((prePart C n j (i)).map (Value.int .i64))) SZ.out rfl (rfl : ev _ _ = (Value.int .i64 1152921504606846976)) rfl rfl o_m (by simp only [List.length_map, List.length_set, prePart_len]; omega) ?_
   refine s_6 ?_
   refine lp1 [0,1,2,6,7,8,9,15,16,17,27] (fun (e : Int) => [(10, (Value.int .i64 e))]) (fun e => [(Arr 27 b1 (top.set j.toNat (.slice (some ⟨b2, 0, none⟩) (n + 1).toNat (n + 1).toNat))), (Arr 3 b2 (((prePart C n j (i)).map (Value.int .i64)).set (i).toNat (.int .i64 (pV C n j i e))))]) (fun e => 0 ≤ e ∧ e ≤ i + 1) (fun e => (i + 1 - e).toNat) 0 ?_ ?_ ?_ ?_ 
   · exact ⟨rfl, trivial⟩
   · (rw [pV_start])
   · exact ⟨by omega, by omega⟩
   rintro e e3 ⟨f0, f1⟩
   refine s_6 ?_
   by_cases g1 : 0 < j
   ·
    refine s_5 ?_
    refine iff' ?_ ?_ <;> intro c3
    ·
     refine s_8 ?_
     by_cases g2 : 1 < j
     ·
      refine s_5 ?_
      have e1 := preRow_bd hC (j - 1).toNat e o_m o_m
      have e2 := hC.rng e i o_m o_m o_m o_m
      have e3 := hC.row e o_m o_m
      refine ro1 [qt 0,qt 1,qt 2,qt 3,qt 4,qt 5,qt 6,qt 7,qt 8,qt 9,qt 10,qt 11,qt 12,qt 13,qt 14,qt 15,qt 16,qt 17,qt 18,qt 19,qt 20,qt 21,qt 22,qt 23,qt 24,qt 25,qt 26,qt 27,qt 28,qt 29,ld 30] ?_
      refine s_2 ?_
      refine rq rfl (qv_ia (v := (.slice (some ⟨b1, 0, none⟩) (k + 1).toNat (k + 1).toNat)) UL.out SZ.out rfl (inO (k := 0) rfl (by first | (simp only [List.length_set]; omega) | omega) (Nat.le_refl _) o_m) rfl o_m (by rw [List.length_set]; omega)) ?_
      refine rq rfl (qv_ldv (u := (.slice (some ⟨b2, 0, none⟩) (n + 1).toNat (n + 1).toNat)) (v := (.slice (some ⟨b1, 0, none⟩) (k + 1).toNat (k + 1).toNat)) (i := j) PL.out rfl (inO (k := 0) rfl (by first | (simp only [List.length_set]; omega) | omega) (Nat.le_refl _) o_m) o_m (by rw [List.length_set]; omega) (gv_set_same h0 o_m)) ?_
      refine s_3 ?_
      refine rq rfl (qv_ia (v := (.slice (some ⟨b1, 0, none⟩) (k + 1).toNat (k + 1).toNat)) UL.out SZ.out rfl (inO (k := 0) rfl (by first | (simp only [List.length_set]; omega) | omega) (Nat.le_refl _) o_m) rfl o_m (by rw [List.length_set]; omega)) ?_
      refine rq rfl (qv_ldv (u := (.slice (some ⟨b2, 0, none⟩) (n + 1).toNat (n + 1).toNat)) (v := (.slice (some ⟨b1, 0, none⟩) (k + 1).toNat (k + 1).toNat)) (i := j) PL.out rfl (inO (k := 0) rfl (by first | (simp only [List.length_set]; omega) | omega) (Nat.le_refl _) o_m) o_m (by rw [List.length_set]; omega) (gv_set_same h0 o_m)) ?_
      refine s_1 ?_
      refine rq rfl (qv_ia (v := (.slice (some ⟨b2, 0, none⟩) (n + 1).toNat (n + 1).toNat)) UL.out SZ.out rfl (inO (k := 1) rfl (by simp only [List.length_map, List.length_set, prePart_len]; omega) (Nat.le_refl _) o_m) rfl o_m (by simp only [List.length_map, List.length_set, prePart_len]; omega)) ?_
      refine rq rfl (qv_ldv (u := (.int .i64 (pV C n j i e))) (v := (.slice (some ⟨b2, 0, none⟩) (n + 1).toNat (n + 1).toNat)) (i := i) PL.out rfl (inO (k := 1) rfl (by simp only [List.length_map, List.length_set, prePart_len]; omega) (Nat.le_refl _) o_m) o_m (by simp only [List.length_map, List.length_set, prePart_len]; omega) (gv_set_same o_m (by simp only [List.length_map, prePart_len]; omega))) ?_
      refine s_3 ?_
      refine rq rfl (qv_ia (v := (.slice (some ⟨b1, 0, none⟩) (k + 1).toNat (k + 1).toNat)) UL.out SZ.out rfl (inO (k := 0) rfl (by first | (simp only [List.length_set]; omega) | omega) (Nat.le_refl _) o_m) rfl o_m (by rw [List.length_set]; omega)) ?_
      refine rq rfl (qv_ldv (u := (gv top (j - 1))) (v := (.slice (some ⟨b1, 0, none⟩) (k + 1).toNat (k + 1).toNat)) (i := j - 1) PL.out rfl (inO (k := 0) rfl (by first | (simp only [List.length_set]; omega) | omega) (Nat.le_refl _) o_m) o_m (by rw [List.length_set]; omega) (gv_set_other h0 o_m o_m)) ?_
      refine s_1 ?_
      refine rq rfl (qv_iai UL.out SZ.out e_vm (inVi (h3 (j - 1) o_m o_m)) rfl o_m (by rw [pres_row C n k (j - 1) o_m o_m, preRow_len]; omega)) ?_
      refine rq rfl (qv_ldi PL.out rfl (inVi (h3 (j - 1) o_m o_m)) o_m (by rw [pres_row C n k (j - 1) o_m o_m, preRow_len]; omega)) ?_
      refine s_2 ?_
      refine rq rfl (qv_ia UL.out SZ.out e_vm (inV hc.sl) rfl o_m o_m) ?_
      refine rq rfl (qv_ld PL.out rfl (inV hc.sl) o_m o_m) ?_
      refine s_1 ?_
      refine rq rfl (qv_iai UL.out SZ.out e_vm (inVi (hc.row (e) o_m o_m)) rfl o_m o_m) ?_
      refine rq rfl (qv_ldi PL.out rfl (inVi (hc.row (e) o_m o_m)) o_m o_m) ?_
      refine rq rfl (qv_add rfl rfl (by rw [pres_row C n k (j - 1) o_m o_m]; omega)) ?_
      refine s_1 ?_
      refine rq rfl (qv_ia (v := (.slice (some ⟨b2, 0, none⟩) (n + 1).toNat (n + 1).toNat)) UL.out SZ.out rfl (inO (k := 1) rfl (by simp only [List.length_map, List.length_set, prePart_len]; omega) (Nat.le_refl _) o_m) rfl o_m (by simp only [List.length_map, List.length_set, prePart_len]; omega)) ?_
      refine rl_o ?_
      refine ops_ste (k := 1) (b := b2) (n := (n + 1).toNat) (c := (n + 1).toNat) (i := i) (cs := (((prePart C n j (i)).map (Value.int .i64)).set (i).toNat (.int .i64 (pV C n j i e)))) SZ.out rfl (rfl : ev _ _ = (.int .i64 (if ((gi (gr (pres C n k) (j - 1)) (e)) + (gi (gr C (e)) (i))) < (pV C n j i e) then (gi (gr (pres C n k) (j - 1)) (e)) + (gi (gr C (e)) (i)) else pV C n j i e))) rfl rfl o_m (by simp only [List.length_map, List.length_set, prePart_len]; omega) ?_
      refine on1 ?_
      refine s_6 ?_
      exact le1 (e + 1) ⟨(c_i o_m), trivial⟩ ⟨by omega, by omega⟩ (hr := by first | rw [pV_skip C o_m o_m] | rw [pV_step C o_m o_m o_m, List.set_set, pres_row C n k (j - 1) o_m o_m])
     ·
      refine s_4 ?_
      refine iff' ?_ ?_ <;> intro c4
      ·
       have e1 := preRow_bd hC (j - 1).toNat e o_m o_m
       have e2 := hC.rng e i o_m o_m o_m o_m
       have e3 := hC.row e o_m o_m
       refine ro1 [qt 0,qt 1,qt 2,qt 3,qt 4,qt 5,qt 6,qt 7,qt 8,qt 9,qt 10,qt 11,qt 12,qt 13,qt 14,qt 15,qt 16,qt 17,qt 18,qt 19,qt 20,qt 21,qt 22,qt 23,qt 24,qt 25,qt 26,qt 27,qt 28,qt 29,ld 30] ?_
       refine s_2 ?_
       refine rq rfl (qv_ia (v := (.slice (some ⟨b1, 0, none⟩) (k + 1).toNat (k + 1).toNat)) UL.out SZ.out rfl (inO (k := 0) rfl (by first | (simp only [List.length_set]; omega) | omega) (Nat.le_refl _) o_m) rfl o_m (by rw [List.length_set]; omega)) ?_
       refine rq rfl (qv_ldv (u := (.slice (some ⟨b2, 0, none⟩) (n + 1).toNat (n + 1).toNat)) (v := (.slice (some ⟨b1, 0, none⟩) (k + 1).toNat (k + 1).toNat)) (i := j) PL.out rfl (inO (k := 0) rfl (by first | (simp only [List.length_set]; omega) | omega) (Nat.le_refl _) o_m) o_m (by rw [List.length_set]; omega) (gv_set_same h0 o_m)) ?_
       refine s_3 ?_
       refine rq rfl (qv_ia (v := (.slice (some ⟨b1, 0, none⟩) (k + 1).toNat (k + 1).toNat)) UL.out SZ.out rfl (inO (k := 0) rfl (by first | (simp only [List.length_set]; omega) | omega) (Nat.le_refl _) o_m) rfl o_m (by rw [List.length_set]; omega)) ?_
       refine rq rfl (qv_ldv (u := (.slice (some ⟨b2, 0, none⟩) (n + 1).toNat (n + 1).toNat)) (v := (.slice (some ⟨b1, 0, none⟩) (k + 1).toNat (k + 1).toNat)) (i := j) PL.out rfl (inO (k := 0) rfl (by first | (simp only [List.length_set]; omega) | omega) (Nat.le_refl _) o_m) o_m (by rw [List.length_set]; omega) (gv_set_same h0 o_m)) ?_
       refine s_1 ?_
       refine rq rfl (qv_ia (v := (.slice (some ⟨b2, 0, none⟩) (n + 1).toNat (n + 1).toNat)) UL.out SZ.out rfl (inO (k := 1) rfl (by simp only [List.length_map, List.length_set, prePart_len]; omega) (Nat.le_refl _) o_m) rfl o_m (by simp only [List.length_map, List.length_set, prePart_len]; omega)) ?_
       refine rq rfl (qv_ldv (u := (.int .i64 (pV C n j i e))) (v := (.slice (some ⟨b2, 0, none⟩) (n + 1).toNat (n + 1).toNat)) (i := i) PL.out rfl (inO (k := 1) rfl (by simp only [List.length_map, List.length_set, prePart_len]; omega) (Nat.le_refl _) o_m) o_m (by simp only [List.length_map, List.length_set, prePart_len]; omega) (gv_set_same o_m (by simp only [List.length_map, prePart_len]; omega))) ?_
       refine s_3 ?_
       refine rq rfl (qv_ia (v := (.slice (some ⟨b1, 0, none⟩) (k + 1).toNat (k + 1).toNat)) UL.out SZ.out rfl (inO (k := 0) rfl (by first | (simp only [List.length_set]; omega) | omega) (Nat.le_refl _) o_m) rfl o_m (by rw [List.length_set]; omega)) ?_
       refine rq rfl (qv_ldv (u := (gv top (j - 1))) (v := (.slice (some ⟨b1, 0, none⟩) (k + 1).toNat (k + 1).toNat)) (i := j - 1) PL.out rfl (inO (k := 0) rfl (by first | (simp only [List.length_set]; omega) | omega) (Nat.le_refl _) o_m) o_m (by rw [List.length_set]; omega) (gv_set_other h0 o_m o_m)) ?_
       refine s_1 ?_
       refine rq rfl (qv_iai UL.out SZ.out e_vm (inVi (h3 (j - 1) o_m o_m)) rfl o_m (by rw [pres_row C n k (j - 1) o_m o_m, preRow_len]; omega)) ?_
       refine rq rfl (qv_ldi PL.out rfl (inVi (h3 (j - 1) o_m o_m)) o_m (by rw [pres_row C n k (j - 1) o_m o_m, preRow_len]; omega)) ?_
       refine s_2 ?_
       refine rq rfl (qv_ia UL.out SZ.out e_vm (inV hc.sl) rfl o_m o_m) ?_
       refine rq rfl (qv_ld PL.out rfl (inV hc.sl) o_m o_m) ?_
       refine s_1 ?_
       refine rq rfl (qv_iai UL.out SZ.out e_vm (inVi (hc.row (e) o_m o_m)) rfl o_m o_m) ?_
       refine rq rfl (qv_ldi PL.out rfl (inVi (hc.row (e) o_m o_m)) o_m o_m) ?_
       refine rq rfl (qv_add rfl rfl (by rw [pres_row C n k (j - 1) o_m o_m]; omega)) ?_
       refine s_1 ?_
       refine rq rfl (qv_ia (v := (.slice (some ⟨b2, 0, none⟩) (n + 1).toNat (n + 1).toNat)) UL.out SZ.out rfl (inO (k := 1) rfl (by simp only [List.length_map, List.length_set, prePart_len]; omega) (Nat.le_refl _) o_m) rfl o_m (by simp only [List.length_map, List.length_set, prePart_len]; omega)) ?_
       refine rl_o ?_
       refine ops_ste (k := 1) (b := b2) (n := (n + 1).toNat) (c := (n + 1).toNat) (i := i) (cs := (((prePart C n j (i)).map (Value.int .i64)).set (i).toNat (.int .i64 (pV C n j i e)))) SZ.out rfl (rfl : ev _ _ = (.int .i64 (if ((gi (gr (pres C n k) (j - 1)) (e)) + (gi (gr C (e)) (i))) < (pV C n j i e) then (gi (gr (pres C n k) (j - 1)) (e)) + (gi (gr C (e)) (i)) else pV C n j i e))) rfl rfl o_m (by simp only [List.length_map, List.length_set, prePart_len]; omega) ?_
       refine on1 ?_
       refine s_6 ?_
       exact le1 (e + 1) ⟨(c_i o_m), trivial⟩ ⟨by omega, by omega⟩ (hr := by first | rw [pV_skip C o_m o_m] | rw [pV_step C o_m o_m o_m, List.set_set, pres_row C n k (j - 1) o_m o_m])
      ·
       refine s_6 ?_
       exact le1 (e + 1) ⟨(c_i o_m), trivial⟩ ⟨by omega, by omega⟩ (hr := by first | rw [pV_skip C o_m o_m] | rw [pV_step C o_m o_m o_m, List.set_set, pres_row C n k (j - 1) o_m o_m])
    ·
     refine s_7 ?_
     exact le1 (i + 1) ⟨(c_i o_m), trivial⟩ ⟨by omega, by omega⟩ (hr := by rw [← prePart_step C (v := pV C n j i e) o_m o_m (pV_end C o_m o_m o_m o_m), List.map_set])
   ·
    refine s_13 ?_
    exact le1 (i + 1) ⟨(c_i o_m), trivial⟩ ⟨by omega, by omega⟩ (hr := by rw [← prePart_step C (v := pV C n j i e) o_m o_m (pV_end C o_m o_m o_m o_m), List.map_set])
  ·
   refine s_2 ?_
   refine vc_freeze (b := b2) (o := .cells (((prePart C n j (i)).map (Value.int .i64)) : List Value).toArray 3 (0, 0)) (σr := [(Arr 27 b1 (top.set j.toNat (Value.slice (some ⟨b2, 0, none⟩) (n + 1).toNat (n + 1).toNat)))]) (List.perm_middle (l₁ := [(Arr 27 b1 (top.set j.toNat (Value.slice (some ⟨b2, 0, none⟩) (n + 1).toNat (n + 1).toNat)))]) (l₂ := [])) (fun Vf1 hVf1 hb1 => ?_)
   have hc1 : Cells Vf1 b2 ((prePart C n j (i)).map (Value.int .i64)) := ⟨_, _, hb1⟩
   have hc := hc.mono hVf1
   refine s_4 ?_
   exact lw2 (j + 1) (top.set j.toNat (.slice (some ⟨b2, 0, none⟩) (n + 1).toNat (n + 1).toNat)) ⟨(c_i o_m), trivial⟩ ⟨hc, by omega, by omega, by rw [List.length_set]; exact h2, by
     refine all_snoc (fun j a b => ?_) ?_
     · rw [gv_set_other h0 a o_m]; exact (h3 j a b).mono hVf1
     · rw [gv_set_same h0 o_m, pres_row C n k j h0 o_m, ← prePart_end C n j o_m, show n + 1 = i by omega]
       exact sl_own hb1 (by rw [List.length_map, prePart_len]; omega) (Nat.le_refl _) o_m⟩
 ·
  refine s_3 ?_
  refine vc_freeze (b := b1) (o := .cells (top : List Value).toArray 27 (0, 0)) (σr := []) (List.perm_middle (l₁ := []) (l₂ := [])) (fun Vf2 hVf2 hb2 => ?_)
  have hc2 : Cells Vf2 b1 top := ⟨_, _, hb2⟩
  have hc := hc.mono hVf2
  refine s_5 ?_
  refine ra1 ?_
  exact ⟨rfl, top, sl_own hb2 o_m (Nat.le_refl _) o_m, by rw [pres_len]; omega, fun j a b => (h3 j a (by rw [pres_len] at b; omega)).mono hVf2⟩

set_option maxRecDepth 100000 in
set_option maxHeartbeats 4000000 in
theorem next_c {V : HV} {l : Value} {rv : List Value} {L : List (List Int)} {s : Value} {sv : List Value} {S : List (List Int)} {i j k : Int} (hl : Mat .i64 V l rv L) (hs : Mat .i64 V s sv S) (hg : Good L) (hS : Tab S rv.length k) (i0 : 0 ≤ i) (i1 : i < rv.length) (j0 : 1 ≤ j) (j1 : j ≤ k) (k1 : k ≤ 32) :
    FnC Tryz.prog 62 [l, s, (Value.int .i64 i), (Value.int .i64 j)] V [] (fun v _ _ => v = .tuple #[(.int .i64 ((nxt L S rv.length i j).1)), (.int .i64 ((nxt L S rv.length i j).2))]) := by
 refine f_i Tryz.func62 ?_
 intro w0 D
 have hlen := hl.len
 have hsl := hs.len
 have hle := hg.le
 have hSl := hS.len
 have e3 := hS.row (j - 1) o_m o_m
 have e4 := hS.row j o_m o_m
 refine s_8 ?_
 refine oq (qv_lenS UL.out rfl hl.sl) ?_
 refine s_9 ?_
 refine lc1 [0,1,2,3,10] (fun (r : Int) => [(9, (Value.int .i64 r))]) (fun r => i ≤ r ∧ r ≤ rv.length ∧ nxt L S rv.length i j = scanR L S rv.length i j (rv.length - r).toNat) (fun r => (rv.length - r).toNat) i ?_ ?_ ?_ 
 · exact ⟨rfl, trivial⟩
 · exact ⟨by omega, by omega, rfl⟩
 rintro r e1 ⟨i1, i2, hr⟩
 refine s_7 ?_
 refine iff' ?_ ?_ <;> intro c1
 ·
  refine s_9 ?_
  refine lc1 [0,1,2,3,10,16] (fun (e : Int) => [(8, (Value.int .i64 e)), (9, (Value.int .i64 r))]) (fun e => r ≤ e ∧ e ≤ rv.length ∧ scanR L S rv.length i j (rv.length - r).toNat = (scanE L S i j r (e - r).toNat).elim (scanR L S rv.length i j (rv.length - (r + 1)).toNat) fun z => (z, r)) (fun e => (e - r).toNat) ((rv.length : Int)) ?_ ?_ ?_ 
  · exact ⟨(c_i (by first | omega | simp)), rfl, trivial⟩
  · exact ⟨by omega, by omega, scanR_step o_m⟩
  rintro e e2 ⟨i3, i4, he⟩
  refine s_7 ?_
  refine iff' ?_ ?_ <;> intro c2
  ·
   refine s_4 ?_
   have e1 := wsum_bd hg (r := r.toNat) (h := i.toNat) o_m (e - i).toNat o_m
   have e2 := hS.rng (j - 1) e o_m o_m o_m o_m
   refine s_5 ?_
   refine qq (f_c (whole_c hl hg o_m o_m o_m o_m o_m) rfl rfl) ?_
   refine s_3 ?_
   refine qq (qv_ia UL.out SZ.out e_vm (inV hs.sl) rfl o_m o_m) ?_
   refine qq (qv_ld PL.out rfl (inV hs.sl) o_m o_m) ?_
   refine s_1 ?_
   refine qq (qv_iai UL.out SZ.out e_vm (inVi (hs.row (j - 1) o_m o_m)) rfl o_m o_m) ?_
   refine qq (qv_ldi PL.out rfl (inVi (hs.row (j - 1) o_m o_m)) o_m o_m) ?_
   refine s_3 ?_
   refine qq (qv_ia UL.out SZ.out e_vm (inV hs.sl) rfl o_m o_m) ?_
   refine qq (qv_ld PL.out rfl (inV hs.sl) o_m o_m) ?_
   refine s_1 ?_
   refine qq (qv_iai UL.out SZ.out e_vm (inVi (hs.row (j) o_m o_m)) rfl o_m o_m) ?_
   refine qq (qv_ldi PL.out rfl (inVi (hs.row (j) o_m o_m)) o_m o_m) ?_
   refine s_2 ?_
   refine iff' ?_ ?_ <;> intro c3
   ·
    refine s_12 ?_
    exact rt2 (c_i (by rw [hr, he, scanE_hit o_m c3]; rfl)) (c_i (by rw [hr, he, scanE_hit o_m c3]; rfl))
   ·
    refine s_6 ?_
    exact le1 (e - 1) ⟨(c_i o_m), rfl, trivial⟩ ⟨by omega, by omega, by rw [he, scanE_miss o_m c3]⟩
  ·
   refine s_7 ?_
   exact le1 (r + 1) ⟨(c_i o_m), trivial⟩ ⟨by omega, by omega, by rw [hr, he, show (e - r).toNat = 0 by omega]; rfl⟩
 ·
  refine s_10 ?_
  exact rt2 (c_i (by rw [hr, show (rv.length - r).toNat = 0 by omega]; rfl)) (c_i (by rw [hr, show (rv.length - r).toNat = 0 by omega]; rfl))

set_option maxRecDepth 100000 in
set_option maxHeartbeats 4000000 in
theorem Ordered_c {V : HV} {l : Value} {rv : List Value} {L : List (List Int)} {k : Int} (hl : Mat .i64 V l rv L) :
    FnC Tryz.prog 21 [l, (Value.int .i64 k)] V [] (fun v V' σ' => σ' = [] ∧ ∃ g t tv, v = .tuple #[g, .int .i64 (oN L k), t, .int .i64 (oE L k)] ∧ Ints .i64 V' g (oG L k) ∧ Mat .i64 V' t tv (oT L k)) := by
 refine f_i Tryz.func21 ?_
 intro w0 D
 have hlen := hl.len
 refine s_11 ?_
 refine oq (f_c (Check_c hl) rfl rfl) ?_
 refine s_7 ?_
 refine iff' ?_ ?_ <;> intro c1
 ·
  refine s_9 ?_
  refine rq4 (Value.slice none 0 0) (Value.int .i64 0) (Value.slice none 0 0) (.int .i64 (chk L)) rfl rfl rfl rfl ?_
  obtain ⟨b1, b2, b3⟩ := ord_bad (show oE L k ≠ 0 by rw [oE1 o_m]; omega)
  exact ⟨rfl, _, _, [], by rw [b2, oE1 o_m], b1 ▸ Ints.nil, b3 ▸ Mat.nil⟩
 ·
  refine s_5 ?_
  refine oq (f_c (groups_c) rfl rfl) ?_
  refine s_2 ?_
  refine iff' ?_ ?_ <;> intro c2
  ·
   refine s_8 ?_
   refine rq4 (Value.slice none 0 0) (Value.int .i64 0) (Value.slice none 0 0) (Value.int .i64 3) rfl rfl rfl rfl ?_
   obtain ⟨b1, b2, b3⟩ := ord_bad (show oE L k ≠ 0 by rw [oE3 o_m (by assumption)]; omega)
   exact ⟨rfl, _, _, [], by rw [b2, oE3 o_m (by assumption)], b1 ▸ Ints.nil, b3 ▸ Mat.nil⟩
  ·
   refine s_4 ?_
   refine oq (qv_lenS UL.out rfl hl.sl) ?_
   refine s_3 ?_
   have hg := good_of_chk (show chk L = 0 from by omega)
   have hk : 1 ≤ k ∧ k ≤ 32 := by omega
   have hC : Costs (ivals L) rv.length := hlen ▸ costs_ivals hg
   have hT : Tab (sufs (ivals L) rv.length k) rv.length k := tab_sufs hC o_m
   have hle := hg.le
   refine s_2 ?_
   refine c_l [] (intervals_c hl hg) rfl rfl fun r1 V1 sg1 hV1 hp1 => ?_
   obtain ⟨rfl, cv, hc⟩ := hp1
   have hl := hl.mono hV1
   refine s_7 ?_
   refine c_l [] (suffixes_c hc hC hk.1 hk.2) rfl rfl fun r2 V2 sg2 hV2 hp2 => ?_
   obtain ⟨rfl, sv, hs⟩ := hp2
   have hl := hl.mono hV2
   have hc := hc.mono hV2
   refine s_8 ?_
   refine vc_nil 3 1 ?_
   refine s_6 ?_
   refine lp4 [0,1,4,5,6,7,8,9,10,11,20,24] (fun (i : Int) (j : Int) (v : Value) (xs : List Int) => [(12, v), (13, (Value.int .i64 i)), (14, (Value.int .i64 j))]) (fun i j v xs => [(Gr 3 1 v xs.length ((xs.map (Value.int .i64))))]) (fun i j v xs => 0 ≤ i ∧ i ≤ rv.length ∧ 0 ≤ j ∧ j ≤ k ∧ xs.length = i ∧ gi (gr (sufs (ivals L) rv.length k) j) i < 1152921504606846976 ∧ ordG L (sufs (ivals L) rv.length k) rv.length k.toNat 0 = xs ++ ordG L (sufs (ivals L) rv.length k) rv.length j.toNat i) (fun i j v xs => j.toNat) 0 k ((Value.slice none 0 0)) ([]) ?_ ?_ ?_ ?_ 
   · exact ⟨(by first | rfl | (first | omega | simp)), rfl, rfl, trivial⟩
   · rfl
   · exact ⟨by omega, by omega, by omega, by omega, rfl, by rw [sufs_row _ _ _ _ o_m o_m, show ((rv.length : Int)).toNat = L.length by omega]; exact suf_fin hg o_m, rfl⟩
   rintro i j v xs e1 ⟨i1, i2, i3, i4, i5, hfin, hG⟩
   refine s_7 ?_
   refine iff' ?_ ?_ <;> intro c3
   ·
    refine s_4 ?_
    obtain ⟨q0, q1, q2, q3, q4, q5⟩ := ord_round (show (rv.length : Int) = L.length by omega) o_m o_m o_m o_m hfin
    have w0 := (wsum_bd hg (r := (nxt L (sufs (ivals L) rv.length k) rv.length i j).2.toNat) (h := i.toNat) o_m ((nxt L (sufs (ivals L) rv.length k) rv.length i j).1 - i).toNat o_m).1
    refine s_5 ?_
    refine oq (f_c (next_c hl hs hg hT o_m o_m o_m o_m hk.2) rfl rfl) ?_
    refine s_7 ?_
    refine lp3 [0,1,4,5,6,7,8,9,10,11,14,15,16,20,24,36] (fun (y : Int) (u : Value) (ys : List Int) => [(12, u), (13, (Value.int .i64 y))]) (fun y u ys => [(Gr 3 1 u ys.length ((ys.map (Value.int .i64))))]) (fun y u ys => i ≤ y ∧ y ≤ (nxt L (sufs (ivals L) rv.length k) rv.length i j).1 ∧ ys.length = y ∧ ys = xs ++ List.replicate (y - i).toNat (nxt L (sufs (ivals L) rv.length k) rv.length i j).2) (fun y u ys => ((nxt L (sufs (ivals L) rv.length k) rv.length i j).1 - y).toNat) i v xs ?_ ?_ ?_ ?_ 
    · exact ⟨rfl, rfl, trivial⟩
    · rfl
    · exact ⟨by omega, by omega, by omega, by simp⟩
    rintro y u ys e2 ⟨i6, i7, i8, hys⟩
    refine s_7 ?_
    refine iff' ?_ ?_ <;> intro c4
    ·
     refine s_6 ?_
     refine ops_lit (n := 1) (s := 1) (cs := [(.int .i64 ((nxt L (sufs (ivals L) rv.length k) rv.length i j).2))]) UL.out TZ.out (l_b rfl) rfl rfl rfl (l_b rfl) rfl (fun b1 => ?_)
     refine a_po rfl rfl rfl o_c o_m m_x fun v1 hn1 => ?_
     refine s_2 ?_
     refine v_d 1 ?_
     refine s_5 ?_
     exact le3 (y + 1) v1 (ys ++ [(nxt L (sufs (ivals L) rv.length k) rv.length i j).2]) ⟨rfl, (c_i o_m), trivial⟩ ⟨by omega, by omega, by simp; omega, by rw [hys, show (y + 1 - i).toNat = (y - i).toNat + 1 by omega, List.replicate_succ', List.append_assoc]⟩ (hr := by simp)
    ·
     refine s_7 ?_
     exact le4 y (j - 1) u ys ⟨rfl, rfl, (c_i o_m), trivial⟩ ⟨by omega, by omega, by omega, by omega, by omega, by rw [show y = (nxt L (sufs (ivals L) rv.length k) rv.length i j).1 by omega]; omega, by rw [hG, q5, hys, List.append_assoc, show y = (nxt L (sufs (ivals L) rv.length k) rv.length i j).1 by omega]⟩
   ·
    refine s_3 ?_
    have hsl := hs.len
    have hTl := hT.len
    have hTr := hT.row k o_m o_m
    have hoe := oE0 (show chk L = 0 from by omega) hk
    obtain ⟨o1, o2, o3⟩ := ord_good hoe
    refine v_fG 0 fun Vf1 hVf1 hc1 => ?_
    have hl := hl.mono hVf1
    have hc := hc.mono hVf1
    have hs := hs.mono hVf1
    refine ro1 [qt 0,qt 1,qt 2,qt 3,qt 4,qt 5,qt 6,qt 7,qt 8,qt 9,ld 10,qt 11,qt 12,qt 13,qt 14] ?_
    refine s_3 ?_
    refine rq rfl (qv_ia UL.out SZ.out e_vm (inV hs.sl) rfl o_m o_m) ?_
    refine rq rfl (qv_ld PL.out rfl (inV hs.sl) o_m o_m) ?_
    refine rq rfl (qv_iai UL.out SZ.out e_vm (inVi (hs.row (k) o_m o_m)) rfl o_m o_m) ?_
    refine rq rfl (qv_ldi PL.out rfl (inVi (hs.row (k) o_m o_m)) o_m o_m) ?_
    refine s_3 ?_
    refine rl_q ?_
    refine c_l [] (prefixes_c hc hC hk.1 hk.2) rfl rfl fun r3 V3 sg3 hV3 hp3 => ?_
    obtain ⟨rfl, tv, ht⟩ := hp3
    have hl := hl.mono hV3
    have hc := hc.mono hV3
    have hs := hs.mono hV3
    have hc1 := hc1.mono hV3
    refine ops_nil ⟨[], [], hV3, perm_nil _, ⟨[], (.refl _)⟩, ?_⟩
    refine s_6 ?_
    refine rq4 v (.int .i64 (gi (gr (sufs (ivals L) rv.length k) (k)) (0))) r3 (Value.int .i64 0) rfl rfl rfl rfl ?_
    refine ⟨rfl, v, r3, tv, by rw [o2, hoe, ← hlen], ?_, by rw [o3, ← hlen]; exact ht⟩
    rw [o1, ← hlen, hG]
    have hz : ordG L (sufs (ivals L) rv.length k) rv.length j.toNat i = [] := by
      cases hjj : j.toNat with
      | zero => rfl
      | succ m => rw [ordG, if_neg o_m]
    rw [hz, List.append_nil]; exact hc1

end Go.Proofs.YtbchkopkgpfkgaaGreatDoor.Mg

namespace Go.Proofs.YtbchkopkgpfkgaaGreatDoor.Mg
open Go.Vc
open Classical

set_option maxRecDepth 100000 in
set_option maxHeartbeats 4000000 in
theorem holds_c {V : HV} {c : Value} {cv : List Value} {C : List (List Int)} {t : Value} {tv : List Value} {T : List (List Int)} {n k : Int} (hc : Mat .i64 V c cv C) (hC : Costs C n) (ht : Mat .i64 V t tv T) (hT : Tab T n k) :
    FnC Tryz.prog 72 [c, t] V [] (fun v _ _ => v = (.bool (decide (Holds C T)))) := by
 refine f_i Tryz.func72 ?_
 intro w0 D
 have hlen := hc.len
 have htl := ht.len
 have hn0 := hC.n0
 have hn1 := hC.n1
 have hcl := hC.len
 have hTl := hT.len
 have hbd := ht.sl.bound
 refine s_10 ?_
 refine lc1 [0,1] (fun (j : Int) => [(5, (Value.int .i64 j))]) (fun j => 1 ≤ j ∧ (j ≤ tv.length ∨ j = 1) ∧ ∀ z : Int, 0 ≤ z → z < j → 1 ≤ z → ∀ i : Int, 0 ≤ i → i < (gr T z).length → ∀ h : Int, 0 ≤ h → h ≤ i → (1 < z ∨ h = 0) → RowOK C T z i h) (fun j => (tv.length - j).toNat) 1 ?_ ?_ ?_ 
 · exact ⟨rfl, trivial⟩
 · exact ⟨by omega, by omega, fun z a b c => by omega⟩
 rintro j e1 ⟨i1, i2, hj⟩
 refine s_5 ?_
 refine oq (qv_lenS UL.out rfl ht.sl) ?_
 refine s_2 ?_
 refine iff' ?_ ?_ <;> intro c1
 ·
  refine s_4 ?_
  have e1 := hT.row j o_m o_m
  have e1b := (ht.row j o_m o_m).bound
  refine s_3 ?_
  refine oq (qv_ia UL.out SZ.out e_vm (inV ht.sl) rfl o_m o_m) ?_
  refine oq (qv_ld PL.out rfl (inV ht.sl) o_m o_m) ?_
  refine oq (qv_lenI UL.out rfl (ht.row (j) o_m o_m)) ?_
  refine s_3 ?_
  refine lc1 [0,1,5,11,18] (fun (i : Int) => [(19, (Value.int .i64 i))]) (fun i => 0 ≤ i ∧ i ≤ (gr T j).length ∧ ∀ y : Int, 0 ≤ y → y < i → ∀ h : Int, 0 ≤ h → h ≤ y → (1 < j ∨ h = 0) → RowOK C T j y h) (fun i => ((gr T j).length - i).toNat) 0 ?_ ?_ ?_ 
  · exact ⟨rfl, trivial⟩
  · exact ⟨by omega, by omega, fun y a b => by omega⟩
  rintro i e2 ⟨i3, i4, hi⟩
  refine s_5 ?_
  refine iff' ?_ ?_ <;> intro c2
  ·
   refine s_13 ?_
   refine lc1 [0,1,5,6,11,18,19,20] (fun (h : Int) => [(7, (Value.int .i64 h))]) (fun h => 0 ≤ h ∧ h ≤ i + 1 ∧ ∀ z : Int, 0 ≤ z → z < h → RowOK C T j i z) (fun h => (i + 1 - h).toNat) 0 ?_ ?_ ?_ 
   · exact ⟨rfl, trivial⟩
   · exact ⟨by omega, by omega, fun z a b => by omega⟩
   rintro h e3 ⟨i5, i6, hh⟩
   refine s_7 ?_
   by_cases g1 : h ≤ i
   ·
    refine s_3 ?_
    by_cases g2 : 1 < j
    ·
     refine s_10 ?_
     have e2 := hT.row (j - 1) o_m o_m
     have e3 := hC.row h o_m o_m
     have e4 := hC.rng h i o_m o_m o_m o_m
     have e5 := hT.rng (j - 1) h o_m o_m o_m o_m
     refine s_3 ?_
     refine qq (qv_ia UL.out SZ.out e_vm (inV ht.sl) rfl o_m o_m) ?_
     refine qq (qv_ld PL.out rfl (inV ht.sl) o_m o_m) ?_
     refine s_1 ?_
     refine qq (qv_iai UL.out SZ.out e_vm (inVi (ht.row (j) o_m o_m)) rfl o_m o_m) ?_
     refine qq (qv_ldi PL.out rfl (inVi (ht.row (j) o_m o_m)) o_m o_m) ?_
     refine s_3 ?_
     refine qq (qv_ia UL.out SZ.out e_vm (inV ht.sl) rfl o_m o_m) ?_
     refine qq (qv_ld PL.out rfl (inV ht.sl) o_m o_m) ?_
     refine s_1 ?_
     refine qq (qv_iai UL.out SZ.out e_vm (inVi (ht.row (j - 1) o_m o_m)) rfl o_m o_m) ?_
     refine qq (qv_ldi PL.out rfl (inVi (ht.row (j - 1) o_m o_m)) o_m o_m) ?_
     refine s_2 ?_
     refine qq (qv_ia UL.out SZ.out e_vm (inV hc.sl) rfl o_m o_m) ?_
     refine qq (qv_ld PL.out rfl (inV hc.sl) o_m o_m) ?_
     refine s_1 ?_
     refine qq (qv_iai UL.out SZ.out e_vm (inVi (hc.row (h) o_m o_m)) rfl o_m o_m) ?_
     refine qq (qv_ldi PL.out rfl (inVi (hc.row (h) o_m o_m)) o_m o_m) ?_
     refine s_3 ?_
     refine iff' ?_ ?_ <;> intro c3
     ·
      refine s_11 ?_
      exact rt1 (jf (by intro hx; have hy := hx j o_m o_m o_m i o_m o_m h o_m o_m o_m; unfold RowOK at hy; omega))
     ·
      refine s_6 ?_
      exact le1 (h + 1) ⟨(c_i o_m), trivial⟩ ⟨by omega, by omega, all_snoc hh (by unfold RowOK; omega)⟩
    ·
     refine s_5 ?_
     refine iff' ?_ ?_ <;> intro c4
     ·
      refine s_4 ?_
      have e2 := hT.row (j - 1) o_m o_m
      have e3 := hC.row h o_m o_m
      have e4 := hC.rng h i o_m o_m o_m o_m
      have e5 := hT.rng (j - 1) h o_m o_m o_m o_m
      refine s_3 ?_
      refine qq (qv_ia UL.out SZ.out e_vm (inV ht.sl) rfl o_m o_m) ?_
      refine qq (qv_ld PL.out rfl (inV ht.sl) o_m o_m) ?_
      refine s_1 ?_
      refine qq (qv_iai UL.out SZ.out e_vm (inVi (ht.row (j) o_m o_m)) rfl o_m o_m) ?_
      refine qq (qv_ldi PL.out rfl (inVi (ht.row (j) o_m o_m)) o_m o_m) ?_
      refine s_3 ?_
      refine qq (qv_ia UL.out SZ.out e_vm (inV ht.sl) rfl o_m o_m) ?_
      refine qq (qv_ld PL.out rfl (inV ht.sl) o_m o_m) ?_
      refine s_1 ?_
      refine qq (qv_iai UL.out SZ.out e_vm (inVi (ht.row (j - 1) o_m o_m)) rfl o_m o_m) ?_
      refine qq (qv_ldi PL.out rfl (inVi (ht.row (j - 1) o_m o_m)) o_m o_m) ?_
      refine s_2 ?_
      refine qq (qv_ia UL.out SZ.out e_vm (inV hc.sl) rfl o_m o_m) ?_
      refine qq (qv_ld PL.out rfl (inV hc.sl) o_m o_m) ?_
      refine s_1 ?_
      refine qq (qv_iai UL.out SZ.out e_vm (inVi (hc.row (h) o_m o_m)) rfl o_m o_m) ?_
      refine qq (qv_ldi PL.out rfl (inVi (hc.row (h) o_m o_m)) o_m o_m) ?_
      refine s_3 ?_
      refine iff' ?_ ?_ <;> intro c5
      ·
       refine s_11 ?_
       exact rt1 (jf (by intro hx; have hy := hx j o_m o_m o_m i o_m o_m h o_m o_m o_m; unfold RowOK at hy; omega))
      ·
       refine s_6 ?_
       exact le1 (h + 1) ⟨(c_i o_m), trivial⟩ ⟨by omega, by omega, all_snoc hh (by unfold RowOK; omega)⟩
     ·
      refine s_6 ?_
      exact le1 (i + 1) ⟨(c_i o_m), trivial⟩ ⟨by omega, by omega, all_snoc hi (fun h a b c => hh h a o_m)⟩
   ·
    refine s_15 ?_
    exact le1 (i + 1) ⟨(c_i o_m), trivial⟩ ⟨by omega, by omega, all_snoc hi (fun h a b c => hh h a o_m)⟩
  ·
   refine s_7 ?_
   exact le1 (j + 1) ⟨(c_i o_m), trivial⟩ ⟨by omega, by omega, all_snoc hj (fun _ i a b => hi i a o_m)⟩
 ·
  refine s_7 ?_
  exact rt1 (jt (by exact fun z a b => hj z a o_m))

set_option maxRecDepth 100000 in
set_option maxHeartbeats 4000000 in
theorem ProveOrdered_c {V : HV} {l : Value} {rv : List Value} {L : List (List Int)} {t : Value} {tv : List Value} {T : List (List Int)} {k c : Int} (hl : Mat .i64 V l rv L) (ht : Mat .i64 V t tv T) :
    FnC Tryz.prog 23 [l, (Value.int .i64 k), t, (Value.int .i64 c)] V [] (fun v _ _ => v = (.int .i64 (poE L k T c))) := by
 refine f_i Tryz.func23 ?_
 intro w0 D
 have hlen := hl.len
 have htl := ht.len
 have hbd := ht.sl.bound
 refine s_8 ?_
 refine oq (f_c (Check_c hl) rfl rfl) ?_
 refine s_7 ?_
 refine iff' ?_ ?_ <;> intro c1
 ·
  refine s_6 ?_
  exact rt1 (c_i (by rw [poE_chk o_m]))
 ·
  refine s_4 ?_
  refine oq (qv_lenS UL.out rfl hl.sl) ?_
  refine a_lo fun b1 => ?_
  refine s_5 ?_
  have hg := good_of_chk (show chk L = 0 from by omega)
  have hle := hg.le
  refine v_f 0 fun Vf1 hVf1 hc1 => ?_
  have hl := hl.mono hVf1
  have ht := ht.mono hVf1
  refine s_2 ?_
  refine oq (f_c (groups_c) rfl rfl) ?_
  refine s_3 ?_
  refine iff' ?_ ?_ <;> intro c2
  ·
   refine s_6 ?_
   exact rt1 (c_i (by rw [poE_k o_m (by assumption)]))
  ·
   refine s_3 ?_
   refine oq (qv_lenS UL.out rfl ht.sl) ?_
   refine s_4 ?_
   by_cases g1 : ((tv.length : Int)) ≠ (k + 1)
   ·
    refine s_13 ?_
    exact rt1 (c_i (by rw [poE_2 o_m o_m (Or.inl o_m)]))
   ·
    refine s_1 ?_
    refine og (qv_func (cs := [(Value.pointer (some ⟨b1, 0, none⟩))]) rfl) w_a ?_
    refine og (f_c (conS_c (fid := 70) (caps := [(Value.pointer (some ⟨b1, 0, none⟩))]) (p := (fun i => ((gr T i).length : Int) ≠ (rv.length : Int) + 1)) ht.sl (fun i a b => (po1_c (ht.row i a o_m) hc1 o_m o_m).boolI)) rfl rfl) w_a ?_
    refine s_3 ?_
    refine iff' ?_ ?_ <;> intro c3
    ·
     refine s_6 ?_
     exact rt1 (c_i (by rw [poE_2 o_m o_m (Or.inr (by obtain ⟨i, a, b, c⟩ := c3; have c : ((gr T i).length : Int) ≠ (rv.length : Int) + 1 := c; exact ⟨i, a, by omega, by omega⟩))]))
    ·
     refine s_3 ?_
     have hrg : ¬ Ragg T L.length := fun ⟨i, a, b, c⟩ => c3 ⟨i, a, by omega, by show ((gr T i).length : Int) ≠ (rv.length : Int) + 1; omega⟩
     refine s_2 ?_
     refine oq (qv_lenS UL.out rfl ht.sl) ?_
     refine s_3 ?_
     refine lc1 [0,1,2,3,9,10,16,20,24,35,36] (fun (j : Int) => [(37, (Value.int .i64 j))]) (fun j => 0 ≤ j ∧ j ≤ tv.length ∧ ∀ z : Int, 0 ≤ z → z < j → ∀ i : Int, 0 ≤ i → i < (gr T z).length → ¬ (gi (gr T z) i < 0 ∨ 1152921504606846976 < gi (gr T z) i)) (fun j => (tv.length - j).toNat) 0 ?_ ?_ ?_ 
     · exact ⟨rfl, trivial⟩
     · exact ⟨by omega, by omega, fun z a b => by omega⟩
     rintro j e1 ⟨i1, i2, hw⟩
     refine s_5 ?_
     refine iff' ?_ ?_ <;> intro c4
     ·
      refine s_5 ?_
      refine oq (qv_ia UL.out SZ.out e_vm (inV ht.sl) rfl o_m o_m) ?_
      refine oq (qv_ld PL.out rfl (inV ht.sl) o_m o_m) ?_
      refine s_5 ?_
      refine oq (f_c (conI_c (fid := 71) (caps := []) (p := (fun i => gi (gr T j) i < 0 ∨ 1152921504606846976 < gi (gr T j) i)) (ht.row j o_m o_m) (fun i a b => by rw [gv_ints a (by simpa using b)]; exact po2_c.boolI)) rfl rfl) ?_
      refine s_1 ?_
      refine iff' ?_ ?_ <;> intro c5
      ·
       refine s_7 ?_
       exact rt1 (c_i (by rw [poE_3 o_m o_m o_m hrg (by obtain ⟨i, a, b, c⟩ := c5; exact ⟨j, i, by omega, by omega, a, by simp only [List.length_map] at b; omega, c⟩)]))
      ·
       refine s_5 ?_
       exact le1 (j + 1) ⟨(c_i o_m), trivial⟩ ⟨by omega, by omega, all_snoc hw (fun i a b c => c5 ⟨i, a, by simp only [List.length_map]; omega, c⟩)⟩
     ·
      refine s_4 ?_
      have hwi : ¬ Wild T := fun ⟨j, i, a, b, c, d, e⟩ => hw j a o_m i c d e
      have hT : Tab T rv.length k := tab_of o_m (by rw [hlen]; exact hrg) hwi
      have hC : Costs (ivals L) rv.length := hlen ▸ costs_ivals hg
      have f1 := hT.row 0 o_m o_m
      have f2 := hT.row k o_m o_m
      refine ro1 [qt 0,qt 1,qt 2,qt 3,qt 4,qt 5,qt 6,qt 7,qt 8,qt 9,qt 10,qt 11,qt 12,qt 13,qt 14,qt 15,qt 16,qt 17,qt 18,qt 20,ld 19,qt 21,qt 22,qt 23] ?_
      refine s_1 ?_
      refine rq rfl (qv_ia UL.out SZ.out e_vm (inV ht.sl) rfl o_m o_m) ?_
      refine rq rfl (qv_ld PL.out rfl (inV ht.sl) o_m o_m) ?_
      refine rq rfl (qv_iai UL.out SZ.out e_vm (inVi (ht.row (0) o_m o_m)) rfl o_m o_m) ?_
      refine rq rfl (qv_ldi PL.out rfl (inVi (ht.row (0) o_m o_m)) o_m o_m) ?_
      refine s_2 ?_
      by_cases g2 : (gi (gr T (0)) (0)) ≠ 0
      ·
       refine rs rfl (want_fn g2 rfl rfl rfl) ?_
       refine rs rfl (want_fn g2 rfl rfl rfl) ?_
       refine rs rfl (want_fn g2 rfl rfl rfl) ?_
       refine rs rfl (want_fn g2 rfl rfl rfl) ?_
       refine rs rfl (want_fn g2 rfl rfl rfl) ?_
       refine rs rfl (want_fn g2 rfl rfl rfl) ?_
       refine rs rfl (want_fn g2 rfl rfl rfl) ?_
       refine rs rfl (want_fn g2 rfl rfl rfl) ?_
       refine rs rfl (want_fn g2 rfl rfl rfl) ?_
       refine s_2 ?_
       refine rs rfl (want_fnc rfl rfl rfl) ?_
       refine rs rfl (want_fnc rfl rfl rfl) ?_
       refine rl_q ?_
       refine s_1 ?_
       refine ops_nil ⟨[], [], (Sub.refl _), perm_nil _, ⟨[], (.refl _)⟩, ?_⟩
       refine rs rfl (want_fnc rfl rfl rfl) ?_
       refine rs rfl (want_fnc rfl rfl rfl) ?_
       refine s_8 ?_
       exact rt1 (c_i (by rw [poE_13 o_m o_m o_m hrg hwi (by first | exact Or.inl o_m | exact Or.inr (Or.inl (by rw [← hlen]; omega)) | exact Or.inr (Or.inr (by assumption)))]))
      ·
       refine re rfl (qv_mv t rfl) (want_f g2 rfl rfl rfl) ?_
       refine re rfl (qv_mv (Value.int .i64 k) rfl) (want_f g2 rfl rfl rfl) ?_
       refine re rfl (qv_ia (v := t) (i := k) Tryz.underlying62 Tryz.size27 rfl (inV ht.sl) rfl o_m o_m) (want_f g2 rfl rfl rfl) ?_
       refine re rfl (qv_ld (v := t) (i := k) Tryz.plain27 rfl (inV ht.sl) o_m o_m) (want_f g2 rfl rfl rfl) ?_
       refine re rfl (qv_ldp (v := (.int .i64 ((rv.length : Int)))) Tryz.plain3 rfl (inVc hc1) rfl) (want_f g2 rfl rfl rfl) ?_
       refine re rfl (qv_iai (v := (gv tv (k))) (i := (rv.length : Int)) Tryz.underlying27 Tryz.size3 rfl (inVi (ht.row (k) o_m o_m)) rfl o_m o_m) (want_f g2 rfl rfl rfl) ?_
       refine re rfl (qv_ldi (v := (gv tv (k))) (i := (rv.length : Int)) Tryz.plain3 rfl (inVi (ht.row (k) o_m o_m)) o_m o_m) (want_f g2 rfl rfl rfl) ?_
       refine re rfl (qv_mv (Value.int .i64 c) rfl) (want_f g2 rfl rfl rfl) ?_
       refine re rfl (qv_lss rfl rfl) (want_f g2 rfl rfl rfl) ?_
       refine s_2 ?_
       by_cases g3 : (gi (gr T (k)) ((rv.length : Int))) < c
       ·
        refine rs rfl (want_fn g3 rfl rfl rfl) ?_
        refine rs rfl (want_fn g3 rfl rfl rfl) ?_
        refine rl_q ?_
        refine s_1 ?_
        refine ops_nil ⟨[], [], (Sub.refl _), perm_nil _, ⟨[], (.refl _)⟩, ?_⟩
        refine rs rfl (want_fn g3 rfl rfl rfl) ?_
        refine rs rfl (want_fn g3 rfl rfl rfl) ?_
        refine s_8 ?_
        exact rt1 (c_i (by rw [poE_13 o_m o_m o_m hrg hwi (by first | exact Or.inl o_m | exact Or.inr (Or.inl (by rw [← hlen]; omega)) | exact Or.inr (Or.inr (by assumption)))]))
       ·
        refine re rfl (qv_mv l rfl) (want_f g3 rfl rfl rfl) ?_
        refine re rfl (qv_mv t rfl) (want_f g3 rfl rfl rfl) ?_
        refine rl_q ?_
        refine ops_want (want_f g3 rfl rfl rfl) ?_
        refine c_l [] (intervals_c hl hg) rfl rfl fun r1 V1 sg1 hV1 hp1 => ?_
        obtain ⟨rfl, cv, hc⟩ := hp1
        have hl := hl.mono hV1
        have ht := ht.mono hV1
        have hc1 := hc1.mono hV1
        refine ops_nil ⟨[], [], hV1, perm_nil _, ⟨[], (.refl _)⟩, ?_⟩
        refine re rfl (qv_call (v := (.bool (decide (Holds (ivals L) T)))) (holds_c hc hC ht hT) rfl rfl) (want_f g3 rfl rfl rfl) ?_
        refine re rfl (qv_not rfl) (want_f g3 rfl rfl rfl) ?_
        refine s_2 ?_
        refine iff' ?_ ?_ <;> intro c6
        ·
         refine s_5 ?_
         exact rt1 (c_i (by rw [poE_13 o_m o_m o_m hrg hwi (by first | exact Or.inl o_m | exact Or.inr (Or.inl (by rw [← hlen]; omega)) | exact Or.inr (Or.inr (by assumption)))]))
        ·
         refine s_6 ?_
         exact rt1 (c_i (by rw [poE_0 o_m o_m o_m hrg hwi o_m (by rw [← hlen]; omega) (by first | assumption | exact Decidable.not_not.1 (by assumption))]))

set_option maxRecDepth 100000 in
set_option maxHeartbeats 4000000 in
theorem Cost_c {V : HV} {l : Value} {rv : List Value} {L : List (List Int)} {g : Value} {G : List Int} (hl : Mat .i64 V l rv L) (hgg : Ints .i64 V g G) :
    FnC Tryz.prog 24 [l, g] V [] (fun v _ _ => v = .tuple #[(.int .i64 (cN L G)), (.int .i64 (cE L G))]) := by
 refine f_i Tryz.func24 ?_
 intro w0 D
 have hlen := hl.len
 have hbg := hgg.bound
 refine s_9 ?_
 refine oq (f_c (Check_c hl) rfl rfl) ?_
 refine s_7 ?_
 refine iff' ?_ ?_ <;> intro c1
 ·
  refine s_7 ?_
  exact rt2 (c_i (by rw [cN_bad (by rw [cE_chk o_m]; omega)])) (c_i (by rw [cE_chk o_m]))
 ·
  refine s_3 ?_
  have hch : chk L = 0 := by omega
  have hg := good_of_chk hch
  have hle := hg.le
  refine s_2 ?_
  refine oq (qv_lenI UL.out rfl hgg) ?_
  refine s_1 ?_
  refine oq (qv_lenS UL.out rfl hl.sl) ?_
  refine s_2 ?_
  refine iff' ?_ ?_ <;> intro c2
  ·
   refine s_6 ?_
   exact rt2 (c_i (by rw [cN_bad (by rw [cE_g hch, gE_2 o_m]; omega)])) (c_i (by rw [cE_g hch, gE_2 o_m]))
  ·
   refine s_5 ?_
   refine oq (qv_lenI UL.out rfl hgg) ?_
   refine s_3 ?_
   refine lc1 [0,1,6,15,21,22,23] (fun (p : Int) => [(24, (Value.int .i64 p))]) (fun p => 0 ≤ p ∧ p ≤ G.length ∧ ∀ x : Int, 0 ≤ x → x < p → ¬ (gi G x < 0 ∨ (L.length : Int) ≤ gi G x)) (fun p => (G.length - p).toNat) 0 ?_ ?_ ?_ 
   · exact ⟨rfl, trivial⟩
   · exact ⟨by omega, by omega, fun x a b => by omega⟩
   rintro p e1 ⟨i1, i2, hp⟩
   refine s_5 ?_
   refine iff' ?_ ?_ <;> intro c3
   ·
    refine s_5 ?_
    refine oq (qv_iai UL.out SZ.out e_vm (inVi hgg) rfl o_m o_m) ?_
    refine oq (qv_ldi PL.out rfl (inVi hgg) o_m o_m) ?_
    refine s_7 ?_
    by_cases g1 : (gi G (p)) < 0
    ·
     refine s_15 ?_
     exact rt2 (c_i (by rw [cN_bad (by rw [cE_g hch, gE_3 o_m ⟨p, by omega, by omega, by omega⟩]; omega)])) (c_i (by rw [cE_g hch, gE_3 o_m ⟨p, by omega, by omega, by omega⟩]))
    ·
     refine s_2 ?_
     refine og (qv_lenS UL.out rfl hl.sl) w_a ?_
     refine s_3 ?_
     refine iff' ?_ ?_ <;> intro c4
     ·
      refine s_8 ?_
      exact rt2 (c_i (by rw [cN_bad (by rw [cE_g hch, gE_3 o_m ⟨p, by omega, by omega, by omega⟩]; omega)])) (c_i (by rw [cE_g hch, gE_3 o_m ⟨p, by omega, by omega, by omega⟩]))
     ·
      refine s_5 ?_
      exact le1 (p + 1) ⟨(c_i o_m), trivial⟩ ⟨by omega, by omega, all_snoc hp o_m⟩
   ·
    refine s_3 ?_
    have hout : ¬ Out L G := fun ⟨x, a, b, c⟩ => hp x a o_m c
    refine s_7 ?_
    refine oq (qv_lenI UL.out rfl hgg) ?_
    refine s_3 ?_
    refine lc1 [0,1,6,15,21,22,23,24,25,37,38] (fun (q : Int) => [(9, (.int .i64 (csum L G q.toNat))), (39, (Value.int .i64 q))]) (fun q => 0 ≤ q ∧ q ≤ G.length ∧ ∀ x : Int, 0 ≤ x → x < q → gi G (gi G x) = gi G x) (fun q => (G.length - q).toNat) 0 ?_ ?_ ?_ 
    · exact ⟨(c_i (by rfl)), rfl, trivial⟩
    · exact ⟨by omega, by omega, fun x a b => by omega⟩
    rintro q e2 ⟨i1, i3, hq⟩
    refine s_5 ?_
    refine iff' ?_ ?_ <;> intro c5
    ·
     refine s_6 ?_
     refine oq (qv_iai UL.out SZ.out e_vm (inVi hgg) rfl o_m o_m) ?_
     refine oq (qv_ldi PL.out rfl (inVi hgg) o_m o_m) ?_
     refine s_5 ?_
     have e2 := hp q o_m o_m
     refine s_3 ?_
     refine oq (qv_iai UL.out SZ.out e_vm (inVi hgg) rfl o_m o_m) ?_
     refine oq (qv_ldi PL.out rfl (inVi hgg) o_m o_m) ?_
     refine s_3 ?_
     refine iff' ?_ ?_ <;> intro c6
     ·
      refine s_8 ?_
      exact rt2 (c_i (by rw [cN_bad (by rw [cE_g hch, gE_15 o_m hout ⟨q, by omega, by omega, by omega⟩]; omega)])) (c_i (by rw [cE_g hch, gE_15 o_m hout ⟨q, by omega, by omega, by omega⟩]))
     ·
      refine s_1 ?_
      have e1 := csum_step L G i1
      have e3 := csum_bd hg hout q.toNat o_m o_m
      have e4 := hg.row q o_m o_m
      have e5 := hg.el q (gi G q) o_m o_m o_m o_m
      refine s_4 ?_
      refine oq (qv_ia UL.out SZ.out e_vm (inV hl.sl) rfl o_m o_m) ?_
      refine oq (qv_ld PL.out rfl (inV hl.sl) o_m o_m) ?_
      refine s_1 ?_
      refine oq (qv_iai UL.out SZ.out e_vm (inVi (hl.row (q) o_m o_m)) rfl o_m o_m) ?_
      refine oq (qv_ldi PL.out rfl (inVi (hl.row (q) o_m o_m)) o_m o_m) ?_
      refine s_7 ?_
      exact le1 (q + 1) ⟨(c_i o_m), (c_i (by rfl)), trivial⟩ ⟨by omega, by omega, all_snoc hq o_m⟩
    ·
     refine s_9 ?_
     exact rt2 (c_i (by rw [cN_good (by rw [cE_g hch, gE_0 o_m hout (fun ⟨x, a, b, c⟩ => c (hq x a o_m))]), show q.toNat = G.length by omega])) (c_i (by rw [cE_g hch, gE_0 o_m hout (fun ⟨x, a, b, c⟩ => c (hq x a o_m))]))

set_option maxRecDepth 100000 in
set_option maxHeartbeats 4000000 in
theorem Equal_c {V : HV} {a b : Value} {A B : List Int} (ha : Ints .i64 V a A) (hb : Ints .i64 V b B) :
    FnC Tryz.prog 55 [a, b] V [] (fun v _ _ => v = (.bool (decide (A = B)))) := by
 refine f_i Tryz.func55 ?_
 intro w0 D
 have h1 := ha.bound
 have h2 := hb.bound
 refine s_8 ?_
 refine oq (qv_lenI UL.out rfl ha) ?_
 refine s_1 ?_
 refine oq (qv_lenI UL.out rfl hb) ?_
 refine s_2 ?_
 refine iff' ?_ ?_ <;> intro c1
 ·
  refine s_5 ?_
  exact rt1 (jf (by intro hx; subst hx; omega))
 ·
  refine s_5 ?_
  refine oq (qv_lenI UL.out rfl ha) ?_
  refine s_3 ?_
  refine lc1 [0,1,10,12] (fun (p : Int) => [(13, (Value.int .i64 p))]) (fun p => 0 ≤ p ∧ p ≤ A.length ∧ ∀ x : Int, 0 ≤ x → x < p → gi A x = gi B x) (fun p => (A.length - p).toNat) 0 ?_ ?_ ?_ 
  · exact ⟨rfl, trivial⟩
  · exact ⟨by omega, by omega, fun x a b => by omega⟩
  rintro p e1 ⟨i1, i2, hp⟩
  refine s_5 ?_
  refine iff' ?_ ?_ <;> intro c2
  ·
   refine s_12 ?_
   refine qq (qv_iai UL.out SZ.out e_vm (inVi ha) rfl o_m o_m) ?_
   refine qq (qv_ldi PL.out rfl (inVi ha) o_m o_m) ?_
   refine s_2 ?_
   refine qq (qv_iai UL.out SZ.out e_vm (inVi hb) rfl o_m o_m) ?_
   refine qq (qv_ldi PL.out rfl (inVi hb) o_m o_m) ?_
   refine s_2 ?_
   refine iff' ?_ ?_ <;> intro c3
   ·
    refine s_7 ?_
    exact rt1 (jf (by intro hx; subst hx; omega))
   ·
    refine s_5 ?_
    exact le1 (p + 1) ⟨(c_i o_m), trivial⟩ ⟨by omega, by omega, all_snoc hp o_m⟩
  ·
   refine s_7 ?_
   exact rt1 (jt (by exact ext_gi o_m (fun x a b => hp x a o_m)))

end Go.Proofs.YtbchkopkgpfkgaaGreatDoor.Mg
