/- Fa. -/
import Derived.Test.YtbchkopkgpfkgaaGreatDoorTi
import Derived.Test.YtbchkopkgpfkgaaGreatDoorWp
import Derived.Test.YtbchkopkgpfkgaaGreatDoorTy
import Derived.Test.YtbchkopkgpfkgaaGreatDoorWb
namespace Go.Proofs.YtbchkopkgpfkgaaGreatDoor
open Go.Vc
open Classical

/-- What the function does, for arguments of a size below k. -/
def TLC (k : Nat) : Prop := ∀ (V : HV) (t : Tm) (ks : Value) (x : Int), Tms V ks t.kids → -100 ≤ x → x ≤ 1000 → t.sz < k → FnC Tryz.prog 74 [.agg #[.int .i64 t.op, .int .i64 t.n, ks], .int .i64 x] V [] (fun v _ _ => v = .int .i64 (tlT t x))

set_option maxRecDepth 100000 in
set_option maxHeartbeats 4000000 in
theorem termLeft_step {V : HV} {t : Tm} {ks : Value} {x : Int} {k : Nat} (IH : TLC k) (hT : Tms V ks t.kids) (hx : -100 ≤ x) (hx2 : x ≤ 1000) (hk : t.sz < (k + 1 : Nat)) :
    FnC Tryz.prog 74 [(.agg #[(.int .i64 t.op), (.int .i64 t.n), ks]), (Value.int .i64 x)] V [] (fun v _ _ => v = (.int .i64 (tlT t x))) := by
 refine f_i Tryz.func74 ?_
 intro w0 D
 obtain ⟨kvs, hS, hK⟩ := hT
 have hb := SlS.bound hS
 refine s_2 ?_
 refine b_ox fun b1 => ?_
 refine s_14 ?_
 refine lc2 [0,2,4] (fun (i : Int) (y : Int) => [(1, (Value.int .i64 y)), (5, (Value.int .i64 i))]) (fun i y => 0 ≤ i ∧ i ≤ t.kids.length ∧ -101 ≤ y ∧ y ≤ 1000 ∧ tlL t.kids (x - 1) = tlL (t.kids.drop i.toNat) y) (fun i y => (t.kids.length - i).toNat) 0 ((x - 1)) ?_ ?_ ?_ 
 · exact ⟨(c_i (by first | omega | simp)), rfl, trivial⟩
 · exact ⟨by omega, by omega, by omega, by omega, rfl⟩
 rintro i y e1 ⟨i1, i2, y1, y2, hy⟩
 refine s_6 ?_
 refine oq (qv_lenSS UL.out rfl hS) ?_
 refine s_2 ?_
 by_cases g1 : i < ((t.kids.length : Int))
 ·
  refine s_4 ?_
  refine iff' ?_ ?_ <;> intro c1
  ·
   refine s_3 ?_
   have hsz := szL_at (l := t.kids) i1 o_m
   have hsk := sz_kids t
   have hsn := szL_nn (t.kids.take i.toNat)
   have htl := tl_bd (tm t.kids i) y
   refine s_4 ?_
   refine oq (qv_ias UL.out SZ.out e_vm hS rfl o_m o_m) ?_
   refine oq (qv_lds AG.out rfl hS o_m o_m (tmcs_at o_m o_m)) ?_
   refine s_1 ?_
   refine oq (f_c (IH _ _ _ _ (hK i i1 o_m) o_m o_m o_m) rfl rfl) ?_
   refine s_7 ?_
   exact le2 (i + 1) ((tlT (tm t.kids i) y)) ⟨(c_i o_m), (c_i o_m), trivial⟩ ⟨by omega, by omega, by omega, by omega, by rw [hy, tm_drop i1 o_m, tlL_c, if_pos o_m]⟩
  ·
   refine s_8 ?_
   exact rt1 (c_i (by rw [tlT_eq t x, hy]; first | exact (tlL_neg o_m).symm | (rw [List.drop_eq_nil_of_le o_m]; rfl)))
 ·
  refine s_13 ?_
  exact rt1 (c_i (by rw [tlT_eq t x, hy]; first | exact (tlL_neg o_m).symm | (rw [List.drop_eq_nil_of_le o_m]; rfl)))

theorem termLeft_c : ∀ k, TLC k
  | 0 => fun _ t _ _ _ _ _ h => absurd h (by have := t.sz_pos; omega)
  | k + 1 => fun V t ks x hT hx hx2 hk => termLeft_step (termLeft_c k) hT hx hx2 hk
/-- What the function does, for arguments of a size below k. -/
def SLC (k : Nat) : Prop := ∀ (V : HV) (l : List St) (lv : Value) (x : Int), Sts V lv l → -2 ≤ x → x ≤ 1000 → nds l < k → FnC Tryz.prog 73 [lv, .int .i64 x] V [] (fun v _ _ => v = .int .i64 (slL l x))

set_option maxRecDepth 100000 in
set_option maxHeartbeats 4000000 in
theorem stepsLeft_step {V : HV} {l : List St} {lv : Value} {x : Int} {k : Nat} (IH : SLC k) (hL : Sts V lv l) (hx : -2 ≤ x) (hx2 : x ≤ 1000) (hk : nds l < (k + 1 : Nat)) :
    FnC Tryz.prog 73 [lv, (Value.int .i64 x)] V [] (fun v _ _ => v = (.int .i64 (slL l x))) := by
 refine f_i Tryz.func73 ?_
 intro w0 D
 obtain ⟨kvs, tvs, evs, bvs, hS, hK, hth, hel, hbv⟩ := hL
 have hb := SlS.bound hS
 refine s_10 ?_
 refine lc2 [0] (fun (i : Int) (y : Int) => [(1, (Value.int .i64 y)), (5, (Value.int .i64 i))]) (fun i y => 0 ≤ i ∧ i ≤ l.length ∧ -2 ≤ y ∧ y ≤ 1000 ∧ slL l x = slL (l.drop i.toNat) y) (fun i y => (l.length - i).toNat) 0 x ?_ ?_ ?_ 
 · exact ⟨rfl, rfl, trivial⟩
 · exact ⟨by omega, by omega, by omega, by omega, rfl⟩
 rintro i y e1 ⟨i1, i2, y1, y2, hy⟩
 refine s_5 ?_
 refine oq (qv_lenSS UL.out rfl hS) ?_
 refine s_2 ?_
 by_cases g1 : i < ((l.length : Int))
 ·
  refine s_4 ?_
  refine iff' ?_ ?_ <;> intro c1
  ·
   refine s_4 ?_
   have hsz := nds_at (l := l) i1 o_m
   have hse := nd_eq (st l i)
   have hsp := (st l i).tm.sz_pos
   have hsn := nds_nn (l.take i.toNat)
   have hs1 := nds_nn (st l i).thn
   have hs2 := nds_nn (st l i).els
   have htl := tl_bd (st l i).tm (y - 1)
   have hbb := (hbv i i1 o_m).bound
   refine s_3 ?_
   refine oq (qv_ias UL.out SZ.out e_vm hS rfl o_m o_m) ?_
   refine oq (qv_fas FI.out rfl hS o_m o_m) ?_
   refine oq (qv_ldsf (o := 4) AG.out rfl hS o_m o_m o_m (stcs_seg o_m o_m o_m)) ?_
   refine s_2 ?_
   refine oq (f_c (termLeft_c ((st l i).tm.sz.toNat + 1) _ _ _ _ (hK i i1 o_m) o_m o_m o_m) rfl rfl) ?_
   refine s_8 ?_
   refine oq (qv_ias UL.out SZ.out e_vm hS rfl o_m o_m) ?_
   refine oq (qv_fas FI.out rfl hS o_m o_m) ?_
   refine oq (qv_ldf PL.out rfl hS o_m o_m o_m (stcs_el (o := 9) o_m o_m o_m rfl)) ?_
   refine oq (qv_lenI UL.out rfl (hbv (i) o_m o_m)) ?_
   refine s_2 ?_
   refine iff' ?_ ?_ <;> intro c2
   ·
    refine s_7 ?_
    exact rt1 (c_i (by rw [hy, st_drop i1 o_m, slL_c, if_pos o_m, slT_eq, if_pos o_m]; exact (slL_neg o_m).symm))
   ·
    refine s_1 ?_
    have ha := slL_bd (st l i).thn (x := tlT (st l i).tm (y - 1) - (st l i).bds.length) o_m
    have hsl := sl_bd (st l i) (x := y) o_m
    refine s_3 ?_
    refine qq (qv_ias UL.out SZ.out e_vm hS rfl o_m o_m) ?_
    refine qq (qv_fas FI.out rfl hS o_m o_m) ?_
    refine qq (qv_ldf PL.out rfl hS o_m o_m o_m (stcs_el (o := 8) o_m o_m o_m rfl)) ?_
    refine s_2 ?_
    refine qq (qv_ias UL.out SZ.out e_vm hS rfl o_m o_m) ?_
    refine qq (qv_fas FI.out rfl hS o_m o_m) ?_
    refine qq (qv_ldf PL.out rfl hS o_m o_m o_m (stcs_el (o := 7) o_m o_m o_m rfl)) ?_
    refine s_3 ?_
    refine qq (qv_ias UL.out SZ.out e_vm hS rfl o_m o_m) ?_
    refine qq (qv_fas FI.out rfl hS o_m o_m) ?_
    refine qq (qv_ldf PL.out rfl hS o_m o_m o_m (stcs_el (o := 9) o_m o_m o_m rfl)) ?_
    refine qq (qv_lenI UL.out rfl (hbv (i) o_m o_m)) ?_
    refine s_1 ?_
    refine qq (f_c (IH _ _ _ _ (hth i i1 o_m) o_m o_m o_m) rfl rfl) ?_
    refine qq (f_c (IH _ _ _ _ (hel i i1 o_m) o_m o_m o_m) rfl rfl) ?_
    refine s_7 ?_
    exact le2 (i + 1) ((slT (st l i) y)) ⟨(c_i (by rw [slT_eq, if_neg o_m])), (c_i (by rfl)), trivial⟩ ⟨by omega, by omega, by omega, by omega, by rw [hy, st_drop i1 o_m, slL_c, if_pos o_m]⟩
  ·
   refine s_8 ?_
   exact rt1 (c_i (by rw [hy]; first | exact (slL_neg o_m).symm | (rw [List.drop_eq_nil_of_le o_m]; rfl)))
 ·
  refine s_13 ?_
  exact rt1 (c_i (by rw [hy]; first | exact (slL_neg o_m).symm | (rw [List.drop_eq_nil_of_le o_m]; rfl)))

theorem stepsLeft_c : ∀ k, SLC k
  | 0 => fun _ l _ _ _ _ _ h => absurd h (by have := nds_nn l; omega)
  | k + 1 => fun V l lv x hL hx hx2 hk => stepsLeft_step (stepsLeft_c k) hL hx hx2 hk
set_option maxRecDepth 100000 in
set_option maxHeartbeats 4000000 in
theorem Few_c {V : HV} {va ha ba : Value} {F : Fl} (hF : Fls V va ha ba F) {mv n : Int} (hv1 : mv ≤ 50) (hn0 : -2 ≤ n) (hn1 : n ≤ 1000) :
    FnC Tryz.prog 25 [(.agg #[va, ha, ba]), (Value.int .i64 mv), (Value.int .i64 n)] V [] (fun v _ _ => v = (.bool (decide (FewP F mv n)))) := by
 refine f_i Tryz.func25 ?_
 intro w0 D
 obtain ⟨hvs, hH⟩ := hF.h
 obtain ⟨xB, hB⟩ := hF.b.sl
 have hbvv := SlS.bound hF.v
 have hbh := SlS.bound hH.sl
 have hbb := SlS.bound hB
 refine s_2 ?_
 refine b_ox fun b1 => ?_
 refine s_7 ?_
 refine oq (qv_lenSS UL.out rfl hF.v) ?_
 refine s_3 ?_
 by_cases g1 : mv < ((F.vs.length : Int))
 ·
  refine s_13 ?_
  exact rt1 (jf (by exact fun q => absurd q.1 (fun z => z (by first | exact .inl (by assumption) | exact .inr (by assumption)))))
 ·
  refine s_2 ?_
  refine og (qv_lenSS UL.out rfl hH.sl) w_a ?_
  refine s_4 ?_
  refine iff' ?_ ?_ <;> intro c1
  ·
   refine s_5 ?_
   exact rt1 (jf (by exact fun q => absurd q.1 (fun z => z (by first | exact .inl (by assumption) | exact .inr (by assumption)))))
  ·
   refine s_6 ?_
   refine oq (f_c (stepsLeft_c ((nds F.bd).toNat + 1) _ _ _ _ hF.b hn0 hn1 (by have := nds_nn F.bd; omega)) rfl rfl) ?_
   refine s_4 ?_
   have hsb := slL_bd F.bd (x := n) hn0
   refine s_3 ?_
   refine oq (qv_lenSS UL.out rfl hH.sl) ?_
   refine s_3 ?_
   refine lc2 [0,1,2,3,6,21,27,28] (fun (i : Int) (y : Int) => [(7, (Value.int .i64 y)), (29, (Value.int .i64 i))]) (fun i y => 0 ≤ i ∧ i ≤ F.hs.length ∧ -2 - i ≤ y ∧ y ≤ 1000 ∧ tlH F.hs (slL F.bd n) = tlH (F.hs.drop i.toNat) y) (fun i y => (F.hs.length - i).toNat) 0 ((slL F.bd n)) ?_ ?_ ?_ 
   · exact ⟨(c_i (by first | omega | simp)), rfl, trivial⟩
   · exact ⟨by omega, by omega, by omega, by omega, rfl⟩
   rintro i y e1 ⟨i1, i2, y1, y2, hy⟩
   refine s_5 ?_
   refine iff' ?_ ?_ <;> intro c2
   ·
    refine s_5 ?_
    refine oq (qv_ias UL.out SZ.out e_vm hH.sl rfl o_m o_m) ?_
    refine oq (qv_lds AG.out rfl hH.sl o_m o_m (htcs_at o_m o_m)) ?_
    refine a_lo fun b2 => ?_
    refine s_tw rfl rfl (allc rfl (allc rfl (allc rfl (allc rfl (allc rfl (allc (Tms.one (hH.hk (i) o_m o_m)) rfl)))))) ?_
    refine s_1 ?_
    have htl := tl_bd (ht F.hs i).tm y
    have hsp := (ht F.hs i).tm.sz_pos
    refine s_4 ?_
    refine oq (f_c (termLeft_c ((ht F.hs i).tm.sz.toNat + 1) _ _ _ _ (hH.hk i i1 o_m) o_m o_m o_m) rfl rfl) ?_
    refine s_2 ?_
    refine v_d 1 ?_
    refine s_4 ?_
    exact le2 (i + 1) ((tlT (ht F.hs i).tm y)) ⟨(c_i o_m), (c_i o_m), trivial⟩ ⟨by omega, by omega, by omega, by omega, by rw [hy, ht_drop i1 o_m]; rfl⟩
   ·
    refine s_9 ?_
    exact rt1 (jb (by unfold FewP; rw [hy, List.drop_eq_nil_of_le o_m]; exact ⟨fun q => ⟨by omega, q⟩, fun q => q.2⟩))

end Go.Proofs.YtbchkopkgpfkgaaGreatDoor

namespace Go.Proofs.YtbchkopkgpfkgaaGreatDoor
open Go.Vc
open Classical

/-- What the function does, for arguments of a size below k. -/
def TNC (k : Nat) : Prop := ∀ (V : HV) (t : Tm) (ks : Value), Tms V ks t.kids → t.sz ≤ 1000000 → t.sz < k → FnC Tryz.prog 128 [.agg #[.int .i64 t.op, .int .i64 t.n, ks]] V [] (fun v _ _ => v = .int .i64 t.sz)

set_option maxRecDepth 100000 in
set_option maxHeartbeats 4000000 in
theorem TermNodes_step {V : HV} {t : Tm} {ks : Value} {k : Nat} (IH : TNC k) (hT : Tms V ks t.kids) (hz : t.sz ≤ 1000000) (hk : t.sz < (k + 1 : Nat)) :
    FnC Tryz.prog 128 [(.agg #[(.int .i64 t.op), (.int .i64 t.n), ks])] V [] (fun v _ _ => v = (.int .i64 t.sz)) := by
 refine f_i Tryz.func128 ?_
 intro w0 D
 obtain ⟨kvs, hS, hK⟩ := hT
 have hb := SlS.bound hS
 have hsk := sz_kids t
 refine s_2 ?_
 refine b_ox fun b1 => ?_
 refine s_12 ?_
 refine lc1 [0,1,2] (fun (i : Int) => [(3, (.int .i64 (1 + szL (t.kids.take i.toNat)))), (4, (Value.int .i64 i))]) (fun i => 0 ≤ i ∧ i ≤ t.kids.length) (fun i => (t.kids.length - i).toNat) 0 ?_ ?_ ?_ 
 · exact ⟨(c_i (by rfl)), rfl, trivial⟩
 · exact ⟨by omega, by omega⟩
 rintro i e1 ⟨i1, i2⟩
 refine s_6 ?_
 refine oq (qv_lenSS UL.out rfl hS) ?_
 refine s_2 ?_
 refine iff' ?_ ?_ <;> intro c1
 ·
  refine s_3 ?_
  have hsz := szL_at (l := t.kids) i1 o_m
  have hsn := szL_nn (t.kids.take i.toNat)
  have htp := (tm t.kids i).sz_pos
  refine s_5 ?_
  refine oq (qv_ias UL.out SZ.out e_vm hS rfl o_m o_m) ?_
  refine oq (qv_lds AG.out rfl hS o_m o_m (tmcs_at o_m o_m)) ?_
  refine oq (f_c (IH _ _ _ (hK i i1 o_m) o_m o_m) rfl rfl) ?_
  refine s_8 ?_
  exact le1 (i + 1) ⟨(c_i (by rw [show (i + 1).toNat = i.toNat + 1 by omega, szL_take i1 o_m]; omega)), (c_i (by rfl)), trivial⟩ ⟨by omega, by omega⟩
 ·
  refine s_8 ?_
  exact rt1 (c_i (by rw [hsk, List.take_of_length_le o_m]))

theorem TermNodes_c : ∀ k, TNC k
  | 0 => fun _ t _ _ _ h => absurd h (by have := t.sz_pos; omega)
  | k + 1 => fun V t ks hT hz hk => TermNodes_step (TermNodes_c k) hT hz hk
/-- What the function does, for arguments of a size below k. -/
def TDC (k : Nat) : Prop := ∀ (V : HV) (t : Tm) (ks : Value), Tms V ks t.kids → t.sz ≤ 1000000 → t.sz < k → FnC Tryz.prog 129 [.agg #[.int .i64 t.op, .int .i64 t.n, ks]] V [] (fun v _ _ => v = .int .i64 t.dp)

set_option maxRecDepth 100000 in
set_option maxHeartbeats 4000000 in
theorem termDepth_step {V : HV} {t : Tm} {ks : Value} {k : Nat} (IH : TDC k) (hT : Tms V ks t.kids) (hz : t.sz ≤ 1000000) (hk : t.sz < (k + 1 : Nat)) :
    FnC Tryz.prog 129 [(.agg #[(.int .i64 t.op), (.int .i64 t.n), ks])] V [] (fun v _ _ => v = (.int .i64 t.dp)) := by
 refine f_i Tryz.func129 ?_
 intro w0 D
 obtain ⟨kvs, hS, hK⟩ := hT
 have hb := SlS.bound hS
 have hsk := sz_kids t
 have hdk := dp_kids t
 have hds := dp_sz t
 refine s_2 ?_
 refine b_ox fun b1 => ?_
 refine s_12 ?_
 refine lc1 [0,1,2] (fun (i : Int) => [(3, (.int .i64 (dpL (t.kids.take i.toNat)))), (4, (Value.int .i64 i))]) (fun i => 0 ≤ i ∧ i ≤ t.kids.length) (fun i => (t.kids.length - i).toNat) 0 ?_ ?_ ?_ 
 · exact ⟨(c_i (by rfl)), rfl, trivial⟩
 · exact ⟨by omega, by omega⟩
 rintro i e1 ⟨i1, i2⟩
 refine s_6 ?_
 refine oq (qv_lenSS UL.out rfl hS) ?_
 refine s_2 ?_
 refine iff' ?_ ?_ <;> intro c1
 ·
  refine s_4 ?_
  have hsz := szL_at (l := t.kids) i1 o_m
  have hsn := szL_nn (t.kids.take i.toNat)
  refine s_4 ?_
  refine oq (qv_ias UL.out SZ.out e_vm hS rfl o_m o_m) ?_
  refine oq (qv_lds AG.out rfl hS o_m o_m (tmcs_at o_m o_m)) ?_
  refine oq (f_c (IH _ _ _ (hK i i1 o_m) o_m o_m) rfl rfl) ?_
  refine s_8 ?_
  refine iff' ?_ ?_ <;> intro c2
  ·
   refine s_9 ?_
   exact le1 (i + 1) ⟨(c_i (by rw [show (i + 1).toNat = i.toNat + 1 by omega, dpL_take i1 o_m]; first | exact (if_pos (by assumption)).symm | exact (if_neg (by assumption)).symm)), (c_i (by rfl)), trivial⟩ ⟨by omega, by omega⟩
  ·
   refine s_6 ?_
   exact le1 (i + 1) ⟨(c_i (by rw [show (i + 1).toNat = i.toNat + 1 by omega, dpL_take i1 o_m]; first | exact (if_pos (by assumption)).symm | exact (if_neg (by assumption)).symm)), (c_i (by rfl)), trivial⟩ ⟨by omega, by omega⟩
 ·
  refine s_3 ?_
  have hdn := dpL_nn (t.kids.take i.toNat)
  have ht0 : dpL (t.kids.take i.toNat) = dpL t.kids := by rw [List.take_of_length_le o_m]
  refine s_6 ?_
  exact rt1 (c_i o_m)

theorem termDepth_c : ∀ k, TDC k
  | 0 => fun _ t _ _ _ h => absurd h (by have := t.sz_pos; omega)
  | k + 1 => fun V t ks hT hz hk => termDepth_step (termDepth_c k) hT hz hk
/-- What the function does, for arguments of a size below k. -/
def NDC (k : Nat) : Prop := ∀ (V : HV) (l : List St) (lv : Value), Sts V lv l → nds l ≤ 1000000 → nds l < k → FnC Tryz.prog 127 [lv] V [] (fun v _ _ => v = .int .i64 (nds l))

set_option maxRecDepth 100000 in
set_option maxHeartbeats 4000000 in
theorem Nodes_step {V : HV} {l : List St} {lv : Value} {k : Nat} (IH : NDC k) (hL : Sts V lv l) (hz : nds l ≤ 1000000) (hk : nds l < (k + 1 : Nat)) :
    FnC Tryz.prog 127 [lv] V [] (fun v _ _ => v = (.int .i64 (nds l))) := by
 refine f_i Tryz.func127 ?_
 intro w0 D
 obtain ⟨kvs, tvs, evs, bvs, hS, hK, hth, hel, hbv⟩ := hL
 have hb := SlS.bound hS
 refine s_14 ?_
 refine lc1 [0,2] (fun (i : Int) => [(3, (.int .i64 (nds (l.take i.toNat)))), (4, (Value.int .i64 i))]) (fun i => 0 ≤ i ∧ i ≤ l.length) (fun i => (l.length - i).toNat) 0 ?_ ?_ ?_ 
 · exact ⟨(c_i (by rfl)), rfl, trivial⟩
 · exact ⟨by omega, by omega⟩
 rintro i e1 ⟨i1, i2⟩
 refine s_5 ?_
 refine oq (qv_lenSS UL.out rfl hS) ?_
 refine s_2 ?_
 refine iff' ?_ ?_ <;> intro c1
 ·
  refine s_3 ?_
  have hsz := nds_at (l := l) i1 o_m
  have hse := nd_eq (st l i)
  have hsp := (st l i).tm.sz_pos
  have hsn := nds_nn (l.take i.toNat)
  have hs1 := nds_nn (st l i).thn
  have hs2 := nds_nn (st l i).els
  refine s_5 ?_
  refine qq (qv_ias UL.out SZ.out e_vm hS rfl o_m o_m) ?_
  refine qq (qv_fas FI.out rfl hS o_m o_m) ?_
  refine qq (qv_ldsf (o := 4) AG.out rfl hS o_m o_m o_m (stcs_seg o_m o_m o_m)) ?_
  refine qq (f_c (TermNodes_c ((st l i).tm.sz.toNat + 1) _ _ _ (hK i i1 o_m) o_m o_m) rfl rfl) ?_
  refine s_3 ?_
  refine qq (qv_ias UL.out SZ.out e_vm hS rfl o_m o_m) ?_
  refine qq (qv_fas FI.out rfl hS o_m o_m) ?_
  refine qq (qv_ldf PL.out rfl hS o_m o_m o_m (stcs_el (o := 7) o_m o_m o_m rfl)) ?_
  refine qq (f_c (IH _ _ _ (hth i i1 o_m) o_m o_m) rfl rfl) ?_
  refine s_3 ?_
  refine qq (qv_ias UL.out SZ.out e_vm hS rfl o_m o_m) ?_
  refine qq (qv_fas FI.out rfl hS o_m o_m) ?_
  refine qq (qv_ldf PL.out rfl hS o_m o_m o_m (stcs_el (o := 8) o_m o_m o_m rfl)) ?_
  refine qq (f_c (IH _ _ _ (hel i i1 o_m) o_m o_m) rfl rfl) ?_
  refine s_8 ?_
  exact le1 (i + 1) ⟨(c_i (by rw [show (i + 1).toNat = i.toNat + 1 by omega, nds_take i1 o_m]; omega)), (c_i (by rfl)), trivial⟩ ⟨by omega, by omega⟩
 ·
  refine s_8 ?_
  exact rt1 (c_i (by rw [List.take_of_length_le o_m]))

theorem Nodes_c : ∀ k, NDC k
  | 0 => fun _ l _ _ _ h => absurd h (by have := nds_nn l; omega)
  | k + 1 => fun V l lv hL hz hk => Nodes_step (Nodes_c k) hL hz hk
/-- What the function does, for arguments of a size below k. -/
def SDC (k : Nat) : Prop := ∀ (V : HV) (l : List St) (lv : Value), Sts V lv l → nds l ≤ 1000000 → nds l < k → FnC Tryz.prog 130 [lv] V [] (fun v _ _ => v = .int .i64 (sdp l))

set_option maxRecDepth 100000 in
set_option maxHeartbeats 4000000 in
theorem stepDepth_step {V : HV} {l : List St} {lv : Value} {k : Nat} (IH : SDC k) (hL : Sts V lv l) (hz : nds l ≤ 1000000) (hk : nds l < (k + 1 : Nat)) :
    FnC Tryz.prog 130 [lv] V [] (fun v _ _ => v = (.int .i64 (sdp l))) := by
 refine f_i Tryz.func130 ?_
 intro w0 D
 obtain ⟨kvs, tvs, evs, bvs, hS, hK, hth, hel, hbv⟩ := hL
 have hb := SlS.bound hS
 refine s_14 ?_
 refine lc1 [0,2] (fun (i : Int) => [(3, (.int .i64 (sdp (l.take i.toNat)))), (4, (Value.int .i64 i))]) (fun i => 0 ≤ i ∧ i ≤ l.length) (fun i => (l.length - i).toNat) 0 ?_ ?_ ?_ 
 · exact ⟨(c_i (by rfl)), rfl, trivial⟩
 · exact ⟨by omega, by omega⟩
 rintro i e1 ⟨i1, i2⟩
 refine s_5 ?_
 refine oq (qv_lenSS UL.out rfl hS) ?_
 refine s_2 ?_
 refine iff' ?_ ?_ <;> intro c1
 ·
  refine s_4 ?_
  have hsz := nds_at (l := l) i1 o_m
  have hse := nd_eq (st l i)
  have hsp := (st l i).tm.sz_pos
  have hsn := nds_nn (l.take i.toNat)
  have hs1 := nds_nn (st l i).thn
  have hs2 := nds_nn (st l i).els
  have hd1 := sdp_nds (st l i).thn
  have hd2 := sdp_nds (st l i).els
  have hd3 := sdp_nn (st l i).thn
  have hd4 := sdp_nn (st l i).els
  refine s_3 ?_
  refine oq (qv_ias UL.out SZ.out e_vm hS rfl o_m o_m) ?_
  refine oq (qv_fas FI.out rfl hS o_m o_m) ?_
  refine oq (qv_ldf PL.out rfl hS o_m o_m o_m (stcs_el (o := 7) o_m o_m o_m rfl)) ?_
  refine oq (f_c (IH _ _ _ (hth i i1 o_m) o_m o_m) rfl rfl) ?_
  refine s_7 ?_
  refine oq (qv_ias UL.out SZ.out e_vm hS rfl o_m o_m) ?_
  refine oq (qv_fas FI.out rfl hS o_m o_m) ?_
  refine oq (qv_ldf PL.out rfl hS o_m o_m o_m (stcs_el (o := 8) o_m o_m o_m rfl)) ?_
  refine oq (f_c (IH _ _ _ (hel i i1 o_m) o_m o_m) rfl rfl) ?_
  refine s_10 ?_
  refine iff' ?_ ?_ <;> intro c2
  ·
   refine s_10 ?_
   refine iff' ?_ ?_ <;> intro c3
   ·
    refine s_9 ?_
    exact le1 (i + 1) ⟨(c_i (by rw [show (i + 1).toNat = i.toNat + 1 by omega, sdp_take i1 o_m, sd_eq, mxI]; (repeat' split) <;> omega)), (c_i (by rfl)), trivial⟩ ⟨by omega, by omega⟩
   ·
    refine s_6 ?_
    exact le1 (i + 1) ⟨(c_i (by rw [show (i + 1).toNat = i.toNat + 1 by omega, sdp_take i1 o_m, sd_eq, mxI]; (repeat' split) <;> omega)), (c_i (by rfl)), trivial⟩ ⟨by omega, by omega⟩
  ·
   refine s_7 ?_
   refine iff' ?_ ?_ <;> intro c4
   ·
    refine s_9 ?_
    exact le1 (i + 1) ⟨(c_i (by rw [show (i + 1).toNat = i.toNat + 1 by omega, sdp_take i1 o_m, sd_eq, mxI]; (repeat' split) <;> omega)), (c_i (by rfl)), trivial⟩ ⟨by omega, by omega⟩
   ·
    refine s_6 ?_
    exact le1 (i + 1) ⟨(c_i (by rw [show (i + 1).toNat = i.toNat + 1 by omega, sdp_take i1 o_m, sd_eq, mxI]; (repeat' split) <;> omega)), (c_i (by rfl)), trivial⟩ ⟨by omega, by omega⟩
 ·
  refine s_8 ?_
  exact rt1 (c_i (by rw [List.take_of_length_le o_m]))

theorem stepDepth_c : ∀ k, SDC k
  | 0 => fun _ l _ _ _ h => absurd h (by have := nds_nn l; omega)
  | k + 1 => fun V l lv hL hz hk => stepDepth_step (stepDepth_c k) hL hz hk
/-- What the function does, for arguments of a size below k. -/
def TPC (k : Nat) : Prop := ∀ (V : HV) (l : List St) (lv : Value), Sts V lv l → nds l ≤ 1000000 → nds l < k → FnC Tryz.prog 131 [lv] V [] (fun v _ _ => v = .bool (decide (¬ tds l)))

set_option maxRecDepth 100000 in
set_option maxHeartbeats 4000000 in
theorem termsDeep_step {V : HV} {l : List St} {lv : Value} {k : Nat} (IH : TPC k) (hL : Sts V lv l) (hz : nds l ≤ 1000000) (hk : nds l < (k + 1 : Nat)) :
    FnC Tryz.prog 131 [lv] V [] (fun v _ _ => v = (.bool (decide (¬ tds l)))) := by
 refine f_i Tryz.func131 ?_
 intro w0 D
 obtain ⟨kvs, tvs, evs, bvs, hS, hK, hth, hel, hbv⟩ := hL
 have hb := SlS.bound hS
 refine s_10 ?_
 refine lc1 [0] (fun (i : Int) => [(3, (Value.int .i64 i))]) (fun i => 0 ≤ i ∧ i ≤ l.length ∧ ∀ x : Int, 0 ≤ x → x < i → (st l x).td) (fun i => (l.length - i).toNat) 0 ?_ ?_ ?_ 
 · exact ⟨rfl, trivial⟩
 · exact ⟨by omega, by omega, fun x a b => by omega⟩
 rintro i e1 ⟨i1, i2, hno⟩
 refine s_5 ?_
 refine oq (qv_lenSS UL.out rfl hS) ?_
 refine s_2 ?_
 refine iff' ?_ ?_ <;> intro c1
 ·
  refine s_4 ?_
  have hsz := nds_at (l := l) i1 o_m
  have hse := nd_eq (st l i)
  have hsp := (st l i).tm.sz_pos
  have hsn := nds_nn (l.take i.toNat)
  have hs1 := nds_nn (st l i).thn
  have hs2 := nds_nn (st l i).els
  refine s_3 ?_
  refine oq (qv_ias UL.out SZ.out e_vm hS rfl o_m o_m) ?_
  refine oq (qv_fas FI.out rfl hS o_m o_m) ?_
  refine oq (qv_ldsf (o := 4) AG.out rfl hS o_m o_m o_m (stcs_seg o_m o_m o_m)) ?_
  refine oq (f_c (termDepth_c ((st l i).tm.sz.toNat + 1) _ _ _ (hK i i1 o_m) o_m o_m) rfl rfl) ?_
  refine s_2 ?_
  by_cases g1 : 12 < ((st l i).tm.dp)
  ·
   refine s_24 ?_
   exact rt1 (jt (by exact fun q => by have z := (td_eq _).1 (tds_iff.1 q i i1 o_m); first | exact absurd z.1 o_m | exact absurd z.2.1 (by assumption) | exact absurd z.2.2 (by assumption)))
  ·
   refine s_2 ?_
   refine og (qv_ias UL.out SZ.out e_vm hS rfl o_m o_m) w_a ?_
   refine og (qv_fas FI.out rfl hS o_m o_m) w_a ?_
   refine og (qv_ldf PL.out rfl hS o_m o_m o_m (stcs_el (o := 7) o_m o_m o_m rfl)) w_a ?_
   refine og (f_c (IH _ _ _ (hth i i1 o_m) o_m o_m) rfl rfl) w_a ?_
   refine s_2 ?_
   by_cases g2 : ¬ tds (st l i).thn
   ·
    refine s_16 ?_
    exact rt1 (jt (by exact fun q => by have z := (td_eq _).1 (tds_iff.1 q i i1 o_m); first | exact absurd z.1 o_m | exact absurd z.2.1 (by assumption) | exact absurd z.2.2 (by assumption)))
   ·
    refine s_2 ?_
    refine og (qv_ias UL.out SZ.out e_vm hS rfl o_m o_m) w_a ?_
    refine og (qv_fas FI.out rfl hS o_m o_m) w_a ?_
    refine og (qv_ldf PL.out rfl hS o_m o_m o_m (stcs_el (o := 8) o_m o_m o_m rfl)) w_a ?_
    refine og (f_c (IH _ _ _ (hel i i1 o_m) o_m o_m) rfl rfl) w_a ?_
    refine s_2 ?_
    refine iff' ?_ ?_ <;> intro c2
    ·
     refine s_7 ?_
     exact rt1 (jt (by exact fun q => by have z := (td_eq _).1 (tds_iff.1 q i i1 o_m); first | exact absurd z.1 o_m | exact absurd z.2.1 (by assumption) | exact absurd z.2.2 (by assumption)))
    ·
     refine s_6 ?_
     exact le1 (i + 1) ⟨(c_i o_m), trivial⟩ ⟨by omega, by omega, all_snoc hno ((td_eq _).2 ⟨by omega, Classical.not_not.1 (by assumption), Classical.not_not.1 (by assumption)⟩)⟩
 ·
  refine s_7 ?_
  exact rt1 (jf (by exact fun q => q (tds_iff.2 fun x a b => hno x a o_m)))

theorem termsDeep_c : ∀ k, TPC k
  | 0 => fun _ l _ _ _ h => absurd h (by have := nds_nn l; omega)
  | k + 1 => fun V l lv hL hz hk => termsDeep_step (termsDeep_c k) hL hz hk
set_option maxRecDepth 100000 in
set_option maxHeartbeats 4000000 in
theorem sizes_c {V : HV} {va ha ba : Value} {F : Fl} (hF : Fls V va ha ba F) (hz : nds F.bd + hsz F.hs ≤ 1000000) :
    FnC Tryz.prog 75 [(.agg #[va, ha, ba])] V [] (fun v _ _ => v = (.bool (decide (SzOk F)))) := by
 refine f_i Tryz.func75 ?_
 intro w0 D
 obtain ⟨hvs, hH⟩ := hF.h
 obtain ⟨xB, hB⟩ := hF.b.sl
 have hbvv := SlS.bound hF.v
 have hbh := SlS.bound hH.sl
 have hbb := SlS.bound hB
 have hn0 := nds_nn F.bd
 have hh0 := hsz_nn F.hs
 refine s_2 ?_
 refine b_ox fun b1 => ?_
 refine s_7 ?_
 refine oq (qv_lenSS UL.out rfl hF.v) ?_
 refine s_2 ?_
 by_cases g1 : 64 < ((F.vs.length : Int))
 ·
  refine s_12 ?_
  exact rt1 (jf (by skip; first | exact fun q => q.1 (by first | exact .inl (by assumption) | exact .inr (by assumption)) | exact fun q => q.2.1 i i1 o_m (by assumption) | (intro q; have q1 := q.2.2.1; have q2 := q.2.2.2.1; first | omega | exact absurd q.2.2.2.2 (by assumption))))
 ·
  refine s_2 ?_
  refine og (qv_lenSS UL.out rfl hH.sl) w_a ?_
  refine s_3 ?_
  refine iff' ?_ ?_ <;> intro c1
  ·
   refine s_5 ?_
   exact rt1 (jf (by skip; first | exact fun q => q.1 (by first | exact .inl (by assumption) | exact .inr (by assumption)) | exact fun q => q.2.1 i i1 o_m (by assumption) | (intro q; have q1 := q.2.2.1; have q2 := q.2.2.2.1; first | omega | exact absurd q.2.2.2.2 (by assumption))))
  ·
   refine s_5 ?_
   refine oq (f_c (Nodes_c ((nds F.bd).toNat + 1) _ _ _ hF.b o_m o_m) rfl rfl) ?_
   refine s_8 ?_
   refine lc1 [0,1,14] (fun (i : Int) => [(3, (.int .i64 (nds F.bd + hsz (F.hs.take i.toNat)))), (4, (Value.int .i64 i))]) (fun i => 0 ≤ i ∧ i ≤ F.hs.length ∧ ∀ x : Int, 0 ≤ x → x < i → ¬ 12 < (ht F.hs x).tm.dp) (fun i => (F.hs.length - i).toNat) 0 ?_ ?_ ?_ 
   · exact ⟨(c_i (by exact (Int.add_zero _).symm)), rfl, trivial⟩
   · exact ⟨by omega, by omega, fun x a b => by omega⟩
   rintro i e1 ⟨i1, i2, hno⟩
   refine s_6 ?_
   refine oq (qv_lenSS UL.out rfl hH.sl) ?_
   refine s_2 ?_
   refine iff' ?_ ?_ <;> intro c2
   ·
    refine s_4 ?_
    have hsa := hsz_at (l := F.hs) i1 o_m
    have hsn := hsz_nn (F.hs.take i.toNat)
    have htp := (ht F.hs i).tm.sz_pos
    refine s_5 ?_
    refine oq (qv_ias UL.out SZ.out e_vm hH.sl rfl o_m o_m) ?_
    refine oq (qv_fas FI.out rfl hH.sl o_m o_m) ?_
    refine oq (qv_ldsf (o := 3) AG.out rfl hH.sl o_m o_m o_m (htcs_seg o_m o_m o_m)) ?_
    refine oq (f_c (TermNodes_c ((ht F.hs i).tm.sz.toNat + 1) _ _ _ (hH.hk i i1 o_m) o_m o_m) rfl rfl) ?_
    refine s_8 ?_
    refine oq (qv_ias UL.out SZ.out e_vm hH.sl rfl o_m o_m) ?_
    refine oq (qv_fas FI.out rfl hH.sl o_m o_m) ?_
    refine oq (qv_ldsf (o := 3) AG.out rfl hH.sl o_m o_m o_m (htcs_seg o_m o_m o_m)) ?_
    refine oq (f_c (termDepth_c ((ht F.hs i).tm.sz.toNat + 1) _ _ _ (hH.hk i i1 o_m) o_m o_m) rfl rfl) ?_
    refine s_2 ?_
    refine iff' ?_ ?_ <;> intro c3
    ·
     refine s_7 ?_
     exact rt1 (jf (by skip; first | exact fun q => q.1 (by first | exact .inl (by assumption) | exact .inr (by assumption)) | exact fun q => q.2.1 i i1 o_m (by assumption) | (intro q; have q1 := q.2.2.1; have q2 := q.2.2.2.1; first | omega | exact absurd q.2.2.2.2 (by assumption))))
    ·
     refine s_6 ?_
     exact le1 (i + 1) ⟨(c_i (by rw [show (i + 1).toNat = i.toNat + 1 by omega, hsz_take i1 o_m]; omega)), (c_i (by rfl)), trivial⟩ ⟨by omega, by omega, all_snoc hno o_m⟩
   ·
    refine s_3 ?_
    have ht0 : hsz (F.hs.take i.toNat) = hsz F.hs := by rw [List.take_of_length_le o_m]
    refine s_4 ?_
    by_cases g2 : (nds F.bd + hsz (F.hs.take i.toNat)) ≤ 1024
    ·
     refine s_2 ?_
     refine og (f_c (stepDepth_c ((nds F.bd).toNat + 1) _ _ _ hF.b o_m o_m) rfl rfl) w_a ?_
     refine s_3 ?_
     by_cases g3 : (sdp F.bd) ≤ 12
     ·
      refine s_2 ?_
      refine og (f_c (termsDeep_c ((nds F.bd).toNat + 1) _ _ _ hF.b o_m o_m) rfl rfl) w_a ?_
      refine s_5 ?_
      exact rt1 (jb (by exact ⟨fun q => ⟨by omega, fun x a b => hno x a o_m, by omega, by omega, Classical.not_not.1 q⟩, fun q => Classical.not_not.2 q.2.2.2.2⟩))
     ·
      refine s_8 ?_
      exact rt1 (jf (by skip; first | exact fun q => q.1 (by first | exact .inl (by assumption) | exact .inr (by assumption)) | exact fun q => q.2.1 i i1 o_m (by assumption) | (intro q; have q1 := q.2.2.1; have q2 := q.2.2.2.1; first | omega | exact absurd q.2.2.2.2 (by assumption))))
    ·
     refine s_14 ?_
     exact rt1 (jf (by skip; first | exact fun q => q.1 (by first | exact .inl (by assumption) | exact .inr (by assumption)) | exact fun q => q.2.1 i i1 o_m (by assumption) | (intro q; have q1 := q.2.2.1; have q2 := q.2.2.2.1; first | omega | exact absurd q.2.2.2.2 (by assumption))))

end Go.Proofs.YtbchkopkgpfkgaaGreatDoor
