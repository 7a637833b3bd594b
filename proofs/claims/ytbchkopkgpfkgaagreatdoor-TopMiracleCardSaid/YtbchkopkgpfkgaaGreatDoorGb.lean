import Derived.Test.YtbchkopkgpfkgaaGreatDoorTi
import Derived.Test.YtbchkopkgpfkgaaGreatDoorWp
import Derived.Test.YtbchkopkgpfkgaaGreatDoorTy
import Derived.Test.YtbchkopkgpfkgaaGreatDoorWb
/- Walks of the top laws: what each function returns. Printed by a program out of notes. -/
namespace Go.Proofs.YtbchkopkgpfkgaaGreatDoor
open Go.Vc
open Classical

set_option maxRecDepth 100000 in
set_option maxHeartbeats 4000000 in
theorem isName_c {V : HV} {s : ByteArray} (hs : s.size ≤ 9223372036854775807) :
    FnC Tryz.prog 137 [(Value.string s)] V [] (fun v _ _ => v = (.bool (decide (NameOk s)))) := by
 refine f_i Tryz.func137 ?_
 intro w0 D
 refine s_6 ?_
 refine j_n [0,2] [(12, (.bool (decide ((s = (⟨#[]⟩ : ByteArray)) ∨ (40 < ((s.size : Int)))))))] ?_ (fun e1 => ?_)
 ·
  refine s_2 ?_
  refine oq (qv_eqstr rfl rfl) ?_
  refine s_1 ?_
  by_cases g1 : s = (⟨#[]⟩ : ByteArray)
  ·
   refine s_5 ?_
   exact j_e ⟨(jt (.inl g1)), trivial⟩
  ·
   refine s_1 ?_
   refine og (qv_lenstr UL.out rfl) w_a ?_
   refine s_3 ?_
   exact j_e ⟨(jb (jo g1 Iff.rfl)), trivial⟩
 refine iff' ?_ ?_ <;> intro c1
 ·
  refine s_5 ?_
  exact rt1 (jf (by exact fun q => q.1 (nm_iff.1 (by assumption))))
 ·
  refine s_5 ?_
  refine oq (qv_lenstr UL.out rfl) ?_
  refine s_3 ?_
  refine lc1 [0,12,14] (fun (i : Int) => [(15, (Value.int .i64 i))]) (fun i => 0 ≤ i ∧ i ≤ s.size ∧ ∀ x : Int, 0 ≤ x → x < i → chOk s x) (fun i => (s.size - i).toNat) 0 ?_ ?_ ?_ 
  · exact ⟨rfl, trivial⟩
  · exact ⟨by omega, by omega, fun x a b => by omega⟩
  rintro i e2 ⟨i1, i2, hno⟩
  refine s_5 ?_
  refine iff' ?_ ?_ <;> intro c2
  ·
   refine s_12 ?_
   refine oq (qv_idxs UL.out rfl rfl o_m o_m) ?_
   refine s_3 ?_
   refine j_n [0,3,4,12,14,15,16] [(5, (.bool (decide ((97 ≤ (sAt s i)) ∧ ((sAt s i) ≤ 122)))))] ?_ (fun e3 => ?_)
   ·
    refine s_4 ?_
    by_cases g2 : 97 ≤ (sAt s i)
    ·
     refine s_5 ?_
     exact j_e ⟨(jb (ja g2 Iff.rfl)), trivial⟩
    ·
     refine s_5 ?_
     exact j_e ⟨(jf (fun z => g2 z.1)), trivial⟩
   refine s_1 ?_
   refine j_n [0,3,4,5,12,14,15,16] [(48, (.bool (decide ((¬ ((97 ≤ (sAt s i)) ∧ ((sAt s i) ≤ 122))) ∧ ((i = 0) ∨ (((((sAt s i) < 48) ∨ (57 < (sAt s i))) ∧ ((sAt s i) ≠ 46)) ∧ ((sAt s i) ≠ 95)))))))] ?_ (fun e4 => ?_)
   ·
    refine s_4 ?_
    by_cases g3 : ¬ ((97 ≤ (sAt s i)) ∧ ((sAt s i) ≤ 122))
    ·
     refine s_3 ?_
     by_cases g4 : i = 0
     ·
      refine s_17 ?_
      exact j_e ⟨(jt ⟨g3, (.inl g4)⟩), trivial⟩
     ·
      refine s_3 ?_
      by_cases g5 : (sAt s i) < 48
      ·
       refine s_8 ?_
       by_cases g6 : (sAt s i) ≠ 46
       ·
        refine s_6 ?_
        exact j_e ⟨(jb (ja g3 (jo g4 (ja ((ja (.inl g5) Iff.rfl).1 g6) Iff.rfl)))), trivial⟩
       ·
        refine s_6 ?_
        exact j_e ⟨(jf (fun z => (fun z => z.elim g4 (fun z => (fun z => g6 ((ja (.inl g5) Iff.rfl).2 z)) z.1)) z.2)), trivial⟩
      ·
       refine s_4 ?_
       by_cases g7 : 57 < (sAt s i)
       ·
        refine s_4 ?_
        by_cases g8 : (sAt s i) ≠ 46
        ·
         refine s_6 ?_
         exact j_e ⟨(jb (ja g3 (jo g4 (ja ((ja ((jo g5 Iff.rfl).1 g7) Iff.rfl).1 g8) Iff.rfl)))), trivial⟩
        ·
         refine s_6 ?_
         exact j_e ⟨(jf (fun z => (fun z => z.elim g4 (fun z => (fun z => g8 ((ja ((jo g5 Iff.rfl).1 g7) Iff.rfl).2 z)) z.1)) z.2)), trivial⟩
       ·
        refine s_10 ?_
        exact j_e ⟨(jf (fun z => (fun z => z.elim g4 (fun z => (fun z => (fun z => g7 ((jo g5 Iff.rfl).2 z)) z.1) z.1)) z.2)), trivial⟩
    ·
     refine s_20 ?_
     exact j_e ⟨(jf (fun z => g3 z.1)), trivial⟩
   refine iff' ?_ ?_ <;> intro c3
   ·
    refine s_7 ?_
    exact rt1 (jf (by intro q; have z := q.2 i i1 o_m; unfold chOk lett othr at z; omega))
   ·
    refine s_5 ?_
    exact le1 (i + 1) ⟨(c_i o_m), trivial⟩ ⟨by omega, by omega, all_snoc hno (by unfold chOk lett othr; omega)⟩
  ·
   refine s_7 ?_
   exact rt1 (jt (by exact ⟨fun q => absurd (nm_iff.2 q) (by assumption), fun x a b => hno x a o_m⟩))

set_option maxRecDepth 100000 in
set_option maxHeartbeats 4000000 in
theorem bounded_c {V : HV} {a b : Int} :
    FnC Tryz.prog 139 [(Value.int .i64 a), (Value.int .i64 b)] V [] (fun v _ _ => v = (.bool (decide (bndP a b)))) := by
 refine f_i Tryz.func139 ?_
 intro w0 D
 refine s_5 ?_
 refine j_n [] [(4, (.bool (decide (((a ≤ b) ∧ (((-1048576)) ≤ a)) ∧ (b ≤ 1048576)))))] ?_ (fun e1 => ?_)
 ·
  refine s_5 ?_
  by_cases g1 : a ≤ b
  ·
   refine s_4 ?_
   by_cases g2 : ((-1048576)) ≤ a
   ·
    refine s_5 ?_
    exact j_e ⟨(jb (ja ((ja g1 Iff.rfl).1 g2) Iff.rfl)), trivial⟩
   ·
    refine s_5 ?_
    exact j_e ⟨(jf (fun z => (fun z => g2 ((ja g1 Iff.rfl).2 z)) z.1)), trivial⟩
  ·
   refine s_9 ?_
   exact j_e ⟨(jf (fun z => (fun z => g1 z.1) z.1)), trivial⟩
 refine s_1 ?_
 exact rt1 (jb (by unfold bndP; omega))

set_option maxRecDepth 100000 in
set_option maxHeartbeats 4000000 in
theorem kidsP_c {V : HV} {o : Int} :
    FnC Tryz.prog 196 [(Value.int .i64 o)] V [] (fun v _ _ => v = .tuple #[(.int .i64 (kdl o)), (.int .i64 (kdh o))]) := by
 refine f_i Tryz.func196 ?_
 intro w0 D
 refine s_8 ?_
 refine j_n [0,2,3] [(4, (.bool (decide ((o = 0) ∨ (o = 24)))))] ?_ (fun e1 => ?_)
 ·
  refine s_4 ?_
  by_cases g1 : o = 0
  ·
   refine s_5 ?_
   exact j_e ⟨(jt (.inl g1)), trivial⟩
  ·
   refine s_5 ?_
   exact j_e ⟨(jb (jo g1 Iff.rfl)), trivial⟩
 refine iff' ?_ ?_ <;> intro c1
 ·
  refine s_7 ?_
  exact rt2 (c_i (by (first | unfold kdl knR | unfold kdh knR); (repeat' split) <;> omega)) (c_i (by (first | unfold kdl knR | unfold kdh knR); (repeat' split) <;> omega))
 ·
  refine s_1 ?_
  refine j_n [0,2,3,4] [(11, (.bool (decide ((o = 6) ∨ (o = 7)))))] ?_ (fun e2 => ?_)
  ·
   refine s_4 ?_
   by_cases g2 : o = 6
   ·
    refine s_5 ?_
    exact j_e ⟨(jt (.inl g2)), trivial⟩
   ·
    refine s_5 ?_
    exact j_e ⟨(jb (jo g2 Iff.rfl)), trivial⟩
  refine iff' ?_ ?_ <;> intro c2
  ·
   refine s_7 ?_
   exact rt2 (c_i (by (first | unfold kdl knR | unfold kdh knR); (repeat' split) <;> omega)) (c_i (by (first | unfold kdl knR | unfold kdh knR); (repeat' split) <;> omega))
  ·
   refine s_1 ?_
   refine j_n [0,2,3,4,11] [(18, (.bool (decide ((8 ≤ o) ∧ (o ≤ 22)))))] ?_ (fun e3 => ?_)
   ·
    refine s_4 ?_
    by_cases g3 : 8 ≤ o
    ·
     refine s_5 ?_
     exact j_e ⟨(jb (ja g3 Iff.rfl)), trivial⟩
    ·
     refine s_5 ?_
     exact j_e ⟨(jf (fun z => g3 z.1)), trivial⟩
   refine iff' ?_ ?_ <;> intro c3
   ·
    refine s_7 ?_
    exact rt2 (c_i (by (first | unfold kdl knR | unfold kdh knR); (repeat' split) <;> omega)) (c_i (by (first | unfold kdl knR | unfold kdh knR); (repeat' split) <;> omega))
   ·
    refine s_6 ?_
    refine iff' ?_ ?_ <;> intro c4
    ·
     refine s_7 ?_
     exact rt2 (c_i (by (first | unfold kdl knR | unfold kdh knR); (repeat' split) <;> omega)) (c_i (by (first | unfold kdl knR | unfold kdh knR); (repeat' split) <;> omega))
    ·
     refine s_6 ?_
     refine iff' ?_ ?_ <;> intro c5
     ·
      refine s_7 ?_
      exact rt2 (c_i (by (first | unfold kdl knR | unfold kdh knR); (repeat' split) <;> omega)) (c_i (by (first | unfold kdl knR | unfold kdh knR); (repeat' split) <;> omega))
     ·
      refine s_7 ?_
      exact rt2 (c_i (by (first | unfold kdl knR | unfold kdh knR); (repeat' split) <;> omega)) (c_i (by (first | unfold kdl knR | unfold kdh knR); (repeat' split) <;> omega))

/-- What the function does, for arguments of a size below k. -/
def FPC (k : Nat) : Prop := ∀ (V : HV) (t : Tm) (ks va : Value) (vs : List Vr) (inp : Bool), Tms V ks t.kids → Vrs V va vs → fmd vs inp t → t.sz < k → FnC Tryz.prog 176 [va, .agg #[.int .i64 t.op, .int .i64 t.n, ks], .bool (decide (inp = true))] V [] (fun v _ _ => v = .bool true)

set_option maxRecDepth 100000 in
set_option maxHeartbeats 4000000 in
theorem formedP_step {V : HV} {t : Tm} {ks : Value} {va : Value} {vs : List Vr} {inp : Bool} {k : Nat} (IH : FPC k) (hT : Tms V ks t.kids) (hv : Vrs V va vs) (hf : fmd vs inp t) (hk : t.sz < (k + 1 : Nat)) :
    FnC Tryz.prog 176 [va, (.agg #[(.int .i64 t.op), (.int .i64 t.n), ks]), (.bool (decide (inp = true)))] V [] (fun v _ _ => v = (Value.bool true)) := by
 refine f_i Tryz.func176 ?_
 intro w0 D
 obtain ⟨kvs, hS, hK⟩ := hT
 have hb := SlS.bound hS
 have hb2 := SlS.bound hv
 have hsk := sz_kids t
 have hff := (fmd_eq t).1 hf
 have hfk := fmdL_iff.1 hff.2.2
 have hkl := kd_ok hff.1
 refine s_2 ?_
 refine b_ox fun b1 => ?_
 refine s_6 ?_
 refine oq (f_c (kidsP_c) rfl rfl) ?_
 refine s_12 ?_
 by_cases g1 : (kdl t.op) < 0
 ·
  omega
 ·
  refine s_2 ?_
  refine og (qv_lenSS UL.out rfl hS) w_a ?_
  refine s_4 ?_
  by_cases g2 : ((t.kids.length : Int)) < (kdl t.op)
  ·
   omega
  ·
   refine s_2 ?_
   refine og (qv_lenSS UL.out rfl hS) w_a ?_
   refine s_4 ?_
   refine iff' ?_ ?_ <;> intro c1
   ·
    omega
   ·
    refine s_13 ?_
    refine iff' ?_ ?_ <;> intro c2
    ·
     refine s_6 ?_
     refine oq (qv_lenSS UL.out rfl hS) ?_
     refine s_3 ?_
     refine lc1 [0,1,2,4,7,8,32,34,38,65,66] (fun (i : Int) => [(67, (Value.int .i64 i))]) (fun i => 0 ≤ i ∧ i ≤ t.kids.length) (fun i => (t.kids.length - i).toNat) 0 ?_ ?_ ?_ 
     · exact ⟨rfl, trivial⟩
     · exact ⟨by omega, by omega⟩
     rintro i e1 ⟨i1, i2⟩
     refine s_5 ?_
     refine iff' ?_ ?_ <;> intro c3
     ·
      refine s_5 ?_
      refine oq (qv_ias UL.out SZ.out e_vm hS rfl o_m o_m) ?_
      refine oq (qv_lds AG.out rfl hS o_m o_m (tmcs_at o_m o_m)) ?_
      refine a_lo fun b2 => ?_
      refine s_tw rfl rfl (allc rfl (allc rfl (allc (Tms.one (hK (i) o_m o_m)) rfl))) ?_
      refine s_2 ?_
      have hsz := szL_at (l := t.kids) i1 o_m
      have hsn := szL_nn (t.kids.take i.toNat)
      refine s_4 ?_
      refine oq (f_c (IH _ _ _ _ _ _ (hK i i1 o_m) hv (hfk i i1 o_m) o_m) rfl rfl) ?_
      refine s_4 ?_
      refine v_d 1 ?_
      refine s_4 ?_
      exact le1 (i + 1) ⟨(c_i o_m), trivial⟩ ⟨by omega, by omega⟩
     ·
      refine s_7 ?_
      exact rt1 rfl
    ·
     refine s_5 ?_
     refine iff' ?_ ?_ <;> intro c4
     ·
      refine s_1 ?_
      refine j_n [0,1,2,4,6,7,8,32,34,38,40] [(63, (.bool (decide (((t.n < 0) ∨ (((vs.length : Int)) ≤ t.n)) ∨ ((inp = true) ∧ (((vr vs (t.n)).kd) = 0))))))] ?_ (fun e2 => ?_)
      ·
       refine s_5 ?_
       by_cases g3 : t.n < 0
       ·
        refine s_19 ?_
        exact j_e ⟨(jt (.inl (.inl g3))), trivial⟩
       ·
        refine s_3 ?_
        refine og (qv_lenSS UL.out rfl hv) w_a ?_
        refine s_3 ?_
        by_cases g4 : ((vs.length : Int)) ≤ t.n
        ·
         refine s_12 ?_
         exact j_e ⟨(jt (.inl ((jo g3 Iff.rfl).1 g4))), trivial⟩
        ·
         refine s_2 ?_
         by_cases g5 : inp = true
         ·
          refine s_3 ?_
          refine og (qv_ias UL.out SZ.out e_vm hv rfl o_m o_m) w_a ?_
          refine og (qv_fas FI.out rfl hv o_m o_m) w_a ?_
          refine og (qv_ldf PL.out rfl hv o_m o_m o_m (vrcs_el (o := 1) o_m o_m o_m rfl)) w_a ?_
          refine s_4 ?_
          exact j_e ⟨(jb (jo (fun z => g4 ((jo g3 Iff.rfl).2 z)) (ja g5 Iff.rfl))), trivial⟩
         ·
          refine s_10 ?_
          exact j_e ⟨(jf (fun z => z.elim (fun z => g4 ((jo g3 Iff.rfl).2 z)) (fun z => g5 z.1))), trivial⟩
      refine iff' ?_ ?_ <;> intro c5
      ·
       refine s_6 ?_
       exact rt1 (by first | rfl | (exfalso; exact hff.2.1 (.inl ⟨by assumption, by assumption⟩)))
      ·
       refine s_6 ?_
       refine oq (qv_lenSS UL.out rfl hS) ?_
       refine s_3 ?_
       refine lc1 [0,1,2,4,7,8,32,34,38,40,63,65,66] (fun (i : Int) => [(67, (Value.int .i64 i))]) (fun i => 0 ≤ i ∧ i ≤ t.kids.length) (fun i => (t.kids.length - i).toNat) 0 ?_ ?_ ?_ 
       · exact ⟨rfl, trivial⟩
       · exact ⟨by omega, by omega⟩
       rintro i e3 ⟨i1, i2⟩
       refine s_5 ?_
       refine iff' ?_ ?_ <;> intro c6
       ·
        refine s_5 ?_
        refine oq (qv_ias UL.out SZ.out e_vm hS rfl o_m o_m) ?_
        refine oq (qv_lds AG.out rfl hS o_m o_m (tmcs_at o_m o_m)) ?_
        refine a_lo fun b3 => ?_
        refine s_tw rfl rfl (allc rfl (allc rfl (allc (Tms.one (hK (i) o_m o_m)) rfl))) ?_
        refine s_2 ?_
        have hsz := szL_at (l := t.kids) i1 o_m
        have hsn := szL_nn (t.kids.take i.toNat)
        refine s_4 ?_
        refine oq (f_c (IH _ _ _ _ _ _ (hK i i1 o_m) hv (hfk i i1 o_m) o_m) rfl rfl) ?_
        refine s_4 ?_
        refine v_d 1 ?_
        refine s_4 ?_
        exact le1 (i + 1) ⟨(c_i o_m), trivial⟩ ⟨by omega, by omega⟩
       ·
        refine s_7 ?_
        exact rt1 rfl
     ·
      refine s_6 ?_
      refine iff' ?_ ?_ <;> intro c7
      ·
       exact absurd (.inr ⟨by assumption, by assumption, by assumption⟩) hff.2.1
      ·
       refine s_6 ?_
       refine oq (qv_lenSS UL.out rfl hS) ?_
       refine s_3 ?_
       refine lc1 [0,1,2,4,7,8,32,34,37,38,40,65,66] (fun (i : Int) => [(67, (Value.int .i64 i))]) (fun i => 0 ≤ i ∧ i ≤ t.kids.length) (fun i => (t.kids.length - i).toNat) 0 ?_ ?_ ?_ 
       · exact ⟨rfl, trivial⟩
       · exact ⟨by omega, by omega⟩
       rintro i e4 ⟨i1, i2⟩
       refine s_5 ?_
       refine iff' ?_ ?_ <;> intro c8
       ·
        refine s_5 ?_
        refine oq (qv_ias UL.out SZ.out e_vm hS rfl o_m o_m) ?_
        refine oq (qv_lds AG.out rfl hS o_m o_m (tmcs_at o_m o_m)) ?_
        refine a_lo fun b4 => ?_
        refine s_tw rfl rfl (allc rfl (allc rfl (allc (Tms.one (hK (i) o_m o_m)) rfl))) ?_
        refine s_2 ?_
        have hsz := szL_at (l := t.kids) i1 o_m
        have hsn := szL_nn (t.kids.take i.toNat)
        refine s_4 ?_
        refine oq (f_c (IH _ _ _ _ _ _ (hK i i1 o_m) hv (hfk i i1 o_m) o_m) rfl rfl) ?_
        refine s_4 ?_
        refine v_d 1 ?_
        refine s_4 ?_
        exact le1 (i + 1) ⟨(c_i o_m), trivial⟩ ⟨by omega, by omega⟩
       ·
        refine s_7 ?_
        exact rt1 rfl

theorem formedP_c : ∀ k, FPC k
  | 0 => fun _ t _ _ _ _ _ _ _ h => absurd h (by have := t.sz_pos; omega)
  | k + 1 => fun V t ks va vs inp hT hv hf hk => formedP_step (formedP_c k) hT hv hf hk
end Go.Proofs.YtbchkopkgpfkgaaGreatDoor
