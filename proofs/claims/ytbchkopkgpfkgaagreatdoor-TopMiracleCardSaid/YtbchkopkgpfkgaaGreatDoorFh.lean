import Derived.Test.YtbchkopkgpfkgaaGreatDoorTi
import Derived.Test.YtbchkopkgpfkgaaGreatDoorWp
import Derived.Test.YtbchkopkgpfkgaaGreatDoorFc
/- Walks of the top laws: what each function returns. Printed by a program out of notes. -/
namespace Go.Proofs.YtbchkopkgpfkgaaGreatDoor
open Go.Vc
open Classical

/-- What the function does, for arguments of a size below k. -/
def BDC (k : Nat) : Prop := ∀ (V : HV) (F : Fl) (top : Prop) (l : List St) (lv : Value), Sts V lv l → StsOk F top l → nds l < k → FnC Tryz.prog 27 [lv] V [] (fun v _ _ => v = .tuple #[.int .i64 (mnI (ubS l) 4097), .int .i64 (mnI (ubO l) 9), .int .i64 (mnI (ubT l) 67108865)])

set_option maxRecDepth 100000 in
set_option maxHeartbeats 4000000 in
theorem BoundsR_step {V : HV} {F : Fl} {top : Prop} {l : List St} {lv : Value} {k : Nat} (IH : BDC k) (hL : Sts V lv l) (hO : StsOk F top l) (hk : nds l < (k + 1 : Nat)) :
    FnC Tryz.prog 27 [lv] V [] (fun v _ _ => v = .tuple #[(.int .i64 (mnI (ubS l) 4097)), (.int .i64 (mnI (ubO l) 9)), (.int .i64 (mnI (ubT l) 67108865))]) := by
 refine f_i Tryz.func27 ?_
 intro w0 D
 obtain ⟨kvs, tvs, evs, bvs, hS, hK, hth, hel, hbv⟩ := hL
 have hb := SlS.bound hS
 have hN := hO.nns
 refine s_18 ?_
 refine lc1 [0,2,3,4] (fun (i : Int) => [(5, (.int .i64 (mnI (ubS (l.take i.toNat)) 4097))), (6, (.int .i64 (mnI (ubO (l.take i.toNat)) 9))), (7, (.int .i64 (mnI (ubT (l.take i.toNat)) 67108865))), (8, (Value.int .i64 i))]) (fun i => 0 ≤ i ∧ i ≤ l.length) (fun i => (l.length - i).toNat) 0 ?_ ?_ ?_ 
 · exact ⟨(c_i (by rfl)), (c_i (by rfl)), (c_i (by rfl)), rfl, trivial⟩
 · exact ⟨by omega, by omega⟩
 rintro i e1 ⟨i1, i2⟩
 refine s_5 ?_
 refine oq (qv_lenSS UL.out rfl hS) ?_
 refine s_2 ?_
 refine iff' ?_ ?_ <;> intro c1
 ·
  refine s_4 ?_
  have hsz := nds_at (l := l) i1 o_m
  have hse := nd_eq (st l i)
  have hsp := (st l i).tm.sz_pos
  have hsn := nds_nn (l.take i.toNat)
  have hs1 := nds_nn (st l i).thn
  have hs2 := nds_nn (st l i).els
  have hok := StsOk_at hO i1 o_m
  have hnu := hok.num
  have hn := hok.nn
  have hne := (nn_eq _).1 hn
  obtain ⟨u1, u2, u3⟩ := ubs_nn _ hne.2.2.1
  obtain ⟨w1, w2, w3⟩ := ubs_nn _ hne.2.2.2
  obtain ⟨hx1, hx2, hx3⟩ := ubs_nn _ (nns_take hN i.toNat)
  have p1 := mn_bd (L := 4097) u1 o_m
  have q1 := mn_bd (L := 4097) w1 o_m
  have r1 := mx_bd p1 q1
  have y1 := mn_bd (L := 4097) hx1 o_m
  have p2 := mn_bd (L := 9) u2 o_m
  have q2 := mn_bd (L := 9) w2 o_m
  have r2 := mx_bd p2 q2
  have y2 := mn_bd (L := 9) hx2 o_m
  have p3 := mn_bd (L := 67108865) u3 o_m
  have q3 := mn_bd (L := 67108865) w3 o_m
  have r3 := mx_bd p3 q3
  have y3 := mn_bd (L := 67108865) hx3 o_m
  refine s_3 ?_
  refine oq (qv_ias UL.out SZ.out e_vm hS rfl o_m o_m) ?_
  refine oq (qv_lds AG.out rfl hS o_m o_m (stcs_at o_m o_m)) ?_
  refine a_lo fun b1 => ?_
  refine s_tw rfl rfl (allc rfl (allc rfl (allc rfl (allc rfl (allc rfl (allc rfl (allc (Tms.one (hK (i) o_m o_m)) (allc (Sts.one (hth (i) o_m o_m)) (allc (Sts.one (hel (i) o_m o_m)) (allc (Sl.one (hbv (i) o_m o_m)) rfl)))))))))) ?_
  refine s_5 ?_
  refine oq (f_c (IH _ _ _ _ _ (hth i i1 o_m) (StOk_eq.1 hok).2.1 o_m) rfl rfl) ?_
  refine s_12 ?_
  refine oq (f_c (IH _ _ _ _ _ (hel i i1 o_m) (StOk_eq.1 hok).2.2 o_m) rfl rfl) ?_
  refine s_12 ?_
  refine qq (f_c (mostR_c) rfl rfl) ?_
  refine s_3 ?_
  refine qq (f_c (mostR_c) rfl rfl) ?_
  refine s_4 ?_
  refine qq (f_c (mostR_c) rfl rfl) ?_
  refine s_12 ?_
  refine iff' ?_ ?_ <;> intro c2
  ·
   have hn4 := hnu.2.2 o_m
   have m1 := mulb (a := (st l i).n) (b := 1 + mnI (ubS (st l i).thn) 4097) (A := 4096) (B := 4098) o_m o_m o_m o_m
   have m2 := mulb (a := (st l i).n) (b := mnI (ubO (st l i).thn) 9) (A := 4096) (B := 9) o_m o_m o_m o_m
   have m3 := mulb (a := (st l i).n) (b := (st l i).cost + mnI (ubT (st l i).thn) 67108865) (A := 4096) (B := 134217729) o_m o_m o_m o_m
   refine s_29 ?_
   refine iff' ?_ ?_ <;> intro c3
   ·
    refine s_8 ?_
    refine oq (f_c (leastR_c) rfl rfl) ?_
    refine s_7 ?_
    refine oq (f_c (leastR_c) rfl rfl) ?_
    refine s_6 ?_
    refine oq (f_c (leastR_c) rfl rfl) ?_
    refine s_2 ?_
    refine v_d 0 ?_
    refine s_5 ?_
    exact le1 (i + 1) ⟨(c_i (by rw [show (i + 1).toNat = i.toNat + 1 by omega, ubS_take i1 o_m]; exact bS4 hn hx1 o_m)), (c_i (by rw [show (i + 1).toNat = i.toNat + 1 by omega, ubO_take i1 o_m]; exact bO1 hx2 o_m)), (c_i (by rw [show (i + 1).toNat = i.toNat + 1 by omega, ubT_take i1 o_m]; exact bT4 hn hx3 o_m)), (c_i (by rfl)), trivial⟩ ⟨by omega, by omega⟩
   ·
    refine s_6 ?_
    refine oq (f_c (leastR_c) rfl rfl) ?_
    refine s_7 ?_
    refine oq (f_c (leastR_c) rfl rfl) ?_
    refine s_6 ?_
    refine oq (f_c (leastR_c) rfl rfl) ?_
    refine s_2 ?_
    refine v_d 0 ?_
    refine s_5 ?_
    exact le1 (i + 1) ⟨(c_i (by rw [show (i + 1).toNat = i.toNat + 1 by omega, ubS_take i1 o_m]; exact bS4 hn hx1 o_m)), (c_i (by rw [show (i + 1).toNat = i.toNat + 1 by omega, ubO_take i1 o_m]; exact bO4 hn hx2 o_m)), (c_i (by rw [show (i + 1).toNat = i.toNat + 1 by omega, ubT_take i1 o_m]; exact bT4 hn hx3 o_m)), (c_i (by rfl)), trivial⟩ ⟨by omega, by omega⟩
  ·
   refine s_8 ?_
   refine iff' ?_ ?_ <;> intro c4
   ·
    refine s_8 ?_
    refine oq (f_c (leastR_c) rfl rfl) ?_
    refine s_7 ?_
    refine oq (f_c (leastR_c) rfl rfl) ?_
    refine s_6 ?_
    refine oq (f_c (leastR_c) rfl rfl) ?_
    refine s_2 ?_
    refine v_d 0 ?_
    refine s_5 ?_
    exact le1 (i + 1) ⟨(c_i (by rw [show (i + 1).toNat = i.toNat + 1 by omega, ubS_take i1 o_m]; exact bS0 hn hx1 o_m)), (c_i (by rw [show (i + 1).toNat = i.toNat + 1 by omega, ubO_take i1 o_m]; exact bO1 hx2 o_m)), (c_i (by rw [show (i + 1).toNat = i.toNat + 1 by omega, ubT_take i1 o_m]; exact bT0 hn hx3 o_m)), (c_i (by rfl)), trivial⟩ ⟨by omega, by omega⟩
   ·
    refine s_6 ?_
    refine oq (f_c (leastR_c) rfl rfl) ?_
    refine s_7 ?_
    refine oq (f_c (leastR_c) rfl rfl) ?_
    refine s_6 ?_
    refine oq (f_c (leastR_c) rfl rfl) ?_
    refine s_2 ?_
    refine v_d 0 ?_
    refine s_5 ?_
    exact le1 (i + 1) ⟨(c_i (by rw [show (i + 1).toNat = i.toNat + 1 by omega, ubS_take i1 o_m]; exact bS0 hn hx1 o_m)), (c_i (by rw [show (i + 1).toNat = i.toNat + 1 by omega, ubO_take i1 o_m]; exact bO0 hn hx2 o_m o_m)), (c_i (by rw [show (i + 1).toNat = i.toNat + 1 by omega, ubT_take i1 o_m]; exact bT0 hn hx3 o_m)), (c_i (by rfl)), trivial⟩ ⟨by omega, by omega⟩
 ·
  refine s_12 ?_
  exact rt3 (c_i (by rw [List.take_of_length_le o_m])) (c_i (by rw [List.take_of_length_le o_m])) (c_i (by rw [List.take_of_length_le o_m]))

theorem BoundsR_c : ∀ k, BDC k
  | 0 => fun _ _ _ l _ _ _ h => absurd h (by have := nds_nn l; omega)
  | k + 1 => fun V F top l lv hL hO hk => BoundsR_step (BoundsR_c k) hL hO hk
end Go.Proofs.YtbchkopkgpfkgaaGreatDoor
