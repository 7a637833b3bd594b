import Derived.Test.YtbchkopkgpfkgaaGreatDoorTi
import Derived.Test.YtbchkopkgpfkgaaGreatDoorWp
import Derived.Test.YtbchkopkgpfkgaaGreatDoorTy
import Derived.Test.YtbchkopkgpfkgaaGreatDoorWb
/- Walks of the top laws: what each function returns. Printed by a program out of notes. -/
namespace Go.Proofs.YtbchkopkgpfkgaaGreatDoor
open Go.Vc
open Classical

/-- What the function does, for arguments of a size below k. -/
def UPC (k : Nat) : Prop := ∀ (V : HV) (F : Fl) (top : Prop) (l : List St) (lv : Value), Sts V lv l → StsOk F top l → nds l < k → FnC Tryz.prog 89 [lv] V [] (fun v _ _ => v = .agg #[.int .i64 (mnI (ubS l) 1099511627776), .int .i64 (mnI (ubO l) 1099511627776), .int .i64 (mnI (ubT l) 1099511627776)])

set_option maxRecDepth 100000 in
set_option maxHeartbeats 4000000 in
theorem upper_step {V : HV} {F : Fl} {top : Prop} {l : List St} {lv : Value} {k : Nat} (IH : UPC k) (hL : Sts V lv l) (hO : StsOk F top l) (hk : nds l < (k + 1 : Nat)) :
    FnC Tryz.prog 89 [lv] V [] (fun v _ _ => v = (.agg #[(.int .i64 (mnI (ubS l) 1099511627776)), (.int .i64 (mnI (ubO l) 1099511627776)), (.int .i64 (mnI (ubT l) 1099511627776))])) := by
 refine f_i Tryz.func89 ?_
 intro w0 D
 obtain ⟨kvs, tvs, evs, bvs, hS, hK, hth, hel, hbv⟩ := hL
 have hb := SlS.bound hS
 have hN := hO.nns
 refine s_2 ?_
 refine a_lo fun b1 => ?_
 refine s_3 ?_
 refine a_lo fun b2 => ?_
 refine s_5 ?_
 refine oq (qv_lenSS UL.out rfl hS) ?_
 refine s_3 ?_
 refine lp1 [0,2,3,9,10] (fun (i : Int) => [(11, (Value.int .i64 i))]) (fun i => [(Arr 145 b1 [(Value.int .i64 0), (Value.int .i64 0), (Value.int .i64 0)]), (Arr 145 b2 [(.int .i64 (mnI (ubS (l.take i.toNat)) 1099511627776)), (.int .i64 (mnI (ubO (l.take i.toNat)) 1099511627776)), (.int .i64 (mnI (ubT (l.take i.toNat)) 1099511627776))])]) (fun i => 0 ≤ i ∧ i ≤ l.length) (fun i => (l.length - i).toNat) 0 ?_ ?_ ?_ ?_ 
 · exact ⟨rfl, trivial⟩
 · (rfl)
 · exact ⟨by omega, by omega⟩
 rintro i e1 ⟨i1, i2⟩
 refine s_5 ?_
 refine iff' ?_ ?_ <;> intro c1
 ·
  refine s_4 ?_
  have hsz := nds_at (l := l) i1 o_m
  have hse := nd_eq (st l i)
  have hsp := (st l i).tm.sz_pos
  have hsn := nds_nn (l.take i.toNat)
  have hs1 := nds_nn (st l i).thn
  have hs2 := nds_nn (st l i).els
  have hok := StsOk_at hO i1 o_m
  have hnu := hok.num
  have hn := hok.nn
  have hne := (nn_eq _).1 hn
  obtain ⟨u1, u2, u3⟩ := ubs_nn _ hne.2.2.1
  obtain ⟨w1, w2, w3⟩ := ubs_nn _ hne.2.2.2
  obtain ⟨hx1, hx2, hx3⟩ := ubs_nn _ (nns_take hN i.toNat)
  have p1 := mn_bd (L := 1099511627776) u1 o_m
  have q1 := mn_bd (L := 1099511627776) w1 o_m
  have r1 := mx_bd p1 q1
  have y1 := mn_bd (L := 1099511627776) hx1 o_m
  have p2 := mn_bd (L := 1099511627776) u2 o_m
  have q2 := mn_bd (L := 1099511627776) w2 o_m
  have r2 := mx_bd p2 q2
  have y2 := mn_bd (L := 1099511627776) hx2 o_m
  have p3 := mn_bd (L := 1099511627776) u3 o_m
  have q3 := mn_bd (L := 1099511627776) w3 o_m
  have r3 := mx_bd p3 q3
  have y3 := mn_bd (L := 1099511627776) hx3 o_m
  have r1 := r1; unfold mxI at r1
  have r2 := r2; unfold mxI at r2
  have r3 := r3; unfold mxI at r3
  refine s_1 ?_
  refine oq (qv_ias UL.out SZ.out e_vm hS rfl o_m o_m) ?_
  refine oq (qv_lds AG.out rfl hS o_m o_m (stcs_at o_m o_m)) ?_
  refine a_lo fun b3 => ?_
  refine s_tw rfl rfl (allc rfl (allc rfl (allc rfl (allc rfl (allc rfl (allc rfl (allc (Tms.one (hK (i) o_m o_m)) (allc (Sts.one (hth (i) o_m o_m)) (allc (Sts.one (hel (i) o_m o_m)) (allc (Sl.one (hbv (i) o_m o_m)) rfl)))))))))) ?_
  refine s_5 ?_
  refine oq (qv_build (out := [(Value.int .i64 1), (Value.int .i64 0), (.int .i64 ((st l (i)).cost))]) BI.out [(0, [(Value.int .i64 1)]), (2, [(.int .i64 ((st l (i)).cost))])] rfl rfl) ?_
  refine a_lo fun b4 => ?_
  refine s_3 ?_
  refine vc_join (α := Nat × Nat) (fun xx => [(0, lv), (2, (Value.pointer (some ⟨b1, 0, none⟩))), (3, (Value.pointer (some ⟨b2, 0, none⟩))), (5, (Value.pointer (some ⟨b3, 0, none⟩))), (6, (Value.pointer (some ⟨b4, 0, none⟩))), (7, (Value.pointer (some ⟨xx.1, 0, none⟩))), (8, (Value.pointer (some ⟨xx.2, 0, none⟩))), (9, lv), (10, (.int .i64 ((l.length : Int)))), (11, (Value.int .i64 i)), (12, (.bool (decide (i < ((l.length : Int))))))]) (fun xx V' σ' => V = V' ∧ [(Arr 145 b1 [(Value.int .i64 0), (Value.int .i64 0), (Value.int .i64 0)]), (Arr 145 b2 [(.int .i64 (mnI (ubS (l.take i.toNat)) 1099511627776)), (.int .i64 (mnI (ubO (l.take i.toNat)) 1099511627776)), (.int .i64 (mnI (ubT (l.take i.toNat)) 1099511627776))]), (Arr 78 b3 [(.int .i64 ((st l (i)).dk)), (.int .i64 ((st l (i)).cost)), (.int .i64 ((st l (i)).var)), (.int .i64 ((st l (i)).n)), (.int .i64 ((st l (i)).tm.op)), (.int .i64 ((st l (i)).tm.n)), (gv kvs (i)), (gv tvs (i)), (gv evs (i)), (gv bvs (i))]), (Arr 145 b4 [(Value.int .i64 1), (Value.int .i64 0), (.int .i64 ((st l (i)).cost))]), (Arr 145 xx.1 [(.int .i64 (mnI (ubS (st l i).thn) 1099511627776)), (.int .i64 (mnI (ubO (st l i).thn) 1099511627776)), (.int .i64 (mnI (ubT (st l i).thn) 1099511627776))]), (Arr 145 xx.2 [(.int .i64 (mnI (ubS (st l i).els) 1099511627776)), (.int .i64 (mnI (ubO (st l i).els) 1099511627776)), (.int .i64 (mnI (ubT (st l i).els) 1099511627776))])] = σ') ?_ ?_
  ·
   refine rE 10 [] ?_
   refine eq_ (i := 0) k_r rfl q_a ?_
   refine eq_ (i := 1) k_r rfl q_a ?_
   refine eq_ (i := 2) k_r rfl (f_c (IH _ _ _ _ _ (hth i i1 o_m) (StOk_eq.1 hok).2.1 o_m) rfl rfl) ?_
   refine eq_ (i := 3) k_r rfl q_a ?_
   refine eq_ (i := 4) k_r rfl q_a ?_
   refine eq_ (i := 5) k_r rfl (f_c (IH _ _ _ _ _ (hel i i1 o_m) (StOk_eq.1 hok).2.2 o_m) rfl rfl) ?_
   refine el2 (i := 6) (j := 7) k_r ?_ ?_
   ·
    refine el_o ?_
    refine a_lo fun b5 => ?_
    refine on3 [0,0,0,0,1] (Sub.refl _) ?_
    refine el1 (i := 7) k_r ?_
    refine el_o ?_
    refine a_lo fun b6 => ?_
    refine on3 [0,0,0,0,1] (Sub.refl _) ?_
    refine el1 (i := 8) k_r ?_
    refine el_o ?_
    refine s_1 ?_
    refine on3 [0,0,0,0,1] (Sub.refl _) ?_
    refine el1 (i := 9) k_r ?_
    refine el_o ?_
    refine s_1 ?_
    refine on4 [0,0,0,0,1] ?_
    refine enil (σ' := [(Arr 145 b1 [(Value.int .i64 0), (Value.int .i64 0), (Value.int .i64 0)]), (Arr 145 b2 [(.int .i64 (mnI (ubS (l.take i.toNat)) 1099511627776)), (.int .i64 (mnI (ubO (l.take i.toNat)) 1099511627776)), (.int .i64 (mnI (ubT (l.take i.toNat)) 1099511627776))]), (Arr 78 b3 [(.int .i64 ((st l (i)).dk)), (.int .i64 ((st l (i)).cost)), (.int .i64 ((st l (i)).var)), (.int .i64 ((st l (i)).n)), (.int .i64 ((st l (i)).tm.op)), (.int .i64 ((st l (i)).tm.n)), (gv kvs (i)), (gv tvs (i)), (gv evs (i)), (gv bvs (i))]), (Arr 145 b4 [(Value.int .i64 1), (Value.int .i64 0), (.int .i64 ((st l (i)).cost))]), (Arr 145 b5 [(.int .i64 (mnI (ubS (st l i).thn) 1099511627776)), (.int .i64 (mnI (ubO (st l i).thn) 1099511627776)), (.int .i64 (mnI (ubT (st l i).thn) 1099511627776))]), (Arr 145 b6 [(.int .i64 (mnI (ubS (st l i).els) 1099511627776)), (.int .i64 (mnI (ubO (st l i).els) 1099511627776)), (.int .i64 (mnI (ubT (st l i).els) 1099511627776))])]) k_r (pz [0, 1, 2, 3, 4, 5] rfl k_r) ⟨(b5, b6), ⟨rfl, rfl, rfl, rfl, rfl, rfl, rfl, rfl, rfl, rfl, rfl, trivial⟩, rfl, rfl⟩
   ·
    refine el_o ?_
    refine a_lo fun b7 => ?_
    refine on3 [] (Sub.refl _) ?_
    refine el1 (i := 6) k_r ?_
    refine el_o ?_
    refine a_lo fun b8 => ?_
    refine on3 [0,0,0,0,0,1] (Sub.refl _) ?_
    refine el1 (i := 8) k_r ?_
    refine el_o ?_
    refine s_1 ?_
    refine on3 [0,0,0,0,0,1] (Sub.refl _) ?_
    refine el1 (i := 9) k_r ?_
    refine el_o ?_
    refine s_1 ?_
    refine on4 [0,0,0,0,0,1] ?_
    refine enil (σ' := [(Arr 145 b1 [(Value.int .i64 0), (Value.int .i64 0), (Value.int .i64 0)]), (Arr 145 b2 [(.int .i64 (mnI (ubS (l.take i.toNat)) 1099511627776)), (.int .i64 (mnI (ubO (l.take i.toNat)) 1099511627776)), (.int .i64 (mnI (ubT (l.take i.toNat)) 1099511627776))]), (Arr 78 b3 [(.int .i64 ((st l (i)).dk)), (.int .i64 ((st l (i)).cost)), (.int .i64 ((st l (i)).var)), (.int .i64 ((st l (i)).n)), (.int .i64 ((st l (i)).tm.op)), (.int .i64 ((st l (i)).tm.n)), (gv kvs (i)), (gv tvs (i)), (gv evs (i)), (gv bvs (i))]), (Arr 145 b4 [(Value.int .i64 1), (Value.int .i64 0), (.int .i64 ((st l (i)).cost))]), (Arr 145 b8 [(.int .i64 (mnI (ubS (st l i).thn) 1099511627776)), (.int .i64 (mnI (ubO (st l i).thn) 1099511627776)), (.int .i64 (mnI (ubT (st l i).thn) 1099511627776))]), (Arr 145 b7 [(.int .i64 (mnI (ubS (st l i).els) 1099511627776)), (.int .i64 (mnI (ubO (st l i).els) 1099511627776)), (.int .i64 (mnI (ubT (st l i).els) 1099511627776))])]) k_r (pz [0, 1, 2, 3, 5, 4] rfl k_r) ⟨(b8, b7), ⟨rfl, rfl, rfl, rfl, rfl, rfl, rfl, rfl, rfl, rfl, rfl, trivial⟩, rfl, rfl⟩
  rintro ⟨z7, z8⟩ e2 Vj1 σj1 hJ1
  obtain ⟨rfl, rfl⟩ : V = Vj1 ∧ [(Arr 145 b1 [(Value.int .i64 0), (Value.int .i64 0), (Value.int .i64 0)]), (Arr 145 b2 [(.int .i64 (mnI (ubS (l.take i.toNat)) 1099511627776)), (.int .i64 (mnI (ubO (l.take i.toNat)) 1099511627776)), (.int .i64 (mnI (ubT (l.take i.toNat)) 1099511627776))]), (Arr 78 b3 [(.int .i64 ((st l (i)).dk)), (.int .i64 ((st l (i)).cost)), (.int .i64 ((st l (i)).var)), (.int .i64 ((st l (i)).n)), (.int .i64 ((st l (i)).tm.op)), (.int .i64 ((st l (i)).tm.n)), (gv kvs (i)), (gv tvs (i)), (gv evs (i)), (gv bvs (i))]), (Arr 145 b4 [(Value.int .i64 1), (Value.int .i64 0), (.int .i64 ((st l (i)).cost))]), (Arr 145 z7 [(.int .i64 (mnI (ubS (st l i).thn) 1099511627776)), (.int .i64 (mnI (ubO (st l i).thn) 1099511627776)), (.int .i64 (mnI (ubT (st l i).thn) 1099511627776))]), (Arr 145 z8 [(.int .i64 (mnI (ubS (st l i).els) 1099511627776)), (.int .i64 (mnI (ubO (st l i).els) 1099511627776)), (.int .i64 (mnI (ubT (st l i).els) 1099511627776))])] = σj1 := hJ1
  change VC _ _ _ _ _ _ (upds 105 [(0, lv), (2, (Value.pointer (some ⟨b1, 0, none⟩))), (3, (Value.pointer (some ⟨b2, 0, none⟩))), (5, (Value.pointer (some ⟨b3, 0, none⟩))), (6, (Value.pointer (some ⟨b4, 0, none⟩))), (7, (Value.pointer (some ⟨z7, 0, none⟩))), (8, (Value.pointer (some ⟨z8, 0, none⟩))), (9, lv), (10, (.int .i64 ((l.length : Int)))), (11, (Value.int .i64 i)), (12, (.bool (decide (i < ((l.length : Int))))))] e2) _ _
  refine s_12 ?_
  refine iff' ?_ ?_ <;> intro c2
  ·
   refine s_36 ?_
   have uo := u_o hok o_m o_m
   have e1 : (if 1099511627776 < ((mnI (ubS (l.take i.toNat)) 1099511627776) + 1) then 1099511627776 else (mnI (ubS (l.take i.toNat)) 1099511627776) + 1) = mnI (ubS (l.take (i + 1).toNat)) 1099511627776 := by rw [show (i + 1).toNat = i.toNat + 1 by omega, ubS_take i1 o_m]; exact mn_if.trans (add_cap hx1 uo.1.symm o_m)
   have e2 : (if 1099511627776 < ((mnI (ubO (l.take i.toNat)) 1099511627776) + 1) then 1099511627776 else (mnI (ubO (l.take i.toNat)) 1099511627776) + 1) = mnI (ubO (l.take (i + 1).toNat)) 1099511627776 := by rw [show (i + 1).toNat = i.toNat + 1 by omega, ubO_take i1 o_m]; exact mn_if.trans (add_cap hx2 (by rw [uo.2.2]; first | exact (if_pos o_m).symm | exact (if_neg o_m).symm) o_m)
   have e3 : (if 1099511627776 < ((mnI (ubT (l.take i.toNat)) 1099511627776) + ((st l (i)).cost)) then 1099511627776 else (mnI (ubT (l.take i.toNat)) 1099511627776) + ((st l (i)).cost)) = mnI (ubT (l.take (i + 1).toNat)) 1099511627776 := by rw [show (i + 1).toNat = i.toNat + 1 by omega, ubT_take i1 o_m]; exact mn_if.trans (add_cap hx3 uo.2.1.symm o_m)
   refine v_d 5 ?_
   refine v_d 4 ?_
   refine v_d 3 ?_
   refine v_d 2 ?_
   refine s_4 ?_
   exact le1 (i + 1) ⟨(c_i o_m), trivial⟩ ⟨by omega, by omega⟩ (hr := by rw [e1, e2, e3])
  ·
   refine s_5 ?_
   refine iff' ?_ ?_ <;> intro c3
   ·
    refine s_40 ?_
    refine s_27 ?_
    have e1 : (if 1099511627776 < ((mnI (ubS (l.take i.toNat)) 1099511627776) + (1 + (if (mnI (ubS (st l i).thn) 1099511627776) < (mnI (ubS (st l i).els) 1099511627776) then mnI (ubS (st l i).els) 1099511627776 else mnI (ubS (st l i).thn) 1099511627776))) then 1099511627776 else (mnI (ubS (l.take i.toNat)) 1099511627776) + (1 + (if (mnI (ubS (st l i).thn) 1099511627776) < (mnI (ubS (st l i).els) 1099511627776) then mnI (ubS (st l i).els) 1099511627776 else mnI (ubS (st l i).thn) 1099511627776))) = mnI (ubS (l.take (i + 1).toNat)) 1099511627776 := by rw [show (i + 1).toNat = i.toNat + 1 by omega, ubS_take i1 o_m]; exact mn_if.trans (cS0 hn hx1 o_m)
    have e2 : (if 1099511627776 < ((mnI (ubO (l.take i.toNat)) 1099511627776) + (if (mnI (ubO (st l i).thn) 1099511627776) < (mnI (ubO (st l i).els) 1099511627776) then mnI (ubO (st l i).els) 1099511627776 else mnI (ubO (st l i).thn) 1099511627776)) then 1099511627776 else (mnI (ubO (l.take i.toNat)) 1099511627776) + (if (mnI (ubO (st l i).thn) 1099511627776) < (mnI (ubO (st l i).els) 1099511627776) then mnI (ubO (st l i).els) 1099511627776 else mnI (ubO (st l i).thn) 1099511627776)) = mnI (ubO (l.take (i + 1).toNat)) 1099511627776 := by rw [show (i + 1).toNat = i.toNat + 1 by omega, ubO_take i1 o_m]; exact mn_if.trans (cO0 hn hx2 o_m o_m)
    have e3 : (if 1099511627776 < ((mnI (ubT (l.take i.toNat)) 1099511627776) + (((st l (i)).cost) + (if (mnI (ubT (st l i).thn) 1099511627776) < (mnI (ubT (st l i).els) 1099511627776) then mnI (ubT (st l i).els) 1099511627776 else mnI (ubT (st l i).thn) 1099511627776))) then 1099511627776 else (mnI (ubT (l.take i.toNat)) 1099511627776) + (((st l (i)).cost) + (if (mnI (ubT (st l i).thn) 1099511627776) < (mnI (ubT (st l i).els) 1099511627776) then mnI (ubT (st l i).els) 1099511627776 else mnI (ubT (st l i).thn) 1099511627776))) = mnI (ubT (l.take (i + 1).toNat)) 1099511627776 := by rw [show (i + 1).toNat = i.toNat + 1 by omega, ubT_take i1 o_m]; exact mn_if.trans (cT0 hn hx3 o_m)
    refine v_d 5 ?_
    refine v_d 4 ?_
    refine v_d 3 ?_
    refine v_d 2 ?_
    refine s_4 ?_
    exact le1 (i + 1) ⟨(c_i o_m), trivial⟩ ⟨by omega, by omega⟩ (hr := by rw [e1, e2, e3])
   ·
    refine s_5 ?_
    refine iff' ?_ ?_ <;> intro c4
    ·
     refine s_1 ?_
     have hn4 := hnu.2.2 o_m
     have m1 := mulb (a := (st l i).n) (b := 1 + mnI (ubS (st l i).thn) 1099511627776) (A := 4096) (B := 1099511627777) o_m o_m o_m o_m
     have m2 := mulb (a := (st l i).n) (b := mnI (ubO (st l i).thn) 1099511627776) (A := 4096) (B := 1099511627776) o_m o_m o_m o_m
     have m3 := mulb (a := (st l i).n) (b := (st l i).cost + mnI (ubT (st l i).thn) 1099511627776) (A := 4096) (B := 1100000000000) o_m o_m o_m o_m
     refine s_40 ?_
     refine s_27 ?_
     have e1 : (if 1099511627776 < ((mnI (ubS (l.take i.toNat)) 1099511627776) + (1 + (((st l (i)).n) * (1 + (mnI (ubS (st l i).thn) 1099511627776))))) then 1099511627776 else (mnI (ubS (l.take i.toNat)) 1099511627776) + (1 + (((st l (i)).n) * (1 + (mnI (ubS (st l i).thn) 1099511627776))))) = mnI (ubS (l.take (i + 1).toNat)) 1099511627776 := by rw [show (i + 1).toNat = i.toNat + 1 by omega, ubS_take i1 o_m]; exact mn_if.trans (cS4 hn hx1 o_m)
     have e2 : (if 1099511627776 < ((mnI (ubO (l.take i.toNat)) 1099511627776) + (((st l (i)).n) * (mnI (ubO (st l i).thn) 1099511627776))) then 1099511627776 else (mnI (ubO (l.take i.toNat)) 1099511627776) + (((st l (i)).n) * (mnI (ubO (st l i).thn) 1099511627776))) = mnI (ubO (l.take (i + 1).toNat)) 1099511627776 := by rw [show (i + 1).toNat = i.toNat + 1 by omega, ubO_take i1 o_m]; exact mn_if.trans (cO4 hn hx2 o_m)
     have e3 : (if 1099511627776 < ((mnI (ubT (l.take i.toNat)) 1099511627776) + (((st l (i)).n) * (((st l (i)).cost) + (mnI (ubT (st l i).thn) 1099511627776)))) then 1099511627776 else (mnI (ubT (l.take i.toNat)) 1099511627776) + (((st l (i)).n) * (((st l (i)).cost) + (mnI (ubT (st l i).thn) 1099511627776)))) = mnI (ubT (l.take (i + 1).toNat)) 1099511627776 := by rw [show (i + 1).toNat = i.toNat + 1 by omega, ubT_take i1 o_m]; exact mn_if.trans (cT4 hn hx3 o_m)
     refine v_d 5 ?_
     refine v_d 4 ?_
     refine v_d 3 ?_
     refine v_d 2 ?_
     refine s_4 ?_
     exact le1 (i + 1) ⟨(c_i o_m), trivial⟩ ⟨by omega, by omega⟩ (hr := by rw [e1, e2, e3])
    ·
     refine s_33 ?_
     have uo := u_o hok o_m o_m
     have e1 : (if 1099511627776 < ((mnI (ubS (l.take i.toNat)) 1099511627776) + 1) then 1099511627776 else (mnI (ubS (l.take i.toNat)) 1099511627776) + 1) = mnI (ubS (l.take (i + 1).toNat)) 1099511627776 := by rw [show (i + 1).toNat = i.toNat + 1 by omega, ubS_take i1 o_m]; exact mn_if.trans (add_cap hx1 uo.1.symm o_m)
     have e2 : (if 1099511627776 < ((mnI (ubO (l.take i.toNat)) 1099511627776) + 0) then 1099511627776 else (mnI (ubO (l.take i.toNat)) 1099511627776) + 0) = mnI (ubO (l.take (i + 1).toNat)) 1099511627776 := by rw [show (i + 1).toNat = i.toNat + 1 by omega, ubO_take i1 o_m]; exact mn_if.trans (add_cap hx2 (by rw [uo.2.2]; first | exact (if_pos o_m).symm | exact (if_neg o_m).symm) o_m)
     have e3 : (if 1099511627776 < ((mnI (ubT (l.take i.toNat)) 1099511627776) + ((st l (i)).cost)) then 1099511627776 else (mnI (ubT (l.take i.toNat)) 1099511627776) + ((st l (i)).cost)) = mnI (ubT (l.take (i + 1).toNat)) 1099511627776 := by rw [show (i + 1).toNat = i.toNat + 1 by omega, ubT_take i1 o_m]; exact mn_if.trans (add_cap hx3 uo.2.1.symm o_m)
     refine v_d 5 ?_
     refine v_d 4 ?_
     refine v_d 3 ?_
     refine v_d 2 ?_
     refine s_4 ?_
     exact le1 (i + 1) ⟨(c_i o_m), trivial⟩ ⟨by omega, by omega⟩ (hr := by rw [e1, e2, e3])
 ·
  refine s_8 ?_
  refine rs1 _ (r_va rfl) ?_
  exact (aggc (consc (c_i (by rw [List.take_of_length_le o_m])) (consc (c_i (by rw [List.take_of_length_le o_m])) (consc (c_i (by rw [List.take_of_length_le o_m])) rfl))))

theorem upper_c : ∀ k, UPC k
  | 0 => fun _ _ _ l _ _ _ h => absurd h (by have := nds_nn l; omega)
  | k + 1 => fun V F top l lv hL hO hk => upper_step (upper_c k) hL hO hk
end Go.Proofs.YtbchkopkgpfkgaaGreatDoor
