import Derived.Test.YtbchkopkgpfkgaaGreatDoorTi
import Derived.Test.YtbchkopkgpfkgaaGreatDoorFf
/- Walks of the top laws: what each function returns. Printed by a program out of notes. -/
namespace Go.Proofs.YtbchkopkgpfkgaaGreatDoor
open Go.Vc
open Classical

/-- What the function does, for arguments of a size below k. -/
def CSC (k : Nat) : Prop := ∀ (V : HV) (va ha ba : Value) (F : Fl) (l : List St) (lv : Value) (top : Prop) (it : Decidable top), Fls V va ha ba F → VarsOk F.vs → Sts V lv l → nds l < k → FnC Tryz.prog 80 [.agg #[va, ha, ba], lv, .bool (@decide top it)] V [] (fun v _ _ => v = .int .i64 (csL F top l))

set_option maxRecDepth 100000 in
set_option maxHeartbeats 4000000 in
theorem checkStepsR_step {V : HV} {va ha ba : Value} {F : Fl} (hF : Fls V va ha ba F) {l : List St} {lv : Value} {top : Prop} [it : Decidable top] {k : Nat} (IH : CSC k) (hV : VarsOk F.vs) (hL : Sts V lv l) (hk : nds l < (k + 1 : Nat)) :
    FnC Tryz.prog 80 [(.agg #[va, ha, ba]), lv, (.bool (decide (top)))] V [] (fun v _ _ => v = (.int .i64 (csL F top l))) := by
 refine f_i Tryz.func80 ?_
 intro w0 D
 have hF0 := hF
 obtain ⟨hvs, hH⟩ := hF.h
 obtain ⟨xB, hB⟩ := hF.b.sl
 have hbvv := SlS.bound hF.v
 have hbh := SlS.bound hH.sl
 have hbb := SlS.bound hB
 obtain ⟨kvs, tvs, evs, bvs, hS, hK, hth, hel, hbv⟩ := hL
 have hb := SlS.bound hS
 refine s_2 ?_
 refine b_ox fun b1 => ?_
 refine s_8 ?_
 refine lc1 [0,1,2,3] (fun (i : Int) => [(7, (Value.int .i64 i))]) (fun i => 0 ≤ i ∧ i ≤ l.length ∧ csL F top l = csL F top (l.drop i.toNat)) (fun i => (l.length - i).toNat) 0 ?_ ?_ ?_ 
 · exact ⟨rfl, trivial⟩
 · exact ⟨by omega, by omega, rfl⟩
 rintro i e1 ⟨i1, i2, hy⟩
 refine s_5 ?_
 refine oq (qv_lenSS UL.out rfl hS) ?_
 refine s_2 ?_
 refine iff' ?_ ?_ <;> intro c1
 ·
  refine s_7 ?_
  refine oq (qv_ias UL.out SZ.out e_vm hS rfl o_m o_m) ?_
  refine oq (qv_lds AG.out rfl hS o_m o_m (stcs_at o_m o_m)) ?_
  refine a_lo fun b2 => ?_
  refine s_tw rfl rfl (allc rfl (allc rfl (allc rfl (allc rfl (allc rfl (allc rfl (allc (Tms.one (hK (i) o_m o_m)) (allc (Sts.one (hth (i) o_m o_m)) (allc (Sts.one (hel (i) o_m o_m)) (allc (Sl.one (hbv (i) o_m o_m)) rfl)))))))))) ?_
  refine s_3 ?_
  have hsz := nds_at (l := l) i1 o_m
  have hse := nd_eq (st l i)
  have hsp := (st l i).tm.sz_pos
  have hsn := nds_nn (l.take i.toNat)
  have hs1 := nds_nn (st l i).thn
  have hs2 := nds_nn (st l i).els
  refine j_n [0,1,2,3,7,8,14] [(32, (.bool (decide (¬ (shpP F (st l i) (top ∧ i = (l.length : Int) - 1))))))] ?_ (fun e2 => ?_)
  ·
   refine s_5 ?_
   by_cases g1 : top
   ·
    refine s_2 ?_
    refine og (qv_lenSS UL.out rfl hS) w_a ?_
    refine s_3 ?_
    refine oq (f_c (shapedR_d (F := F) (s := st l i) (p := i = (((l.length : Int)) - 1)) (last := top ∧ i = (l.length : Int) - 1) hF0 (hK i i1 o_m) (hth i i1 o_m) (hel i i1 o_m) (hbv i i1 o_m) ⟨fun q => ⟨by assumption, q⟩, fun q => q.2⟩) rfl rfl) ?_
    refine s_2 ?_
    exact j_e ⟨rfl, trivial⟩
   ·
    refine s_6 ?_
    refine oq (f_c (shapedR_d (F := F) (s := st l i) (p := False) (last := top ∧ i = (l.length : Int) - 1) hF0 (hK i i1 o_m) (hth i i1 o_m) (hel i i1 o_m) (hbv i i1 o_m) ⟨False.elim, fun q => absurd q.1 (by assumption)⟩) rfl rfl) ?_
    refine s_2 ?_
    exact j_e ⟨rfl, trivial⟩
  refine iff' ?_ ?_ <;> intro c2
  ·
   refine s_7 ?_
   exact rt1 (c_i (by exact cs_hit2 i1 o_m hy (cs_1 (by assumption)) o_m))
  ·
   refine s_2 ?_
   have hsh := Classical.not_not.1 ‹¬ ¬ shpP F (st l i) (top ∧ i = (l.length : Int) - 1)›
   refine s_10 ?_
   refine iff' ?_ ?_ <;> intro c3
   ·
    refine s_5 ?_
    refine j_n [0,1,2,3,7,8,9,14,32,35] [(59, (.bool (decide ((((((st l (i)).cost) < 0) ∨ (67108864 < ((st l (i)).cost))) ∨ (((st l (i)).n) < 0)) ∨ ((((st l (i)).dk) = 4) ∧ (4096 < ((st l (i)).n)))))))] ?_ (fun e3 => ?_)
    ·
     refine s_5 ?_
     by_cases g2 : ((st l (i)).cost) < 0
     ·
      refine s_21 ?_
      exact j_e ⟨(jt (.inl (.inl (.inl g2)))), trivial⟩
     ·
      refine s_6 ?_
      by_cases g3 : 67108864 < ((st l (i)).cost)
      ·
       refine s_15 ?_
       exact j_e ⟨(jt (.inl (.inl ((jo g2 Iff.rfl).1 g3)))), trivial⟩
      ·
       refine s_5 ?_
       by_cases g4 : ((st l (i)).n) < 0
       ·
        refine s_10 ?_
        exact j_e ⟨(jt (.inl ((jo (fun z => g3 ((jo g2 Iff.rfl).2 z)) Iff.rfl).1 g4))), trivial⟩
       ·
        refine s_4 ?_
        by_cases g5 : ((st l (i)).dk) = 4
        ·
         refine s_6 ?_
         exact j_e ⟨(jb (jo (fun z => g4 ((jo (fun z => g3 ((jo g2 Iff.rfl).2 z)) Iff.rfl).2 z)) (ja g5 Iff.rfl))), trivial⟩
        ·
         refine s_6 ?_
         exact j_e ⟨(jf (fun z => z.elim (fun z => g4 ((jo (fun z => g3 ((jo g2 Iff.rfl).2 z)) Iff.rfl).2 z)) (fun z => g5 z.1))), trivial⟩
    refine iff' ?_ ?_ <;> intro c4
    ·
     refine s_7 ?_
     exact rt1 (c_i (by exact cs_hit2 i1 o_m hy (cs_3 (Classical.not_not.1 (by assumption)) (by first | (left; unfold nmBad limC; (repeat' split) <;> omega) | (right; unfold bdBad; omega))) o_m))
    ·
     refine s_3 ?_
     have hb0 := (hbv i i1 o_m).bound
     have hnm : ¬ nmBad (st l i) := by unfold nmBad limC; (repeat' split) <;> omega
     refine j_n [0,1,2,3,7,8,9,14,32,35,59] [(74, (.bool (decide ((0 < ((((st l (i)).bds).length : Int))) ∧ (67108864 < (gi ((st l (i)).bds) (((((st l (i)).bds).length : Int)) - 1)))))))] ?_ (fun e4 => ?_)
     ·
      refine s_3 ?_
      refine oq (qv_lenI UL.out rfl (hbv (i) o_m o_m)) ?_
      refine s_2 ?_
      by_cases g6 : 0 < ((((st l (i)).bds).length : Int))
      ·
       refine s_4 ?_
       refine og (qv_lenI UL.out rfl (hbv (i) o_m o_m)) w_a ?_
       refine s_1 ?_
       refine og (qv_iai UL.out SZ.out e_vm (inVi (hbv (i) o_m o_m)) rfl o_m o_m) w_a ?_
       refine og (qv_ldi PL.out rfl (inVi (hbv (i) o_m o_m)) o_m o_m) w_a ?_
       refine s_3 ?_
       exact j_e ⟨(jb (ja g6 Iff.rfl)), trivial⟩
      ·
       refine s_11 ?_
       exact j_e ⟨(jf (fun z => g6 z.1)), trivial⟩
     refine iff' ?_ ?_ <;> intro c5
     ·
      refine s_7 ?_
      exact rt1 (c_i (by exact cs_hit2 i1 o_m hy (cs_3 (Classical.not_not.1 (by assumption)) (by first | (left; unfold nmBad limC; (repeat' split) <;> omega) | (right; unfold bdBad; omega))) o_m))
     ·
      refine s_2 ?_
      have hbb : ¬ bdBad (st l i) := by unfold bdBad; omega
      refine s_5 ?_
      refine oq (f_c (CheckTermR_c (inp := false) (hK i i1 o_m) hF.v hV) rfl rfl) ?_
      refine s_8 ?_
      refine iff' ?_ ?_ <;> intro c6
      ·
       refine s_8 ?_
       exact rt1 (c_i (by exact cs_hit2 i1 o_m hy (by rw [cs_r hsh hnm hbb]; (repeat' split) <;> first | rfl | (exfalso; omega)) o_m))
      ·
       refine s_6 ?_
       refine oq (f_c (IH _ _ _ _ _ _ _ False instDecidableFalse hF0 hV (hth i i1 o_m) o_m) rfl rfl) ?_
       refine s_8 ?_
       refine iff' ?_ ?_ <;> intro c7
       ·
        refine s_8 ?_
        exact rt1 (c_i (by exact cs_hit2 i1 o_m hy (by rw [cs_r hsh hnm hbb]; (repeat' split) <;> first | rfl | (exfalso; omega)) o_m))
       ·
        refine s_6 ?_
        refine oq (f_c (IH _ _ _ _ _ _ _ False instDecidableFalse hF0 hV (hel i i1 o_m) o_m) rfl rfl) ?_
        refine s_7 ?_
        refine iff' ?_ ?_ <;> intro c8
        ·
         refine s_8 ?_
         exact rt1 (c_i (by exact cs_hit2 i1 o_m hy (by rw [cs_r hsh hnm hbb]; (repeat' split) <;> first | rfl | (exfalso; omega)) o_m))
        ·
         refine s_1 ?_
         refine v_d 1 ?_
         refine s_5 ?_
         exact le1 (i + 1) ⟨(c_i o_m), trivial⟩ ⟨by omega, by omega, cs_on2 i1 o_m hy (by rw [cs_r hsh hnm hbb]; (repeat' split) <;> first | rfl | (exfalso; omega) | omega)⟩
   ·
    refine s_3 ?_
    refine j_n [0,1,2,3,7,8,9,14,32,35] [(59, (.bool (decide ((((((st l (i)).cost) < 0) ∨ (10000 < ((st l (i)).cost))) ∨ (((st l (i)).n) < 0)) ∨ ((((st l (i)).dk) = 4) ∧ (4096 < ((st l (i)).n)))))))] ?_ (fun e5 => ?_)
    ·
     refine s_5 ?_
     by_cases g7 : ((st l (i)).cost) < 0
     ·
      refine s_21 ?_
      exact j_e ⟨(jt (.inl (.inl (.inl g7)))), trivial⟩
     ·
      refine s_6 ?_
      by_cases g8 : 10000 < ((st l (i)).cost)
      ·
       refine s_15 ?_
       exact j_e ⟨(jt (.inl (.inl ((jo g7 Iff.rfl).1 g8)))), trivial⟩
      ·
       refine s_5 ?_
       by_cases g9 : ((st l (i)).n) < 0
       ·
        refine s_10 ?_
        exact j_e ⟨(jt (.inl ((jo (fun z => g8 ((jo g7 Iff.rfl).2 z)) Iff.rfl).1 g9))), trivial⟩
       ·
        refine s_4 ?_
        by_cases g10 : ((st l (i)).dk) = 4
        ·
         refine s_6 ?_
         exact j_e ⟨(jb (jo (fun z => g9 ((jo (fun z => g8 ((jo g7 Iff.rfl).2 z)) Iff.rfl).2 z)) (ja g10 Iff.rfl))), trivial⟩
        ·
         refine s_6 ?_
         exact j_e ⟨(jf (fun z => z.elim (fun z => g9 ((jo (fun z => g8 ((jo g7 Iff.rfl).2 z)) Iff.rfl).2 z)) (fun z => g10 z.1))), trivial⟩
    refine iff' ?_ ?_ <;> intro c9
    ·
     refine s_7 ?_
     exact rt1 (c_i (by exact cs_hit2 i1 o_m hy (cs_3 (Classical.not_not.1 (by assumption)) (by first | (left; unfold nmBad limC; (repeat' split) <;> omega) | (right; unfold bdBad; omega))) o_m))
    ·
     refine s_3 ?_
     have hb0 := (hbv i i1 o_m).bound
     have hnm : ¬ nmBad (st l i) := by unfold nmBad limC; (repeat' split) <;> omega
     refine j_n [0,1,2,3,7,8,9,14,32,35,59] [(74, (.bool (decide ((0 < ((((st l (i)).bds).length : Int))) ∧ (67108864 < (gi ((st l (i)).bds) (((((st l (i)).bds).length : Int)) - 1)))))))] ?_ (fun e6 => ?_)
     ·
      refine s_3 ?_
      refine oq (qv_lenI UL.out rfl (hbv (i) o_m o_m)) ?_
      refine s_2 ?_
      by_cases g11 : 0 < ((((st l (i)).bds).length : Int))
      ·
       refine s_4 ?_
       refine og (qv_lenI UL.out rfl (hbv (i) o_m o_m)) w_a ?_
       refine s_1 ?_
       refine og (qv_iai UL.out SZ.out e_vm (inVi (hbv (i) o_m o_m)) rfl o_m o_m) w_a ?_
       refine og (qv_ldi PL.out rfl (inVi (hbv (i) o_m o_m)) o_m o_m) w_a ?_
       refine s_3 ?_
       exact j_e ⟨(jb (ja g11 Iff.rfl)), trivial⟩
      ·
       refine s_11 ?_
       exact j_e ⟨(jf (fun z => g11 z.1)), trivial⟩
     refine iff' ?_ ?_ <;> intro c10
     ·
      refine s_7 ?_
      exact rt1 (c_i (by exact cs_hit2 i1 o_m hy (cs_3 (Classical.not_not.1 (by assumption)) (by first | (left; unfold nmBad limC; (repeat' split) <;> omega) | (right; unfold bdBad; omega))) o_m))
     ·
      refine s_2 ?_
      have hbb : ¬ bdBad (st l i) := by unfold bdBad; omega
      refine s_5 ?_
      refine oq (f_c (CheckTermR_c (inp := false) (hK i i1 o_m) hF.v hV) rfl rfl) ?_
      refine s_8 ?_
      refine iff' ?_ ?_ <;> intro c11
      ·
       refine s_8 ?_
       exact rt1 (c_i (by exact cs_hit2 i1 o_m hy (by rw [cs_r hsh hnm hbb]; (repeat' split) <;> first | rfl | (exfalso; omega)) o_m))
      ·
       refine s_6 ?_
       refine oq (f_c (IH _ _ _ _ _ _ _ False instDecidableFalse hF0 hV (hth i i1 o_m) o_m) rfl rfl) ?_
       refine s_8 ?_
       refine iff' ?_ ?_ <;> intro c12
       ·
        refine s_8 ?_
        exact rt1 (c_i (by exact cs_hit2 i1 o_m hy (by rw [cs_r hsh hnm hbb]; (repeat' split) <;> first | rfl | (exfalso; omega)) o_m))
       ·
        refine s_6 ?_
        refine oq (f_c (IH _ _ _ _ _ _ _ False instDecidableFalse hF0 hV (hel i i1 o_m) o_m) rfl rfl) ?_
        refine s_7 ?_
        refine iff' ?_ ?_ <;> intro c13
        ·
         refine s_8 ?_
         exact rt1 (c_i (by exact cs_hit2 i1 o_m hy (by rw [cs_r hsh hnm hbb]; (repeat' split) <;> first | rfl | (exfalso; omega)) o_m))
        ·
         refine s_1 ?_
         refine v_d 1 ?_
         refine s_5 ?_
         exact le1 (i + 1) ⟨(c_i o_m), trivial⟩ ⟨by omega, by omega, cs_on2 i1 o_m hy (by rw [cs_r hsh hnm hbb]; (repeat' split) <;> first | rfl | (exfalso; omega) | omega)⟩
 ·
  refine s_7 ?_
  exact rt1 (c_i (by rw [hy, List.drop_eq_nil_of_le o_m]; rfl))

theorem checkStepsR_c : ∀ k, CSC k
  | 0 => fun _ _ _ _ _ l _ _ _ _ _ _ h => absurd h (by have := nds_nn l; omega)
  | k + 1 => fun V va ha ba F l lv top it hF hV hL hk => checkStepsR_step (it := it) hF (checkStepsR_c k) hV hL hk
end Go.Proofs.YtbchkopkgpfkgaaGreatDoor
