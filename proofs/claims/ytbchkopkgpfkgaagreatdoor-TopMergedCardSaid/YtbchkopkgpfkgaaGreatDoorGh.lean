import Derived.Test.YtbchkopkgpfkgaaGreatDoorTi
import Derived.Test.YtbchkopkgpfkgaaGreatDoorGd
/- Walks of the top laws: what each function returns. Printed by a program out of notes. -/
namespace Go.Proofs.YtbchkopkgpfkgaaGreatDoor
open Go.Vc
open Classical

/-- What the function does, for arguments of a size below k. -/
def SCC (k : Nat) : Prop := ∀ (V : HV) (va ha ba : Value) (F : Fl) (l : List St) (lv : Value) (top : Prop) (it : Decidable top), Fls V va ha ba F → VarsOk F.vs → Sts V lv l → StsOk F top l → nds l < k → FnC Tryz.prog 88 [.agg #[va, ha, ba], lv, .bool (@decide top it)] V [] (fun v _ _ => v = .int .i64 0)

set_option maxRecDepth 100000 in
set_option maxHeartbeats 4000000 in
theorem stepsCode_step {V : HV} {va ha ba : Value} {F : Fl} (hF : Fls V va ha ba F) {l : List St} {lv : Value} {top : Prop} [it : Decidable top] {k : Nat} (IH : SCC k) (hV : VarsOk F.vs) (hL : Sts V lv l) (hO : StsOk F top l) (hk : nds l < (k + 1 : Nat)) :
    FnC Tryz.prog 88 [(.agg #[va, ha, ba]), lv, (.bool (decide (top)))] V [] (fun v _ _ => v = (Value.int .i64 0)) := by
 refine f_i Tryz.func88 ?_
 intro w0 D
 have hF0 := hF
 obtain ⟨hvs, hH⟩ := hF.h
 obtain ⟨xB, hB⟩ := hF.b.sl
 have hbvv := SlS.bound hF.v
 have hbh := SlS.bound hH.sl
 have hbb := SlS.bound hB
 obtain ⟨kvs, tvs, evs, bvs, hS, hK, hth, hel, hbv⟩ := hL
 have hb := SlS.bound hS
 refine s_2 ?_
 refine b_ox fun b1 => ?_
 refine s_6 ?_
 refine oq (qv_lenSS UL.out rfl hS) ?_
 refine s_3 ?_
 refine lc1 [0,1,2,3,13,14] (fun (i : Int) => [(15, (Value.int .i64 i))]) (fun i => 0 ≤ i ∧ i ≤ l.length) (fun i => (l.length - i).toNat) 0 ?_ ?_ ?_ 
 · exact ⟨rfl, trivial⟩
 · exact ⟨by omega, by omega⟩
 rintro i e1 ⟨i1, i2⟩
 refine s_5 ?_
 refine iff' ?_ ?_ <;> intro c1
 ·
  refine s_6 ?_
  refine oq (qv_ias UL.out SZ.out e_vm hS rfl o_m o_m) ?_
  refine oq (qv_lds AG.out rfl hS o_m o_m (stcs_at o_m o_m)) ?_
  refine a_lo fun b2 => ?_
  refine s_1 ?_
  refine s_tw rfl rfl (allc rfl (allc rfl (allc rfl (allc rfl (allc rfl (allc rfl (allc (Tms.one (hK (i) o_m o_m)) (allc (Sts.one (hth (i) o_m o_m)) (allc (Sts.one (hel (i) o_m o_m)) (allc (Sl.one (hbv (i) o_m o_m)) rfl)))))))))) ?_
  refine s_3 ?_
  have hsz := nds_at (l := l) i1 o_m
  have hse := nd_eq (st l i)
  have hsp := (st l i).tm.sz_pos
  have hsn := nds_nn (l.take i.toNat)
  have hs1 := nds_nn (st l i).thn
  have hs2 := nds_nn (st l i).els
  have hok := StsOk_at hO i1 o_m
  have hok1 := (StOk_eq.1 hok).1
  refine j_n [0,1,2,3,7,8,13,14,15,16] [(31, (Value.bool false))] ?_ (fun e2 => ?_)
  ·
   refine s_5 ?_
   by_cases g1 : top
   ·
    refine s_2 ?_
    refine og (qv_lenSS UL.out rfl hS) w_a ?_
    refine s_3 ?_
    refine oq (f_c (shapedP_c (F := F) (s := st l i) (p := i = (((l.length : Int)) - 1)) (last := top ∧ i = (l.length : Int) - 1) hF0 (hK i i1 o_m) (hth i i1 o_m) (hel i i1 o_m) (hbv i i1 o_m) ⟨fun q => ⟨by assumption, q⟩, fun q => q.2⟩ hok1.shp) rfl rfl) ?_
    refine s_2 ?_
    exact j_e ⟨rfl, trivial⟩
   ·
    refine s_6 ?_
    refine oq (f_c (shapedP_c (F := F) (s := st l i) (p := False) (last := top ∧ i = (l.length : Int) - 1) hF0 (hK i i1 o_m) (hth i i1 o_m) (hel i i1 o_m) (hbv i i1 o_m) ⟨False.elim, fun q => absurd q.1 (by assumption)⟩ hok1.shp) rfl rfl) ?_
    refine s_2 ?_
    exact j_e ⟨rfl, trivial⟩
  refine s_6 ?_
  refine oq (f_c (numbered_c (s := st l i) (hK i i1 o_m) (hth i i1 o_m) (hel i i1 o_m) (hbv i i1 o_m) hok1.nm hok1.bd (fun e => by have := shp_num hok1.shp; omega)) rfl rfl) ?_
  refine s_11 ?_
  refine oq (f_c (termCode_c (inp := false) (hK i i1 o_m) hF.v hV hok1.ct.1 hok1.ct.2) rfl rfl) ?_
  refine s_7 ?_
  refine iff' ?_ ?_ <;> intro c2
  ·
   refine s_8 ?_
   exact rt1 rfl
  ·
   refine s_7 ?_
   refine ops_lit (n := 2) (s := 1) (cs := [(gv tvs (i)), (gv evs (i))]) UL.out TZ.out (l_b rfl) rfl (by show (gv tvs (i)).cells.toList ++ ((gv evs (i)).cells.toList ++ ([])) = _; rw [(Sts.cells (hth i i1 o_m)), (Sts.cells (hel i i1 o_m))]; rfl) (by show (((gv tvs (i)).cells.size == 1) && (((gv evs (i)).cells.size == 1) && (true))) = true; rw [(Sts.cells (hth i i1 o_m)), (Sts.cells (hel i i1 o_m))]; rfl) (l_b rfl) rfl (fun b3 => ?_)
   refine oq (qv_len UL.out rfl rfl) ?_
   refine s_3 ?_
   refine lp1 [0,1,2,3,7,8,9,13,14,15,16,31,34,41,47,48] (fun (j : Int) => [(49, (Value.int .i64 j))]) (fun j => [(Arr 26 b1 [va, ha, ba]), (Arr 78 b2 [(.int .i64 ((st l (i)).dk)), (.int .i64 ((st l (i)).cost)), (.int .i64 ((st l (i)).var)), (.int .i64 ((st l (i)).n)), (.int .i64 ((st l (i)).tm.op)), (.int .i64 ((st l (i)).tm.n)), (gv kvs (i)), (gv tvs (i)), (gv evs (i)), (gv bvs (i))]), (Arr 24 b3 [(gv tvs (i)), (gv evs (i))])]) (fun j => 0 ≤ j ∧ j ≤ 2) (fun j => (2 - j).toNat) 0 ?_ ?_ ?_ ?_ 
   · exact ⟨rfl, trivial⟩
   · (rfl)
   · exact ⟨by omega, by omega⟩
   rintro j e3 ⟨j1, j2⟩
   refine s_5 ?_
   refine iff' ?_ ?_ <;> intro c3
   ·
    refine s_5 ?_
    refine oq (qv_ia (v := (.slice (some ⟨b3, 0, none⟩) 2 2)) UL.out SZ.out rfl (inO (k := 2) rfl rfl (Nat.le_refl _) o_m) rfl o_m o_m) ?_
    refine oq (qv_ld (v := (.slice (some ⟨b3, 0, none⟩) 2 2)) PL.out rfl (inO (k := 2) rfl rfl (Nat.le_refl _) o_m) o_m o_m) ?_
    refine s_3 ?_
    have hx2 : Sts V (gv [(gv tvs (i)), (gv evs (i))] (j)) (if j = 0 then (st l i).thn else (st l i).els) := by
      by_cases e : j = 0
      · subst e; exact hth i i1 o_m
      · have e2 : j = 1 := by omega
        subst e2; exact hel i i1 o_m
    have hx3 : StsOk F False (if j = 0 then (st l i).thn else (st l i).els) := by split; exact (StOk_eq.1 hok).2.1; exact (StOk_eq.1 hok).2.2
    have hx4 : nds (if j = 0 then (st l i).thn else (st l i).els) < k := by split <;> omega
    refine s_3 ?_
    refine oq (f_c (IH _ _ _ _ _ _ _ False instDecidableFalse hF0 hV hx2 hx3 o_m) rfl rfl) ?_
    refine s_7 ?_
    refine iff' ?_ ?_ <;> intro c4
    ·
     refine s_10 ?_
     exact rt1 rfl
    ·
     refine s_5 ?_
     exact le1 (j + 1) ⟨(c_i o_m), trivial⟩ ⟨by omega, by omega⟩ (hr := by rfl)
   ·
    refine s_2 ?_
    refine v_d 2 ?_
    refine v_d 1 ?_
    refine s_4 ?_
    exact le1 (i + 1) ⟨(c_i o_m), trivial⟩ ⟨by omega, by omega⟩
 ·
  refine s_7 ?_
  exact rt1 rfl

theorem stepsCode_c : ∀ k, SCC k
  | 0 => fun _ _ _ _ _ l _ _ _ _ _ _ _ h => absurd h (by have := nds_nn l; omega)
  | k + 1 => fun V va ha ba F l lv top it hF hV hL hO hk => stepsCode_step (it := it) hF (stepsCode_c k) hV hL hO hk
end Go.Proofs.YtbchkopkgpfkgaaGreatDoor
