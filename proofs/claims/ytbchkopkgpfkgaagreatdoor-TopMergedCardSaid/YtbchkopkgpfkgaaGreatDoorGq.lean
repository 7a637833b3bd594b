import Derived.Test.YtbchkopkgpfkgaaGreatDoorTi
import Derived.Test.YtbchkopkgpfkgaaGreatDoorGp
/- Walks of the top laws: what each function returns. Printed by a program out of notes. -/
namespace Go.Proofs.YtbchkopkgpfkgaaGreatDoor
open Go.Vc
open Classical

set_option maxRecDepth 100000 in
set_option maxHeartbeats 4000000 in
theorem set_c {V : HV} {va ha ba : Value} {F : Fl} (hF : Fls V va ha ba F) {u hx w : Value} {X : List Int} {v n T : Int} {bm : Nat} (hX : X.length = F.vs.length) (v0 : 0 ≤ v) (v1 : v < F.vs.length) :
    FnC Tryz.prog 148 [(Value.pointer (some ⟨bm, 0, none⟩)), (Value.int .i64 v), (Value.int .i64 n)] V [(Arr 156 bm [va, ha, ba, u, hx, w, (Value.int .i64 T)]), (Gr 3 1 u F.vs.length ((X.map (Value.int .i64))))] (fun v' V' σ' => V' = V ∧ v' = .tuple #[] ∧ σ' = [(Arr 156 bm [va, ha, ba, u, hx, w, (Value.int .i64 T)]), (Gr 3 1 u F.vs.length (((setV F X v n).map (Value.int .i64))))]) := by
 refine f_i Tryz.func148 ?_
 intro w0 D
 have hbvv := SlS.bound hF.v
 have hml : (X.map (Value.int .i64)).length = F.vs.length := by rw [List.length_map]; exact hX
 refine ro1 [qt 0,qt 1,qt 2,qt 3,qt 4,qt 5,qt 6,qt 7,qt 8,qt 9,qt 10,qt 11,qt 12,qt 13,qt 14,qt 15,qt 16,qt 17,qt 18,qt 19,qt 20,qt 21,qt 22,qt 23,qt 24,qt 25,ld 26] ?_
 refine s_1 ?_
 refine rq rfl (qv_nilck rfl) ?_
 refine s_5 ?_
 refine rq rfl (qv_nilck rfl) ?_
 refine s_4 ?_
 refine rq rfl (qv_ias UL.out SZ.out e_vm hF.v rfl o_m o_m) ?_
 refine rq rfl (qv_fas FI.out rfl hF.v o_m o_m) ?_
 refine rq rfl (qv_ldf PL.out rfl hF.v o_m o_m o_m (vrcs_el (o := 2) o_m o_m o_m rfl)) ?_
 refine s_1 ?_
 refine rq rfl (qv_nilck rfl) ?_
 refine s_4 ?_
 refine rq rfl (qv_ias UL.out SZ.out e_vm hF.v rfl o_m o_m) ?_
 refine rq rfl (qv_fas FI.out rfl hF.v o_m o_m) ?_
 refine rq rfl (qv_ldf PL.out rfl hF.v o_m o_m o_m (vrcs_el (o := 3) o_m o_m o_m rfl)) ?_
 refine rq rfl (f_c (clamp_c) rfl rfl) ?_
 refine rq rfl (qv_iai UL.out SZ.out e_vm (inGi (k := 1) rfl) rfl o_m o_m) ?_
 refine rl_o ?_
 refine ops_stg (k := 1) (v := u) (i := v) (u := (.int .i64 (hld n (vr F.vs v).lo (vr F.vs v).hi))) SZ.out rfl rfl rfl rfl o_m (by simp only [List.length_map, List.length_set]; omega) ?_
 refine on1 ?_
 refine s_1 ?_
 refine ret0 ?_
 exact ⟨rfl, rfl, by unfold setV; rw [List.map_set]; try rfl⟩

/-- What the steps do, for lists of a size below k. -/
def RUC (k : Nat) : Prop := ∀ (V : HV) (F : Fl) (va ha ba hx u wi : Value) (H X0 O0 : List Int) (T0 : Int) (bm : Nat) (l : List St) (lv : Value) (top : Prop), Fls V va ha ba F → Valid F → Ints .i64 V hx H → H.length = F.hs.length → Sts V lv l → StsOk F top l → Rdy F ⟨X0, O0, T0⟩ (ubO l) (ubT l) → nds l < k →
    FnC Tryz.prog 94 [.pointer (some ⟨bm, 0, none⟩), lv] V [(Arr 156 bm [va, ha, ba, u, hx, wi, (Value.int .i64 T0)]), (Gr 3 1 u F.vs.length ((X0.map (Value.int .i64)))), (Gr 3 1 wi O0.length ((O0.map (Value.int .i64))))] (fun v V' σ' => V' = V ∧ v = .tuple #[] ∧ ∃ w', σ' = [(Arr 156 bm [va, ha, ba, u, hx, w', (Value.int .i64 ((runL F H l ⟨X0, O0, T0⟩).time))]), (Gr 3 1 u F.vs.length ((((runL F H l ⟨X0, O0, T0⟩).vals).map (Value.int .i64)))), (Gr 3 1 w' (((runL F H l ⟨X0, O0, T0⟩).outs).length) ((((runL F H l ⟨X0, O0, T0⟩).outs).map (Value.int .i64))))])
set_option maxRecDepth 100000 in
set_option maxHeartbeats 4000000 in
theorem loop_step {V : HV} {F : Fl} {va ha ba hx u wi : Value} {H X0 O0 : List Int} {T0 : Int} {bm : Nat} {s : St} {ks tv lv bv : Value} {last : Prop} {k : Nat} (IH : RUC k) (hF : Fls V va ha ba F) (hVa : Valid F) (hH0 : Ints .i64 V hx H) (hHl : H.length = F.hs.length) (hT : Tms V ks s.tm.kids) (hth : Sts V tv s.thn) (hel : Sts V lv s.els) (hbv : Ints .i64 V bv s.bds) (hs : StOk F last s) (hr : Rdy F ⟨X0, O0, T0⟩ s.uO s.uT) (h4 : s.dk = 4) (hk : s.nd < (k + 1 : Nat)) :
    FnC Tryz.prog 147 [(Value.pointer (some ⟨bm, 0, none⟩)), (.agg #[(.int .i64 s.dk), (.int .i64 s.cost), (.int .i64 s.var), (.int .i64 s.n), (.int .i64 s.tm.op), (.int .i64 s.tm.n), ks, tv, lv, bv])] V [(Arr 156 bm [va, ha, ba, u, hx, wi, (Value.int .i64 T0)]), (Gr 3 1 u F.vs.length ((X0.map (Value.int .i64)))), (Gr 3 1 wi O0.length ((O0.map (Value.int .i64))))] (fun v V' σ' => V' = V ∧ v = .tuple #[] ∧ ∃ w', σ' = [(Arr 156 bm [va, ha, ba, u, hx, w', (.int .i64 ((runS F H s ⟨X0, O0, T0⟩).time))]), (Gr 3 1 u F.vs.length ((((runS F H s ⟨X0, O0, T0⟩).vals).map (Value.int .i64)))), (Gr 3 1 w' (((runS F H s ⟨X0, O0, T0⟩).outs).length) ((((runS F H s ⟨X0, O0, T0⟩).outs).map (Value.int .i64))))]) := by
 refine FnC.drop ?_
 refine f_i Tryz.func147 ?_
 intro w0 D
 obtain ⟨kvs, hS, hK⟩ := hT
 have hT : Tms V ks s.tm.kids := .mk kvs hS hK
 obtain ⟨xst, hst⟩ := hth.sl
 obtain ⟨xse, hse⟩ := hel.sl
 have hnu := hs.num
 have hok := StOk_eq.1 hs
 have hct := hok.1.ct
 have hse2 := nd_eq s
 have hsp := s.tm.sz_pos
 have hs1 := nds_nn s.els
 have hr0 := hr
 have hrl := loop_rdy0 h4 hr
 refine s_2 ?_
 refine b_ox fun b1 => ?_
 refine s_2 ?_
 obtain ⟨YY, hy0⟩ : ∃ Y, loopF (runL F H s.thn) s.cost s.tm (s.n - 0).toNat ⟨X0, O0, T0⟩ = Y := ⟨_, rfl⟩
 have hY : runS F H s ⟨X0, O0, T0⟩ = YY := by rw [runS_4 h4, ← hy0, show s.n - 0 = s.n by omega]
 refine s_6 ?_
 refine lp5 [0,1,3,5] (fun (i : Int) (X : List Int) (O : List Int) (T : Int) (w : Value) => [(6, (Value.int .i64 i))]) (fun i X O T w => [(Arr 156 bm [va, ha, ba, u, hx, w, (Value.int .i64 T)]), (Gr 3 1 u F.vs.length ((X.map (Value.int .i64)))), (Gr 3 1 w O.length ((O.map (Value.int .i64)))), (Arr 78 b1 [(.int .i64 s.dk), (.int .i64 s.cost), (.int .i64 s.var), (.int .i64 s.n), (.int .i64 s.tm.op), (.int .i64 s.tm.n), ks, tv, lv, bv])]) (fun i X O T w => 0 ≤ i ∧ i ≤ s.n ∧ Rdy F ⟨X, O, T⟩ ((s.n - i) * ubO s.thn) ((s.n - i) * (s.cost + ubT s.thn)) ∧ loopF (runL F H s.thn) s.cost s.tm (s.n - i).toNat ⟨X, O, T⟩ = YY) (fun i X O T w => (s.n - i).toNat) 0 X0 O0 T0 wi ?_ ?_ ?_ ?_ 
 · exact ⟨rfl, trivial⟩
 · (rfl)
 · exact ⟨by omega, by omega, hrl, hy0⟩
 rintro i X O T w e1 ⟨i1, i2, hr, hy⟩
 refine s_5 ?_
 refine iff' ?_ ?_ <;> intro c1
 ·
  refine s_4 ?_
  have hro := round_rdy (F := F) (H := H) hVa.vs hs i1 o_m hr
  have hr0 := hro.1
  have ht0 : 0 ≤ T := hr.t0
  have ht2 : T + s.cost + ubT s.thn ≤ 67108864 := hro.1.t1
  have hu2 := (ubs_nn _ (nn_eq s |>.1 hs.nn).2.2.1).2.2
  refine rom [qt 0,qt 1,qt 2,qt 4,qt 5,ld 3,qt 6,qt 7,qt 8,ld 9] [1] ?_
  refine s_1 ?_
  refine rq rfl (qv_nilck rfl) ?_
  refine s_3 ?_
  refine rl_q ?_
  refine s_1 ?_
  refine on2 [1] (Sub.refl _) ?_
  refine s_1 ?_
  refine rq rfl (qv_nilck rfl) ?_
  refine s_1 ?_
  refine rl_q ?_
  refine s_1 ?_
  refine on2 [1] (Sub.refl _) ?_
  refine s_5 ?_
  refine qq (qv_nilck rfl) ?_
  refine s_4 ?_
  refine qq (qv_call_gi (v := (.int .i64 (val X s.tm))) (k := 1) rfl (fun Vo hVo hbo => value_c (s.tm.sz.toNat + 1) _ _ _ _ F.vs false _ (hT.mono hVo) hbo hr0.len hr0.inr hct.1 hct.2 (by have := s.tm.sz_pos; omega)) rfl rfl) ?_
  refine s_2 ?_
  refine iff' ?_ ?_ <;> intro c2
  ·
   refine s_3 ?_
   refine rq0 ?_
   exact ⟨_, _, perm_keep 3, rfl, rfl, w, by show [_, _, _] = _; rw [hY, ← hy, loop_0 o_m (by assumption)]⟩
  ·
   refine s_5 ?_
   refine c_l [0,0,0] (IH _ _ _ _ _ _ _ _ _ _ _ _ _ _ _ False hF hVa hH0 hHl hth hok.2.1 hro.1 o_m) rfl rfl fun r1 V1 sg1 hV1 hp1 => ?_
   obtain ⟨rfl, rfl, w2_0, rfl⟩ := hp1
   refine s_5 ?_
   exact le5 (i + 1) ((runL F H s.thn ⟨X, O, T + s.cost⟩).vals) ((runL F H s.thn ⟨X, O, T + s.cost⟩).outs) ((runL F H s.thn ⟨X, O, T + s.cost⟩).time) w2_0 ⟨(c_i o_m), trivial⟩ ⟨by omega, by omega, hro.2, by rw [← hy]; exact (loop_st (m := ⟨X, O, T⟩) (f := runL F H s.thn) o_m ‹¬ val X s.tm = 0›).symm⟩ (hr := by rfl)
 ·
  refine s_2 ?_
  refine ret0 ?_
  exact ⟨_, _, perm_keep 3, rfl, rfl, w, by show [_, _, _] = _; rw [hY, ← hy, loop_end o_m]⟩

set_option maxRecDepth 100000 in
set_option maxHeartbeats 4000000 in
theorem run_step {V : HV} {F : Fl} {va ha ba hx u wi : Value} {H X0 O0 : List Int} {T0 : Int} {bm : Nat} {l : List St} {lv : Value} {top : Prop} {k : Nat} (IH : RUC k) (hF : Fls V va ha ba F) (hVa : Valid F) (hH0 : Ints .i64 V hx H) (hHl : H.length = F.hs.length) (hL : Sts V lv l) (hO : StsOk F top l) (hr : Rdy F ⟨X0, O0, T0⟩ (ubO l) (ubT l)) (hk : nds l < (k + 1 : Nat)) :
    FnC Tryz.prog 94 [(Value.pointer (some ⟨bm, 0, none⟩)), lv] V [(Arr 156 bm [va, ha, ba, u, hx, wi, (Value.int .i64 T0)]), (Gr 3 1 u F.vs.length ((X0.map (Value.int .i64)))), (Gr 3 1 wi O0.length ((O0.map (Value.int .i64))))] (fun v V' σ' => V' = V ∧ v = .tuple #[] ∧ ∃ w', σ' = [(Arr 156 bm [va, ha, ba, u, hx, w', (.int .i64 ((runL F H l ⟨X0, O0, T0⟩).time))]), (Gr 3 1 u F.vs.length ((((runL F H l ⟨X0, O0, T0⟩).vals).map (Value.int .i64)))), (Gr 3 1 w' (((runL F H l ⟨X0, O0, T0⟩).outs).length) ((((runL F H l ⟨X0, O0, T0⟩).outs).map (Value.int .i64))))]) := by
 refine f_i Tryz.func94 ?_
 intro w0 D
 obtain ⟨kvs, tvs, evs, bvs, hS, hK, hth, hel, hbv⟩ := hL
 have hb := SlS.bound hS
 have hbH := hH0.bound
 refine s_1 ?_
 obtain ⟨YY, hy0⟩ : ∃ Y, runL F H (l.drop (Int.toNat 0)) ⟨X0, O0, T0⟩ = Y := ⟨_, rfl⟩
 have hY : runL F H l ⟨X0, O0, T0⟩ = YY := hy0
 refine s_2 ?_
 refine oq (qv_lenSS UL.out rfl hS) ?_
 refine s_3 ?_
 refine lp5 [0,1,6,7] (fun (i : Int) (X : List Int) (O : List Int) (T : Int) (w : Value) => [(8, (Value.int .i64 i))]) (fun i X O T w => [(Arr 156 bm [va, ha, ba, u, hx, w, (Value.int .i64 T)]), (Gr 3 1 u F.vs.length ((X.map (Value.int .i64)))), (Gr 3 1 w O.length ((O.map (Value.int .i64))))]) (fun i X O T w => 0 ≤ i ∧ i ≤ l.length ∧ Rdy F ⟨X, O, T⟩ (ubO (l.drop i.toNat)) (ubT (l.drop i.toNat)) ∧ runL F H (l.drop i.toNat) ⟨X, O, T⟩ = YY) (fun i X O T w => (l.length - i).toNat) 0 X0 O0 T0 wi ?_ ?_ ?_ ?_ 
 · exact ⟨rfl, trivial⟩
 · (rfl)
 · exact ⟨by omega, by omega, hr, hy0⟩
 rintro i X O T w e1 ⟨i1, i2, hr, hy⟩
 refine s_5 ?_
 refine iff' ?_ ?_ <;> intro c1
 ·
  refine s_4 ?_
  have hsz := nds_at (l := l) i1 o_m
  have hse := nd_eq (st l i)
  have hsp := (st l i).tm.sz_pos
  have hsn := nds_nn (l.take i.toNat)
  have hs1 := nds_nn (st l i).thn
  have hs2 := nds_nn (st l i).els
  have hok := StsOk_at hO i1 o_m
  have hok1 := (StOk_eq.1 hok).1
  have hct := hok1.ct
  have hh := run_here hO i1 o_m hr
  have hr0 := hh
  have hnx := run_next (H := H) hVa.vs hO i1 o_m hr
  have hnu := hok.num
  have hub := St.ub_nn _ hok.nn
  have ht0 : 0 ≤ T := hr.t0
  have ht1 : T + (st l i).uT ≤ 67108864 := hh.t1
  refine s_1 ?_
  refine oq (qv_ias UL.out SZ.out e_vm hS rfl o_m o_m) ?_
  refine oq (qv_lds AG.out rfl hS o_m o_m (stcs_at o_m o_m)) ?_
  refine a_lo fun b1 => ?_
  refine s_tw rfl rfl (allc rfl (allc rfl (allc rfl (allc rfl (allc rfl (allc rfl (allc (Tms.one (hK (i) o_m o_m)) (allc (Sts.one (hth (i) o_m o_m)) (allc (Sts.one (hel (i) o_m o_m)) (allc (Sl.one (hbv (i) o_m o_m)) rfl)))))))))) ?_
  refine s_8 ?_
  refine iff' ?_ ?_ <;> intro c2
  ·
   refine s_4 ?_
   refine c_l [0,0,0] (loop_step IH hF hVa hH0 hHl (hK i i1 o_m) (hth i i1 o_m) (hel i i1 o_m) (hbv i i1 o_m) hok hh (by assumption) o_m) rfl rfl fun r1 V1 sg1 hV1 hp1 => ?_
   obtain ⟨rfl, rfl, w2_0, rfl⟩ := hp1
   refine s_3 ?_
   refine v_d 3 ?_
   refine s_4 ?_
   exact le5 (i + 1) ((runS F H (st l i) ⟨X, O, T⟩).vals) ((runS F H (st l i) ⟨X, O, T⟩).outs) ((runS F H (st l i) ⟨X, O, T⟩).time) w2_0 ⟨(c_i o_m), trivial⟩ ⟨by omega, by omega, hnx.2, by rw [← hy]; exact hnx.1.symm⟩ (hr := by first | rfl | rw [runS_0 (by assumption)] | (rw [runS_1 (by assumption)]; simp only [List.length_append, List.map_append, List.length_singleton, List.map_cons, List.map_nil]) | rw [runS_3a (by assumption) (by assumption)] | rw [runS_3b (by assumption) (by assumption)] | rw [runS_5 (by assumption)] | rw [runS_6 (by assumption)] | rw [runS_e o_m])
  ·
   refine s_2 ?_
   refine rom [qt 0,qt 1,qt 2,qt 4,qt 5,ld 3,qt 6,qt 7,qt 8,ld 9] [1] ?_
   refine s_1 ?_
   refine rq rfl (qv_nilck rfl) ?_
   refine s_3 ?_
   refine rl_q ?_
   refine s_1 ?_
   refine on2 [1] (Sub.refl _) ?_
   refine s_1 ?_
   refine rq rfl (qv_nilck rfl) ?_
   refine s_1 ?_
   refine rl_q ?_
   refine s_1 ?_
   refine on2 [1] (Sub.refl _) ?_
   refine s_12 ?_
   refine iff' ?_ ?_ <;> intro c3
   ·
    have hsh := (shp_0 (by assumption)).1 hok1.shp
    refine rom [qt 0,qt 1,qt 2,qt 3,qt 4,qt 5,qt 7,qt 8,ld 6,ld 9,ld 10] [1,1] ?_
    refine s_4 ?_
    refine rq rfl (qv_nilck rfl) ?_
    refine s_3 ?_
    refine rl_q ?_
    refine s_1 ?_
    refine on2 [1,1] (Sub.refl _) ?_
    refine rl_q ?_
    refine oq (qv_call_gi (v := (.int .i64 (val X (st l i).tm))) (k := 1) rfl (fun Vo hVo hbo => value_c ((st l i).tm.sz.toNat + 1) _ _ _ _ F.vs false _ ((hK i i1 o_m).mono hVo) hbo hr0.len hr0.inr hct.1 hct.2 (by have := (st l i).tm.sz_pos; omega)) rfl rfl) ?_
    refine on2 [1,1] (Sub.refl _) ?_
    refine rl_q ?_
    refine c_l [0,0] (set_c (X := X) hF hh.len hsh.1.1.2.1.1 hsh.1.1.2.1.2) rfl rfl fun r2 V2 sg2 hV2 hp2 => ?_
    obtain ⟨rfl, rfl, rfl⟩ := hp2
    refine on2 [1,1] hV2 ?_
    refine s_1 ?_
    refine v_d 3 ?_
    refine s_4 ?_
    exact le5 (i + 1) ((runS F H (st l i) ⟨X, O, T⟩).vals) ((runS F H (st l i) ⟨X, O, T⟩).outs) ((runS F H (st l i) ⟨X, O, T⟩).time) w ⟨(c_i o_m), trivial⟩ ⟨by omega, by omega, hnx.2, by rw [← hy]; exact hnx.1.symm⟩ (hr := by first | rfl | rw [runS_0 (by assumption)] | (rw [runS_1 (by assumption)]; simp only [List.length_append, List.map_append, List.length_singleton, List.map_cons, List.map_nil]) | rw [runS_3a (by assumption) (by assumption)] | rw [runS_3b (by assumption) (by assumption)] | rw [runS_5 (by assumption)] | rw [runS_6 (by assumption)] | rw [runS_e o_m])
   ·
    refine s_5 ?_
    refine iff' ?_ ?_ <;> intro c4
    ·
     have hol : (O.length : Int) < 8 := out_rdy (by assumption) hh
     refine vc_join (α := Nat × Value) (fun xx => [(0, (Value.pointer (some ⟨bm, 0, none⟩))), (1, lv), (5, (Value.pointer (some ⟨b1, 0, none⟩))), (6, lv), (7, (.int .i64 ((l.length : Int)))), (8, (Value.int .i64 i)), (9, (.bool (decide (i < ((l.length : Int)))))), (14, (.bool (decide (((st l (i)).dk) = 4)))), (28, (.int .i64 ((st l (i)).dk))), (29, (.bool (decide (((st l (i)).dk) = 0)))), (42, (.bool (decide (((st l (i)).dk) = 1))))]) (fun xx V' σ' => V = V' ∧ [(Arr 156 bm [va, ha, ba, u, hx, xx.2, (.int .i64 (T + ((st l (i)).cost)))]), (Gr 3 1 u F.vs.length ((X.map (Value.int .i64)))), (Gr 3 1 xx.2 ((O.length + 1)) (((O.map (Value.int .i64)) ++ [(.int .i64 (val X (st l i).tm))]))), (Arr 78 b1 [(.int .i64 ((st l (i)).dk)), (.int .i64 ((st l (i)).cost)), (.int .i64 ((st l (i)).var)), (.int .i64 ((st l (i)).n)), (.int .i64 ((st l (i)).tm.op)), (.int .i64 ((st l (i)).tm.n)), (gv kvs (i)), (gv tvs (i)), (gv evs (i)), (gv bvs (i))]), (Arr 3 xx.1 [(.int .i64 (val X (st l i).tm))])] = σ') ?_ ?_
     ·
      refine rE 17 [1,0,1] ?_
      refine eq_ (i := 0) k_r rfl q_a ?_
      refine eq_ (i := 1) k_r rfl q_a ?_
      refine eq_ (i := 2) k_r rfl (qv_nilck rfl) ?_
      refine eq_ (i := 3) k_r rfl q_a ?_
      refine eq_ (i := 5) k_r rfl q_a ?_
      refine eq_ (i := 6) k_r rfl (qv_nilck rfl) ?_
      refine eq_ (i := 7) k_r rfl q_a ?_
      refine eq_ (i := 9) k_r rfl q_a ?_
      refine eq_ (i := 10) k_r rfl q_a ?_
      refine el2 (i := 4) (j := 8) k_r ?_ ?_
      ·
       refine el_o ?_
       refine s_1 ?_
       refine on3 [1,0,1] (Sub.refl _) ?_
       refine el1 (i := 8) k_r ?_
       refine el_o ?_
       refine s_1 ?_
       refine on3 [1,0,1] (Sub.refl _) ?_
       refine eq_ (i := 11) k_r rfl (qv_call_gi (v := (.int .i64 (val X (st l i).tm))) (k := 0) rfl (fun Vo hVo hbo => value_c ((st l i).tm.sz.toNat + 1) _ _ _ _ F.vs false _ ((hK i i1 o_m).mono hVo) hbo hr0.len hr0.inr hct.1 hct.2 (by have := (st l i).tm.sz_pos; omega)) rfl rfl) ?_
       refine el1 (i := 12) k_r ?_
       refine el_o ?_
       refine ops_lit (n := 1) (s := 1) (cs := [(.int .i64 (val X (st l i).tm))]) UL.out TZ.out (l_b rfl) rfl rfl rfl (l_b rfl) rfl (fun b2 => ?_)
       refine on3 [1,0,1] (Sub.refl _) ?_
       refine el1 (i := 13) k_r ?_
       refine el_o ?_
       refine a_po rfl rfl rfl o_c o_m m_x fun v1 hn1 => ?_
       refine on3 [1,0,1] (Sub.refl _) ?_
       refine eq_ (i := 14) k_r rfl (qv_nilck rfl) ?_
       refine eq_ (i := 15) k_r rfl q_a ?_
       refine el1 (i := 16) k_r ?_
       refine el_o ?_
       refine ops_gr1 (k := 2) rfl (fun ho1 => ?_)
       refine s_tp rfl e_vm ho1 ?_
       refine on3 [1,0,1] (Sub.refl _) ?_
       refine enil (σ' := [(Arr 156 bm [va, ha, ba, u, hx, v1, (.int .i64 (T + ((st l (i)).cost)))]), (Gr 3 1 u F.vs.length ((X.map (Value.int .i64)))), (Gr 3 1 v1 ((O.length + 1)) (((O.map (Value.int .i64)) ++ [(.int .i64 (val X (st l i).tm))]))), (Arr 78 b1 [(.int .i64 ((st l (i)).dk)), (.int .i64 ((st l (i)).cost)), (.int .i64 ((st l (i)).var)), (.int .i64 ((st l (i)).n)), (.int .i64 ((st l (i)).tm.op)), (.int .i64 ((st l (i)).tm.n)), (gv kvs (i)), (gv tvs (i)), (gv evs (i)), (gv bvs (i))]), (Arr 3 b2 [(.int .i64 (val X (st l i).tm))])]) k_r (pz [0, 1, 2, 3, 4] rfl k_r) ⟨(b2, v1), ⟨rfl, rfl, rfl, rfl, rfl, rfl, rfl, rfl, rfl, rfl, rfl, trivial⟩, rfl, rfl⟩
      ·
       refine el_o ?_
       refine s_1 ?_
       refine on3 [1,0,1] (Sub.refl _) ?_
       refine eq_ (i := 11) k_r rfl (qv_call_gi (v := (.int .i64 (val X (st l i).tm))) (k := 0) rfl (fun Vo hVo hbo => value_c ((st l i).tm.sz.toNat + 1) _ _ _ _ F.vs false _ ((hK i i1 o_m).mono hVo) hbo hr0.len hr0.inr hct.1 hct.2 (by have := (st l i).tm.sz_pos; omega)) rfl rfl) ?_
       refine el2 (i := 4) (j := 12) k_r ?_ ?_
       ·
        refine el_o ?_
        refine s_1 ?_
        refine on3 [1,0,1] (Sub.refl _) ?_
        refine el1 (i := 12) k_r ?_
        refine el_o ?_
        refine ops_lit (n := 1) (s := 1) (cs := [(.int .i64 (val X (st l i).tm))]) UL.out TZ.out (l_b rfl) rfl rfl rfl (l_b rfl) rfl (fun b3 => ?_)
        refine on3 [1,0,1] (Sub.refl _) ?_
        refine el1 (i := 13) k_r ?_
        refine el_o ?_
        refine a_po rfl rfl rfl o_c o_m m_x fun v2 hn2 => ?_
        refine on3 [1,0,1] (Sub.refl _) ?_
        refine eq_ (i := 14) k_r rfl (qv_nilck rfl) ?_
        refine eq_ (i := 15) k_r rfl q_a ?_
        refine el1 (i := 16) k_r ?_
        refine el_o ?_
        refine ops_gr1 (k := 2) rfl (fun ho2 => ?_)
        refine s_tp rfl e_vm ho2 ?_
        refine on3 [1,0,1] (Sub.refl _) ?_
        refine enil (σ' := [(Arr 156 bm [va, ha, ba, u, hx, v2, (.int .i64 (T + ((st l (i)).cost)))]), (Gr 3 1 u F.vs.length ((X.map (Value.int .i64)))), (Gr 3 1 v2 ((O.length + 1)) (((O.map (Value.int .i64)) ++ [(.int .i64 (val X (st l i).tm))]))), (Arr 78 b1 [(.int .i64 ((st l (i)).dk)), (.int .i64 ((st l (i)).cost)), (.int .i64 ((st l (i)).var)), (.int .i64 ((st l (i)).n)), (.int .i64 ((st l (i)).tm.op)), (.int .i64 ((st l (i)).tm.n)), (gv kvs (i)), (gv tvs (i)), (gv evs (i)), (gv bvs (i))]), (Arr 3 b3 [(.int .i64 (val X (st l i).tm))])]) k_r (pz [0, 1, 2, 3, 4] rfl k_r) ⟨(b3, v2), ⟨rfl, rfl, rfl, rfl, rfl, rfl, rfl, rfl, rfl, rfl, rfl, trivial⟩, rfl, rfl⟩
       ·
        refine el_o ?_
        refine ops_lit (n := 1) (s := 1) (cs := [(.int .i64 (val X (st l i).tm))]) UL.out TZ.out (l_b rfl) rfl rfl rfl (l_b rfl) rfl (fun b4 => ?_)
        refine on3 [1,0,1] (Sub.refl _) ?_
        refine el1 (i := 4) k_r ?_
        refine el_o ?_
        refine s_1 ?_
        refine on3 [1,0,1] (Sub.refl _) ?_
        refine el1 (i := 13) k_r ?_
        refine el_o ?_
        refine a_po rfl rfl rfl o_c o_m m_x fun v3 hn3 => ?_
        refine on3 [1,0,1] (Sub.refl _) ?_
        refine eq_ (i := 14) k_r rfl (qv_nilck rfl) ?_
        refine eq_ (i := 15) k_r rfl q_a ?_
        refine el1 (i := 16) k_r ?_
        refine el_o ?_
        refine ops_gr1 (k := 2) rfl (fun ho3 => ?_)
        refine s_tp rfl e_vm ho3 ?_
        refine on3 [1,0,1] (Sub.refl _) ?_
        refine enil (σ' := [(Arr 156 bm [va, ha, ba, u, hx, v3, (.int .i64 (T + ((st l (i)).cost)))]), (Gr 3 1 u F.vs.length ((X.map (Value.int .i64)))), (Gr 3 1 v3 ((O.length + 1)) (((O.map (Value.int .i64)) ++ [(.int .i64 (val X (st l i).tm))]))), (Arr 78 b1 [(.int .i64 ((st l (i)).dk)), (.int .i64 ((st l (i)).cost)), (.int .i64 ((st l (i)).var)), (.int .i64 ((st l (i)).n)), (.int .i64 ((st l (i)).tm.op)), (.int .i64 ((st l (i)).tm.n)), (gv kvs (i)), (gv tvs (i)), (gv evs (i)), (gv bvs (i))]), (Arr 3 b4 [(.int .i64 (val X (st l i).tm))])]) k_r (pz [0, 1, 2, 3, 4] rfl k_r) ⟨(b4, v3), ⟨rfl, rfl, rfl, rfl, rfl, rfl, rfl, rfl, rfl, rfl, rfl, trivial⟩, rfl, rfl⟩
     rintro ⟨z56, zg57⟩ e2 Vj1 σj1 hJ1
     obtain ⟨rfl, rfl⟩ : V = Vj1 ∧ [(Arr 156 bm [va, ha, ba, u, hx, zg57, (.int .i64 (T + ((st l (i)).cost)))]), (Gr 3 1 u F.vs.length ((X.map (Value.int .i64)))), (Gr 3 1 zg57 ((O.length + 1)) (((O.map (Value.int .i64)) ++ [(.int .i64 (val X (st l i).tm))]))), (Arr 78 b1 [(.int .i64 ((st l (i)).dk)), (.int .i64 ((st l (i)).cost)), (.int .i64 ((st l (i)).var)), (.int .i64 ((st l (i)).n)), (.int .i64 ((st l (i)).tm.op)), (.int .i64 ((st l (i)).tm.n)), (gv kvs (i)), (gv tvs (i)), (gv evs (i)), (gv bvs (i))]), (Arr 3 z56 [(.int .i64 (val X (st l i).tm))])] = σj1 := hJ1
     change VC _ _ _ _ _ _ (upds 105 [(0, (Value.pointer (some ⟨bm, 0, none⟩))), (1, lv), (5, (Value.pointer (some ⟨b1, 0, none⟩))), (6, lv), (7, (.int .i64 ((l.length : Int)))), (8, (Value.int .i64 i)), (9, (.bool (decide (i < ((l.length : Int)))))), (14, (.bool (decide (((st l (i)).dk) = 4)))), (28, (.int .i64 ((st l (i)).dk))), (29, (.bool (decide (((st l (i)).dk) = 0)))), (42, (.bool (decide (((st l (i)).dk) = 1))))] e2) _ _
     refine v_d 4 ?_
     refine v_d 3 ?_
     refine s_4 ?_
     exact le5 (i + 1) ((runS F H (st l i) ⟨X, O, T⟩).vals) ((runS F H (st l i) ⟨X, O, T⟩).outs) ((runS F H (st l i) ⟨X, O, T⟩).time) zg57 ⟨(c_i o_m), trivial⟩ ⟨by omega, by omega, hnx.2, by rw [← hy]; exact hnx.1.symm⟩ (hr := by first | rfl | rw [runS_0 (by assumption)] | (rw [runS_1 (by assumption)]; simp only [List.length_append, List.map_append, List.length_singleton, List.map_cons, List.map_nil]) | rw [runS_3a (by assumption) (by assumption)] | rw [runS_3b (by assumption) (by assumption)] | rw [runS_5 (by assumption)] | rw [runS_6 (by assumption)] | rw [runS_e o_m])
    ·
     refine s_5 ?_
     refine iff' ?_ ?_ <;> intro c5
     ·
      refine s_3 ?_
      refine qq (qv_nilck rfl) ?_
      refine s_4 ?_
      refine qq (qv_call_gi (v := (.int .i64 (val X (st l i).tm))) (k := 1) rfl (fun Vo hVo hbo => value_c ((st l i).tm.sz.toNat + 1) _ _ _ _ F.vs false _ ((hK i i1 o_m).mono hVo) hbo hr0.len hr0.inr hct.1 hct.2 (by have := (st l i).tm.sz_pos; omega)) rfl rfl) ?_
      refine s_2 ?_
      refine iff' ?_ ?_ <;> intro c6
      ·
       refine s_4 ?_
       refine c_l [0,0,0] (IH _ _ _ _ _ _ _ _ _ _ _ _ _ _ _ False hF hVa hH0 hHl (hth i i1 o_m) (StOk_eq.1 hok).2.1 (if_rdy hok (by assumption) hh).1 o_m) rfl rfl fun r3 V3 sg3 hV3 hp3 => ?_
       obtain ⟨rfl, rfl, w3_0, rfl⟩ := hp3
       refine s_1 ?_
       refine v_d 3 ?_
       refine s_4 ?_
       exact le5 (i + 1) ((runS F H (st l i) ⟨X, O, T⟩).vals) ((runS F H (st l i) ⟨X, O, T⟩).outs) ((runS F H (st l i) ⟨X, O, T⟩).time) w3_0 ⟨(c_i o_m), trivial⟩ ⟨by omega, by omega, hnx.2, by rw [← hy]; exact hnx.1.symm⟩ (hr := by first | rfl | rw [runS_0 (by assumption)] | (rw [runS_1 (by assumption)]; simp only [List.length_append, List.map_append, List.length_singleton, List.map_cons, List.map_nil]) | rw [runS_3a (by assumption) (by assumption)] | rw [runS_3b (by assumption) (by assumption)] | rw [runS_5 (by assumption)] | rw [runS_6 (by assumption)] | rw [runS_e o_m])
      ·
       refine s_4 ?_
       refine c_l [0,0,0] (IH _ _ _ _ _ _ _ _ _ _ _ _ _ _ _ False hF hVa hH0 hHl (hel i i1 o_m) (StOk_eq.1 hok).2.2 (if_rdy hok (by assumption) hh).2 o_m) rfl rfl fun r4 V4 sg4 hV4 hp4 => ?_
       obtain ⟨rfl, rfl, w3_0, rfl⟩ := hp4
       refine s_1 ?_
       refine v_d 3 ?_
       refine s_4 ?_
       exact le5 (i + 1) ((runS F H (st l i) ⟨X, O, T⟩).vals) ((runS F H (st l i) ⟨X, O, T⟩).outs) ((runS F H (st l i) ⟨X, O, T⟩).time) w3_0 ⟨(c_i o_m), trivial⟩ ⟨by omega, by omega, hnx.2, by rw [← hy]; exact hnx.1.symm⟩ (hr := by first | rfl | rw [runS_0 (by assumption)] | (rw [runS_1 (by assumption)]; simp only [List.length_append, List.map_append, List.length_singleton, List.map_cons, List.map_nil]) | rw [runS_3a (by assumption) (by assumption)] | rw [runS_3b (by assumption) (by assumption)] | rw [runS_5 (by assumption)] | rw [runS_6 (by assumption)] | rw [runS_e o_m])
     ·
      refine s_5 ?_
      refine iff' ?_ ?_ <;> intro c7
      ·
       have hsh := (shp_5 (by assumption)).1 hok1.shp
       have hs1 := hsh.1.1.1.2
       have hs2 := hsh.1.1.2
       refine rom [qt 0,qt 1,qt 2,qt 3,qt 4,qt 5,qt 7,qt 8,ld 6,qt 9,qt 10,ld 11] [1,1] ?_
       refine s_4 ?_
       refine rq rfl (qv_nilck rfl) ?_
       refine s_3 ?_
       refine rl_q ?_
       refine s_1 ?_
       refine on2 [1,1] (Sub.refl _) ?_
       refine rq rfl (qv_iai UL.out SZ.out e_vm (inVi hH0) rfl o_m o_m) ?_
       refine rq rfl (qv_ldi PL.out rfl (inVi hH0) o_m o_m) ?_
       refine rl_q ?_
       refine c_l [0,0] (set_c (X := X) hF hh.len hsh.1.1.1.1.2.1.1 hsh.1.1.1.1.2.1.2) rfl rfl fun r5 V5 sg5 hV5 hp5 => ?_
       obtain ⟨rfl, rfl, rfl⟩ := hp5
       refine on2 [1,1] hV5 ?_
       refine s_1 ?_
       refine v_d 3 ?_
       refine s_4 ?_
       exact le5 (i + 1) ((runS F H (st l i) ⟨X, O, T⟩).vals) ((runS F H (st l i) ⟨X, O, T⟩).outs) ((runS F H (st l i) ⟨X, O, T⟩).time) w ⟨(c_i o_m), trivial⟩ ⟨by omega, by omega, hnx.2, by rw [← hy]; exact hnx.1.symm⟩ (hr := by first | rfl | rw [runS_0 (by assumption)] | (rw [runS_1 (by assumption)]; simp only [List.length_append, List.map_append, List.length_singleton, List.map_cons, List.map_nil]) | rw [runS_3a (by assumption) (by assumption)] | rw [runS_3b (by assumption) (by assumption)] | rw [runS_5 (by assumption)] | rw [runS_6 (by assumption)] | rw [runS_e o_m])
      ·
       refine s_5 ?_
       refine iff' ?_ ?_ <;> intro c8
       ·
        refine rom [qt 0,qt 1,qt 2,qt 3,qt 4,qt 5,ld 6,qt 7,qt 8,qt 9,ld 10] [1] ?_
        refine s_4 ?_
        refine rq rfl (qv_nilck rfl) ?_
        refine s_1 ?_
        refine rl_q ?_
        refine s_1 ?_
        refine on2 [1] (Sub.refl _) ?_
        refine rq rfl (f_c (Settled_c (hbv i i1 o_m)) rfl rfl) ?_
        refine rq rfl (qv_nilck rfl) ?_
        refine s_1 ?_
        refine rl_q ?_
        refine s_1 ?_
        refine on2 [1] (Sub.refl _) ?_
        refine s_1 ?_
        refine v_d 3 ?_
        refine s_4 ?_
        exact le5 (i + 1) ((runS F H (st l i) ⟨X, O, T⟩).vals) ((runS F H (st l i) ⟨X, O, T⟩).outs) ((runS F H (st l i) ⟨X, O, T⟩).time) w ⟨(c_i o_m), trivial⟩ ⟨by omega, by omega, hnx.2, by rw [← hy]; exact hnx.1.symm⟩ (hr := by first | rfl | rw [runS_0 (by assumption)] | (rw [runS_1 (by assumption)]; simp only [List.length_append, List.map_append, List.length_singleton, List.map_cons, List.map_nil]) | rw [runS_3a (by assumption) (by assumption)] | rw [runS_3b (by assumption) (by assumption)] | rw [runS_5 (by assumption)] | rw [runS_6 (by assumption)] | rw [runS_e o_m])
       ·
        refine s_1 ?_
        refine v_d 3 ?_
        refine s_4 ?_
        exact le5 (i + 1) ((runS F H (st l i) ⟨X, O, T⟩).vals) ((runS F H (st l i) ⟨X, O, T⟩).outs) ((runS F H (st l i) ⟨X, O, T⟩).time) w ⟨(c_i o_m), trivial⟩ ⟨by omega, by omega, hnx.2, by rw [← hy]; exact hnx.1.symm⟩ (hr := by first | rfl | rw [runS_0 (by assumption)] | (rw [runS_1 (by assumption)]; simp only [List.length_append, List.map_append, List.length_singleton, List.map_cons, List.map_nil]) | rw [runS_3a (by assumption) (by assumption)] | rw [runS_3b (by assumption) (by assumption)] | rw [runS_5 (by assumption)] | rw [runS_6 (by assumption)] | rw [runS_e o_m])
 ·
  refine s_2 ?_
  refine ret0 ?_
  exact ⟨rfl, rfl, w, by rw [hY, ← hy, run_end o_m]⟩

theorem run_c : ∀ k, RUC k
  | 0 => fun _ _ _ _ _ _ _ _ _ _ _ _ _ l _ _ _ _ _ _ _ _ _ h => absurd h (by have := nds_nn l; omega)
  | k + 1 => fun V F va ha ba hx u w H X O T bm l lv top hF hVa hH0 hHl hL hO hr hk => run_step (run_c k) hF hVa hH0 hHl hL hO hr hk
end Go.Proofs.YtbchkopkgpfkgaaGreatDoor
