import Derived.Test.YtbchkopkgpfkgaaGreatDoorTi
import Derived.Test.YtbchkopkgpfkgaaGreatDoorWp
import Derived.Test.YtbchkopkgpfkgaaGreatDoorTy
import Derived.Test.YtbchkopkgpfkgaaGreatDoorWb
/- Walks of the top laws: what each function returns. Printed by a program out of notes. -/
namespace Go.Proofs.YtbchkopkgpfkgaaGreatDoor
open Go.Vc
open Classical

set_option maxRecDepth 100000 in
set_option maxHeartbeats 4000000 in
theorem over_c {V : HV} {bm : Nat} {n : Int} {q : Prop} [iq : Decidable q] (hbm : Cells V bm [.int .i64 n, .bool (decide q)]) :
    FnC Tryz.prog 84 [(Value.pointer (some ⟨bm, 0, none⟩))] V [] (fun v _ _ => v = (.bool (decide (q ∨ 1024 < n)))) := by
 refine f_i Tryz.func84 ?_
 intro w0 D
 refine s_5 ?_
 refine j_n [] [(2, (.bool (decide ((q) ∨ (1024 < n)))))] ?_ (fun e1 => ?_)
 ·
  refine s_2 ?_
  refine oq (qv_nilck rfl) ?_
  refine s_3 ?_
  by_cases g1 : q
  ·
   refine s_8 ?_
   exact j_e ⟨(jt (.inl g1)), trivial⟩
  ·
   refine s_1 ?_
   refine og (qv_nilck rfl) w_a ?_
   refine s_6 ?_
   exact j_e ⟨(jb (jo g1 Iff.rfl)), trivial⟩
 refine s_1 ?_
 exact rt1 (jb (by exact Iff.rfl))

/-- What the function does, for arguments of a size below k. -/
def TMC (k : Nat) : Prop := ∀ (V : HV) (t : Tm) (ks : Value) (d n : Int) (bm : Nat) (q : Prop) (iq : Decidable q), ¬ q → Tms V ks t.kids → 0 ≤ d → d + t.dp ≤ 13 → 0 ≤ n → n + t.sz ≤ 1024 → t.sz < k → FnC Tryz.prog 85 [.pointer (some ⟨bm, 0, none⟩), .agg #[.int .i64 t.op, .int .i64 t.n, ks], .int .i64 d] V [Arr 141 bm [.int .i64 n, .bool (@decide q iq)]] (fun v V' σ' => V' = V ∧ v = .tuple #[] ∧ σ' = [Arr 141 bm [.int .i64 (n + t.sz), .bool false]])

set_option maxRecDepth 100000 in
set_option maxHeartbeats 4000000 in
theorem termM_step {V : HV} {t : Tm} {ks : Value} {d n : Int} {bm : Nat} {k : Nat} (IH : TMC k) {q : Prop} [iq : Decidable q] (hq : ¬ q) (hT : Tms V ks t.kids) (hd : 0 ≤ d) (hd2 : d + t.dp ≤ 13) (hn : 0 ≤ n) (hn2 : n + t.sz ≤ 1024) (hk : t.sz < (k + 1 : Nat)) :
    FnC Tryz.prog 85 [(Value.pointer (some ⟨bm, 0, none⟩)), (.agg #[(.int .i64 t.op), (.int .i64 t.n), ks]), (Value.int .i64 d)] V [(Arr 141 bm [(Value.int .i64 n), (.bool (decide (q)))])] (fun v V' σ' => V' = V ∧ v = .tuple #[] ∧ σ' = [Arr 141 bm [.int .i64 (n + t.sz), .bool false]]) := by
 refine FnC.drop ?_
 refine f_i Tryz.func85 ?_
 intro w0 D
 obtain ⟨kvs, hS, hK⟩ := hT
 have hb := SlS.bound hS
 have hsk := sz_kids t
 have hdk := dp_kids t
 have hdn := dpL_nn t.kids
 have hzn := szL_nn t.kids
 refine s_2 ?_
 refine b_ox fun b1 => ?_
 refine s_4 ?_
 refine oq (qv_nilck rfl) ?_
 refine s_3 ?_
 refine oq (qv_nilck rfl) ?_
 refine s_7 ?_
 refine oq (qv_nilck rfl) ?_
 refine s_3 ?_
 by_cases g1 : q
 ·
  exact absurd (by assumption) hq
 ·
  refine s_3 ?_
  refine oq (qv_nilck rfl) ?_
  refine s_7 ?_
  refine oq (qv_call_own (v := (.bool (decide (12 < d ∨ 1024 < n + 1)))) (k := 0) (b := bm) rfl (fun Vo hVo hbo => over_c ⟨_, _, hbo⟩) rfl rfl) ?_
  refine s_1 ?_
  refine iff' ?_ ?_ <;> intro c1
  ·
   omega
  ·
   refine s_5 ?_
   refine oq (qv_lenSS UL.out rfl hS) ?_
   refine s_3 ?_
   refine lp1 [0,1,2,4,27,29,30] (fun (i : Int) => [(31, (Value.int .i64 i))]) (fun i => [(Arr 141 bm [(.int .i64 (n + 1 + szL (t.kids.take i.toNat))), (Value.bool false)]), (Arr 76 b1 [(.int .i64 t.op), (.int .i64 t.n), ks])]) (fun i => 0 ≤ i ∧ i ≤ t.kids.length) (fun i => (t.kids.length - i).toNat) 0 ?_ ?_ ?_ ?_ 
   · exact ⟨rfl, trivial⟩
   · (rw [decide_eq_false o_m, show n + 1 + szL (t.kids.take (Int.toNat 0)) = n + 1 from Int.add_zero _])
   · exact ⟨by omega, by omega⟩
   rintro i e1 ⟨i1, i2⟩
   refine s_5 ?_
   refine iff' ?_ ?_ <;> intro c2
   ·
    refine s_4 ?_
    have hsz := szL_at (l := t.kids) i1 o_m
    have hsn := szL_nn (t.kids.take i.toNat)
    have hdi := dpL_at' (l := t.kids) i1 o_m
    have htp := (tm t.kids i).sz_pos
    refine s_1 ?_
    refine oq (qv_ias UL.out SZ.out e_vm hS rfl o_m o_m) ?_
    refine oq (qv_lds AG.out rfl hS o_m o_m (tmcs_at o_m o_m)) ?_
    refine a_lo fun b2 => ?_
    refine s_tw rfl rfl (allc rfl (allc rfl (allc (Tms.one (hK (i) o_m o_m)) rfl))) ?_
    refine s_6 ?_
    refine c_l [0] (IH _ _ _ _ _ _ _ _ (fun z => z) (hK i i1 o_m) o_m o_m o_m o_m o_m) rfl rfl fun r1 V1 sg1 hV1 hp1 => ?_
    obtain ⟨rfl, rfl, rfl⟩ := hp1
    refine s_1 ?_
    refine v_d 2 ?_
    refine s_4 ?_
    exact le1 (i + 1) ⟨(c_i o_m), trivial⟩ ⟨by omega, by omega⟩ (hr := by rw [show (i + 1).toNat = i.toNat + 1 by omega, szL_take i1 o_m, ← Int.add_assoc])
   ·
    refine s_2 ?_
    refine ret0 ?_
    rw [List.take_of_length_le o_m, show n + 1 + szL t.kids = n + t.sz by omega]
    exact ⟨_, _, perm_keep 1, rfl, rfl, rfl⟩

theorem termM_c : ∀ k, TMC k
  | 0 => fun _ t _ _ _ _ _ _ _ _ _ _ _ _ h => absurd h (by have := t.sz_pos; omega)
  | k + 1 => fun V t ks d n bm q iq hq hT h1 h2 h3 h4 hk => termM_step (iq := iq) (termM_c k) hq hT h1 h2 h3 h4 hk
/-- What the function does, for arguments of a size below k. -/
def SMC (k : Nat) : Prop := ∀ (V : HV) (l : List St) (lv : Value) (d n : Int) (bm : Nat) (q : Prop) (iq : Decidable q), ¬ q → Sts V lv l → tds l → 0 ≤ d → d + sdp l ≤ 13 → 0 ≤ n → n + nds l ≤ 1024 → nds l < k → FnC Tryz.prog 83 [.pointer (some ⟨bm, 0, none⟩), lv, .int .i64 d] V [Arr 141 bm [.int .i64 n, .bool (@decide q iq)]] (fun v V' σ' => V' = V ∧ v = .tuple #[] ∧ σ' = [Arr 141 bm [.int .i64 (n + nds l), .bool false]])

set_option maxRecDepth 100000 in
set_option maxHeartbeats 4000000 in
theorem stepsM_step {V : HV} {l : List St} {lv : Value} {d n : Int} {bm : Nat} {k : Nat} (IH : SMC k) {q : Prop} [iq : Decidable q] (hq : ¬ q) (hL : Sts V lv l) (htd : tds l) (hd : 0 ≤ d) (hd2 : d + sdp l ≤ 13) (hn : 0 ≤ n) (hn2 : n + nds l ≤ 1024) (hk : nds l < (k + 1 : Nat)) :
    FnC Tryz.prog 83 [(Value.pointer (some ⟨bm, 0, none⟩)), lv, (Value.int .i64 d)] V [(Arr 141 bm [(Value.int .i64 n), (.bool (decide (q)))])] (fun v V' σ' => V' = V ∧ v = .tuple #[] ∧ σ' = [Arr 141 bm [.int .i64 (n + nds l), .bool false]]) := by
 refine FnC.drop ?_
 refine f_i Tryz.func83 ?_
 intro w0 D
 obtain ⟨kvs, tvs, evs, bvs, hS, hK, hth, hel, hbv⟩ := hL
 have hb := SlS.bound hS
 refine s_3 ?_
 refine oq (qv_lenSS UL.out rfl hS) ?_
 refine s_3 ?_
 refine lp1 [0,1,2,8,9] (fun (i : Int) => [(10, (Value.int .i64 i))]) (fun i => [(Arr 141 bm [(.int .i64 (n + nds (l.take i.toNat))), (Value.bool false)])]) (fun i => 0 ≤ i ∧ i ≤ l.length) (fun i => (l.length - i).toNat) 0 ?_ ?_ ?_ ?_ 
 · exact ⟨rfl, trivial⟩
 · (rw [decide_eq_false hq, show n + nds (l.take (Int.toNat 0)) = n from Int.add_zero _])
 · exact ⟨by omega, by omega⟩
 rintro i e1 ⟨i1, i2⟩
 refine s_5 ?_
 refine iff' ?_ ?_ <;> intro c1
 ·
  refine s_4 ?_
  have hsz := nds_at (l := l) i1 o_m
  have hse := nd_eq (st l i)
  have hsp := (st l i).tm.sz_pos
  have hsn := nds_nn (l.take i.toNat)
  have hs1 := nds_nn (st l i).thn
  have hs2 := nds_nn (st l i).els
  have hdi := sdp_at (l := l) i1 o_m
  have hsd := sd_eq (st l i)
  have hmm : sdp (st l i).thn ≤ mxI (sdp (st l i).thn) (sdp (st l i).els) ∧ sdp (st l i).els ≤ mxI (sdp (st l i).thn) (sdp (st l i).els) := by unfold mxI; split <;> omega
  have hd1 := sdp_nn (st l i).thn
  have htt := (td_eq _).1 (tds_iff.1 htd i i1 o_m)
  refine s_1 ?_
  refine oq (qv_ias UL.out SZ.out e_vm hS rfl o_m o_m) ?_
  refine oq (qv_lds AG.out rfl hS o_m o_m (stcs_at o_m o_m)) ?_
  refine a_lo fun b1 => ?_
  refine s_tw rfl rfl (allc rfl (allc rfl (allc rfl (allc rfl (allc rfl (allc rfl (allc (Tms.one (hK (i) o_m o_m)) (allc (Sts.one (hth (i) o_m o_m)) (allc (Sts.one (hel (i) o_m o_m)) (allc (Sl.one (hbv (i) o_m o_m)) rfl)))))))))) ?_
  refine s_4 ?_
  refine oq (qv_nilck rfl) ?_
  refine s_3 ?_
  refine oq (qv_nilck rfl) ?_
  refine s_7 ?_
  refine oq (qv_nilck rfl) ?_
  refine s_6 ?_
  refine oq (qv_nilck rfl) ?_
  refine s_7 ?_
  refine oq (qv_call_own (v := (.bool (decide (12 < d ∨ 1024 < n + nds (l.take i.toNat) + 1)))) (k := 0) (b := bm) rfl (fun Vo hVo hbo => over_c ⟨_, _, hbo⟩) rfl rfl) ?_
  refine s_1 ?_
  refine iff' ?_ ?_ <;> intro c2
  ·
   omega
  ·
   refine s_6 ?_
   refine c_l [0] (termM_c ((st l i).tm.sz.toNat + 1) _ _ _ _ _ _ _ _ o_m (hK i i1 o_m) o_m o_m o_m o_m o_m) rfl rfl fun r1 V1 sg1 hV1 hp1 => ?_
   obtain ⟨rfl, rfl, rfl⟩ := hp1
   refine s_8 ?_
   refine c_l [0] (IH _ _ _ _ _ _ _ _ (fun z => z) (hth i i1 o_m) htt.2.1 o_m o_m o_m o_m o_m) rfl rfl fun r2 V2 sg2 hV2 hp2 => ?_
   obtain ⟨rfl, rfl, rfl⟩ := hp2
   refine s_7 ?_
   refine c_l [0] (IH _ _ _ _ _ _ _ _ (fun z => z) (hel i i1 o_m) htt.2.2 o_m o_m o_m o_m o_m) rfl rfl fun r3 V3 sg3 hV3 hp3 => ?_
   obtain ⟨rfl, rfl, rfl⟩ := hp3
   refine s_1 ?_
   refine v_d 1 ?_
   refine s_4 ?_
   exact le1 (i + 1) ⟨(c_i o_m), trivial⟩ ⟨by omega, by omega⟩ (hr := by rw [show (i + 1).toNat = i.toNat + 1 by omega, nds_take i1 o_m, nd_eq]; simp only [← Int.add_assoc])
 ·
  refine s_2 ?_
  refine ret0 ?_
  rw [List.take_of_length_le o_m]
  exact ⟨_, _, perm_keep 1, rfl, rfl, rfl⟩

theorem stepsM_c : ∀ k, SMC k
  | 0 => fun _ l _ _ _ _ _ _ _ _ _ _ _ _ _ h => absurd h (by have := nds_nn l; omega)
  | k + 1 => fun V l lv d n bm q iq hq hL ht h1 h2 h3 h4 hk => stepsM_step (iq := iq) (stepsM_c k) hq hL ht h1 h2 h3 h4 hk
end Go.Proofs.YtbchkopkgpfkgaaGreatDoor
