/- Ga. -/
import Derived.Test.YtbchkopkgpfkgaaGreatDoorTi
import Derived.Test.YtbchkopkgpfkgaaGreatDoorWp
import Derived.Test.YtbchkopkgpfkgaaGreatDoorTy
import Derived.Test.YtbchkopkgpfkgaaGreatDoorWb
namespace Go.Proofs.YtbchkopkgpfkgaaGreatDoor
open Go.Vc
open Classical

set_option maxRecDepth 100000 in
set_option maxHeartbeats 4000000 in
theorem over_c {V : HV} {bm : Nat} {n : Int} {q : Prop} [iq : Decidable q] (hbm : Cells V bm [.int .i64 n, .bool (decide q)]) :
    FnC Tryz.prog 84 [(Value.pointer (some ⟨bm, 0, none⟩))] V [] (fun v _ _ => v = (.bool (decide (q ∨ 1024 < n)))) := by
 refine f_i Tryz.func84 ?_
 intro w0 D
 refine s_5 ?_
 refine j_n [] [(2, (.bool (decide ((q) ∨ (1024 < n)))))] ?_ (fun e1 => ?_)
 ·
  refine s_2 ?_
  refine oq (qv_nilck rfl) ?_
  refine s_3 ?_
  by_cases g1 : q
  ·
   refine s_8 ?_
   exact j_e ⟨(jt (.inl g1)), trivial⟩
  ·
   refine s_1 ?_
   refine og (qv_nilck rfl) w_a ?_
   refine s_6 ?_
   exact j_e ⟨(jb (jo g1 Iff.rfl)), trivial⟩
 refine s_1 ?_
 exact rt1 (jb (by exact Iff.rfl))

/-- What the function does, for arguments of a size below k. -/
def TMC (k : Nat) : Prop := ∀ (V : HV) (t : Tm) (ks : Value) (d n : Int) (bm : Nat) (q : Prop) (iq : Decidable q), ¬ q → Tms V ks t.kids → 0 ≤ d → d + t.dp ≤ 13 → 0 ≤ n → n + t.sz ≤ 1024 → t.sz < k → FnC Tryz.prog 85 [.pointer (some ⟨bm, 0, none⟩), .agg #[.int .i64 t.op, .int .i64 t.n, ks], .int .i64 d] V [Arr 141 bm [.int .i64 n, .bool (@decide q iq)]] (fun v V' σ' => V' = V ∧ v = .tuple #[] ∧ σ' = [Arr 141 bm [.int .i64 (n + t.sz), .bool false]])

set_option maxRecDepth 100000 in
set_option maxHeartbeats 4000000 in
theorem termM_step {V : HV} {t : Tm} {ks : Value} {d n : Int} {bm : Nat} {k : Nat} (IH : TMC k) {q : Prop} [iq : Decidable q] (hq : ¬ q) (hT : Tms V ks t.kids) (hd : 0 ≤ d) (hd2 : d + t.dp ≤ 13) (hn : 0 ≤ n) (hn2 : n + t.sz ≤ 1024) (hk : t.sz < (k + 1 : Nat)) :
    FnC Tryz.prog 85 [(Value.pointer (some ⟨bm, 0, none⟩)), (.agg #[(.int .i64 t.op), (.int .i64 t.n), ks]), (Value.int .i64 d)] V [(Arr 141 bm [(Value.int .i64 n), (.bool (decide (q)))])] (fun v V' σ' => V' = V ∧ v = .tuple #[] ∧ σ' = [Arr 141 bm [.int .i64 (n + t.sz), .bool false]]) := by
 refine FnC.drop ?_
 refine f_i Tryz.func85 ?_
 intro w0 D
 obtain ⟨kvs, hS, hK⟩ := hT
 have hb := SlS.bound hS
 have hsk := sz_kids t
 have hdk := dp_kids t
 have hdn := dpL_nn t.kids
 have hzn := szL_nn t.kids
 refine s_2 ?_
 refine b_ox fun b1 => ?_
 refine s_4 ?_
 refine oq (qv_nilck rfl) ?_
 refine s_3 ?_
 refine oq (qv_nilck rfl) ?_
 refine s_7 ?_
 refine oq (qv_nilck rfl) ?_
 refine s_3 ?_
 by_cases g1 : q
 ·
  exact absurd (by assumption) hq
 ·
  refine s_3 ?_
  refine oq (qv_nilck rfl) ?_
  refine s_7 ?_
  refine oq (qv_call_own (v := (.bool (decide (12 < d ∨ 1024 < n + 1)))) (k := 0) (b := bm) rfl (fun Vo hVo hbo => over_c ⟨_, _, hbo⟩) rfl rfl) ?_
  refine s_1 ?_
  refine iff' ?_ ?_ <;> intro c1
  ·
   omega
  ·
   refine s_5 ?_
   refine oq (qv_lenSS UL.out rfl hS) ?_
   refine s_3 ?_
   refine lp1 [0,1,2,4,27,29,30] (fun (i : Int) => [(31, (Value.int .i64 i))]) (fun i => [(Arr 141 bm [(.int .i64 (n + 1 + szL (t.kids.take i.toNat))), (Value.bool false)]), (Arr 76 b1 [(.int .i64 t.op), (.int .i64 t.n), ks])]) (fun i => 0 ≤ i ∧ i ≤ t.kids.length) (fun i => (t.kids.length - i).toNat) 0 ?_ ?_ ?_ ?_ 
   · exact ⟨rfl, trivial⟩
   · (rw [decide_eq_false o_m, show n + 1 + szL (t.kids.take (Int.toNat 0)) = n + 1 from Int.add_zero _])
   · exact ⟨by omega, by omega⟩
   rintro i e1 ⟨i1, i2⟩
   refine s_5 ?_
   refine iff' ?_ ?_ <;> intro c2
   ·
    refine s_4 ?_
    have hsz := szL_at (l := t.kids) i1 o_m
    have hsn := szL_nn (t.kids.take i.toNat)
    have hdi := dpL_at' (l := t.kids) i1 o_m
    have htp := (tm t.kids i).sz_pos
    refine s_1 ?_
    refine oq (qv_ias UL.out SZ.out e_vm hS rfl o_m o_m) ?_
    refine oq (qv_lds AG.out rfl hS o_m o_m (tmcs_at o_m o_m)) ?_
    refine a_lo fun b2 => ?_
    refine s_tw rfl rfl (allc rfl (allc rfl (allc (Tms.one (hK (i) o_m o_m)) rfl))) ?_
    refine s_6 ?_
    refine c_l [0] (IH _ _ _ _ _ _ _ _ (fun z => z) (hK i i1 o_m) o_m o_m o_m o_m o_m) rfl rfl fun r1 V1 sg1 hV1 hp1 => ?_
    obtain ⟨rfl, rfl, rfl⟩ := hp1
    refine s_1 ?_
    refine v_d 2 ?_
    refine s_4 ?_
    exact le1 (i + 1) ⟨(c_i o_m), trivial⟩ ⟨by omega, by omega⟩ (hr := by rw [show (i + 1).toNat = i.toNat + 1 by omega, szL_take i1 o_m, ← Int.add_assoc])
   ·
    refine s_2 ?_
    refine ret0 ?_
    rw [List.take_of_length_le o_m, show n + 1 + szL t.kids = n + t.sz by omega]
    exact ⟨_, _, perm_keep 1, rfl, rfl, rfl⟩

theorem termM_c : ∀ k, TMC k
  | 0 => fun _ t _ _ _ _ _ _ _ _ _ _ _ _ h => absurd h (by have := t.sz_pos; omega)
  | k + 1 => fun V t ks d n bm q iq hq hT h1 h2 h3 h4 hk => termM_step (iq := iq) (termM_c k) hq hT h1 h2 h3 h4 hk
/-- What the function does, for arguments of a size below k. -/
def SMC (k : Nat) : Prop := ∀ (V : HV) (l : List St) (lv : Value) (d n : Int) (bm : Nat) (q : Prop) (iq : Decidable q), ¬ q → Sts V lv l → tds l → 0 ≤ d → d + sdp l ≤ 13 → 0 ≤ n → n + nds l ≤ 1024 → nds l < k → FnC Tryz.prog 83 [.pointer (some ⟨bm, 0, none⟩), lv, .int .i64 d] V [Arr 141 bm [.int .i64 n, .bool (@decide q iq)]] (fun v V' σ' => V' = V ∧ v = .tuple #[] ∧ σ' = [Arr 141 bm [.int .i64 (n + nds l), .bool false]])

set_option maxRecDepth 100000 in
set_option maxHeartbeats 4000000 in
theorem stepsM_step {V : HV} {l : List St} {lv : Value} {d n : Int} {bm : Nat} {k : Nat} (IH : SMC k) {q : Prop} [iq : Decidable q] (hq : ¬ q) (hL : Sts V lv l) (htd : tds l) (hd : 0 ≤ d) (hd2 : d + sdp l ≤ 13) (hn : 0 ≤ n) (hn2 : n + nds l ≤ 1024) (hk : nds l < (k + 1 : Nat)) :
    FnC Tryz.prog 83 [(Value.pointer (some ⟨bm, 0, none⟩)), lv, (Value.int .i64 d)] V [(Arr 141 bm [(Value.int .i64 n), (.bool (decide (q)))])] (fun v V' σ' => V' = V ∧ v = .tuple #[] ∧ σ' = [Arr 141 bm [.int .i64 (n + nds l), .bool false]]) := by
 refine FnC.drop ?_
 refine f_i Tryz.func83 ?_
 intro w0 D
 obtain ⟨kvs, tvs, evs, bvs, hS, hK, hth, hel, hbv⟩ := hL
 have hb := SlS.bound hS
 refine s_3 ?_
 refine oq (qv_lenSS UL.out rfl hS) ?_
 refine s_3 ?_
 refine lp1 [0,1,2,8,9] (fun (i : Int) => [(10, (Value.int .i64 i))]) (fun i => [(Arr 141 bm [(.int .i64 (n + nds (l.take i.toNat))), (Value.bool false)])]) (fun i => 0 ≤ i ∧ i ≤ l.length) (fun i => (l.length - i).toNat) 0 ?_ ?_ ?_ ?_ 
 · exact ⟨rfl, trivial⟩
 · (rw [decide_eq_false hq, show n + nds (l.take (Int.toNat 0)) = n from Int.add_zero _])
 · exact ⟨by omega, by omega⟩
 rintro i e1 ⟨i1, i2⟩
 refine s_5 ?_
 refine iff' ?_ ?_ <;> intro c1
 ·
  refine s_4 ?_
  have hsz := nds_at (l := l) i1 o_m
  have hse := nd_eq (st l i)
  have hsp := (st l i).tm.sz_pos
  have hsn := nds_nn (l.take i.toNat)
  have hs1 := nds_nn (st l i).thn
  have hs2 := nds_nn (st l i).els
  have hdi := sdp_at (l := l) i1 o_m
  have hsd := sd_eq (st l i)
  have hmm : sdp (st l i).thn ≤ mxI (sdp (st l i).thn) (sdp (st l i).els) ∧ sdp (st l i).els ≤ mxI (sdp (st l i).thn) (sdp (st l i).els) := by unfold mxI; split <;> omega
  have hd1 := sdp_nn (st l i).thn
  have htt := (td_eq _).1 (tds_iff.1 htd i i1 o_m)
  refine s_1 ?_
  refine oq (qv_ias UL.out SZ.out e_vm hS rfl o_m o_m) ?_
  refine oq (qv_lds AG.out rfl hS o_m o_m (stcs_at o_m o_m)) ?_
  refine a_lo fun b1 => ?_
  refine s_tw rfl rfl (allc rfl (allc rfl (allc rfl (allc rfl (allc rfl (allc rfl (allc (Tms.one (hK (i) o_m o_m)) (allc (Sts.one (hth (i) o_m o_m)) (allc (Sts.one (hel (i) o_m o_m)) (allc (Sl.one (hbv (i) o_m o_m)) rfl)))))))))) ?_
  refine s_4 ?_
  refine oq (qv_nilck rfl) ?_
  refine s_3 ?_
  refine oq (qv_nilck rfl) ?_
  refine s_7 ?_
  refine oq (qv_nilck rfl) ?_
  refine s_6 ?_
  refine oq (qv_nilck rfl) ?_
  refine s_7 ?_
  refine oq (qv_call_own (v := (.bool (decide (12 < d ∨ 1024 < n + nds (l.take i.toNat) + 1)))) (k := 0) (b := bm) rfl (fun Vo hVo hbo => over_c ⟨_, _, hbo⟩) rfl rfl) ?_
  refine s_1 ?_
  refine iff' ?_ ?_ <;> intro c2
  ·
   omega
  ·
   refine s_6 ?_
   refine c_l [0] (termM_c ((st l i).tm.sz.toNat + 1) _ _ _ _ _ _ _ _ o_m (hK i i1 o_m) o_m o_m o_m o_m o_m) rfl rfl fun r1 V1 sg1 hV1 hp1 => ?_
   obtain ⟨rfl, rfl, rfl⟩ := hp1
   refine s_8 ?_
   refine c_l [0] (IH _ _ _ _ _ _ _ _ (fun z => z) (hth i i1 o_m) htt.2.1 o_m o_m o_m o_m o_m) rfl rfl fun r2 V2 sg2 hV2 hp2 => ?_
   obtain ⟨rfl, rfl, rfl⟩ := hp2
   refine s_7 ?_
   refine c_l [0] (IH _ _ _ _ _ _ _ _ (fun z => z) (hel i i1 o_m) htt.2.2 o_m o_m o_m o_m o_m) rfl rfl fun r3 V3 sg3 hV3 hp3 => ?_
   obtain ⟨rfl, rfl, rfl⟩ := hp3
   refine s_1 ?_
   refine v_d 1 ?_
   refine s_4 ?_
   exact le1 (i + 1) ⟨(c_i o_m), trivial⟩ ⟨by omega, by omega⟩ (hr := by rw [show (i + 1).toNat = i.toNat + 1 by omega, nds_take i1 o_m, nd_eq]; simp only [← Int.add_assoc])
 ·
  refine s_2 ?_
  refine ret0 ?_
  rw [List.take_of_length_le o_m]
  exact ⟨_, _, perm_keep 1, rfl, rfl, rfl⟩

theorem stepsM_c : ∀ k, SMC k
  | 0 => fun _ l _ _ _ _ _ _ _ _ _ _ _ _ _ h => absurd h (by have := nds_nn l; omega)
  | k + 1 => fun V l lv d n bm q iq hq hL ht h1 h2 h3 h4 hk => stepsM_step (iq := iq) (stepsM_c k) hq hL ht h1 h2 h3 h4 hk
end Go.Proofs.YtbchkopkgpfkgaaGreatDoor

namespace Go.Proofs.YtbchkopkgpfkgaaGreatDoor
open Go.Vc
open Classical

set_option maxRecDepth 100000 in
set_option maxHeartbeats 4000000 in
theorem isName_c {V : HV} {s : ByteArray} (hs : s.size ≤ 9223372036854775807) :
    FnC Tryz.prog 137 [(Value.string s)] V [] (fun v _ _ => v = (.bool (decide (NameOk s)))) := by
 refine f_i Tryz.func137 ?_
 intro w0 D
 refine s_6 ?_
 refine j_n [0,2] [(12, (.bool (decide ((s = (⟨#[]⟩ : ByteArray)) ∨ (40 < ((s.size : Int)))))))] ?_ (fun e1 => ?_)
 ·
  refine s_2 ?_
  refine oq (qv_eqstr rfl rfl) ?_
  refine s_1 ?_
  by_cases g1 : s = (⟨#[]⟩ : ByteArray)
  ·
   refine s_5 ?_
   exact j_e ⟨(jt (.inl g1)), trivial⟩
  ·
   refine s_1 ?_
   refine og (qv_lenstr UL.out rfl) w_a ?_
   refine s_3 ?_
   exact j_e ⟨(jb (jo g1 Iff.rfl)), trivial⟩
 refine iff' ?_ ?_ <;> intro c1
 ·
  refine s_5 ?_
  exact rt1 (jf (by exact fun q => q.1 (nm_iff.1 (by assumption))))
 ·
  refine s_5 ?_
  refine oq (qv_lenstr UL.out rfl) ?_
  refine s_3 ?_
  refine lc1 [0,12,14] (fun (i : Int) => [(15, (Value.int .i64 i))]) (fun i => 0 ≤ i ∧ i ≤ s.size ∧ ∀ x : Int, 0 ≤ x → x < i → chOk s x) (fun i => (s.size - i).toNat) 0 ?_ ?_ ?_ 
  · exact ⟨rfl, trivial⟩
  · exact ⟨by omega, by omega, fun x a b => by omega⟩
  rintro i e2 ⟨i1, i2, hno⟩
  refine s_5 ?_
  refine iff' ?_ ?_ <;> intro c2
  ·
   refine s_12 ?_
   refine oq (qv_idxs UL.out rfl rfl o_m o_m) ?_
   refine s_3 ?_
   refine j_n [0,3,4,12,14,15,16] [(5, (.bool (decide ((97 ≤ (sAt s i)) ∧ ((sAt s i) ≤ 122)))))] ?_ (fun e3 => ?_)
   ·
    refine s_4 ?_
    by_cases g2 : 97 ≤ (sAt s i)
    ·
     refine s_5 ?_
     exact j_e ⟨(jb (ja g2 Iff.rfl)), trivial⟩
    ·
     refine s_5 ?_
     exact j_e ⟨(jf (fun z => g2 z.1)), trivial⟩
   refine s_1 ?_
   refine j_n [0,3,4,5,12,14,15,16] [(48, (.bool (decide ((¬ ((97 ≤ (sAt s i)) ∧ ((sAt s i) ≤ 122))) ∧ ((i = 0) ∨ (((((sAt s i) < 48) ∨ (57 < (sAt s i))) ∧ ((sAt s i) ≠ 46)) ∧ ((sAt s i) ≠ 95)))))))] ?_ (fun e4 => ?_)
   ·
    refine s_4 ?_
    by_cases g3 : ¬ ((97 ≤ (sAt s i)) ∧ ((sAt s i) ≤ 122))
    ·
     refine s_3 ?_
     by_cases g4 : i = 0
     ·
      refine s_17 ?_
      exact j_e ⟨(jt ⟨g3, (.inl g4)⟩), trivial⟩
     ·
      refine s_3 ?_
      by_cases g5 : (sAt s i) < 48
      ·
       refine s_8 ?_
       by_cases g6 : (sAt s i) ≠ 46
       ·
        refine s_6 ?_
        exact j_e ⟨(jb (ja g3 (jo g4 (ja ((ja (.inl g5) Iff.rfl).1 g6) Iff.rfl)))), trivial⟩
       ·
        refine s_6 ?_
        exact j_e ⟨(jf (fun z => (fun z => z.elim g4 (fun z => (fun z => g6 ((ja (.inl g5) Iff.rfl).2 z)) z.1)) z.2)), trivial⟩
      ·
       refine s_4 ?_
       by_cases g7 : 57 < (sAt s i)
       ·
        refine s_4 ?_
        by_cases g8 : (sAt s i) ≠ 46
        ·
         refine s_6 ?_
         exact j_e ⟨(jb (ja g3 (jo g4 (ja ((ja ((jo g5 Iff.rfl).1 g7) Iff.rfl).1 g8) Iff.rfl)))), trivial⟩
        ·
         refine s_6 ?_
         exact j_e ⟨(jf (fun z => (fun z => z.elim g4 (fun z => (fun z => g8 ((ja ((jo g5 Iff.rfl).1 g7) Iff.rfl).2 z)) z.1)) z.2)), trivial⟩
       ·
        refine s_10 ?_
        exact j_e ⟨(jf (fun z => (fun z => z.elim g4 (fun z => (fun z => (fun z => g7 ((jo g5 Iff.rfl).2 z)) z.1) z.1)) z.2)), trivial⟩
    ·
     refine s_20 ?_
     exact j_e ⟨(jf (fun z => g3 z.1)), trivial⟩
   refine iff' ?_ ?_ <;> intro c3
   ·
    refine s_7 ?_
    exact rt1 (jf (by intro q; have z := q.2 i i1 o_m; unfold chOk lett othr at z; omega))
   ·
    refine s_5 ?_
    exact le1 (i + 1) ⟨(c_i o_m), trivial⟩ ⟨by omega, by omega, all_snoc hno (by unfold chOk lett othr; omega)⟩
  ·
   refine s_7 ?_
   exact rt1 (jt (by exact ⟨fun q => absurd (nm_iff.2 q) (by assumption), fun x a b => hno x a o_m⟩))

set_option maxRecDepth 100000 in
set_option maxHeartbeats 4000000 in
theorem bounded_c {V : HV} {a b : Int} :
    FnC Tryz.prog 139 [(Value.int .i64 a), (Value.int .i64 b)] V [] (fun v _ _ => v = (.bool (decide (bndP a b)))) := by
 refine f_i Tryz.func139 ?_
 intro w0 D
 refine s_5 ?_
 refine j_n [] [(4, (.bool (decide (((a ≤ b) ∧ (((-1048576)) ≤ a)) ∧ (b ≤ 1048576)))))] ?_ (fun e1 => ?_)
 ·
  refine s_5 ?_
  by_cases g1 : a ≤ b
  ·
   refine s_4 ?_
   by_cases g2 : ((-1048576)) ≤ a
   ·
    refine s_5 ?_
    exact j_e ⟨(jb (ja ((ja g1 Iff.rfl).1 g2) Iff.rfl)), trivial⟩
   ·
    refine s_5 ?_
    exact j_e ⟨(jf (fun z => (fun z => g2 ((ja g1 Iff.rfl).2 z)) z.1)), trivial⟩
  ·
   refine s_9 ?_
   exact j_e ⟨(jf (fun z => (fun z => g1 z.1) z.1)), trivial⟩
 refine s_1 ?_
 exact rt1 (jb (by unfold bndP; omega))

set_option maxRecDepth 100000 in
set_option maxHeartbeats 4000000 in
theorem kidsP_c {V : HV} {o : Int} :
    FnC Tryz.prog 196 [(Value.int .i64 o)] V [] (fun v _ _ => v = .tuple #[(.int .i64 (kdl o)), (.int .i64 (kdh o))]) := by
 refine f_i Tryz.func196 ?_
 intro w0 D
 refine s_8 ?_
 refine j_n [0,2,3] [(4, (.bool (decide ((o = 0) ∨ (o = 24)))))] ?_ (fun e1 => ?_)
 ·
  refine s_4 ?_
  by_cases g1 : o = 0
  ·
   refine s_5 ?_
   exact j_e ⟨(jt (.inl g1)), trivial⟩
  ·
   refine s_5 ?_
   exact j_e ⟨(jb (jo g1 Iff.rfl)), trivial⟩
 refine iff' ?_ ?_ <;> intro c1
 ·
  refine s_7 ?_
  exact rt2 (c_i (by (first | unfold kdl knR | unfold kdh knR); (repeat' split) <;> omega)) (c_i (by (first | unfold kdl knR | unfold kdh knR); (repeat' split) <;> omega))
 ·
  refine s_1 ?_
  refine j_n [0,2,3,4] [(11, (.bool (decide ((o = 6) ∨ (o = 7)))))] ?_ (fun e2 => ?_)
  ·
   refine s_4 ?_
   by_cases g2 : o = 6
   ·
    refine s_5 ?_
    exact j_e ⟨(jt (.inl g2)), trivial⟩
   ·
    refine s_5 ?_
    exact j_e ⟨(jb (jo g2 Iff.rfl)), trivial⟩
  refine iff' ?_ ?_ <;> intro c2
  ·
   refine s_7 ?_
   exact rt2 (c_i (by (first | unfold kdl knR | unfold kdh knR); (repeat' split) <;> omega)) (c_i (by (first | unfold kdl knR | unfold kdh knR); (repeat' split) <;> omega))
  ·
   refine s_1 ?_
   refine j_n [0,2,3,4,11] [(18, (.bool (decide ((8 ≤ o) ∧ (o ≤ 22)))))] ?_ (fun e3 => ?_)
   ·
    refine s_4 ?_
    by_cases g3 : 8 ≤ o
    ·
     refine s_5 ?_
     exact j_e ⟨(jb (ja g3 Iff.rfl)), trivial⟩
    ·
     refine s_5 ?_
     exact j_e ⟨(jf (fun z => g3 z.1)), trivial⟩
   refine iff' ?_ ?_ <;> intro c3
   ·
    refine s_7 ?_
    exact rt2 (c_i (by (first | unfold kdl knR | unfold kdh knR); (repeat' split) <;> omega)) (c_i (by (first | unfold kdl knR | unfold kdh knR); (repeat' split) <;> omega))
   ·
    refine s_6 ?_
    refine iff' ?_ ?_ <;> intro c4
    ·
     refine s_7 ?_
     exact rt2 (c_i (by (first | unfold kdl knR | unfold kdh knR); (repeat' split) <;> omega)) (c_i (by (first | unfold kdl knR | unfold kdh knR); (repeat' split) <;> omega))
    ·
     refine s_6 ?_
     refine iff' ?_ ?_ <;> intro c5
     ·
      refine s_7 ?_
      exact rt2 (c_i (by (first | unfold kdl knR | unfold kdh knR); (repeat' split) <;> omega)) (c_i (by (first | unfold kdl knR | unfold kdh knR); (repeat' split) <;> omega))
     ·
      refine s_7 ?_
      exact rt2 (c_i (by (first | unfold kdl knR | unfold kdh knR); (repeat' split) <;> omega)) (c_i (by (first | unfold kdl knR | unfold kdh knR); (repeat' split) <;> omega))

/-- What the function does, for arguments of a size below k. -/
def FPC (k : Nat) : Prop := ∀ (V : HV) (t : Tm) (ks va : Value) (vs : List Vr) (inp : Bool), Tms V ks t.kids → Vrs V va vs → fmd vs inp t → t.sz < k → FnC Tryz.prog 176 [va, .agg #[.int .i64 t.op, .int .i64 t.n, ks], .bool (decide (inp = true))] V [] (fun v _ _ => v = .bool true)

set_option maxRecDepth 100000 in
set_option maxHeartbeats 4000000 in
theorem formedP_step {V : HV} {t : Tm} {ks : Value} {va : Value} {vs : List Vr} {inp : Bool} {k : Nat} (IH : FPC k) (hT : Tms V ks t.kids) (hv : Vrs V va vs) (hf : fmd vs inp t) (hk : t.sz < (k + 1 : Nat)) :
    FnC Tryz.prog 176 [va, (.agg #[(.int .i64 t.op), (.int .i64 t.n), ks]), (.bool (decide (inp = true)))] V [] (fun v _ _ => v = (Value.bool true)) := by
 refine f_i Tryz.func176 ?_
 intro w0 D
 obtain ⟨kvs, hS, hK⟩ := hT
 have hb := SlS.bound hS
 have hb2 := SlS.bound hv
 have hsk := sz_kids t
 have hff := (fmd_eq t).1 hf
 have hfk := fmdL_iff.1 hff.2.2
 have hkl := kd_ok hff.1
 refine s_2 ?_
 refine b_ox fun b1 => ?_
 refine s_6 ?_
 refine oq (f_c (kidsP_c) rfl rfl) ?_
 refine s_12 ?_
 by_cases g1 : (kdl t.op) < 0
 ·
  omega
 ·
  refine s_2 ?_
  refine og (qv_lenSS UL.out rfl hS) w_a ?_
  refine s_4 ?_
  by_cases g2 : ((t.kids.length : Int)) < (kdl t.op)
  ·
   omega
  ·
   refine s_2 ?_
   refine og (qv_lenSS UL.out rfl hS) w_a ?_
   refine s_4 ?_
   refine iff' ?_ ?_ <;> intro c1
   ·
    omega
   ·
    refine s_13 ?_
    refine iff' ?_ ?_ <;> intro c2
    ·
     refine s_6 ?_
     refine oq (qv_lenSS UL.out rfl hS) ?_
     refine s_3 ?_
     refine lc1 [0,1,2,4,7,8,32,34,38,65,66] (fun (i : Int) => [(67, (Value.int .i64 i))]) (fun i => 0 ≤ i ∧ i ≤ t.kids.length) (fun i => (t.kids.length - i).toNat) 0 ?_ ?_ ?_ 
     · exact ⟨rfl, trivial⟩
     · exact ⟨by omega, by omega⟩
     rintro i e1 ⟨i1, i2⟩
     refine s_5 ?_
     refine iff' ?_ ?_ <;> intro c3
     ·
      refine s_5 ?_
      refine oq (qv_ias UL.out SZ.out e_vm hS rfl o_m o_m) ?_
      refine oq (qv_lds AG.out rfl hS o_m o_m (tmcs_at o_m o_m)) ?_
      refine a_lo fun b2 => ?_
      refine s_tw rfl rfl (allc rfl (allc rfl (allc (Tms.one (hK (i) o_m o_m)) rfl))) ?_
      refine s_2 ?_
      have hsz := szL_at (l := t.kids) i1 o_m
      have hsn := szL_nn (t.kids.take i.toNat)
      refine s_4 ?_
      refine oq (f_c (IH _ _ _ _ _ _ (hK i i1 o_m) hv (hfk i i1 o_m) o_m) rfl rfl) ?_
      refine s_4 ?_
      refine v_d 1 ?_
      refine s_4 ?_
      exact le1 (i + 1) ⟨(c_i o_m), trivial⟩ ⟨by omega, by omega⟩
     ·
      refine s_7 ?_
      exact rt1 rfl
    ·
     refine s_5 ?_
     refine iff' ?_ ?_ <;> intro c4
     ·
      refine s_1 ?_
      refine j_n [0,1,2,4,6,7,8,32,34,38,40] [(63, (.bool (decide (((t.n < 0) ∨ (((vs.length : Int)) ≤ t.n)) ∨ ((inp = true) ∧ (((vr vs (t.n)).kd) = 0))))))] ?_ (fun e2 => ?_)
      ·
       refine s_5 ?_
       by_cases g3 : t.n < 0
       ·
        refine s_19 ?_
        exact j_e ⟨(jt (.inl (.inl g3))), trivial⟩
       ·
        refine s_3 ?_
        refine og (qv_lenSS UL.out rfl hv) w_a ?_
        refine s_3 ?_
        by_cases g4 : ((vs.length : Int)) ≤ t.n
        ·
         refine s_12 ?_
         exact j_e ⟨(jt (.inl ((jo g3 Iff.rfl).1 g4))), trivial⟩
        ·
         refine s_2 ?_
         by_cases g5 : inp = true
         ·
          refine s_3 ?_
          refine og (qv_ias UL.out SZ.out e_vm hv rfl o_m o_m) w_a ?_
          refine og (qv_fas FI.out rfl hv o_m o_m) w_a ?_
          refine og (qv_ldf PL.out rfl hv o_m o_m o_m (vrcs_el (o := 1) o_m o_m o_m rfl)) w_a ?_
          refine s_4 ?_
          exact j_e ⟨(jb (jo (fun z => g4 ((jo g3 Iff.rfl).2 z)) (ja g5 Iff.rfl))), trivial⟩
         ·
          refine s_10 ?_
          exact j_e ⟨(jf (fun z => z.elim (fun z => g4 ((jo g3 Iff.rfl).2 z)) (fun z => g5 z.1))), trivial⟩
      refine iff' ?_ ?_ <;> intro c5
      ·
       refine s_6 ?_
       exact rt1 (by first | rfl | (exfalso; exact hff.2.1 (.inl ⟨by assumption, by assumption⟩)))
      ·
       refine s_6 ?_
       refine oq (qv_lenSS UL.out rfl hS) ?_
       refine s_3 ?_
       refine lc1 [0,1,2,4,7,8,32,34,38,40,63,65,66] (fun (i : Int) => [(67, (Value.int .i64 i))]) (fun i => 0 ≤ i ∧ i ≤ t.kids.length) (fun i => (t.kids.length - i).toNat) 0 ?_ ?_ ?_ 
       · exact ⟨rfl, trivial⟩
       · exact ⟨by omega, by omega⟩
       rintro i e3 ⟨i1, i2⟩
       refine s_5 ?_
       refine iff' ?_ ?_ <;> intro c6
       ·
        refine s_5 ?_
        refine oq (qv_ias UL.out SZ.out e_vm hS rfl o_m o_m) ?_
        refine oq (qv_lds AG.out rfl hS o_m o_m (tmcs_at o_m o_m)) ?_
        refine a_lo fun b3 => ?_
        refine s_tw rfl rfl (allc rfl (allc rfl (allc (Tms.one (hK (i) o_m o_m)) rfl))) ?_
        refine s_2 ?_
        have hsz := szL_at (l := t.kids) i1 o_m
        have hsn := szL_nn (t.kids.take i.toNat)
        refine s_4 ?_
        refine oq (f_c (IH _ _ _ _ _ _ (hK i i1 o_m) hv (hfk i i1 o_m) o_m) rfl rfl) ?_
        refine s_4 ?_
        refine v_d 1 ?_
        refine s_4 ?_
        exact le1 (i + 1) ⟨(c_i o_m), trivial⟩ ⟨by omega, by omega⟩
       ·
        refine s_7 ?_
        exact rt1 rfl
     ·
      refine s_6 ?_
      refine iff' ?_ ?_ <;> intro c7
      ·
       exact absurd (.inr ⟨by assumption, by assumption, by assumption⟩) hff.2.1
      ·
       refine s_6 ?_
       refine oq (qv_lenSS UL.out rfl hS) ?_
       refine s_3 ?_
       refine lc1 [0,1,2,4,7,8,32,34,37,38,40,65,66] (fun (i : Int) => [(67, (Value.int .i64 i))]) (fun i => 0 ≤ i ∧ i ≤ t.kids.length) (fun i => (t.kids.length - i).toNat) 0 ?_ ?_ ?_ 
       · exact ⟨rfl, trivial⟩
       · exact ⟨by omega, by omega⟩
       rintro i e4 ⟨i1, i2⟩
       refine s_5 ?_
       refine iff' ?_ ?_ <;> intro c8
       ·
        refine s_5 ?_
        refine oq (qv_ias UL.out SZ.out e_vm hS rfl o_m o_m) ?_
        refine oq (qv_lds AG.out rfl hS o_m o_m (tmcs_at o_m o_m)) ?_
        refine a_lo fun b4 => ?_
        refine s_tw rfl rfl (allc rfl (allc rfl (allc (Tms.one (hK (i) o_m o_m)) rfl))) ?_
        refine s_2 ?_
        have hsz := szL_at (l := t.kids) i1 o_m
        have hsn := szL_nn (t.kids.take i.toNat)
        refine s_4 ?_
        refine oq (f_c (IH _ _ _ _ _ _ (hK i i1 o_m) hv (hfk i i1 o_m) o_m) rfl rfl) ?_
        refine s_4 ?_
        refine v_d 1 ?_
        refine s_4 ?_
        exact le1 (i + 1) ⟨(c_i o_m), trivial⟩ ⟨by omega, by omega⟩
       ·
        refine s_7 ?_
        exact rt1 rfl

theorem formedP_c : ∀ k, FPC k
  | 0 => fun _ t _ _ _ _ _ _ _ h => absurd h (by have := t.sz_pos; omega)
  | k + 1 => fun V t ks va vs inp hT hv hf hk => formedP_step (formedP_c k) hT hv hf hk
end Go.Proofs.YtbchkopkgpfkgaaGreatDoor

namespace Go.Proofs.YtbchkopkgpfkgaaGreatDoor
open Go.Vc
open Classical

set_option maxRecDepth 100000 in
set_option maxHeartbeats 4000000 in
theorem hull_c {V : HV} {a b c d : Int} :
    FnC Tryz.prog 207 [(.agg #[(Value.int .i64 a), (Value.int .i64 b)]), (.agg #[(Value.int .i64 c), (Value.int .i64 d)])] V [] (fun v _ _ => v = (.agg #[(.int .i64 (mnI a c)), (.int .i64 (mxI b d))])) := by
 refine f_i Tryz.func207 ?_
 intro w0 D
 refine s_2 ?_
 refine b_ox fun b1 => ?_
 refine b_ox fun b2 => ?_
 refine a_lo fun b3 => ?_
 refine s_13 ?_
 refine oq (qv_build (out := [(.int .i64 (if c < a then c else a)), (.int .i64 (if b < d then d else b))]) BI.out [(0, [(.int .i64 (if c < a then c else a))]), (1, [(.int .i64 (if b < d then d else b))])] rfl rfl) ?_
 refine s_3 ?_
 refine rs1 _ (r_va rfl) ?_
 exact (aggc (consc (c_i (by (first | unfold mnI | unfold mxI); (repeat' split) <;> first | rfl | (exfalso; omega) | omega)) (consc (c_i (by (first | unfold mnI | unfold mxI); (repeat' split) <;> first | rfl | (exfalso; omega) | omega)) rfl)))

set_option maxRecDepth 100000 in
set_option maxHeartbeats 4000000 in
theorem rule1_c {V : HV} {x y : Int} (h : -9223372036854775808 ≤ x * y ∧ x * y ≤ 9223372036854775807) :
    FnC Tryz.prog 206 [(Value.int .i64 x), (Value.int .i64 y)] V [] (fun v _ _ => v = (.int .i64 (x * y))) := by
 refine f_i Tryz.func206 ?_
 intro w0 D
 refine s_12 ?_
 exact rt1 rfl

set_option maxRecDepth 100000 in
set_option maxHeartbeats 4000000 in
theorem corners_c {V : HV} {a b c d : Int} (h1 : -1048576 ≤ a) (h2 : a ≤ b) (h3 : b ≤ 1048576) (k1 : -1048576 ≤ c) (k2 : c ≤ d) (k3 : d ≤ 1048576) :
    FnC Tryz.prog 205 [(.agg #[(Value.int .i64 a), (Value.int .i64 b)]), (.agg #[(Value.int .i64 c), (Value.int .i64 d)]), (.func (.func 206) #[] #[])] V [] (fun v _ _ => v = (.agg #[(.int .i64 (mnI (mnI (a * c) (a * d)) (mnI (b * c) (b * d)))), (.int .i64 (mxI (mxI (a * c) (a * d)) (mxI (b * c) (b * d))))])) := by
 refine f_i Tryz.func205 ?_
 intro w0 D
 have m1 := mul20 (a := a) (b := c) o_m o_m o_m o_m
 have m2 := mul20 (a := a) (b := d) o_m o_m o_m o_m
 have m3 := mul20 (a := b) (b := c) o_m o_m o_m o_m
 have m4 := mul20 (a := b) (b := d) o_m o_m o_m o_m
 refine s_2 ?_
 refine b_ox fun b1 => ?_
 refine b_ox fun b2 => ?_
 refine a_lo fun b3 => ?_
 refine s_8 ?_
 refine oq (f_c (rule1_c o_m) rfl rfl) ?_
 refine s_6 ?_
 refine oq (qv_build (out := [(.int .i64 (a * c)), (.int .i64 (a * c))]) BI.out [(0, [(.int .i64 (a * c))]), (1, [(.int .i64 (a * c))])] rfl rfl) ?_
 refine a_lo fun b4 => ?_
 refine s_4 ?_
 refine ro1 [qt 0,qt 1,qt 2,qt 3,qt 4,qt 5,qt 6,qt 7,qt 8,qt 9,qt 10,qt 11,qt 12,qt 13,qt 14,qt 15,qt 16,qt 17,qt 20,ld 18,qt 19] ?_
 refine s_5 ?_
 refine rq rfl (f_c (rule1_c o_m) rfl rfl) ?_
 refine s_5 ?_
 refine rq rfl (f_c (rule1_c o_m) rfl rfl) ?_
 refine s_5 ?_
 refine rq rfl (f_c (rule1_c o_m) rfl rfl) ?_
 refine s_1 ?_
 refine rl_q ?_
 refine ops_lit (n := 3) (s := 1) (cs := [(.int .i64 (a * d)), (.int .i64 (b * c)), (.int .i64 (b * d))]) UL.out TZ.out (l_b rfl) rfl rfl rfl (l_b rfl) rfl (fun b5 => ?_)
 refine ops_nil ⟨[(Arr 232 b1 [(Value.int .i64 a), (Value.int .i64 b)]), (Arr 232 b2 [(Value.int .i64 c), (Value.int .i64 d)]), (Arr 232 b3 [(Value.int .i64 0), (Value.int .i64 0)]), (Arr 232 b4 [(.int .i64 (a * c)), (.int .i64 (a * c))]), (Arr 3 b5 [(.int .i64 (a * d)), (.int .i64 (b * c)), (.int .i64 (b * d))])], [], (Sub.refl _), perm_nil _, ⟨[(Arr 3 b5 [(.int .i64 (a * d)), (.int .i64 (b * c)), (.int .i64 (b * d))])], (.refl _)⟩, ?_⟩
 refine rq rfl (qv_len UL.out rfl rfl) ?_
 refine s_2 ?_
 refine vc_to_gr (k := 4) (b := b5) (n := 3) (cap := 3) (cs := #[(.int .i64 (a * d)), (.int .i64 (b * c)), (.int .i64 (b * d))]) 1 ([a * d, b * c, b * d].map (Value.int .i64)) rfl rfl (Nat.le_refl _) (l_b rfl) rfl rfl ?_
 refine lp1 [0,1,2,3,4,6,7,8,38,39] (fun (i : Int) => [(40, (Value.int .i64 i))]) (fun i => [(Arr 232 b1 [(Value.int .i64 a), (Value.int .i64 b)]), (Arr 232 b2 [(Value.int .i64 c), (Value.int .i64 d)]), (Arr 232 b3 [(Value.int .i64 0), (Value.int .i64 0)]), (Arr 232 b4 [(.int .i64 ((hulN (a * c, a * c) ([a * d, b * c, b * d].take i.toNat)).1)), (.int .i64 ((hulN (a * c, a * c) ([a * d, b * c, b * d].take i.toNat)).2))]), (Gr 3 1 ((.slice (some ⟨b5, 0, none⟩) 3 3)) 3 (([a * d, b * c, b * d].map (Value.int .i64))))]) (fun i => 0 ≤ i ∧ i ≤ 3) (fun i => (3 - i).toNat) 0 ?_ ?_ ?_ ?_ 
 · exact ⟨rfl, trivial⟩
 · (rfl)
 · exact ⟨by omega, by omega⟩
 rintro i e1 ⟨i1, i2⟩
 refine s_5 ?_
 refine iff' ?_ ?_ <;> intro c1
 ·
  refine s_4 ?_
  have hlc : ([a * d, b * c, b * d] : List Int).length = 3 := rfl
  refine s_1 ?_
  refine oq (qv_iai UL.out SZ.out e_vm (inGi (k := 4) rfl) rfl o_m o_m) ?_
  refine oq (qv_ldi PL.out rfl (inGi (k := 4) rfl) o_m o_m) ?_
  refine s_6 ?_
  refine oq (qv_build (out := [(.int .i64 (gi ([a * d, b * c, b * d]) (i))), (.int .i64 (gi ([a * d, b * c, b * d]) (i)))]) BI.out [(0, [(.int .i64 (gi ([a * d, b * c, b * d]) (i)))]), (1, [(.int .i64 (gi ([a * d, b * c, b * d]) (i)))])] rfl rfl) ?_
  refine oq (f_c (hull_c) rfl rfl) ?_
  refine s_6 ?_
  exact le1 (i + 1) ⟨(c_i o_m), trivial⟩ ⟨by omega, by omega⟩ (hr := by rw [hulN_take (L := [a * d, b * c, b * d]) i1 (by show i < 3; omega)])
 ·
  refine s_8 ?_
  refine rs1 _ (r_va rfl) ?_
  exact (aggc (consc (c_i (by rw [show [a * d, b * c, b * d].take i.toNat = [a * d, b * c, b * d] from List.take_of_length_le (by show 3 ≤ i.toNat; omega), cor_eq])) (consc (c_i (by rw [show [a * d, b * c, b * d].take i.toNat = [a * d, b * c, b * d] from List.take_of_length_le (by show 3 ≤ i.toNat; omega), cor_eq])) rfl)))

end Go.Proofs.YtbchkopkgpfkgaaGreatDoor
