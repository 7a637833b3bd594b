/- Gy. -/
import Derived.Test.YtbchkopkgpfkgaaGreatDoorTi
import Derived.Test.YtbchkopkgpfkgaaGreatDoorGx
import Derived.Test.YtbchkopkgpfkgaaGreatDoorWz
namespace Go.Proofs.YtbchkopkgpfkgaaGreatDoor
open Go.Vc
open Classical

set_option maxRecDepth 100000 in
set_option maxHeartbeats 4000000 in
theorem rAc_c {V : HV} {va ha ba : Value} {F : Fl} (hF : Fls V va ha ba F) {pv qv : Value} {B : List Int} {tm : Bool} (hVa : Valid F) (hP : Ints .i64 V pv B) (hQ : Ints .i64 V qv (unL (vfl F.vs 3) 0)) (hB : rkE (vfl F.vs 2) B = 0) (ht : TabV Tryz.prog V) :
    FnC Tryz.prog 46 [(.agg #[va, ha, ba]), (.agg #[pv, (.bool (decide (tm = true)))]), qv] V [] (fun v V' σ' => σ' = [] ∧ ∃ P : List Int, Ints .i64 V' v P ∧ Lab (fun x : Nat => keyO (oK F B tm x 0)) (spc F.vs 1).toNat P) := by
 refine f_i Tryz.func46 ?_
 intro w0 D
 obtain ⟨hvs, hH⟩ := hF.h
 obtain ⟨xQ, hQb⟩ := hF.b.sl
 have hbvv := SlS.bound hF.v
 have hbh := SlS.bound hH.sl
 have hbb := SlS.bound hQb
 have h64 : F.vs.length ≤ 64 := by have := hVa.sz.1; omega
 have n1 := spc_pos' hVa.vs 1
 have n3 := spc_pos' hVa.vs 3
 have n4 := hVa.vs.s1
 have n5 := hVa.vs.s2
 have n6 := hVa.vs.s3
 refine s_2 ?_
 refine b_ox fun b1 => ?_
 refine b_ox fun b2 => ?_
 refine ops_box (v := qv) (cs := [qv]) rfl (Sl.cells hQ) (fun b3 => ?_)
 refine s_3 ?_
 refine v_f 0 fun Vf1 hVf1 hc1 => ?_
 have hF := hF.mono hVf1
 have hP := hP.mono hVf1
 have hQ := hQ.mono hVf1
 have ht := ht.mono hVf1
 refine v_f 0 fun Vf2 hVf2 hc2 => ?_
 have hF := hF.mono hVf2
 have hP := hP.mono hVf2
 have hQ := hQ.mono hVf2
 have ht := ht.mono hVf2
 have hc1 := hc1.mono hVf2
 refine v_f 0 fun Vf3 hVf3 hc3 => ?_
 have hF := hF.mono hVf3
 have hP := hP.mono hVf3
 have hQ := hQ.mono hVf3
 have ht := ht.mono hVf3
 have hc1 := hc1.mono hVf3
 have hc2 := hc2.mono hVf3
 refine s_2 ?_
 refine oq (qv_func (cs := [(Value.pointer (some ⟨b1, 0, none⟩)), (Value.pointer (some ⟨b2, 0, none⟩)), (Value.pointer (some ⟨b3, 0, none⟩))]) rfl) ?_
 refine c_l [] (rCls_c hF hVa (fid := 111) (caps := [(Value.pointer (some ⟨b1, 0, none⟩)), (Value.pointer (some ⟨b2, 0, none⟩)), (Value.pointer (some ⟨b3, 0, none⟩))]) (kf := (fun x : Nat => keyO (oK F B tm x 0))) (fun s s0 s1 => by have h := rKey_c hF hVa hP hQ hc1 hc2 hc3 hB ht s0 s1; rwa [← show ((s.toNat : Nat) : Int) = s by omega] at h ⊢)) rfl rfl fun r1 V1 sg1 hV1 hp1 => ?_
 obtain ⟨rfl, P, hPv, hPl⟩ := hp1
 have hF := hF.mono hV1
 have hP := hP.mono hV1
 have hQ := hQ.mono hV1
 have ht := ht.mono hV1
 have hc1 := hc1.mono hV1
 have hc2 := hc2.mono hV1
 have hc3 := hc3.mono hV1
 refine s_3 ?_
 refine ra1 ?_
 exact ⟨rfl, P, hPv, hPl⟩

set_option maxRecDepth 100000 in
set_option maxHeartbeats 4000000 in
theorem rVec_c {V : HV} {va ha ba : Value} {F : Fl} (hF : Fls V va ha ba F) {k : Int} {pv : Value} {xs : List Int} (hVa : Valid F) (hx : Ints .i64 V pv xs) (hk0 : k = 0 ∨ k = 1 ∨ k = 2 ∨ k = 3) (hs : spc F.vs k ≤ 4096) (hr : rkE (vfl F.vs k) xs = 0) :
    FnC Tryz.prog 109 [(.agg #[va, ha, ba]), (Value.int .i64 k), pv] V [] (fun v _ _ => v = (Value.int .i64 0)) := by
 refine f_i Tryz.func109 ?_
 intro w0 D
 obtain ⟨hvs, hH⟩ := hF.h
 obtain ⟨xQ, hQb⟩ := hF.b.sl
 have hbvv := SlS.bound hF.v
 have hbh := SlS.bound hH.sl
 have hbb := SlS.bound hQb
 have h64 : F.vs.length ≤ 64 := by have := hVa.sz.1; omega
 have n1 := spc_pos' hVa.vs 1
 have n3 := spc_pos' hVa.vs 3
 have n4 := hVa.vs.s1
 have n5 := hVa.vs.s2
 have n6 := hVa.vs.s3
 refine s_2 ?_
 refine b_ox fun b1 => ?_
 refine s_8 ?_
 refine oq (f_c (dRank_c hF.v h64 hVa.vs hk0 hs hx) rfl rfl) ?_
 refine s_12 ?_
 refine iff' ?_ ?_ <;> intro c1
 ·
  omega
 ·
  refine s_7 ?_
  exact rt1 (c_i o_m)

set_option maxRecDepth 100000 in
set_option maxHeartbeats 4000000 in
theorem rVcs_c {V : HV} {va ha ba : Value} {F : Fl} (hF : Fls V va ha ba F) {pv qv : Value} {B : List Int} (hVa : Valid F) (hP : Ints .i64 V pv B) {C : List Int} (hQ : Ints .i64 V qv C) {kv vv : Value} (hk : Ints .i64 V kv [2, 3]) (hvv : Sl V vv [pv, qv]) (hB : rkE (vfl F.vs 2) B = 0) (hC : rkE (vfl F.vs 3) C = 0) :
    FnC Tryz.prog 45 [(.agg #[va, ha, ba]), kv, vv] V [] (fun v _ _ => v = (Value.int .i64 0)) := by
 refine f_i Tryz.func45 ?_
 intro w0 D
 obtain ⟨hvs, hH⟩ := hF.h
 obtain ⟨xQ, hQb⟩ := hF.b.sl
 have hbvv := SlS.bound hF.v
 have hbh := SlS.bound hH.sl
 have hbb := SlS.bound hQb
 have h64 : F.vs.length ≤ 64 := by have := hVa.sz.1; omega
 have n1 := spc_pos' hVa.vs 1
 have n3 := spc_pos' hVa.vs 3
 have n4 := hVa.vs.s1
 have n5 := hVa.vs.s2
 have n6 := hVa.vs.s3
 have hvec : ∀ i : Int, 0 ≤ i → i < 2 → FnC Tryz.prog 109 [.agg #[va, ha, ba], .int .i64 (gi [2, 3] i), gv [pv, qv] i] V [] (fun v _ _ => v = .int .i64 0) := fun i a b => by
   rcases (show i = 0 ∨ i = 1 by omega) with rfl | rfl
   · exact rVec_c hF (k := 2) hVa hP o_m o_m hB
   · exact rVec_c hF (k := 3) hVa hQ o_m o_m hC
 have hlk : ([2, 3] : List Int).length = 2 := rfl
 have hlv : [pv, qv].length = 2 := rfl
 refine s_2 ?_
 refine b_ox fun b1 => ?_
 refine s_10 ?_
 refine oq (qv_lenI UL.out rfl hk) ?_
 refine s_3 ?_
 refine lc1 [0,1,2,3,11,12] (fun (i : Int) => [(7, (Value.int .i64 0)), (13, (Value.int .i64 i))]) (fun i => 0 ≤ i ∧ i ≤ 2) (fun i => (2 - i).toNat) 0 ?_ ?_ ?_ 
 · exact ⟨rfl, rfl, trivial⟩
 · exact ⟨by omega, by omega⟩
 rintro i e1 ⟨i1, i2⟩
 refine s_5 ?_
 refine iff' ?_ ?_ <;> intro c1
 ·
  refine s_6 ?_
  refine oq (qv_iai UL.out SZ.out e_vm (inVi hk) rfl o_m o_m) ?_
  refine oq (qv_ldi PL.out rfl (inVi hk) o_m o_m) ?_
  refine s_9 ?_
  refine qq (qv_ia UL.out SZ.out e_vm (inV hvv) rfl o_m o_m) ?_
  refine qq (qv_ld PL.out rfl (inV hvv) o_m o_m) ?_
  refine qq (f_c (hvec i o_m o_m) rfl rfl) ?_
  refine s_9 ?_
  refine iff' ?_ ?_ <;> intro c2
  ·
   omega
  ·
   refine s_6 ?_
   refine iff' ?_ ?_ <;> intro c3
   ·
    refine s_8 ?_
    exact le1 (i + 1) ⟨rfl, (c_i (by rfl)), trivial⟩ ⟨by omega, by omega⟩
   ·
    omega
 ·
  refine s_8 ?_
  exact rt1 rfl

set_option maxRecDepth 100000 in
set_option maxHeartbeats 4000000 in
theorem Act_c {V : HV} {va ha ba : Value} {F : Fl} (hF : Fls V va ha ba F) {pv qv : Value} {B : List Int} {tm : Bool} (hVa : Valid F) (hP : Ints .i64 V pv B) (hQ : Ints .i64 V qv (unL (vfl F.vs 3) 0)) (hB : rkE (vfl F.vs 2) B = 0) (ht : TabV Tryz.prog V) (h3 : vfl F.vs 3 = []) :
    FnC Tryz.prog 13 [(.agg #[va, ha, ba]), (.agg #[pv, (.bool (decide (tm = true)))]), qv] V [] (fun v V' σ' => σ' = [] ∧ ∃ u, v = .tuple #[u, .int .i64 0] ∧ ∃ P : List Int, Ints .i64 V' u P ∧ Lab (fun x : Nat => keyO (oK F B tm x 0)) (spc F.vs 1).toNat P) := by
 refine FnC.drop ?_
 refine f_i Tryz.func13 ?_
 intro w0 D
 obtain ⟨hvs, hH⟩ := hF.h
 obtain ⟨xQ, hQb⟩ := hF.b.sl
 have hbvv := SlS.bound hF.v
 have hbh := SlS.bound hH.sl
 have hbb := SlS.bound hQb
 have h64 : F.vs.length ≤ 64 := by have := hVa.sz.1; omega
 have n1 := spc_pos' hVa.vs 1
 have n3 := spc_pos' hVa.vs 3
 have n4 := hVa.vs.s1
 have n5 := hVa.vs.s2
 have n6 := hVa.vs.s3
 have hC : rkE (vfl F.vs 3) (unL (vfl F.vs 3) 0) = 0 := by rw [h3]; unfold rkE; rw [if_neg (by rw [unL_len]; exact fun q => q rfl), if_pos (show inR [] (unL [] 0) from fun i a b => absurd b (by show ¬ i < ((0 : Nat) : Int); omega))]
 refine s_2 ?_
 refine b_ox fun b1 => ?_
 refine b_ox fun b2 => ?_
 refine s_6 ?_
 refine oq (f_c (Check_c hF hVa) rfl rfl) ?_
 refine s_8 ?_
 refine iff' ?_ ?_ <;> intro c1
 ·
  refine s_2 ?_
  refine ops_lit (n := 2) (s := 1) (cs := [(Value.int .i64 2), (Value.int .i64 3)]) UL.out TZ.out (l_b rfl) rfl rfl rfl (l_b rfl) rfl (fun b3 => ?_)
  refine s_3 ?_
  refine ops_lit (n := 2) (s := 1) (cs := [pv, qv]) UL.out TZ.out (l_b rfl) rfl (by show pv.cells.toList ++ (qv.cells.toList ++ ([])) = _; rw [Sl.cells hP, Sl.cells hQ]; rfl) (by show ((pv.cells.size == 1) && ((qv.cells.size == 1) && (true))) = true; rw [Sl.cells hP, Sl.cells hQ]; rfl) (l_b rfl) rfl (fun b4 => ?_)
  refine o_fz 2 fun Vf1 hVf1 hc1 => ?_
  have hF := hF.mono hVf1
  have hP := hP.mono hVf1
  have hQ := hQ.mono hVf1
  have ht := ht.mono hVf1
  refine o_fz 2 fun Vf2 hVf2 hc2 => ?_
  have hF := hF.mono hVf2
  have hP := hP.mono hVf2
  have hQ := hQ.mono hVf2
  have ht := ht.mono hVf2
  have hc1 := hc1.mono hVf2
  have hkk : Ints .i64 Vf2 (.slice (some ⟨b3, 0, none⟩) 2 2) [2, 3] := ints_cells (xs := [2, 3]) hc1 rfl (Nat.le_refl _) o_m
  have hvv : Sl Vf2 (.slice (some ⟨b4, 0, none⟩) 2 2) [pv, qv] := sl_cells hc2 rfl (Nat.le_refl _) o_m
  refine oq (f_c (rVcs_c hF hVa hP hQ hkk hvv hB hC) rfl rfl) ?_
  refine s_8 ?_
  refine iff' ?_ ?_ <;> intro c2
  ·
   exact absurd c1 c2
  ·
   refine s_6 ?_
   refine c_l [] (rAc_c hF hVa hP hQ hB ht) rfl rfl fun r1 V1 sg1 hV1 hp1 => ?_
   obtain ⟨rfl, P, hPv, hPl⟩ := hp1
   have hF := hF.mono hV1
   have hP := hP.mono hV1
   have hQ := hQ.mono hV1
   have ht := ht.mono hV1
   have hc1 := hc1.mono hV1
   have hc2 := hc2.mono hV1
   refine s_4 ?_
   refine ra2 ?_
   exact ⟨[], _, .refl _, rfl, _, rfl, P, hPv, hPl⟩
 ·
  omega

end Go.Proofs.YtbchkopkgpfkgaaGreatDoor

namespace Go.Proofs.YtbchkopkgpfkgaaGreatDoor
open Go.Vc
open Classical

set_option maxRecDepth 100000 in
set_option maxHeartbeats 4000000 in
theorem gpl_c {V : HV} {n d : Int} :
    FnC Tryz.prog 11 [(.agg #[(Value.int .i64 n), (Value.int .i64 d)])] V [] (fun v _ _ => v = (.bool (decide (0 ≤ n ∧ n ≤ 1048576 ∧ 1 ≤ d ∧ d ≤ 1048576)))) := by
 refine f_i Tryz.func11 ?_
 intro w0 D
 refine s_2 ?_
 refine b_ox fun b1 => ?_
 refine s_3 ?_
 refine j_n [0] [(2, (.bool (decide ((((0 ≤ n) ∧ (n ≤ 1048576)) ∧ (1 ≤ d)) ∧ (d ≤ 1048576)))))] ?_ (fun e1 => ?_)
 ·
  refine s_5 ?_
  by_cases g1 : 0 ≤ n
  ·
   refine s_5 ?_
   by_cases g2 : n ≤ 1048576
   ·
    refine s_5 ?_
    by_cases g3 : 1 ≤ d
    ·
     refine s_6 ?_
     exact j_e ⟨(jb (ja ((ja ((ja g1 Iff.rfl).1 g2) Iff.rfl).1 g3) Iff.rfl)), trivial⟩
    ·
     refine s_6 ?_
     exact j_e ⟨(jf (fun z => (fun z => g3 ((ja ((ja g1 Iff.rfl).1 g2) Iff.rfl).2 z)) z.1)), trivial⟩
   ·
    refine s_11 ?_
    exact j_e ⟨(jf (fun z => (fun z => (fun z => g2 ((ja g1 Iff.rfl).2 z)) z.1) z.1)), trivial⟩
  ·
   refine s_16 ?_
   exact j_e ⟨(jf (fun z => (fun z => (fun z => g1 z.1) z.1) z.1)), trivial⟩
 refine s_1 ?_
 exact rt1 (jb o_m)

set_option maxRecDepth 100000 in
set_option maxHeartbeats 4000000 in
theorem small_c {V : HV} {wv gg : Value} {p : List Int} {gw : List Value} {G : List (List Int)} (hp : Ints .i64 V wv p) (hG : Mat .i64 V gg gw G) {n : Int} :
    FnC Tryz.prog 16 [(.agg #[wv, gg]), (Value.int .i64 n)] V [] (fun v _ _ => v = (.bool (decide (BetS p G n)))) := by
 refine f_i Tryz.func16 ?_
 intro w0 D
 have hbp := hp.bound
 have hgl := hG.len
 have hbg := hG.sl.bound
 refine s_2 ?_
 refine b_ox fun b1 => ?_
 refine s_4 ?_
 refine j_n [0,1,2,4] [(28, (.bool (decide (((((p.length : Int)) ≠ n) ∨ (((gw.length : Int)) < 1)) ∨ (12 < ((gw.length : Int)))))))] ?_ (fun e1 => ?_)
 ·
  refine s_3 ?_
  refine oq (qv_lenI UL.out rfl hp) ?_
  refine s_3 ?_
  by_cases g1 : ((p.length : Int)) ≠ n
  ·
   refine s_12 ?_
   exact j_e ⟨(jt (.inl (.inl g1))), trivial⟩
  ·
   refine s_2 ?_
   refine og (qv_lenS UL.out rfl hG.sl) w_a ?_
   refine s_3 ?_
   by_cases g2 : ((gw.length : Int)) < 1
   ·
    refine s_6 ?_
    exact j_e ⟨(jt (.inl ((jo g1 Iff.rfl).1 g2))), trivial⟩
   ·
    refine s_2 ?_
    refine og (qv_lenS UL.out rfl hG.sl) w_a ?_
    refine s_3 ?_
    exact j_e ⟨(jb (jo (fun z => g2 ((jo g1 Iff.rfl).2 z)) Iff.rfl)), trivial⟩
 refine iff' ?_ ?_ <;> intro c1
 ·
  refine s_5 ?_
  exact rt1 (jf (by first | (by_cases q : gi p j < 0; exact bet_neg (j := j) o_m o_m q; exact bet_big (j := j) o_m o_m o_m) | exact bet_row (a := a) o_m o_m o_m | exact bet_el (a := a) (i := i) o_m o_m o_m o_m o_m | exact fun q => by have := q.1; have := q.2.1; have := q.2.2.1; omega))
 ·
  refine s_10 ?_
  refine oq (qv_lenI UL.out rfl hp) ?_
  refine s_3 ?_
  refine lc1 [0,1,2,28,30,31] (fun (j : Int) => [(5, (.int .i64 (sumN (fun i => p.getD i 0) j.toNat))), (32, (Value.int .i64 j))]) (fun j => 0 ≤ j ∧ j ≤ p.length ∧ (∀ i : Int, 0 ≤ i → i < j → 0 ≤ gi p i) ∧ 0 ≤ sumN (fun i => p.getD i 0) j.toNat ∧ sumN (fun i => p.getD i 0) j.toNat ≤ 64) (fun j => (p.length - j).toNat) 0 ?_ ?_ ?_ 
  · exact ⟨(c_i (by rfl)), rfl, trivial⟩
  · exact ⟨by omega, by omega, fun i a b => by omega, Int.le_refl _, by show (0 : Int) ≤ 64; omega⟩
  rintro j e2 ⟨i1, i2, hno, h0, h1⟩
  refine s_5 ?_
  refine iff' ?_ ?_ <;> intro c2
  ·
   refine s_5 ?_
   refine oq (qv_iai UL.out SZ.out e_vm (inVi hp) rfl o_m o_m) ?_
   refine oq (qv_ldi PL.out rfl (inVi hp) o_m o_m) ?_
   refine s_4 ?_
   refine j_n [0,1,2,5,7,28,30,31,32,33] [(43, (.bool (decide (((gi p (j)) < 0) ∨ ((64 - (sumN (fun i => p.getD i 0) j.toNat)) < (gi p (j)))))))] ?_ (fun e3 => ?_)
   ·
    refine s_4 ?_
    by_cases g3 : (gi p (j)) < 0
    ·
     refine s_6 ?_
     exact j_e ⟨(jt (.inl g3)), trivial⟩
    ·
     refine s_6 ?_
     exact j_e ⟨(jb (jo g3 Iff.rfl)), trivial⟩
   refine iff' ?_ ?_ <;> intro c3
   ·
    refine s_7 ?_
    exact rt1 (jf (by first | (by_cases q : gi p j < 0; exact bet_neg (j := j) o_m o_m q; exact bet_big (j := j) o_m o_m o_m) | exact bet_row (a := a) o_m o_m o_m | exact bet_el (a := a) (i := i) o_m o_m o_m o_m o_m | exact fun q => by have := q.1; have := q.2.1; have := q.2.2.1; omega))
   ·
    refine s_11 ?_
    exact le1 (j + 1) ⟨(c_i (by rw [sumN_step o_m])), (c_i (by rfl)), trivial⟩ ⟨by omega, by omega, all_snoc hno o_m, by rw [sumN_step o_m]; show 0 ≤ _ + gi p j; omega, by rw [sumN_step o_m]; show _ + gi p j ≤ 64; omega⟩
  ·
   refine s_7 ?_
   refine oq (qv_lenS UL.out rfl hG.sl) ?_
   refine s_3 ?_
   refine lc1 [0,1,2,5,28,30,31,32,33,49,50] (fun (a : Int) => [(51, (Value.int .i64 a))]) (fun a => 0 ≤ a ∧ a ≤ gw.length ∧ ∀ x : Int, 0 ≤ x → x < a → ((gr G x).length : Int) = n ∧ ∀ i : Int, 0 ≤ i → i < (gr G x).length → 0 ≤ gi (gr G x) i ∧ gi (gr G x) i ≤ 64) (fun a => (gw.length - a).toNat) 0 ?_ ?_ ?_ 
   · exact ⟨rfl, trivial⟩
   · exact ⟨by omega, by omega, fun x a b => by omega⟩
   rintro a e4 ⟨i3, i4, ha⟩
   refine s_5 ?_
   refine iff' ?_ ?_ <;> intro c4
   ·
    refine s_5 ?_
    refine oq (qv_ia UL.out SZ.out e_vm (inV hG.sl) rfl o_m o_m) ?_
    refine oq (qv_ld PL.out rfl (inV hG.sl) o_m o_m) ?_
    refine s_4 ?_
    have hbr := (hG.row a o_m o_m).bound
    refine s_2 ?_
    refine oq (qv_lenI UL.out rfl (hG.row (a) o_m o_m)) ?_
    refine s_3 ?_
    refine iff' ?_ ?_ <;> intro c5
    ·
     refine s_7 ?_
     exact rt1 (jf (by first | (by_cases q : gi p j < 0; exact bet_neg (j := j) o_m o_m q; exact bet_big (j := j) o_m o_m o_m) | exact bet_row (a := a) o_m o_m o_m | exact bet_el (a := a) (i := i) o_m o_m o_m o_m o_m | exact fun q => by have := q.1; have := q.2.1; have := q.2.2.1; omega))
    ·
     refine s_4 ?_
     refine oq (qv_lenI UL.out rfl (hG.row (a) o_m o_m)) ?_
     refine s_3 ?_
     refine lc1 [0,1,2,5,9,28,30,31,32,33,49,50,51,52,58,59,60] (fun (i : Int) => [(61, (Value.int .i64 i))]) (fun i => 0 ≤ i ∧ i ≤ (gr G a).length ∧ ∀ y : Int, 0 ≤ y → y < i → 0 ≤ gi (gr G a) y ∧ gi (gr G a) y ≤ 64) (fun i => ((gr G a).length - i).toNat) 0 ?_ ?_ ?_ 
     · exact ⟨rfl, trivial⟩
     · exact ⟨by omega, by omega, fun x a b => by omega⟩
     rintro i e5 ⟨i5, i6, hi⟩
     refine s_5 ?_
     refine iff' ?_ ?_ <;> intro c6
     ·
      refine s_5 ?_
      refine oq (qv_iai UL.out SZ.out e_vm (inVi (hG.row (a) o_m o_m)) rfl o_m o_m) ?_
      refine oq (qv_ldi PL.out rfl (inVi (hG.row (a) o_m o_m)) o_m o_m) ?_
      refine s_3 ?_
      refine j_n [0,1,2,5,9,11,28,30,31,32,33,49,50,51,52,58,59,60,61,62] [(70, (.bool (decide (((gi (gr G (a)) (i)) < 0) ∨ (64 < (gi (gr G (a)) (i)))))))] ?_ (fun e6 => ?_)
      ·
       refine s_4 ?_
       by_cases g4 : (gi (gr G (a)) (i)) < 0
       ·
        refine s_4 ?_
        exact j_e ⟨(jt (.inl g4)), trivial⟩
       ·
        refine s_4 ?_
        exact j_e ⟨(jb (jo g4 Iff.rfl)), trivial⟩
      refine iff' ?_ ?_ <;> intro c7
      ·
       refine s_9 ?_
       exact rt1 (jf (by first | (by_cases q : gi p j < 0; exact bet_neg (j := j) o_m o_m q; exact bet_big (j := j) o_m o_m o_m) | exact bet_row (a := a) o_m o_m o_m | exact bet_el (a := a) (i := i) o_m o_m o_m o_m o_m | exact fun q => by have := q.1; have := q.2.1; have := q.2.2.1; omega))
      ·
       refine s_5 ?_
       exact le1 (i + 1) ⟨(c_i o_m), trivial⟩ ⟨by omega, by omega, all_snoc hi o_m⟩
     ·
      refine s_6 ?_
      exact le1 (a + 1) ⟨(c_i o_m), trivial⟩ ⟨by omega, by omega, all_snoc ha ⟨by omega, fun i a b => hi i a o_m⟩⟩
   ·
    refine s_9 ?_
    exact rt1 (jb (by rw [show j.toNat = p.length by omega] at *; exact ⟨fun q => ⟨by omega, by omega, by omega, fun i a b => hno i a o_m, by omega, fun x a b => ha x a o_m, q⟩, fun q => q.2.2.2.2.2.2⟩))

end Go.Proofs.YtbchkopkgpfkgaaGreatDoor
