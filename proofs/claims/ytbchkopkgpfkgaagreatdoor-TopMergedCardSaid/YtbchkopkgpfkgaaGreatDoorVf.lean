/- Vf. -/
import Derived.Test.YtbchkopkgpfkgaaGreatDoorTi
import Derived.Test.YtbchkopkgpfkgaaGreatDoorVd
namespace Go.Proofs.YtbchkopkgpfkgaaGreatDoor
open Go.Vc
open Classical
theorem cap1_max {L : List (List Int)} (c : Chn L) {n : Nat} (hn : n = L.length) {W : HV} {x : Value} {y : Int} (y0 : 0 ≤ y) (y1 : y < wdt L) (hx : Ints .i64 W x (colF L (List.replicate n 1) y.toNat)) : FnC Tryz.prog 41 [x] W [] (fun v _ _ => v = .int .i64 (cmaxF L y.toNat)) := by
  subst hn
  have hp := c.pos
  have h := Cap1_c hx (by rw [colF_len]; exact hp) (by
    rw [colF_el o_m]
    have := c.nn (x := 0) (y := y.toNat) o_m o_m
    have e : (List.replicate L.length (1 : Int)).getD 0 0 = 1 := by
      cases hl : L.length with
      | zero => omega
      | succ k => rfl
    rw [e]; omega)
  rw [colF_len, max_ones] at h
  exact h

set_option maxRecDepth 100000 in
set_option maxHeartbeats 4000000 in
theorem Repeat_c {V : HV} {b : Nat} {n : Int} (h0 : 1 ≤ n) (h1 : n ≤ 1000) :
    FnC Tryz.prog 40 [(.slice (some ⟨b, 0, none⟩) 1 1), (Value.int .i64 n)] V [(Arr 3 b [(Value.int .i64 1)])] (fun v _ σ' => ∃ b2, v = .slice (some ⟨b2, 0, none⟩) n.toNat n.toNat ∧ σ' = [Arr 3 b [.int .i64 1], Arr 3 b2 ((List.replicate n.toNat (1 : Int)).map (Value.int .i64))]) := by
 refine f_i Tryz.func40 ?_
 intro w0 D
 refine s_10 ?_
 refine iff' ?_ ?_ <;> intro c1
 ·
  omega
 ·
  refine s_4 ?_
  refine oq (qv_len UL.out rfl rfl) ?_
  refine oq (qv_convk UL.out UL.out rfl (u64_in o_m o_m)) ?_
  refine s_1 ?_
  refine oq (qv_convk UL.out UL.out rfl (u64_in o_m o_m)) ?_
  refine oq (f_c (Mul_c o_m o_m o_m o_m) rfl rfl) ?_
  refine s_12 ?_
  by_cases g1 : 0 < (((1 : Int)) * n / 18446744073709551616)
  ·
   omega
  ·
   refine s_4 ?_
   refine iff' ?_ ?_ <;> intro c2
   ·
    omega
   ·
    refine s_4 ?_
    refine oq (qv_convk UL.out UL.out rfl (show IntKind.i64.wrap (((1 : Int)) * n % 18446744073709551616) = n from by rw [show (((1 : Int)) * n % 18446744073709551616) = n by omega]; exact IntWalk.i64_in _ o_m)) ?_
    refine ops_make (n := n) UL.out TZ.out rfl rfl rfl rfl o_m o_m o_m (fun b1 => ?_)
    refine s_6 ?_
    refine ops_copy (k := 1) (cs := (List.replicate (n).toNat (Value.int .i64 0))) (news := [Value.int .i64 1]) UL.out SZ.out rfl rfl rfl (min1 h0) (news_own (j := 0) rfl) (by simp; omega) o_c ?_
    refine s_4 ?_
    refine lp1 [0,1,4,5,6,7,10,26] (fun (t : Int) => [(8, (Value.int .i64 t))]) (fun t => [(Arr 3 b [(Value.int .i64 1)]), (Arr 3 b1 (repP n.toNat t.toNat))]) (fun t => 1 ≤ t ∧ t ≤ n) (fun t => (n - t).toNat) 1 ?_ ?_ ?_ ?_ 
    · exact ⟨rfl, trivial⟩
    · (rw [show Int.toNat 1 = 1 from rfl, ← repP_1 o_m])
    · exact ⟨by omega, by omega⟩
    rintro t e1 ⟨i1, i2⟩
    refine s_5 ?_
    refine oq (qv_len UL.out rfl rfl) ?_
    refine s_2 ?_
    refine iff' ?_ ?_ <;> intro c3
    ·
     refine s_2 ?_
     have hln : (List.replicate (min t.toNat (n.toNat - t.toNat)) (Value.int .i64 1)).length = min t.toNat (n.toNat - t.toNat) := List.length_replicate
     refine rom [qt 0,qt 1,qt 2,qt 3,qt 4,qt 5,qt 6,ld 7,qt 8,qt 9] [0,1] ?_
     refine s_3 ?_
     refine rq rfl (qv_sliceLo UL.out SZ.out rfl rfl o_m o_m) ?_
     refine s_2 ?_
     refine rq rfl (qv_sliceHi UL.out SZ.out rfl (sl_own (H := fun _ => some (.cells (repP n.toNat t.toNat).toArray 3 (0, 0))) (b := b1) rfl (by rw [repP_len o_m]) (Nat.le_refl _) o_m) rfl o_m (by rw [repP_len o_m]; omega)) ?_
     refine rl_q ?_
     refine ops_copy (k := 1) (cs := (repP n.toNat t.toNat)) (news := (List.replicate (min t.toNat (n.toNat - t.toNat)) (Value.int .i64 1))) UL.out SZ.out rfl rfl rfl (by rw [List.length_replicate]; first | done | rfl) (fun w hm j u hu => repP_src hm (k := 1) rfl o_m hu) (by rw [List.length_replicate, repP_len o_m]; omega) (by intro u hu; rw [List.eq_of_mem_replicate hu]; rfl) ?_
     refine on2 [0,1] (Sub.refl _) ?_
     refine s_3 ?_
     exact le1 (t + (((List.replicate (min t.toNat (n.toNat - t.toNat)) (Value.int .i64 1))).length)) ⟨(c_i o_m), trivial⟩ ⟨by omega, by omega⟩ (hr := by rw [hln, repP_step o_m, show (t + ((min t.toNat (n.toNat - t.toNat) : Nat) : Int)).toNat = t.toNat + min t.toNat (n.toNat - t.toNat) by omega])
    ·
     refine s_8 ?_
     refine ra1 ?_
     exact ⟨b1, rfl, by rw [show t.toNat = n.toNat by omega, repP_end]⟩

set_option maxRecDepth 100000 in
set_option maxHeartbeats 4000000 in
theorem Capacity_c {V : HV} {l : Value} {rv : List Value} {L : List (List Int)} (hl : Mat .i64 V l rv L) :
    FnC Tryz.prog 10 [(.agg #[l])] V [] (fun v _ _ => v = .tuple #[(.agg #[(.int .i64 (iN (Chn L) (frN (topsF L) (totC L)))), (.int .i64 (iN (Chn L) (frD (topsF L) (totC L))))]), (.int .i64 (iE (Chn L)))]) := by
 refine f_i Tryz.func10 ?_
 intro w0 D
 have hlen := hl.len
 refine s_2 ?_
 refine b_ox fun b1 => ?_
 refine a_lo fun b2 => ?_
 refine s_6 ?_
 refine oq (f_c (CValid_c hl) rfl rfl) ?_
 refine s_2 ?_
 refine iff' ?_ ?_ <;> intro c1
 ·
  refine s_1 ?_
  have hno : ¬ Chn L := by assumption
  refine s_1 ?_
  refine oq (qv_build (out := [(Value.int .i64 0), (Value.int .i64 0)]) BI.out [] rfl rfl) ?_
  refine s_4 ?_
  refine rs2 _ (Value.int .i64 1) (r_va rfl) (rv_t rfl) ?_
  exact tup2 (aggc (consc (c_i (by first | (rw [iE_t hcond]; done) | (rw [iE_f hno]; done) | (rw [iN_t hcond]; done) | (rw [iN_f hno]; done) | rfl)) (consc (c_i (by first | (rw [iE_t hcond]; done) | (rw [iE_f hno]; done) | (rw [iN_t hcond]; done) | (rw [iN_f hno]; done) | rfl)) rfl))) (c_i (by first | (rw [iE_t hcond]; done) | (rw [iE_f hno]; done) | (rw [iN_t hcond]; done) | (rw [iN_f hno]; done) | rfl))
 ·
  refine s_2 ?_
  have hcond : Chn L := Decidable.not_not.1 (by assumption)
  have h0w : Wts (gr L 0) 1048576 := ⟨(hcond.row 0 hcond.pos).2.1.1, hcond.tle⟩
  have hpos := hcond.pos
  have htl := hcond.tle
  have htp : 1 ≤ totC L := hcond.tpos
  have hwd := hcond.wd
  have hwle := hcond.wle
  have hwe : (L.getD 0 []).length = wdt L := rfl
  have hle := hcond.le
  have hn : ((rv.length : Int)).toNat = L.length := by omega
  have hones : Pri (List.replicate ((rv.length : Int)).toNat 1) ((rv.length : Int)).toNat := ones_pri o_m o_m
  have htb := tops_bd hcond (m := wdt L) (Nat.le_refl _)
  have htq : sumN (cmaxF L) (wdt L) = topsF L := rfl
  refine ro1 [qt 0,qt 2,qt 3,qt 4,ld 1,ld 5,qt 6,qt 7] ?_
  refine s_3 ?_
  refine rq rfl (qv_lenS UL.out rfl hl.sl) ?_
  refine rl_q ?_
  refine ops_lit (n := 1) (s := 1) (cs := [(Value.int .i64 1)]) UL.out TZ.out (l_b rfl) rfl rfl rfl (l_b rfl) rfl (fun b3 => ?_)
  refine on2 [0,0,1] (Sub.refl _) ?_
  refine rl_q ?_
  refine c_l [2] (Repeat_c o_m o_m) rfl rfl fun r1 V1 sg1 hV1 hp1 => ?_
  obtain ⟨bq, rfl, rfl⟩ := hp1
  have hl := hl.mono hV1
  refine p_m [2,3,0,1] ?_
  refine on2 [0,0,1] hV1 ?_
  refine rq rfl (qv_call_own (v := (.int .i64 (topsF L))) (k := 2) (b := bq) rfl (fun Vo hVo hbo => ovc_c (fid := 41) (caps := []) (F := cmaxF L) (hl.mono hVo) (sl_own hbo (by simp only [List.length_map, List.length_replicate]) (Nat.le_refl _) o_m) hcond (by rw [List.length_replicate]; omega) (hones.wts) (fun y hy => by have := cmax_bd hcond (y := y) o_m; omega) (fun W x y hs y0 y1 hx => cap1_max hcond hn y0 y1 hx)) rfl rfl) ?_
  refine s_7 ?_
  refine oq (qv_ia UL.out SZ.out e_vm (inV hl.sl) rfl o_m o_m) ?_
  refine oq (qv_ld PL.out rfl (inV hl.sl) o_m o_m) ?_
  refine oq (f_c (v := (.int .i64 (totC L))) (total_c (hl.row 0 o_m o_m) h0w o_m) rfl rfl) ?_
  refine oq (f_c (fraction_c (n := topsF L) (d := totC L) o_m o_m o_m o_m) rfl rfl) ?_
  refine s_6 ?_
  refine rs2 _ (Value.int .i64 0) (r_va rfl) (rv_t rfl) ?_
  exact tup2 (aggc (consc (c_i (by first | (rw [iE_t hcond]; done) | (rw [iE_f hno]; done) | (rw [iN_t hcond]; done) | (rw [iN_f hno]; done) | rfl)) (consc (c_i (by first | (rw [iE_t hcond]; done) | (rw [iE_f hno]; done) | (rw [iN_t hcond]; done) | (rw [iN_f hno]; done) | rfl)) rfl))) (c_i (by first | (rw [iE_t hcond]; done) | (rw [iE_f hno]; done) | (rw [iN_t hcond]; done) | (rw [iN_f hno]; done) | rfl))

end Go.Proofs.YtbchkopkgpfkgaaGreatDoor

namespace Go.Proofs.YtbchkopkgpfkgaaGreatDoor
open Go.Vc
open Classical

end Go.Proofs.YtbchkopkgpfkgaaGreatDoor
