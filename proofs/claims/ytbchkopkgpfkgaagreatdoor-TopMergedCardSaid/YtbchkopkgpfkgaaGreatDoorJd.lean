/- Jd. -/
import Derived.Test.YtbchkopkgpfkgaaGreatDoorTi
import Derived.Test.YtbchkopkgpfkgaaGreatDoorJa
import Derived.Test.YtbchkopkgpfkgaaGreatDoorGu
import Derived.Test.YtbchkopkgpfkgaaGreatDoorWs
import Derived.Test.YtbchkopkgpfkgaaGreatDoorGv
namespace Go.Proofs.YtbchkopkgpfkgaaGreatDoor
open Go.Vc
open Classical

set_option maxRecDepth 100000 in
set_option maxHeartbeats 4000000 in
theorem EqI_c {V : HV} {a b : Value} {A B : List Int} (ha : Ints .i64 V a A) (hb : Ints .i64 V b B) :
    FnC Tryz.prog 57 [a, b] V [] (fun v _ _ => v = (.bool (decide (A = B)))) := by
 refine f_i Tryz.func57 ?_
 intro w0 D
 have h1 := ha.bound
 have h2 := hb.bound
 refine s_8 ?_
 refine oq (qv_lenI UL.out rfl ha) ?_
 refine s_1 ?_
 refine oq (qv_lenI UL.out rfl hb) ?_
 refine s_2 ?_
 refine iff' ?_ ?_ <;> intro c1
 ·
  refine s_5 ?_
  exact rt1 (jf (by intro hx; subst hx; omega))
 ·
  refine s_5 ?_
  refine oq (qv_lenI UL.out rfl ha) ?_
  refine s_3 ?_
  refine lc1 [0,1,10,12] (fun (p : Int) => [(13, (Value.int .i64 p))]) (fun p => 0 ≤ p ∧ p ≤ A.length ∧ ∀ x : Int, 0 ≤ x → x < p → gi A x = gi B x) (fun p => (A.length - p).toNat) 0 ?_ ?_ ?_ 
  · exact ⟨rfl, trivial⟩
  · exact ⟨by omega, by omega, fun x a b => by omega⟩
  rintro p e1 ⟨i1, i2, hp⟩
  refine s_5 ?_
  refine iff' ?_ ?_ <;> intro c2
  ·
   refine s_12 ?_
   refine qq (qv_iai UL.out SZ.out e_vm (inVi ha) rfl o_m o_m) ?_
   refine qq (qv_ldi PL.out rfl (inVi ha) o_m o_m) ?_
   refine s_2 ?_
   refine qq (qv_iai UL.out SZ.out e_vm (inVi hb) rfl o_m o_m) ?_
   refine qq (qv_ldi PL.out rfl (inVi hb) o_m o_m) ?_
   refine s_2 ?_
   refine iff' ?_ ?_ <;> intro c3
   ·
    refine s_7 ?_
    exact rt1 (jf (by intro hx; subst hx; omega))
   ·
    refine s_5 ?_
    exact le1 (p + 1) ⟨(c_i o_m), trivial⟩ ⟨by omega, by omega, all_snoc hp o_m⟩
  ·
   refine s_7 ?_
   exact rt1 (jt (by exact ext_gi o_m (fun x a b => hp x a o_m)))

set_option maxRecDepth 100000 in
set_option maxHeartbeats 4000000 in
theorem total41_c {V : HV} {l : Value} {rv : List Value} {L : List (List Int)} (hl : Mat .i64 V l rv L) (hc : Chn L) :
    FnC Tryz.prog 118 [(.agg #[l])] V [] (fun v _ _ => v = (.int .i64 (totC L))) := by
 refine f_i Tryz.func118 ?_
 intro w0 D
 have hlen := hl.len
 have hbd := hl.sl.bound
 have hpos := hc.pos
 refine s_2 ?_
 refine b_ox fun b1 => ?_
 refine s_6 ?_
 refine oq (f_c (CValid_c hl) rfl rfl) ?_
 refine s_2 ?_
 refine iff' ?_ ?_ <;> intro c1
 ·
  exact absurd hc c1
 ·
  refine s_5 ?_
  refine oq (qv_ia UL.out SZ.out e_vm (inV hl.sl) rfl o_m o_m) ?_
  refine oq (qv_ld PL.out rfl (inV hl.sl) o_m o_m) ?_
  refine oq (f_c (sum_c (hl.row 0 o_m o_m)) rfl rfl) ?_
  refine s_3 ?_
  exact rt1 (c_i (by exact csum_1 (hc.row 0 hc.pos).2.1))

set_option maxRecDepth 100000 in
set_option maxHeartbeats 4000000 in
theorem pair_c {V : HV} {l : Value} {rv : List Value} {L : List (List Int)} {m : Value} {mv : List Value} {M : List (List Int)} (hl : Mat .i64 V l rv L) (hm : Mat .i64 V m mv M) (hc : Chn L) (hd : Chn M) :
    FnC Tryz.prog 116 [(.agg #[l]), (.agg #[m])] V [] (fun v _ _ => v = (Value.int .i64 0)) := by
 refine f_i Tryz.func116 ?_
 intro w0 D
 refine s_2 ?_
 refine b_ox fun b1 => ?_
 refine b_ox fun b2 => ?_
 refine s_6 ?_
 refine oq (f_c (CValid_c hl) rfl rfl) ?_
 refine s_2 ?_
 by_cases g1 : ¬ (Chn L)
 ·
  exact absurd hc g1
 ·
  refine s_1 ?_
  refine og (f_c (CValid_c hm) rfl rfl) w_a ?_
  refine s_3 ?_
  refine iff' ?_ ?_ <;> intro c1
  ·
   exact absurd hd c1
  ·
   refine s_6 ?_
   exact rt1 rfl

set_option maxRecDepth 100000 in
set_option maxHeartbeats 4000000 in
theorem par1_c {V : HV} {l : Value} {rv : List Value} {L : List (List Int)} {m : Value} {mv : List Value} {M : List (List Int)} (hl : Mat .i64 V l rv L) (hm : Mat .i64 V m mv M) (hc : Chn L) (hd : Chn M) {b1 b2 b3 : Nat} {x y k : Int} (q1 : Cells V b1 [l]) (q2 : Cells V b2 [Value.int .i64 k]) (q3 : Cells V b3 [m]) (hLM : M.length = L.length) (hk : k = (gr M 0).length) (x0 : 0 ≤ x) (x1 : x < L.length) (y0 : 0 ≤ y) (y1 : y < (gr L 0).length * k) :
    FnC Tryz.prog 119 [(Value.int .i64 x), (Value.int .i64 y), (Value.pointer (some ⟨b1, 0, none⟩)), (Value.pointer (some ⟨b2, 0, none⟩)), (Value.pointer (some ⟨b3, 0, none⟩))] V [] (fun v _ _ => v = (.int .i64 (gi (gr L x) (y / k) * gi (gr M x) (y % k)))) := by
 refine f_i Tryz.func119 ?_
 intro w0 D
 have hlen := hl.len
 have hlen2 := hm.len
 have hbd := hl.sl.bound
 have hbd2 := hm.sl.bound
 have k1 : 1 ≤ k := by have h : 1 ≤ (gr M 0).length := hd.wpos; omega
 have k2 : k ≤ 256 := by have h : (gr M 0).length ≤ 256 := hd.wle; omega
 have w2 : (gr L 0).length ≤ 256 := hc.wle
 have u0 : 0 ≤ y / k := Int.ediv_nonneg y0 o_m
 have u1 : y / k < (gr L 0).length := Int.ediv_lt_of_lt_mul o_m y1
 have v0 : 0 ≤ y % k := Int.emod_nonneg y o_m
 have v1 : y % k < k := Int.emod_lt_of_pos y o_m
 have hlx := hc.rl x0 x1
 have hmx := hd.rl x0 (show x < M.length by omega)
 have hy2 : 0 ≤ gi (gr L x) (y / k) := hc.nn (x := x.toNat) (y := (y / k).toNat) o_m (by rw [← hc.wd]; omega)
 have hy3 : gi (gr L x) (y / k) ≤ 1048576 := Int.le_trans (hc.ele (x := x.toNat) (y := (y / k).toNat) o_m (by rw [← hc.wd]; omega)) hc.tle
 have hz2 : 0 ≤ gi (gr M x) (y % k) := hd.nn (x := x.toNat) (y := (y % k).toNat) o_m (by rw [← hd.wd]; omega)
 have hz3 : gi (gr M x) (y % k) ≤ 1048576 := Int.le_trans (hd.ele (x := x.toNat) (y := (y % k).toNat) o_m (by rw [← hd.wd]; omega)) hd.tle
 have hp0 := Int.mul_nonneg hy2 hz2
 have hp1 := Int.mul_le_mul hy3 hz3 hz2 (show (0 : Int) ≤ 1048576 by omega)
 have y2 : y ≤ 65536 := by have := Int.mul_le_mul (show ((gr L 0).length : Int) ≤ 256 by omega) k2 o_m (show (0 : Int) ≤ 256 by omega); omega
 refine s_9 ?_
 refine qq (qv_ia UL.out SZ.out e_vm (inV hl.sl) rfl o_m o_m) ?_
 refine qq (qv_ld PL.out rfl (inV hl.sl) o_m o_m) ?_
 refine s_2 ?_
 refine qq (qv_quo rfl rfl o_m o_m) ?_
 refine qq (qv_iai UL.out SZ.out e_vm (inVi (hl.row (x) o_m o_m)) rfl o_m o_m) ?_
 refine qq (qv_ldi PL.out rfl (inVi (hl.row (x) o_m o_m)) o_m o_m) ?_
 refine s_3 ?_
 refine qq (qv_ia UL.out SZ.out e_vm (inV hm.sl) rfl o_m o_m) ?_
 refine qq (qv_ld PL.out rfl (inV hm.sl) o_m o_m) ?_
 refine s_2 ?_
 refine qq (qv_rem rfl rfl o_m o_m) ?_
 refine qq (qv_iai UL.out SZ.out e_vm (inVi (hm.row (x) o_m o_m)) rfl o_m o_m) ?_
 refine qq (qv_ldi PL.out rfl (inVi (hm.row (x) o_m o_m)) o_m o_m) ?_
 refine s_4 ?_
 exact rt1 (c_i o_m)

end Go.Proofs.YtbchkopkgpfkgaaGreatDoor

namespace Go.Proofs.YtbchkopkgpfkgaaGreatDoor
open Go.Vc
open Classical

set_option maxRecDepth 100000 in
set_option maxHeartbeats 4000000 in
theorem par_c {V : HV} {l : Value} {rv : List Value} {L : List (List Int)} {m : Value} {mv : List Value} {M : List (List Int)} (hl : Mat .i64 V l rv L) (hm : Mat .i64 V m mv M) (hc : Chn L) (hd : Chn M) (hLM : M.length = L.length) (hw : ((gr L 0).length : Int) * ((gr M 0).length : Int) ≤ 256) (ht : totC L * totC M ≤ 1048576) :
    FnC Tryz.prog 56 [(.agg #[l]), (.agg #[m])] V [] (fun v V' σ' => σ' = [] ∧ ∃ ov orv, v = .tuple #[.agg #[ov], .int .i64 0] ∧ Mat .i64 V' ov orv (tabP ((rv.length : Int)).toNat (((gr L 0).length : Int) * ((gr M 0).length : Int)).toNat (fun x y => gi (gr L x) (y / ((gr M 0).length : Int)) * gi (gr M x) (y % ((gr M 0).length : Int))))) := by
 refine FnC.drop ?_
 refine f_i Tryz.func56 ?_
 intro w0 D
 have hlen := hl.len
 have hlen2 := hm.len
 have hbd := hl.sl.bound
 have hbd2 := hm.sl.bound
 have hpos := hc.pos
 have hle := hc.le
 have k1 : 1 ≤ (gr M 0).length := hd.wpos
 have k2 : (gr M 0).length ≤ 256 := hd.wle
 have w1 : 1 ≤ (gr L 0).length := hc.wpos
 have w2 : (gr L 0).length ≤ 256 := hc.wle
 have hw0 := Int.mul_nonneg (show (0 : Int) ≤ (gr L 0).length by omega) (show (0 : Int) ≤ (gr M 0).length by omega)
 have t1 : 1 ≤ totC L := hc.tpos
 have t2 : 1 ≤ totC M := hd.tpos
 have t3 := hc.tle
 have t4 := hd.tle
 have ht0 := Int.mul_nonneg (show 0 ≤ totC L by omega) (show 0 ≤ totC M by omega)
 refine s_2 ?_
 refine b_ox fun b1 => ?_
 refine b_ox fun b2 => ?_
 refine a_lo fun b3 => ?_
 refine s_7 ?_
 refine oq (f_c (pair_c hl hm hc hd) rfl rfl) ?_
 refine s_7 ?_
 refine iff' ?_ ?_ <;> intro c1
 ·
  omega
 ·
  refine s_6 ?_
  refine oq (qv_lenS UL.out rfl hl.sl) ?_
  refine s_2 ?_
  refine oq (qv_lenS UL.out rfl hm.sl) ?_
  refine s_2 ?_
  refine iff' ?_ ?_ <;> intro c2
  ·
   omega
  ·
   refine s_4 ?_
   refine oq (f_c (ccols_c hm o_m) rfl rfl) ?_
   refine a_lo fun b4 => ?_
   refine s_6 ?_
   refine qq (f_c (ccols_c hl o_m) rfl rfl) ?_
   refine s_3 ?_
   refine qq (f_c (total41_c hl hc) rfl rfl) ?_
   refine s_1 ?_
   refine qq (f_c (total41_c hm hd) rfl rfl) ?_
   refine s_1 ?_
   refine qq (f_c (by have h := clim_c (V := V) (a := (((gr L 0).length : Int)) * (((gr M 0).length : Int))) (t := (totC L) * (totC M)); rw [if_neg o_m] at h; exact h) rfl rfl) ?_
   refine s_7 ?_
   refine i_fn c1 ?_
   refine s_2 ?_
   refine v_f 0 fun Vf1 hVf1 hc1 => ?_
   have hl := hl.mono hVf1
   have hm := hm.mono hVf1
   refine v_f 2 fun Vf2 hVf2 hc2 => ?_
   have hl := hl.mono hVf2
   have hm := hm.mono hVf2
   have hc1 := hc1.mono hVf2
   refine v_f 0 fun Vf3 hVf3 hc3 => ?_
   have hl := hl.mono hVf3
   have hm := hm.mono hVf3
   have hc1 := hc1.mono hVf3
   have hc2 := hc2.mono hVf3
   refine ro1 [qt 0,qt 1,qt 2,qt 3,qt 4,qt 5,qt 6,qt 7,ld 8,ld 9,qt 10] ?_
   refine s_2 ?_
   refine rq rfl (qv_lenS UL.out rfl hl.sl) ?_
   refine s_1 ?_
   refine rq rfl (f_c (ccols_c hl o_m) rfl rfl) ?_
   refine s_2 ?_
   refine rq rfl (qv_func (cs := [(Value.pointer (some ⟨b1, 0, none⟩)), (Value.pointer (some ⟨b4, 0, none⟩)), (Value.pointer (some ⟨b2, 0, none⟩))]) rfl) ?_
   refine rl_q ?_
   refine c_l [] (filled_c (fid := 119) (caps := [(Value.pointer (some ⟨b1, 0, none⟩)), (Value.pointer (some ⟨b4, 0, none⟩)), (Value.pointer (some ⟨b2, 0, none⟩))]) (p := (fun x y => gi (gr L x) (y / ((gr M 0).length : Int)) * gi (gr M x) (y % ((gr M 0).length : Int)))) o_m o_m o_m o_m (fun x y a b c d => par1_c hl hm hc hd hc1 hc2 hc3 hLM rfl a o_m c d)) rfl rfl fun r1 V1 sg1 hV1 hp1 => ?_
   obtain ⟨rfl, ov, orv, rfl, hol, rfl⟩ := hp1
   have hl := hl.mono hV1
   have hm := hm.mono hV1
   have hc1 := hc1.mono hV1
   have hc2 := hc2.mono hV1
   have hc3 := hc3.mono hV1
   refine ops_nil ⟨[(Gr 27 1 ov (((rv.length : Int)).toNat) orv), (Rws 3 orv (tabP ((rv.length : Int)).toNat (((gr L 0).length : Int) * ((gr M 0).length : Int)).toNat (fun x y => gi (gr L x) (y / ((gr M 0).length : Int)) * gi (gr M x) (y % ((gr M 0).length : Int))))), (Arr 41 b3 [(Value.slice none 0 0)])], [], hV1, perm_nil _, ⟨[(Gr 27 1 ov (((rv.length : Int)).toNat) orv), (Rws 3 orv (tabP ((rv.length : Int)).toNat (((gr L 0).length : Int) * ((gr M 0).length : Int)).toNat (fun x y => gi (gr L x) (y / ((gr M 0).length : Int)) * gi (gr M x) (y % ((gr M 0).length : Int)))))], (List.perm_append_comm (l₁ := [(Gr 27 1 ov (((rv.length : Int)).toNat) orv), (Rws 3 orv (tabP ((rv.length : Int)).toNat (((gr L 0).length : Int) * ((gr M 0).length : Int)).toNat (fun x y => gi (gr L x) (y / ((gr M 0).length : Int)) * gi (gr M x) (y % ((gr M 0).length : Int)))))]))⟩, ?_⟩
   refine rl_o ?_
   refine ops_gr1 (k := 0) rfl (fun ho1 => ?_)
   refine s_tw rfl rfl (allc ho1 rfl) ?_
   refine on1 ?_
   refine s_2 ?_
   refine v_frw 1 (fun z hz => by rw [tabP_mem hz]; omega) (fun Vr hVr hrl hri => ?_)
   have hl := hl.mono hVr
   have hm := hm.mono hVr
   have hc1 := hc1.mono hVr
   have hc2 := hc2.mono hVr
   have hc3 := hc3.mono hVr
   refine v_fG 0 fun Vf4 hVf4 hc4 => ?_
   have hl := hl.mono hVf4
   have hm := hm.mono hVf4
   have hc1 := hc1.mono hVf4
   have hc2 := hc2.mono hVf4
   have hc3 := hc3.mono hVf4
   refine s_1 ?_
   refine rs2 _ (Value.int .i64 0) (r_va rfl) (rv_t rfl) ?_
   exact ⟨[], _, .refl _, rfl, ov, orv, rfl, hc4, by rw [tabP_len]; omega, fun j a b => (hri j a b).mono hVf4⟩

end Go.Proofs.YtbchkopkgpfkgaaGreatDoor

namespace Go.Proofs.YtbchkopkgpfkgaaGreatDoor
open Go.Vc
open Classical

set_option maxRecDepth 100000 in
set_option maxHeartbeats 4000000 in
theorem cha_c {V : HV} (ht : TabV Tryz.prog V) :
    FnC Tryz.prog 20 [] V [] (fun v _ _ => v = (Value.bool true)) := by
 refine f_i Tryz.func20 ?_
 intro w0 D
 have e1 : spc F1.vs 1 = 2 := rfl
 have e3 : spc F1.vs 3 = 1 := rfl
 refine s_6 ?_
 refine oq (qv_build (out := [(Value.string (⟨#[120]⟩ : ByteArray)), (Value.int .i64 1), (Value.int .i64 0), (Value.int .i64 1), (Value.int .i64 0)]) BI.out [(0, [(Value.string (⟨#[120]⟩ : ByteArray))]), (1, [(Value.int .i64 1)]), (3, [(Value.int .i64 1)])] rfl rfl) ?_
 refine ops_lit (n := 1) (s := 5) (cs := [(Value.string (⟨#[120]⟩ : ByteArray)), (Value.int .i64 1), (Value.int .i64 0), (Value.int .i64 1), (Value.int .i64 0)]) UL.out TZ.out (l_b rfl) rfl rfl rfl (l_b rfl) rfl (fun b1 => ?_)
 refine oq (qv_build (out := [(Value.int .i64 24), (Value.int .i64 0), (Value.slice none 0 0)]) BI.out [(0, [(Value.int .i64 24)])] rfl rfl) ?_
 refine oq (qv_build (out := [(Value.int .i64 1), (Value.int .i64 0), (Value.int .i64 0), (Value.int .i64 0), (Value.int .i64 24), (Value.int .i64 0), (Value.slice none 0 0), (Value.slice none 0 0), (Value.slice none 0 0), (Value.slice none 0 0)]) BI.out [(0, [(Value.int .i64 1)]), (4, [(Value.int .i64 24), (Value.int .i64 0), (Value.slice none 0 0)])] rfl rfl) ?_
 refine ops_lit (n := 1) (s := 10) (cs := [(Value.int .i64 1), (Value.int .i64 0), (Value.int .i64 0), (Value.int .i64 0), (Value.int .i64 24), (Value.int .i64 0), (Value.slice none 0 0), (Value.slice none 0 0), (Value.slice none 0 0), (Value.slice none 0 0)]) UL.out TZ.out (l_b rfl) rfl rfl rfl (l_b rfl) rfl (fun b2 => ?_)
 refine oq (qv_build (out := [(.slice (some ⟨b1, 0, none⟩) 1 1), (Value.slice none 0 0), (.slice (some ⟨b2, 0, none⟩) 1 1)]) BI.out [(0, [(.slice (some ⟨b1, 0, none⟩) 1 1)]), (2, [(.slice (some ⟨b2, 0, none⟩) 1 1)])] rfl rfl) ?_
 refine a_lo fun b3 => ?_
 refine s_3 ?_
 refine v_f 0 fun Vf1 hVf1 hc1 => ?_
 have ht := ht.mono hVf1
 refine v_f 0 fun Vf2 hVf2 hc2 => ?_
 have ht := ht.mono hVf2
 have hc1 := hc1.mono hVf2
 refine s_1 ?_
 have hF := F1_fls hc1 hc2
 refine s_1 ?_
 refine oq (qv_build (out := [(Value.slice none 0 0), (Value.bool false)]) BI.out [] rfl rfl) ?_
 refine c_l [] (Of_c (F := F1) (B := []) (tm := false) hF F1_valid Ints.nil (by rw [F1_fl.2.1]; exact rkE_nil) ht (by rw [e1, e3]; omega)) rfl rfl fun r1 V1 sg1 hV1 hp1 => ?_
 obtain ⟨rfl, cw, sv, rv, A, d, rfl, ⟨f, g, hch⟩, ⟨hd, hsd⟩, hM, xs, hxs⟩ := hp1
 have hA2 : A.length = 2 := by have h := chM_cls hch e3 (by rw [e1]; omega); rw [show (spc F1.vs 1).toNat = 2 from rfl, F1_cls] at h; exact h.symm
 have hdl : d.length = 2 := by rw [hd.length_eq, iota_len]; exact hA2
 rw [e1, e3] at hM hch
 rw [F1_ch hch hd hsd hA2] at hM
 have hrv : rv.length = 2 := hM.len
 have ht := ht.mono hV1
 have hc1 := hc1.mono hV1
 have hc2 := hc2.mono hV1
 have hF := hF.mono hV1
 refine s_4 ?_
 refine a_lo fun b4 => ?_
 refine s_tw rfl rfl (allc (Sl.one hM.sl) rfl) ?_
 refine s_7 ?_
 refine c_l [] (par_c hM hM L1_chn L1_chn rfl (by decide) (by decide)) rfl rfl fun r2 V2 sg2 hV2 hp2 => ?_
 obtain ⟨rfl, pw, prv, rfl, hpM⟩ := hp2
 rw [hrv] at hpM
 have hpM : Mat .i64 V2 pw prv P1 := hpM
 have hprv : prv.length = 2 := hpM.len
 have ht := ht.mono hV2
 have hc1 := hc1.mono hV2
 have hc2 := hc2.mono hV2
 have hF := hF.mono hV2
 have hM := hM.mono hV2
 have hxs := hxs.mono hV2
 refine s_3 ?_
 refine a_lo fun b5 => ?_
 refine s_tw rfl rfl (allc (Sl.one hpM.sl) rfl) ?_
 refine s_7 ?_
 by_cases g1 : (0 : Int) = 0
 ·
  refine s_1 ?_
  refine og (qv_lenSS UL.out rfl hxs) w_a ?_
  refine s_3 ?_
  by_cases g2 : ((d.length : Int)) = 2
  ·
   refine s_2 ?_
   refine og (qv_lenS UL.out rfl hM.sl) w_a ?_
   refine s_3 ?_
   by_cases g3 : ((rv.length : Int)) = 2
   ·
    refine s_2 ?_
    refine og (qv_ia UL.out SZ.out e_vm (inV hM.sl) rfl o_m o_m) w_a ?_
    refine og (qv_ld PL.out rfl (inV hM.sl) o_m o_m) w_a ?_
    refine ops_want (want_t g3 rfl rfl rfl) ?_
    refine ops_lit (n := 2) (s := 1) (cs := [(Value.int .i64 1), (Value.int .i64 0)]) UL.out TZ.out (l_b rfl) rfl rfl rfl (l_b rfl) rfl (fun b6 => ?_)
    refine o_fz 3 fun Vf3 hVf3 hc3 => ?_
    have ht := ht.mono hVf3
    have hc1 := hc1.mono hVf3
    have hc2 := hc2.mono hVf3
    have hF := hF.mono hVf3
    have hM := hM.mono hVf3
    have hxs := hxs.mono hVf3
    have hpM := hpM.mono hVf3
    have hg1 : Ints .i64 Vf3 (.slice (some ⟨b6, 0, none⟩) 2 2) [1, 0] := sl_cells hc3 rfl (Nat.le_refl _) o_m
    refine og (f_c (EqI_c (hM.row 0 o_m (by decide)) hg1) rfl rfl) w_a ?_
    refine s_2 ?_
    by_cases g4 : gr L1 0 = [1, 0]
    ·
     refine s_6 ?_
     refine og (qv_lenS UL.out rfl hpM.sl) w_a ?_
     refine s_3 ?_
     by_cases g5 : ((prv.length : Int)) = 2
     ·
      refine s_2 ?_
      refine og (qv_ia UL.out SZ.out e_vm (inV hpM.sl) rfl o_m o_m) w_a ?_
      refine og (qv_ld PL.out rfl (inV hpM.sl) o_m o_m) w_a ?_
      refine ops_want (want_t g5 rfl rfl rfl) ?_
      refine ops_lit (n := 4) (s := 1) (cs := [(Value.int .i64 0), (Value.int .i64 0), (Value.int .i64 0), (Value.int .i64 1)]) UL.out TZ.out (l_b rfl) rfl rfl rfl (l_b rfl) rfl (fun b7 => ?_)
      refine o_fz 3 fun Vf4 hVf4 hc4 => ?_
      have ht := ht.mono hVf4
      have hc1 := hc1.mono hVf4
      have hc2 := hc2.mono hVf4
      have hF := hF.mono hVf4
      have hM := hM.mono hVf4
      have hxs := hxs.mono hVf4
      have hpM := hpM.mono hVf4
      have hc3 := hc3.mono hVf4
      have hg1 := hg1.mono hVf4
      have hg2 : Ints .i64 Vf4 (.slice (some ⟨b7, 0, none⟩) 4 4) [0, 0, 0, 1] := sl_cells hc4 rfl (Nat.le_refl _) o_m
      refine og (f_c (EqI_c (hpM.row 1 o_m (by decide)) hg2) rfl rfl) w_a ?_
      refine s_4 ?_
      exact rt1 (jdt (by rfl))
     ·
      omega
    ·
     exact absurd rfl g4
   ·
    omega
  ·
   omega
 ·
  exact absurd rfl g1

end Go.Proofs.YtbchkopkgpfkgaaGreatDoor

namespace Go.Proofs.YtbchkopkgpfkgaaGreatDoor
open Go.Vc
open Classical

set_option maxRecDepth 100000 in
set_option maxHeartbeats 4000000 in
theorem Distinct2_c {V : HV} {l : Value} {rv : List Value} {L : List (List Int)} (hl : Mat .i64 V l rv L) (hc : Chn L) :
    FnC Tryz.prog 15 [(.agg #[l])] V [] (fun v _ _ => v = (.int .i64 (cntN (DcP L) (wdt L)))) := by
 refine f_i Tryz.func15 ?_
 intro w0 D
 have htl := trn_len (L := L)
 have hwl := hc.wle
 have hwe : (L.getD 0 []).length = wdt L := rfl
 refine s_2 ?_
 refine b_ox fun b1 => ?_
 refine s_6 ?_
 refine oq (f_c (CValid_c hl) rfl rfl) ?_
 refine s_2 ?_
 refine iff' ?_ ?_ <;> intro c1
 ·
  exact absurd hc c1
 ·
  refine s_10 ?_
  refine c_l [] (turned_c hl hc) rfl rfl fun r1 V1 sg1 hV1 hp1 => ?_
  obtain ⟨rfl, tw, ht⟩ := hp1
  have htn := ht.len
  have hl := hl.mono hV1
  refine oq (qv_lenS UL.out rfl ht.sl) ?_
  refine s_3 ?_
  refine lc1 [0,1,2,8,11,12] (fun (y : Int) => [(3, (.int .i64 (cntN (DcP L) y.toNat))), (13, (Value.int .i64 y))]) (fun y => 0 ≤ y ∧ y ≤ wdt L) (fun y => (wdt L - y).toNat) 0 ?_ ?_ ?_ 
  · exact ⟨(c_i (by rfl)), rfl, trivial⟩
  · exact ⟨by omega, by omega⟩
  rintro y e1 ⟨y1, y2⟩
  have hcb := cntN_bd (DcP L) y.toNat
  refine s_5 ?_
  refine iff' ?_ ?_ <;> intro c2
  ·
   refine s_5 ?_
   refine oq (qv_ia UL.out SZ.out e_vm (inV ht.sl) rfl o_m o_m) ?_
   refine oq (qv_ld PL.out rfl (inV ht.sl) o_m o_m) ?_
   refine s_5 ?_
   refine oq (f_c (gdiv_c (ht.row y o_m o_m) (trn_bd hc y1 o_m)) rfl rfl) ?_
   refine s_2 ?_
   refine iff' ?_ ?_ <;> intro c3
   ·
    refine s_9 ?_
    exact le1 (y + 1) ⟨(c_i (by rw [cntN_step o_m]; first | rw [if_pos (by assumption)] | rw [if_neg (by assumption)])), (c_i (by rfl)), trivial⟩ ⟨by omega, by omega⟩
   ·
    refine s_5 ?_
    exact le1 (y + 1) ⟨(c_i (by rw [cntN_step o_m]; first | rw [if_pos (by assumption)] | rw [if_neg (by assumption)])), (c_i (by rfl)), trivial⟩ ⟨by omega, by omega⟩
  ·
   refine s_8 ?_
   exact rt1 (c_i (by rw [show y.toNat = wdt L by omega]))

end Go.Proofs.YtbchkopkgpfkgaaGreatDoor
