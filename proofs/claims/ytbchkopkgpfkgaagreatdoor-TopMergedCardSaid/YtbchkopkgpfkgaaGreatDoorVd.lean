/- Vd. -/
import Derived.Test.YtbchkopkgpfkgaaGreatDoorTi
import Derived.Test.YtbchkopkgpfkgaaGreatDoorVa
import Derived.Test.YtbchkopkgpfkgaaGreatDoorWb
import Derived.Test.YtbchkopkgpfkgaaGreatDoorWu
namespace Go.Proofs.YtbchkopkgpfkgaaGreatDoor
open Go.Vc
open Classical
theorem CloneW_c {V : HV} {x : Value} {xs : List Int} (hs : Ints .i64 V x xs) (hb : xs.length ≤ 1000000) : FnC Tryz.prog 95 [x] V [] (fun v _ σ' => σ' = [Gr 3 1 v xs.length (xs.map (Value.int .i64))]) := (Clone_c hs hb).mono fun _ _ _ _ h => h.2

set_option maxRecDepth 100000 in
set_option maxHeartbeats 4000000 in
theorem joint_c {V : HV} {l : Value} {rv : List Value} {L : List (List Int)} {pv : Value} {p : List Int} {y : Int} (hl : Mat .i64 V l rv L) (hp : Ints .i64 V pv p) (hc : Chn L) (hpl : p.length = L.length) (hpw : Wts p 65536) (y0 : 0 ≤ y) (y1 : y < wdt L) :
    FnC Tryz.prog 106 [(.agg #[l]), pv, (Value.int .i64 y)] V [] (fun v _ σ' => σ' = [Gr 3 1 v L.length ((colF L p y.toNat).map (Value.int .i64))]) := by
 refine f_i Tryz.func106 ?_
 intro w0 D
 have hlen := hl.len
 have hwd := hc.wd
 have hle := hc.le
 have htl := hc.tle
 refine s_2 ?_
 refine b_ox fun b1 => ?_
 refine s_5 ?_
 refine c_l [] (CloneW_c hp o_m) rfl rfl fun r1 V1 sg1 hV1 hp1 => ?_
 obtain rfl := hp1
 have hl := hl.mono hV1
 have hp := hp.mono hV1
 refine s_6 ?_
 refine oq (qv_lenGi UL.out rfl (inGi (k := 0) rfl)) ?_
 refine s_3 ?_
 refine lp1 [0,1,2,3,6,7,12] (fun (x : Int) => [(13, (Value.int .i64 x))]) (fun x => [(Gr 3 1 r1 p.length (((jnt L p y.toNat x.toNat).map (Value.int .i64)))), (Arr 41 b1 [l])]) (fun x => 0 ≤ x ∧ x ≤ p.length) (fun x => (p.length - x).toNat) 0 ?_ ?_ ?_ ?_ 
 · exact ⟨rfl, trivial⟩
 · (rw [show (0 : Int).toNat = 0 by omega, jnt_0])
 · exact ⟨by omega, by omega⟩
 rintro x e1 ⟨i1, i2⟩
 refine s_5 ?_
 refine iff' ?_ ?_ <;> intro c1
 ·
  refine s_8 ?_
  have hy : y < (gr L 0).length := y1
  have hrl := hc.rl (x := x) o_m o_m
  have q1 := hpw.nn x.toNat o_m
  have q2 := hpw.el (i := x.toNat) o_m
  have q3 := hc.nn (x := x.toNat) (y := y.toNat) o_m o_m
  have q4 := hc.ele (x := x.toNat) (y := y.toNat) o_m o_m
  have q1 : 0 ≤ gi p x := q1
  have q2 : gi p x ≤ 65536 := q2
  have q3 : 0 ≤ gi (gr L x) y := q3
  have q4 : gi (gr L x) y ≤ totC L := q4
  have q5 := Int.mul_nonneg q1 q3
  have q6 : gi p x * gi (gr L x) y ≤ 65536 * 1048576 := Int.mul_le_mul q2 o_m q3 o_m
  have hjl := jnt_len (L := L) (p := p) (y := y.toNat) (x := x.toNat)
  have hel := jnt_el (L := L) (p := p) (y := y.toNat) (x := x) o_m o_m
  have q7 : gi (jnt L p y.toNat x.toNat) x * gi (gr L x) y = gi p x * gi (gr L x) y := by rw [hel]
  refine ro1 [qt 0,qt 1,qt 2,qt 3,qt 4,qt 5,qt 6,qt 7,qt 8,qt 9,qt 10,qt 11,qt 12,qt 13,ld 14] ?_
  refine s_2 ?_
  refine rq rfl (qv_iai UL.out SZ.out e_vm (inGi (k := 0) rfl) rfl o_m o_m) ?_
  refine rq rfl (qv_ldi PL.out rfl (inGi (k := 0) rfl) o_m o_m) ?_
  refine s_3 ?_
  refine rq rfl (qv_ia UL.out SZ.out e_vm (inV hl.sl) rfl o_m o_m) ?_
  refine rq rfl (qv_ld PL.out rfl (inV hl.sl) o_m o_m) ?_
  refine s_1 ?_
  refine rq rfl (qv_iai UL.out SZ.out e_vm (inVi (hl.row (x) o_m o_m)) rfl o_m o_m) ?_
  refine rq rfl (qv_ldi PL.out rfl (inVi (hl.row (x) o_m o_m)) o_m o_m) ?_
  refine s_1 ?_
  refine rq rfl (qv_iai UL.out SZ.out e_vm (inGi (k := 0) rfl) rfl o_m o_m) ?_
  refine rl_o ?_
  refine ops_stg (k := 0) (v := r1) (i := x) (u := (.int .i64 ((gi ((jnt L p y.toNat x.toNat)) (x)) * (gi (gr L (x)) (y))))) SZ.out rfl rfl rfl rfl o_m (by simp only [List.length_map, List.length_set]; omega) ?_
  refine on1 ?_
  refine s_5 ?_
  exact le1 (x + 1) ⟨(c_i o_m), trivial⟩ ⟨by omega, by omega⟩ (hr := by rw [← jnt_step o_m o_m, ← hel, List.map_set])
 ·
  refine s_3 ?_
  have hend : jnt L p y.toNat x.toNat = colF L p y.toNat := by rw [show x.toNat = p.length by omega]; exact jnt_end hpl
  refine v_d 1 ?_
  refine s_5 ?_
  refine ra1 ?_
  rw [hend, hpl]

end Go.Proofs.YtbchkopkgpfkgaaGreatDoor

namespace Go.Proofs.YtbchkopkgpfkgaaGreatDoor
open Go.Vc
open Classical

set_option maxRecDepth 100000 in
set_option maxHeartbeats 4000000 in
theorem ovc_c {V : HV} {l : Value} {rv : List Value} {L : List (List Int)} {pv : Value} {p : List Int} {fid : Nat} {caps : List Value} {F : Nat → Int} (hl : Mat .i64 V l rv L) (hp : Ints .i64 V pv p) (hc : Chn L) (hpl : p.length = L.length) (hpw : Wts p 65536) (hF : ∀ y : Nat, y < wdt L → 0 ≤ F y ∧ F y ≤ 18014398509481984) (hf : (∀ (W : HV) (x : Value) (y : Int), Vc.Sub V W → 0 ≤ y → y < wdt L → Ints .i64 W x (colF L p y.toNat) → FnC Tryz.prog fid (x :: caps) W [] (fun v _ _ => v = .int .i64 (F y.toNat)))) :
    FnC Tryz.prog 39 [(.agg #[l]), pv, (Value.func (.func fid) #[] caps.toArray)] V [] (fun v _ _ => v = (.int .i64 (sumN F (wdt L)))) := by
 refine f_i Tryz.func39 ?_
 intro w0 D
 have hlen := hl.len
 have hpos := hc.pos
 have hwd := hc.wd
 have hwle := hc.wle
 have hwe : (L.getD 0 []).length = wdt L := rfl
 have hsub := Vc.Sub.refl V
 refine s_2 ?_
 refine b_ox fun b1 => ?_
 refine s_11 ?_
 refine oq (qv_ia UL.out SZ.out e_vm (inV hl.sl) rfl o_m o_m) ?_
 refine oq (qv_ld PL.out rfl (inV hl.sl) o_m o_m) ?_
 refine oq (qv_lenI UL.out rfl (hl.row (0) o_m o_m)) ?_
 refine s_3 ?_
 refine lv1 [0,1,2,3,6,13] (fun (y : Int) => [(7, (.int .i64 (sumN F y.toNat))), (14, (Value.int .i64 y))]) (fun y => [(Arr 41 b1 [l])]) (fun y V' => Mat .i64 V' l rv L ∧ Ints .i64 V' pv p ∧ Vc.Sub V V' ∧ 0 ≤ y ∧ y ≤ (gr L 0).length ∧ 0 ≤ sumN F y.toNat ∧ sumN F y.toNat ≤ y * 18014398509481984) (fun y => ((gr L 0).length - y).toNat) 0 ?_ ?_ ?_ ?_ 
 · exact ⟨(c_i (by rfl)), rfl, trivial⟩
 · rfl
 · exact ⟨hl, hp, Vc.Sub.refl V, by omega, by omega, Int.le_refl _, Int.le_refl _⟩
 rintro y e1 V0l ⟨hl, hp, hsub, i1, i2, h0, h1⟩
 refine s_5 ?_
 refine iff' ?_ ?_ <;> intro c1
 ·
  refine s_8 ?_
  have hFy := hF y.toNat o_m
  refine s_6 ?_
  refine c_l [] (joint_c (y := y) hl hp hc hpl hpw o_m o_m) rfl rfl fun r1 V1 sg1 hV1 hp1 => ?_
  obtain rfl := hp1
  have hl := hl.mono hV1
  have hp := hp.mono hV1
  have hsub := hsub.mono hV1
  refine o_fG 0 fun Vf1 hVf1 hc1 => ?_
  have hl := hl.mono hVf1
  have hp := hp.mono hVf1
  have hsub := hsub.mono hVf1
  have hcx : Ints .i64 Vf1 r1 (colF L p y.toNat) := hc1
  refine oq (f_c (hf _ _ y hsub o_m o_m hcx) rfl rfl) ?_
  refine s_7 ?_
  exact lw1 (y + 1) ⟨(c_i (by rw [sumN_step o_m])), (c_i (by rfl)), trivial⟩ ⟨hl, hp, hsub, by omega, by omega, by rw [sumN_step o_m]; omega, by rw [sumN_step o_m]; omega⟩
 ·
  refine s_8 ?_
  exact rt1 (c_i (by rw [show y.toNat = wdt L by omega]))

set_option maxRecDepth 100000 in
set_option maxHeartbeats 4000000 in
theorem Max_c {V : HV} {x : Value} {r : List Int} (hr : Ints .i64 V x r) (h1 : 1 ≤ r.length) (h2 : 0 ≤ r.getD 0 0) :
    FnC Tryz.prog 42 [x] V [] (fun v _ _ => v = (.int .i64 (maxN (fun z => r.getD z 0) r.length))) := by
 refine f_i Tryz.func42 ?_
 intro w0 D
 have hb := hr.bound
 refine s_8 ?_
 refine oq (qv_lenI UL.out rfl hr) ?_
 refine s_2 ?_
 refine iff' ?_ ?_ <;> intro c1
 ·
  omega
 ·
  refine s_4 ?_
  refine oq (qv_iai UL.out SZ.out e_vm (inVi hr) rfl o_m o_m) ?_
  refine oq (qv_ldi PL.out rfl (inVi hr) o_m o_m) ?_
  refine s_8 ?_
  refine lc1 [0,2,7] (fun (i : Int) => [(3, (.int .i64 (maxN (fun z => r.getD z 0) i.toNat))), (4, (Value.int .i64 i))]) (fun i => 1 ≤ i ∧ i ≤ r.length) (fun i => (r.length - i).toNat) 1 ?_ ?_ ?_ 
  · exact ⟨(c_i (by show r.getD 0 0 = if (0 : Int) < r.getD 0 0 then r.getD 0 0 else 0; split <;> omega)), rfl, trivial⟩
  · exact ⟨by omega, by omega⟩
  rintro i e1 ⟨i1, i2⟩
  refine s_5 ?_
  refine oq (qv_lenI UL.out rfl hr) ?_
  refine s_2 ?_
  refine iff' ?_ ?_ <;> intro c2
  ·
   refine s_7 ?_
   refine oq (qv_iai UL.out SZ.out e_vm (inVi hr) rfl o_m o_m) ?_
   refine oq (qv_ldi PL.out rfl (inVi hr) o_m o_m) ?_
   refine s_8 ?_
   exact le1 (i + 1) ⟨(c_i (by exact (maxN_step o_m).symm)), (c_i (by rfl)), trivial⟩ ⟨by omega, by omega⟩
  ·
   refine s_8 ?_
   exact rt1 (c_i (by rw [show i.toNat = r.length by omega]))

set_option maxRecDepth 100000 in
set_option maxHeartbeats 4000000 in
theorem Cap1_c {V : HV} {x : Value} {r : List Int} (hr : Ints .i64 V x r) (h1 : 1 ≤ r.length) (h2 : 0 ≤ r.getD 0 0) :
    FnC Tryz.prog 41 [x] V [] (fun v _ _ => v = (.int .i64 (maxN (fun z => r.getD z 0) r.length))) := by
 refine f_i Tryz.func41 ?_
 intro w0 D
 refine s_7 ?_
 refine oq (f_c (Max_c hr h1 h2) rfl rfl) ?_
 refine s_3 ?_
 exact rt1 rfl

set_option maxRecDepth 100000 in
set_option maxHeartbeats 4000000 in
theorem Mul64_c {V : HV} {x y : Int} (x0 : 0 ≤ x) (x1 : x < 18446744073709551616) (y0 : 0 ≤ y) (y1 : y < 18446744073709551616) :
    FnC Tryz.prog 165 [(Value.int .u64 x), (Value.int .u64 y)] V [] (fun v _ _ => v = .tuple #[(.int .u64 (x * y / 18446744073709551616)), (.int .u64 (x * y % 18446744073709551616))]) := by
 refine f_i Tryz.func165 ?_
 intro w0 D
 obtain ⟨m1a, m1b⟩ := mul32 (a := x % 4294967296) (b := y % 4294967296) o_m o_m o_m o_m
 obtain ⟨m2a, m2b⟩ := mul32 (a := x / 4294967296) (b := y % 4294967296) o_m o_m o_m o_m
 obtain ⟨m3a, m3b⟩ := mul32 (a := x % 4294967296) (b := y / 4294967296) o_m o_m o_m o_m
 obtain ⟨m4a, m4b⟩ := mul32 (a := x / 4294967296) (b := y / 4294967296) o_m o_m o_m o_m
 have mm := mul_parts (x := x) (y := y) (a := x / 4294967296) (b := x % 4294967296) (c := y / 4294967296) (d := y % 4294967296) o_m o_m
 refine s_8 ?_
 refine oq (qv_and32 rfl rfl o_m) ?_
 refine s_5 ?_
 refine oq (qv_shrc rfl rfl 4294967296 o_m o_m (by decide)) ?_
 refine s_5 ?_
 refine oq (qv_and32 rfl rfl o_m) ?_
 refine s_5 ?_
 refine oq (qv_shrc rfl rfl 4294967296 o_m o_m (by decide)) ?_
 refine s_6 ?_
 refine oq (qv_mulu rfl rfl o_m) ?_
 refine s_6 ?_
 refine oq (qv_mulu rfl rfl o_m) ?_
 refine s_1 ?_
 refine oq (qv_shrc rfl rfl 4294967296 o_m o_m (by decide)) ?_
 refine oq (qv_addu rfl rfl o_m) ?_
 refine s_5 ?_
 refine oq (qv_and32 rfl rfl o_m) ?_
 refine s_5 ?_
 refine oq (qv_shrc rfl rfl 4294967296 o_m o_m (by decide)) ?_
 refine s_7 ?_
 refine oq (qv_mulu rfl rfl o_m) ?_
 refine oq (qv_addu rfl rfl o_m) ?_
 refine s_6 ?_
 refine oq (qv_mulu rfl rfl o_m) ?_
 refine s_1 ?_
 refine oq (qv_addu rfl rfl o_m) ?_
 refine s_1 ?_
 refine oq (qv_shrc rfl rfl 4294967296 o_m o_m (by decide)) ?_
 refine oq (qv_addu rfl rfl o_m) ?_
 refine s_6 ?_
 refine oq (qv_mulw rfl rfl) ?_
 refine s_3 ?_
 exact rt2 (c_i (by rw [mm]; omega)) (c_i (by rfl))

set_option maxRecDepth 100000 in
set_option maxHeartbeats 4000000 in
theorem Mul_c {V : HV} {x y : Int} (x0 : 0 ≤ x) (x1 : x < 18446744073709551616) (y0 : 0 ≤ y) (y1 : y < 18446744073709551616) :
    FnC Tryz.prog 107 [(Value.int .u64 x), (Value.int .u64 y)] V [] (fun v _ _ => v = .tuple #[(.int .u64 (x * y / 18446744073709551616)), (.int .u64 (x * y % 18446744073709551616))]) := by
 refine f_i Tryz.func107 ?_
 intro w0 D
 refine s_12 ?_
 refine oq (f_c (Mul64_c x0 x1 y0 y1) rfl rfl) ?_
 refine s_14 ?_
 exact rt2 rfl rfl

end Go.Proofs.YtbchkopkgpfkgaaGreatDoor
