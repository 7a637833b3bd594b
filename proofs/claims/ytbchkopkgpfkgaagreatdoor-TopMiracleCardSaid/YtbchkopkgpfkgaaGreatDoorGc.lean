import Derived.Test.YtbchkopkgpfkgaaGreatDoorTi
import Derived.Test.YtbchkopkgpfkgaaGreatDoorWp
import Derived.Test.YtbchkopkgpfkgaaGreatDoorTy
import Derived.Test.YtbchkopkgpfkgaaGreatDoorWb
/- Walks of the top laws: what each function returns. Printed by a program out of notes. -/
namespace Go.Proofs.YtbchkopkgpfkgaaGreatDoor
open Go.Vc
open Classical

set_option maxRecDepth 100000 in
set_option maxHeartbeats 4000000 in
theorem hull_c {V : HV} {a b c d : Int} :
    FnC Tryz.prog 207 [(.agg #[(Value.int .i64 a), (Value.int .i64 b)]), (.agg #[(Value.int .i64 c), (Value.int .i64 d)])] V [] (fun v _ _ => v = (.agg #[(.int .i64 (mnI a c)), (.int .i64 (mxI b d))])) := by
 refine f_i Tryz.func207 ?_
 intro w0 D
 refine s_2 ?_
 refine b_ox fun b1 => ?_
 refine b_ox fun b2 => ?_
 refine a_lo fun b3 => ?_
 refine s_13 ?_
 refine oq (qv_build (out := [(.int .i64 (if c < a then c else a)), (.int .i64 (if b < d then d else b))]) BI.out [(0, [(.int .i64 (if c < a then c else a))]), (1, [(.int .i64 (if b < d then d else b))])] rfl rfl) ?_
 refine s_3 ?_
 refine rs1 _ (r_va rfl) ?_
 exact (aggc (consc (c_i (by (first | unfold mnI | unfold mxI); (repeat' split) <;> first | rfl | (exfalso; omega) | omega)) (consc (c_i (by (first | unfold mnI | unfold mxI); (repeat' split) <;> first | rfl | (exfalso; omega) | omega)) rfl)))

set_option maxRecDepth 100000 in
set_option maxHeartbeats 4000000 in
theorem rule1_c {V : HV} {x y : Int} (h : -9223372036854775808 ≤ x * y ∧ x * y ≤ 9223372036854775807) :
    FnC Tryz.prog 206 [(Value.int .i64 x), (Value.int .i64 y)] V [] (fun v _ _ => v = (.int .i64 (x * y))) := by
 refine f_i Tryz.func206 ?_
 intro w0 D
 refine s_12 ?_
 exact rt1 rfl

set_option maxRecDepth 100000 in
set_option maxHeartbeats 4000000 in
theorem corners_c {V : HV} {a b c d : Int} (h1 : -1048576 ≤ a) (h2 : a ≤ b) (h3 : b ≤ 1048576) (k1 : -1048576 ≤ c) (k2 : c ≤ d) (k3 : d ≤ 1048576) :
    FnC Tryz.prog 205 [(.agg #[(Value.int .i64 a), (Value.int .i64 b)]), (.agg #[(Value.int .i64 c), (Value.int .i64 d)]), (.func (.func 206) #[] #[])] V [] (fun v _ _ => v = (.agg #[(.int .i64 (mnI (mnI (a * c) (a * d)) (mnI (b * c) (b * d)))), (.int .i64 (mxI (mxI (a * c) (a * d)) (mxI (b * c) (b * d))))])) := by
 refine f_i Tryz.func205 ?_
 intro w0 D
 have m1 := mul20 (a := a) (b := c) o_m o_m o_m o_m
 have m2 := mul20 (a := a) (b := d) o_m o_m o_m o_m
 have m3 := mul20 (a := b) (b := c) o_m o_m o_m o_m
 have m4 := mul20 (a := b) (b := d) o_m o_m o_m o_m
 refine s_2 ?_
 refine b_ox fun b1 => ?_
 refine b_ox fun b2 => ?_
 refine a_lo fun b3 => ?_
 refine s_8 ?_
 refine oq (f_c (rule1_c o_m) rfl rfl) ?_
 refine s_6 ?_
 refine oq (qv_build (out := [(.int .i64 (a * c)), (.int .i64 (a * c))]) BI.out [(0, [(.int .i64 (a * c))]), (1, [(.int .i64 (a * c))])] rfl rfl) ?_
 refine a_lo fun b4 => ?_
 refine s_4 ?_
 refine ro1 [qt 0,qt 1,qt 2,qt 3,qt 4,qt 5,qt 6,qt 7,qt 8,qt 9,qt 10,qt 11,qt 12,qt 13,qt 14,qt 15,qt 16,qt 17,qt 20,ld 18,qt 19] ?_
 refine s_5 ?_
 refine rq rfl (f_c (rule1_c o_m) rfl rfl) ?_
 refine s_5 ?_
 refine rq rfl (f_c (rule1_c o_m) rfl rfl) ?_
 refine s_5 ?_
 refine rq rfl (f_c (rule1_c o_m) rfl rfl) ?_
 refine s_1 ?_
 refine rl_q ?_
 refine ops_lit (n := 3) (s := 1) (cs := [(.int .i64 (a * d)), (.int .i64 (b * c)), (.int .i64 (b * d))]) UL.out TZ.out (l_b rfl) rfl rfl rfl (l_b rfl) rfl (fun b5 => ?_)
 refine ops_nil ⟨[(Arr 232 b1 [(Value.int .i64 a), (Value.int .i64 b)]), (Arr 232 b2 [(Value.int .i64 c), (Value.int .i64 d)]), (Arr 232 b3 [(Value.int .i64 0), (Value.int .i64 0)]), (Arr 232 b4 [(.int .i64 (a * c)), (.int .i64 (a * c))]), (Arr 3 b5 [(.int .i64 (a * d)), (.int .i64 (b * c)), (.int .i64 (b * d))])], [], (Sub.refl _), perm_nil _, ⟨[(Arr 3 b5 [(.int .i64 (a * d)), (.int .i64 (b * c)), (.int .i64 (b * d))])], (.refl _)⟩, ?_⟩
 refine rq rfl (qv_len UL.out rfl rfl) ?_
 refine s_2 ?_
 refine vc_to_gr (k := 4) (b := b5) (n := 3) (cap := 3) (cs := #[(.int .i64 (a * d)), (.int .i64 (b * c)), (.int .i64 (b * d))]) 1 ([a * d, b * c, b * d].map (Value.int .i64)) rfl rfl (Nat.le_refl _) (l_b rfl) rfl rfl ?_
 refine lp1 [0,1,2,3,4,6,7,8,38,39] (fun (i : Int) => [(40, (Value.int .i64 i))]) (fun i => [(Arr 232 b1 [(Value.int .i64 a), (Value.int .i64 b)]), (Arr 232 b2 [(Value.int .i64 c), (Value.int .i64 d)]), (Arr 232 b3 [(Value.int .i64 0), (Value.int .i64 0)]), (Arr 232 b4 [(.int .i64 ((hulN (a * c, a * c) ([a * d, b * c, b * d].take i.toNat)).1)), (.int .i64 ((hulN (a * c, a * c) ([a * d, b * c, b * d].take i.toNat)).2))]), (Gr 3 1 ((.slice (some ⟨b5, 0, none⟩) 3 3)) 3 (([a * d, b * c, b * d].map (Value.int .i64))))]) (fun i => 0 ≤ i ∧ i ≤ 3) (fun i => (3 - i).toNat) 0 ?_ ?_ ?_ ?_ 
 · exact ⟨rfl, trivial⟩
 · (rfl)
 · exact ⟨by omega, by omega⟩
 rintro i e1 ⟨i1, i2⟩
 refine s_5 ?_
 refine iff' ?_ ?_ <;> intro c1
 ·
  refine s_4 ?_
  have hlc : ([a * d, b * c, b * d] : List Int).length = 3 := rfl
  refine s_1 ?_
  refine oq (qv_iai UL.out SZ.out e_vm (inGi (k := 4) rfl) rfl o_m o_m) ?_
  refine oq (qv_ldi PL.out rfl (inGi (k := 4) rfl) o_m o_m) ?_
  refine s_6 ?_
  refine oq (qv_build (out := [(.int .i64 (gi ([a * d, b * c, b * d]) (i))), (.int .i64 (gi ([a * d, b * c, b * d]) (i)))]) BI.out [(0, [(.int .i64 (gi ([a * d, b * c, b * d]) (i)))]), (1, [(.int .i64 (gi ([a * d, b * c, b * d]) (i)))])] rfl rfl) ?_
  refine oq (f_c (hull_c) rfl rfl) ?_
  refine s_6 ?_
  exact le1 (i + 1) ⟨(c_i o_m), trivial⟩ ⟨by omega, by omega⟩ (hr := by rw [hulN_take (L := [a * d, b * c, b * d]) i1 (by show i < 3; omega)])
 ·
  refine s_8 ?_
  refine rs1 _ (r_va rfl) ?_
  exact (aggc (consc (c_i (by rw [show [a * d, b * c, b * d].take i.toNat = [a * d, b * c, b * d] from List.take_of_length_le (by show 3 ≤ i.toNat; omega), cor_eq])) (consc (c_i (by rw [show [a * d, b * c, b * d].take i.toNat = [a * d, b * c, b * d] from List.take_of_length_le (by show 3 ≤ i.toNat; omega), cor_eq])) rfl)))

end Go.Proofs.YtbchkopkgpfkgaaGreatDoor
