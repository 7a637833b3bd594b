import Derived.Test.YtbchkopkgpfkgaaGreatDoorTi
import Derived.Test.YtbchkopkgpfkgaaGreatDoorWq
/- Walks of the top laws: what each function returns. Printed by a program out of notes. -/
namespace Go.Proofs.YtbchkopkgpfkgaaGreatDoor
open Go.Vc
open Classical

set_option maxRecDepth 100000 in
set_option maxHeartbeats 4000000 in
theorem copyCheck0_c {V : HV} {b : Nat} {bv : Value} :
    FnC Tryz.prog 150 [(Value.pointer (some ⟨b, 0, none⟩))] V [(Arr 160 b [(Value.pointer none), bv])] (fun v V' σ' => V' = V ∧ v = .tuple #[] ∧ σ' = [Arr 160 b [.pointer (some ⟨b, 0, none⟩), bv]]) := by
 refine f_i Tryz.func150 ?_
 intro w0 D
 refine s_3 ?_
 refine oq (qv_nilck rfl) ?_
 refine s_2 ?_
 refine oq (qv_eqpnn UL.out rfl rfl) ?_
 refine s_5 ?_
 refine oq (qv_tou (k := 0) UL.out UL.out TZ.out (by decide) rfl (by simp) rfl) ?_
 refine oq (qv_noesc Tryz.func186 k_r k_r k_r k_r rfl rfl) ?_
 refine oq (qv_fromu (k := 0) UL.out UL.out TZ.out rfl k_r rfl) ?_
 refine oq (qv_nilck rfl) ?_
 refine s_3 ?_
 refine ret0 ?_
 exact ⟨rfl, rfl, rfl⟩

set_option maxRecDepth 100000 in
set_option maxHeartbeats 4000000 in
theorem copyCheck1_c {V : HV} {b : Nat} {bv : Value} :
    FnC Tryz.prog 150 [(Value.pointer (some ⟨b, 0, none⟩))] V [(Arr 160 b [(Value.pointer (some ⟨b, 0, none⟩)), bv])] (fun v V' σ' => V' = V ∧ v = .tuple #[] ∧ σ' = [Arr 160 b [.pointer (some ⟨b, 0, none⟩), bv]]) := by
 refine f_i Tryz.func150 ?_
 intro w0 D
 refine s_3 ?_
 refine oq (qv_nilck rfl) ?_
 refine s_2 ?_
 refine oq (qv_eqpn UL.out rfl rfl) ?_
 refine s_5 ?_
 refine oq (qv_nilck rfl) ?_
 refine s_3 ?_
 refine oq (qv_neps UL.out TZ.out rfl rfl) ?_
 refine s_3 ?_
 refine ret0 ?_
 exact ⟨rfl, rfl, rfl⟩

theorem copyCheck_c {V : HV} {b : Nat} {p bv : Value} (hp : p = .pointer none ∨ p = .pointer (some ⟨b, 0, none⟩)) : FnC Tryz.prog 150 [.pointer (some ⟨b, 0, none⟩)] V [Arr 160 b [p, bv]] (fun v V' σ' => V' = V ∧ v = .tuple #[] ∧ σ' = [Arr 160 b [.pointer (some ⟨b, 0, none⟩), bv]]) := by
  rcases hp with rfl | rfl
  · exact copyCheck0_c
  · exact copyCheck1_c
set_option maxRecDepth 100000 in
set_option maxHeartbeats 4000000 in
theorem WriteString_c {V : HV} {b n : Nat} {p bv : Value} {xs : List Value} (hp : p = .pointer none ∨ p = .pointer (some ⟨b, 0, none⟩)) {s : ByteArray} (hb : n + s.size ≤ 1000000) :
    FnC Tryz.prog 96 [(Value.pointer (some ⟨b, 0, none⟩)), (Value.string s)] V [(Arr 160 b [p, bv]), (Gr 5 1 bv n xs)] (fun v V' σ' => V' = V ∧ ∃ bv', σ' = [Arr 160 b [.pointer (some ⟨b, 0, none⟩), bv'], Gr 5 1 bv' (n + s.size) (xs ++ Lib.strCells s)]) := by
 refine f_i Tryz.func96 ?_
 intro w0 D
 refine s_8 ?_
 refine c_l [0] (copyCheck_c hp) rfl rfl fun r1 V1 sg1 hV1 hp1 => ?_
 obtain ⟨rfl, rfl, rfl⟩ := hp1
 refine s_5 ?_
 refine oq (qv_nilck rfl) ?_
 refine s_3 ?_
 refine ops_appendS (k := 1) (n := n) (v := bv) (xs := xs) (s := s) UL.out UL.out TZ.out rfl rfl rfl o_m m_x (fun v1 => ?_)
 refine oq (qv_nilck rfl) ?_
 refine s_1 ?_
 refine ops_gr1 (k := 1) rfl (fun ho1 => ?_)
 refine s_tp rfl e_vm ho1 ?_
 refine s_4 ?_
 refine oq (qv_lenstr UL.out rfl) ?_
 refine s_4 ?_
 refine ra2 ?_
 exact ⟨rfl, _, rfl⟩

set_option maxRecDepth 100000 in
set_option maxHeartbeats 4000000 in
theorem WriteByte_c {V : HV} {b n : Nat} {p bv : Value} {xs : List Value} (hp : p = .pointer none ∨ p = .pointer (some ⟨b, 0, none⟩)) {c : Int} (hb : n + 1 ≤ 1000000) :
    FnC Tryz.prog 98 [(Value.pointer (some ⟨b, 0, none⟩)), (Value.int .u8 c)] V [(Arr 160 b [p, bv]), (Gr 5 1 bv n xs)] (fun v V' σ' => V' = V ∧ ∃ bv', σ' = [Arr 160 b [.pointer (some ⟨b, 0, none⟩), bv'], Gr 5 1 bv' (n + 1) (xs ++ [.int .u8 c])]) := by
 refine f_i Tryz.func98 ?_
 intro w0 D
 refine s_7 ?_
 refine c_l [0] (copyCheck_c hp) rfl rfl fun r1 V1 sg1 hV1 hp1 => ?_
 obtain ⟨rfl, rfl, rfl⟩ := hp1
 refine s_5 ?_
 refine oq (qv_nilck rfl) ?_
 refine s_3 ?_
 refine ops_lit (n := 1) (s := 1) (cs := [(Value.int .u8 c)]) UL.out TZ.out (l_b rfl) rfl rfl rfl (l_b rfl) rfl (fun b1 => ?_)
 refine a_po rfl rfl rfl o_c o_m m_x fun v1 hn1 => ?_
 refine oq (qv_nilck rfl) ?_
 refine s_1 ?_
 refine ops_gr1 (k := 1) rfl (fun ho1 => ?_)
 refine s_tp rfl e_vm ho1 ?_
 refine s_5 ?_
 refine v_d 2 ?_
 refine s_1 ?_
 refine ra1 ?_
 exact ⟨rfl, _, rfl⟩

set_option maxRecDepth 100000 in
set_option maxHeartbeats 4000000 in
theorem String0_c {V : HV} {b gb cap : Nat} {p : Value} {cs : List Value} {l : List UInt8} (h0 : l ≠ []) (hcap : cap ≠ 0) (hcs : cs.take l.length = Lib.byteCells l) (h63 : l.length ≤ 9223372036854775807) :
    FnC Tryz.prog 99 [(Value.pointer (some ⟨b, 0, none⟩))] V [(Arr 160 b [p, (.slice (some ⟨gb, 0, none⟩) l.length cap)]), (Arr 5 gb cs)] (fun v V' σ' => V' = V ∧ v = .string ⟨l.toArray⟩ ∧ σ' = []) := by
 refine f_i Tryz.func99 ?_
 intro w0 D
 refine s_5 ?_
 refine rom [qt 0,qt 1,qt 2,qt 3,qt 4,qt 5,qt 6,qt 7,qt 8,qt 9,ld 10,qt 11] [0,1] ?_
 refine s_1 ?_
 refine rq rfl (qv_nilck rfl) ?_
 refine s_2 ?_
 refine rq rfl (qv_sdata (hcap) rfl) ?_
 refine s_1 ?_
 refine rq rfl (qv_nilck rfl) ?_
 refine s_2 ?_
 refine rq rfl (qv_len UL.out rfl rfl) ?_
 refine rl_q ?_
 refine ops_ustr (k := 1) (l := l) UL.out k_r h0 rfl hcs rfl rfl h63 ?_
 refine on2 [0,1] (Sub.refl _) ?_
 refine s_2 ?_
 refine v_dA ?_
 refine s_1 ?_
 refine ra1 ?_
 exact ⟨rfl, rfl, rfl⟩

theorem String_c {V : HV} {b : Nat} {p bv : Value} {l : List UInt8} (h0 : l ≠ []) : FnC Tryz.prog 99 [.pointer (some ⟨b, 0, none⟩)] V [Arr 160 b [p, bv], Gr 5 1 bv l.length (Lib.byteCells l)] (fun v V' σ' => V' = V ∧ v = .string ⟨l.toArray⟩ ∧ σ' = []) := by
  refine ⟨⟨_, Tryz.func99, by rfl, by rfl⟩, fun w0 hs0 q1 q2 q3 q4 => ?_⟩
  match hs0, q1 with
  | [h1, h2], q1 =>
    have hg : Gr 5 1 bv l.length (Lib.byteCells l) h2 := q1.2.1
    rcases hg.2 with ⟨rfl, hn, _⟩ | ⟨g, cap, cur, rfl, he, z1, z2, z3, z4⟩
    · exact absurd (List.eq_nil_of_length_eq_zero hn) h0
    · have hl : l.length ≠ 0 := by simpa using h0
      rw [Nat.mul_one] at z4
      exact (String0_c (gb := g) (cap := cap) (cs := cur.toList) h0 o_m z4 (by simp only [maxLen] at z2; omega)).run w0 [h1, h2] ⟨q1.1, he, trivial⟩ q2 q3 q4
set_option maxRecDepth 100000 in
set_option maxHeartbeats 4000000 in
theorem spelledC_c {V : HV} {lv : Value} {l : List Int} (ht : TabV Tryz.prog V) (hl : Ints .i64 V lv l) (h1 : 1 ≤ l.length) (h2 : l.length ≤ 1000) (hr : ∀ i : Int, 0 ≤ i → i < l.length → -9223372036854775808 ≤ gi l i ∧ gi l i ≤ 9223372036854775807) :
    FnC Tryz.prog 34 [lv] V [] (fun v _ _ => v = .string (spl l)) := by
 refine f_i Tryz.func34 ?_
 intro w0 D
 refine s_6 ?_
 refine a_lo fun b1 => ?_
 refine s_3 ?_
 refine vc_nil 5 1 ?_
 refine s_2 ?_
 refine oq (qv_lenI UL.out rfl hl) ?_
 refine s_3 ?_
 refine lp3 [0,2,3,6,7] (fun (i : Int) (p : Value) (bv : Value) => [(8, (Value.int .i64 i))]) (fun i p bv => [(Arr 160 b1 [p, bv]), (Gr 5 1 bv ((splB (l.take i.toNat)).length) ((Lib.byteCells (splB (l.take i.toNat)))))]) (fun i p bv => 0 ≤ i ∧ i ≤ l.length ∧ (p = .pointer none ∨ p = .pointer (some ⟨b1, 0, none⟩)) ∧ ((splB (l.take i.toNat)).length : Int) ≤ i * 22) (fun i p bv => (l.length - i).toNat) 0 ((Value.pointer none)) ((Value.slice none 0 0)) ?_ ?_ ?_ ?_ 
 · exact ⟨rfl, trivial⟩
 · (rfl)
 · exact ⟨by omega, by omega, Or.inl rfl, Int.le_refl _⟩
 rintro i p bv e1 ⟨i1, i2, hp, hsz⟩
 refine s_5 ?_
 refine iff' ?_ ?_ <;> intro c1
 ·
  refine s_4 ?_
  have hri := hr i i1 o_m
  have hil := Lib.itoa_length_le (gi l i) hri.1 hri.2
  have hsi : (⟨(Lib.itoa (gi l i)).toArray⟩ : ByteArray).size = (Lib.itoa (gi l i)).length := rfl
  have hbc : Lib.byteCells (splB (l.take i.toNat) ++ Lib.itoa (gi l i) ++ [32]) = Lib.byteCells (splB (l.take i.toNat)) ++ Lib.strCells (⟨(Lib.itoa (gi l i)).toArray⟩ : ByteArray) ++ [.int .u8 32] := by simp [Lib.byteCells, Lib.strCells]
  refine s_1 ?_
  refine oq (qv_iai UL.out SZ.out e_vm (inVi hl) rfl o_m o_m) ?_
  refine oq (qv_ldi PL.out rfl (inVi hl) o_m o_m) ?_
  refine s_5 ?_
  refine oq (f_c (Itoa_c ht hri.1 hri.2) rfl rfl) ?_
  refine c_l [0,0] (WriteString_c hp (by rw [hsi]; omega)) rfl rfl fun r1 V1 sg1 hV1 hp1 => ?_
  obtain ⟨rfl, bv1, rfl⟩ := hp1
  have ht := ht.mono hV1
  have hl := hl.mono hV1
  refine s_2 ?_
  refine c_l [0,0] (WriteByte_c (.inr rfl) (by rw [hsi]; omega)) rfl rfl fun r2 V2 sg2 hV2 hp2 => ?_
  obtain ⟨rfl, bv2, rfl⟩ := hp2
  have ht := ht.mono hV2
  have hl := hl.mono hV2
  refine s_5 ?_
  exact le3 (i + 1) ((.pointer (some ⟨b1, 0, none⟩) : Value)) bv2 ⟨(c_i o_m), trivial⟩ ⟨by omega, by omega, Or.inr rfl, by rw [splB_take i1 o_m, ← List.append_assoc, List.length_append, List.length_append]; simp only [List.length_singleton]; omega⟩ (hr := by rw [splB_take i1 o_m, ← List.append_assoc, List.length_append, List.length_append, hbc]; rfl)
 ·
  refine s_3 ?_
  have hne := splB_ne h1
  refine vc_res (σ' := [(Arr 160 b1 [p, bv]), (Gr 5 1 bv ((splB l).length) ((Lib.byteCells (splB l))))]) (by rw [List.take_of_length_le o_m]) ?_
  refine s_1 ?_
  refine c_l [0,0] (String_c (l := splB l) hne) rfl rfl fun r3 V3 sg3 hV3 hp3 => ?_
  obtain ⟨rfl, rfl, rfl⟩ := hp3
  have ht := ht.mono hV3
  have hl := hl.mono hV3
  refine s_3 ?_
  refine ra1 ?_
  rfl

end Go.Proofs.YtbchkopkgpfkgaaGreatDoor
