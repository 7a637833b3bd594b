import Derived.Test.YtbchkopkgpfkgaaGreatDoorTi
import Derived.Test.YtbchkopkgpfkgaaGreatDoorFc
/- Walks of the top laws: what each function returns. Printed by a program out of notes. -/
namespace Go.Proofs.YtbchkopkgpfkgaaGreatDoor
open Go.Vc
open Classical

set_option maxRecDepth 100000 in
set_option maxHeartbeats 4000000 in
theorem spanR_c {V : HV} {t : Tm} {ks : Value} {va lo hi : Value} {vs : List Vr} {K : List Pr2} {inp : Bool} (hv : Vrs V va vs) (hlo : Ints .i64 V lo (K.map Prod.fst)) (hhi : Ints .i64 V hi (K.map Prod.snd)) (hg : ∀ j : Int, gdR (pg K j)) (hkb : ¬ kBad t.op K.length) (hnb : ¬ nBad vs inp t.op t.n) (hT : Tms V ks t.kids) :
    FnC Tryz.prog 171 [va, (.agg #[(.int .i64 t.op), (.int .i64 t.n), ks]), lo, hi] V [] (fun v _ _ => v = .tuple #[(.int .i64 ((rul vs t.op t.n K).1)), (.int .i64 ((rul vs t.op t.n K).2))]) := by
 refine f_i Tryz.func171 ?_
 intro w0 D
 obtain ⟨kvs, hS, hK⟩ := hT
 have hb2 := SlS.bound hv
 have hb3 : K.length ≤ 9223372036854775807 := by have q := hlo.bound; rwa [List.length_map] at q
 have hl1 : (K.map Prod.fst).length = K.length := List.length_map ..
 have hl2 : (K.map Prod.snd).length = K.length := List.length_map ..
 refine s_2 ?_
 refine b_ox fun b1 => ?_
 refine s_15 ?_
 refine iff' ?_ ?_ <;> intro c1
 ·
  refine s_2 ?_
  refine j_n [0,1,2,3,5,8,9,19,20] [(29, (.bool (decide ((t.n < ((-1048576))) ∨ (1048576 < t.n)))))] ?_ (fun e1 => ?_)
  ·
   refine s_5 ?_
   by_cases g1 : t.n < ((-1048576))
   ·
    refine s_5 ?_
    exact j_e ⟨(jt (.inl g1)), trivial⟩
   ·
    refine s_5 ?_
    exact j_e ⟨(jb (jo g1 Iff.rfl)), trivial⟩
  refine iff' ?_ ?_ <;> intro c2
  ·
   refine s_7 ?_
   exact rt2 (c_i (by rw [c1]; first | rw [rul_0a o_m] | rw [rul_0b o_m])) (c_i (by rw [c1]; first | rw [rul_0a o_m] | rw [rul_0b o_m]))
  ·
   refine s_12 ?_
   exact rt2 (c_i (by rw [c1]; first | rw [rul_0a o_m] | rw [rul_0b o_m])) (c_i (by rw [c1]; first | rw [rul_0a o_m] | rw [rul_0b o_m]))
 ·
  refine s_5 ?_
  refine iff' ?_ ?_ <;> intro c3
  ·
   refine s_1 ?_
   have hnv : 0 ≤ t.n ∧ t.n < (vs.length : Int) := Classical.byContradiction fun q => hnb (.inl ⟨by assumption, .inl o_m⟩)
   refine s_4 ?_
   refine qq (qv_ias UL.out SZ.out e_vm hv rfl o_m o_m) ?_
   refine qq (qv_fas FI.out rfl hv o_m o_m) ?_
   refine qq (qv_ldf PL.out rfl hv o_m o_m o_m (vrcs_el (o := 2) o_m o_m o_m rfl)) ?_
   refine s_3 ?_
   refine qq (qv_ias UL.out SZ.out e_vm hv rfl o_m o_m) ?_
   refine qq (qv_fas FI.out rfl hv o_m o_m) ?_
   refine qq (qv_ldf PL.out rfl hv o_m o_m o_m (vrcs_el (o := 3) o_m o_m o_m rfl)) ?_
   refine s_5 ?_
   exact rt2 (c_i (by rw [c3]; rfl)) (c_i (by rw [c3]; rfl))
  ·
   refine s_5 ?_
   refine iff' ?_ ?_ <;> intro c4
   ·
    refine s_1 ?_
    have hln := kb1 hkb o_m
    have hg0 := hg 0
    have hg1 := hg 1
    obtain ⟨ga1, ga2, ga3⟩ := hg0
    obtain ⟨gb1, gb2, gb3⟩ := hg1
    have hp0 := pg_map (k := K) (i := 0) o_m o_m
    refine s_2 ?_
    refine qq (qv_iai UL.out SZ.out e_vm (inVi hhi) rfl o_m o_m) ?_
    refine qq (qv_ldi PL.out rfl (inVi hhi) o_m o_m) ?_
    refine qq (qv_neg rfl o_m) ?_
    refine s_1 ?_
    refine qq (qv_iai UL.out SZ.out e_vm (inVi hlo) rfl o_m o_m) ?_
    refine qq (qv_ldi PL.out rfl (inVi hlo) o_m o_m) ?_
    refine qq (qv_neg rfl o_m) ?_
    refine s_5 ?_
    exact rt2 (c_i (by rw [c4]; simp only [hp0.1, hp0.2]; rfl)) (c_i (by rw [c4]; simp only [hp0.1, hp0.2]; rfl))
   ·
    refine s_5 ?_
    refine iff' ?_ ?_ <;> intro c5
    ·
     refine s_1 ?_
     have hln := kb2 hkb o_m
     have hg0 := hg 0
     have hg1 := hg 1
     obtain ⟨ga1, ga2, ga3⟩ := hg0
     obtain ⟨gb1, gb2, gb3⟩ := hg1
     have hp0 := pg_map (k := K) (i := 0) o_m o_m
     have hp1 := pg_map (k := K) (i := 1) o_m o_m
     refine s_2 ?_
     refine qq (qv_iai UL.out SZ.out e_vm (inVi hlo) rfl o_m o_m) ?_
     refine qq (qv_ldi PL.out rfl (inVi hlo) o_m o_m) ?_
     refine s_1 ?_
     refine qq (qv_iai UL.out SZ.out e_vm (inVi hlo) rfl o_m o_m) ?_
     refine qq (qv_ldi PL.out rfl (inVi hlo) o_m o_m) ?_
     refine s_2 ?_
     refine qq (qv_iai UL.out SZ.out e_vm (inVi hhi) rfl o_m o_m) ?_
     refine qq (qv_ldi PL.out rfl (inVi hhi) o_m o_m) ?_
     refine s_1 ?_
     refine qq (qv_iai UL.out SZ.out e_vm (inVi hhi) rfl o_m o_m) ?_
     refine qq (qv_ldi PL.out rfl (inVi hhi) o_m o_m) ?_
     refine s_6 ?_
     exact rt2 (c_i (by rw [c5]; simp only [hp0.1, hp0.2, hp1.1, hp1.2]; rfl)) (c_i (by rw [c5]; simp only [hp0.1, hp0.2, hp1.1, hp1.2]; rfl))
    ·
     refine s_5 ?_
     refine iff' ?_ ?_ <;> intro c6
     ·
      refine s_1 ?_
      have hln := kb2 hkb o_m
      have hg0 := hg 0
      have hg1 := hg 1
      obtain ⟨ga1, ga2, ga3⟩ := hg0
      obtain ⟨gb1, gb2, gb3⟩ := hg1
      have hp0 := pg_map (k := K) (i := 0) o_m o_m
      have hp1 := pg_map (k := K) (i := 1) o_m o_m
      refine s_2 ?_
      refine qq (qv_iai UL.out SZ.out e_vm (inVi hlo) rfl o_m o_m) ?_
      refine qq (qv_ldi PL.out rfl (inVi hlo) o_m o_m) ?_
      refine s_1 ?_
      refine qq (qv_iai UL.out SZ.out e_vm (inVi hhi) rfl o_m o_m) ?_
      refine qq (qv_ldi PL.out rfl (inVi hhi) o_m o_m) ?_
      refine s_2 ?_
      refine qq (qv_iai UL.out SZ.out e_vm (inVi hhi) rfl o_m o_m) ?_
      refine qq (qv_ldi PL.out rfl (inVi hhi) o_m o_m) ?_
      refine s_1 ?_
      refine qq (qv_iai UL.out SZ.out e_vm (inVi hlo) rfl o_m o_m) ?_
      refine qq (qv_ldi PL.out rfl (inVi hlo) o_m o_m) ?_
      refine s_6 ?_
      exact rt2 (c_i (by rw [c6]; simp only [hp0.1, hp0.2, hp1.1, hp1.2]; rfl)) (c_i (by rw [c6]; simp only [hp0.1, hp0.2, hp1.1, hp1.2]; rfl))
     ·
      refine s_5 ?_
      refine iff' ?_ ?_ <;> intro c7
      ·
       refine s_1 ?_
       have hln := kb2 hkb o_m
       have hg0 := hg 0
       have hg1 := hg 1
       obtain ⟨ga1, ga2, ga3⟩ := hg0
       obtain ⟨gb1, gb2, gb3⟩ := hg1
       have hp0 := pg_map (k := K) (i := 0) o_m o_m
       have hp1 := pg_map (k := K) (i := 1) o_m o_m
       have m1 := mul20 (a := gi (K.map Prod.fst) 0) (b := gi (K.map Prod.fst) 1) o_m o_m o_m o_m
       have m2 := mul20 (a := gi (K.map Prod.fst) 0) (b := gi (K.map Prod.snd) 1) o_m o_m o_m o_m
       have m3 := mul20 (a := gi (K.map Prod.snd) 0) (b := gi (K.map Prod.fst) 1) o_m o_m o_m o_m
       have m4 := mul20 (a := gi (K.map Prod.snd) 0) (b := gi (K.map Prod.snd) 1) o_m o_m o_m o_m
       refine s_2 ?_
       refine qq (qv_iai UL.out SZ.out e_vm (inVi hlo) rfl o_m o_m) ?_
       refine qq (qv_ldi PL.out rfl (inVi hlo) o_m o_m) ?_
       refine s_1 ?_
       refine qq (qv_iai UL.out SZ.out e_vm (inVi hlo) rfl o_m o_m) ?_
       refine qq (qv_ldi PL.out rfl (inVi hlo) o_m o_m) ?_
       refine s_2 ?_
       refine qq (qv_iai UL.out SZ.out e_vm (inVi hlo) rfl o_m o_m) ?_
       refine qq (qv_ldi PL.out rfl (inVi hlo) o_m o_m) ?_
       refine s_1 ?_
       refine qq (qv_iai UL.out SZ.out e_vm (inVi hhi) rfl o_m o_m) ?_
       refine qq (qv_ldi PL.out rfl (inVi hhi) o_m o_m) ?_
       refine s_2 ?_
       refine qq (qv_iai UL.out SZ.out e_vm (inVi hhi) rfl o_m o_m) ?_
       refine qq (qv_ldi PL.out rfl (inVi hhi) o_m o_m) ?_
       refine s_1 ?_
       refine qq (qv_iai UL.out SZ.out e_vm (inVi hlo) rfl o_m o_m) ?_
       refine qq (qv_ldi PL.out rfl (inVi hlo) o_m o_m) ?_
       refine s_2 ?_
       refine qq (qv_iai UL.out SZ.out e_vm (inVi hhi) rfl o_m o_m) ?_
       refine qq (qv_ldi PL.out rfl (inVi hhi) o_m o_m) ?_
       refine s_1 ?_
       refine qq (qv_iai UL.out SZ.out e_vm (inVi hhi) rfl o_m o_m) ?_
       refine qq (qv_ldi PL.out rfl (inVi hhi) o_m o_m) ?_
       refine s_10 ?_
       refine oq (f_c (leastR_c) rfl rfl) ?_
       refine s_2 ?_
       refine oq (f_c (leastR_c) rfl rfl) ?_
       refine oq (f_c (leastR_c) rfl rfl) ?_
       refine s_2 ?_
       refine oq (f_c (mostR_c) rfl rfl) ?_
       refine s_2 ?_
       refine oq (f_c (mostR_c) rfl rfl) ?_
       refine oq (f_c (mostR_c) rfl rfl) ?_
       refine s_5 ?_
       exact rt2 (c_i (by rw [c7]; simp only [hp0.1, hp0.2, hp1.1, hp1.2]; rfl)) (c_i (by rw [c7]; simp only [hp0.1, hp0.2, hp1.1, hp1.2]; rfl))
      ·
       refine s_5 ?_
       refine iff' ?_ ?_ <;> intro c8
       ·
        refine s_1 ?_
        have hln := kb2 hkb o_m
        have hg0 := hg 0
        have hg1 := hg 1
        obtain ⟨ga1, ga2, ga3⟩ := hg0
        obtain ⟨gb1, gb2, gb3⟩ := hg1
        have hp0 := pg_map (k := K) (i := 0) o_m o_m
        have hp1 := pg_map (k := K) (i := 1) o_m o_m
        refine s_2 ?_
        refine qq (qv_iai UL.out SZ.out e_vm (inVi hlo) rfl o_m o_m) ?_
        refine qq (qv_ldi PL.out rfl (inVi hlo) o_m o_m) ?_
        refine qq (f_c (sizeR_c o_m) rfl rfl) ?_
        refine s_1 ?_
        refine qq (qv_iai UL.out SZ.out e_vm (inVi hhi) rfl o_m o_m) ?_
        refine qq (qv_ldi PL.out rfl (inVi hhi) o_m o_m) ?_
        refine qq (f_c (sizeR_c o_m) rfl rfl) ?_
        refine qq (f_c (mostR_c) rfl rfl) ?_
        refine s_4 ?_
        refine j_n [0,1,2,3,5,8,9,14,19,20,34,48,58,74,90,134] [(154, (.bool (decide ((0 ≤ (gi ((K.map Prod.fst)) (0))) ∧ (0 ≤ (gi ((K.map Prod.fst)) (1)))))))] ?_ (fun e2 => ?_)
        ·
         refine s_2 ?_
         refine oq (qv_iai UL.out SZ.out e_vm (inVi hlo) rfl o_m o_m) ?_
         refine oq (qv_ldi PL.out rfl (inVi hlo) o_m o_m) ?_
         refine s_2 ?_
         by_cases g2 : 0 ≤ (gi ((K.map Prod.fst)) (0))
         ·
          refine s_1 ?_
          refine og (qv_iai UL.out SZ.out e_vm (inVi hlo) rfl o_m o_m) w_a ?_
          refine og (qv_ldi PL.out rfl (inVi hlo) o_m o_m) w_a ?_
          refine s_3 ?_
          exact j_e ⟨(jb (ja g2 Iff.rfl)), trivial⟩
         ·
          refine s_6 ?_
          exact j_e ⟨(jf (fun z => g2 z.1)), trivial⟩
        refine iff' ?_ ?_ <;> intro c9
        ·
         refine s_8 ?_
         exact rt2 (c_i (by rw [c8]; first | rw [rul_11a (by rw [← hp0.1, ← hp1.1]; assumption)] | rw [rul_11b (by rw [← hp0.1, ← hp1.1]; assumption)])) (c_i (by rw [c8]; simp only [hp0.1, hp0.2]; first | rw [rul_11a (by rw [← hp0.1, ← hp1.1]; assumption)] | rw [rul_11b (by rw [← hp0.1, ← hp1.1]; assumption)]))
        ·
         refine s_2 ?_
         have hmx := mx4_bd (a := gi (K.map Prod.fst) 0) (b := gi (K.map Prod.snd) 0) o_m o_m o_m
         refine s_2 ?_
         refine oq (qv_neg rfl o_m) ?_
         refine s_6 ?_
         exact rt2 (c_i (by rw [c8]; simp only [hp0.1, hp0.2]; first | rw [rul_11a (by rw [← hp0.1, ← hp1.1]; assumption)] | rw [rul_11b (by rw [← hp0.1, ← hp1.1]; assumption)])) (c_i (by rw [c8]; simp only [hp0.1, hp0.2]; first | rw [rul_11a (by rw [← hp0.1, ← hp1.1]; assumption)] | rw [rul_11b (by rw [← hp0.1, ← hp1.1]; assumption)]))
       ·
        refine s_5 ?_
        refine iff' ?_ ?_ <;> intro c10
        ·
         refine s_1 ?_
         have hln := kb2 hkb o_m
         have hg0 := hg 0
         have hg1 := hg 1
         obtain ⟨ga1, ga2, ga3⟩ := hg0
         obtain ⟨gb1, gb2, gb3⟩ := hg1
         have hp0 := pg_map (k := K) (i := 0) o_m o_m
         have hp1 := pg_map (k := K) (i := 1) o_m o_m
         refine s_2 ?_
         refine qq (qv_iai UL.out SZ.out e_vm (inVi hlo) rfl o_m o_m) ?_
         refine qq (qv_ldi PL.out rfl (inVi hlo) o_m o_m) ?_
         refine s_1 ?_
         refine qq (qv_iai UL.out SZ.out e_vm (inVi hhi) rfl o_m o_m) ?_
         refine qq (qv_ldi PL.out rfl (inVi hhi) o_m o_m) ?_
         refine qq (f_c (modSpanR_c o_m o_m) rfl rfl) ?_
         refine s_7 ?_
         exact rt2 (c_i (by rw [c10]; simp only [hp1.1, hp1.2]; rfl)) (c_i (by rw [c10]; simp only [hp1.1, hp1.2]; rfl))
        ·
         refine s_5 ?_
         refine iff' ?_ ?_ <;> intro c11
         ·
          refine s_1 ?_
          have hln := kb2 hkb o_m
          have hg0 := hg 0
          have hg1 := hg 1
          obtain ⟨ga1, ga2, ga3⟩ := hg0
          obtain ⟨gb1, gb2, gb3⟩ := hg1
          have hp0 := pg_map (k := K) (i := 0) o_m o_m
          have hp1 := pg_map (k := K) (i := 1) o_m o_m
          refine s_2 ?_
          refine qq (qv_iai UL.out SZ.out e_vm (inVi hlo) rfl o_m o_m) ?_
          refine qq (qv_ldi PL.out rfl (inVi hlo) o_m o_m) ?_
          refine s_1 ?_
          refine qq (qv_iai UL.out SZ.out e_vm (inVi hlo) rfl o_m o_m) ?_
          refine qq (qv_ldi PL.out rfl (inVi hlo) o_m o_m) ?_
          refine qq (f_c (leastR_c) rfl rfl) ?_
          refine s_1 ?_
          refine qq (qv_iai UL.out SZ.out e_vm (inVi hhi) rfl o_m o_m) ?_
          refine qq (qv_ldi PL.out rfl (inVi hhi) o_m o_m) ?_
          refine s_1 ?_
          refine qq (qv_iai UL.out SZ.out e_vm (inVi hhi) rfl o_m o_m) ?_
          refine qq (qv_ldi PL.out rfl (inVi hhi) o_m o_m) ?_
          refine qq (f_c (leastR_c) rfl rfl) ?_
          refine s_5 ?_
          exact rt2 (c_i (by rw [c11]; simp only [hp0.1, hp0.2, hp1.1, hp1.2]; rfl)) (c_i (by rw [c11]; simp only [hp0.1, hp0.2, hp1.1, hp1.2]; rfl))
         ·
          refine s_5 ?_
          refine iff' ?_ ?_ <;> intro c12
          ·
           refine s_1 ?_
           have hln := kb2 hkb o_m
           have hg0 := hg 0
           have hg1 := hg 1
           obtain ⟨ga1, ga2, ga3⟩ := hg0
           obtain ⟨gb1, gb2, gb3⟩ := hg1
           have hp0 := pg_map (k := K) (i := 0) o_m o_m
           have hp1 := pg_map (k := K) (i := 1) o_m o_m
           refine s_2 ?_
           refine qq (qv_iai UL.out SZ.out e_vm (inVi hlo) rfl o_m o_m) ?_
           refine qq (qv_ldi PL.out rfl (inVi hlo) o_m o_m) ?_
           refine s_1 ?_
           refine qq (qv_iai UL.out SZ.out e_vm (inVi hlo) rfl o_m o_m) ?_
           refine qq (qv_ldi PL.out rfl (inVi hlo) o_m o_m) ?_
           refine qq (f_c (mostR_c) rfl rfl) ?_
           refine s_1 ?_
           refine qq (qv_iai UL.out SZ.out e_vm (inVi hhi) rfl o_m o_m) ?_
           refine qq (qv_ldi PL.out rfl (inVi hhi) o_m o_m) ?_
           refine s_1 ?_
           refine qq (qv_iai UL.out SZ.out e_vm (inVi hhi) rfl o_m o_m) ?_
           refine qq (qv_ldi PL.out rfl (inVi hhi) o_m o_m) ?_
           refine qq (f_c (mostR_c) rfl rfl) ?_
           refine s_5 ?_
           exact rt2 (c_i (by rw [c12]; simp only [hp0.1, hp0.2, hp1.1, hp1.2]; rfl)) (c_i (by rw [c12]; simp only [hp0.1, hp0.2, hp1.1, hp1.2]; rfl))
          ·
           refine s_6 ?_
           refine iff' ?_ ?_ <;> intro c13
           ·
            refine s_1 ?_
            refine i_ft c13 ?_
            refine s_1 ?_
            have hln : 2 ≤ (K.length : Int) := by have := kb3 (op := t.op) (k := K.length); have := kb4 (op := t.op) (k := K.length); first | (have := kb3 hkb (by assumption); omega) | exact (kb4 hkb (by assumption)).1
            have hp1 := pg_map (k := K) (i := 1) o_m o_m
            refine s_2 ?_
            refine qq (qv_iai UL.out SZ.out e_vm (inVi hlo) rfl o_m o_m) ?_
            refine qq (qv_ldi PL.out rfl (inVi hlo) o_m o_m) ?_
            refine s_1 ?_
            refine qq (qv_iai UL.out SZ.out e_vm (inVi hhi) rfl o_m o_m) ?_
            refine qq (qv_ldi PL.out rfl (inVi hhi) o_m o_m) ?_
            refine s_9 ?_
            refine lc1 [0,1,2,3,5,8,9,19,20,34,48,58,74,90,134,159,170,186,202] (fun (i : Int) => [(15, (.int .i64 ((hulL (pg K 1) ((K.take i.toNat).drop 2)).1))), (16, (.int .i64 ((hulL (pg K 1) ((K.take i.toNat).drop 2)).2))), (17, (Value.int .i64 i))]) (fun i => 2 ≤ i ∧ i ≤ K.length) (fun i => (K.length - i).toNat) 2 ?_ ?_ ?_ 
            · exact ⟨(c_i (by rw [hp1.1, show (K.take (2 : Int).toNat).drop 2 = [] from List.drop_eq_nil_of_le (by rw [List.length_take]; omega)]; rfl)), (c_i (by rw [hp1.2, show (K.take (2 : Int).toNat).drop 2 = [] from List.drop_eq_nil_of_le (by rw [List.length_take]; omega)]; rfl)), rfl, trivial⟩
            · exact ⟨by omega, by omega⟩
            rintro i e3 ⟨i1, i2⟩
            refine s_5 ?_
            refine oq (qv_lenI UL.out rfl hlo) ?_
            refine s_2 ?_
            refine iff' ?_ ?_ <;> intro c14
            ·
             refine s_3 ?_
             have hpi := pg_map (k := K) (i := i) o_m o_m
             refine s_4 ?_
             refine qq (qv_iai UL.out SZ.out e_vm (inVi hlo) rfl o_m o_m) ?_
             refine qq (qv_ldi PL.out rfl (inVi hlo) o_m o_m) ?_
             refine qq (f_c (leastR_c) rfl rfl) ?_
             refine s_3 ?_
             refine qq (qv_iai UL.out SZ.out e_vm (inVi hhi) rfl o_m o_m) ?_
             refine qq (qv_ldi PL.out rfl (inVi hhi) o_m o_m) ?_
             refine qq (f_c (mostR_c) rfl rfl) ?_
             refine s_8 ?_
             exact le1 (i + 1) ⟨(c_i (by rw [show (i + 1).toNat = i.toNat + 1 by omega, hul_take i1 o_m, hpi.1])), (c_i (by rw [show (i + 1).toNat = i.toNat + 1 by omega, hul_take i1 o_m, hpi.2])), (c_i (by rfl)), trivial⟩ ⟨by omega, by omega⟩
            ·
             refine s_11 ?_
             exact rt2 (c_i (by first | (rw [show t.op = 23 by assumption, List.take_of_length_le o_m]; rfl) | (rw [show t.op = 25 by assumption, List.take_of_length_le o_m]; rfl))) (c_i (by first | (rw [show t.op = 23 by assumption, List.take_of_length_le o_m]; rfl) | (rw [show t.op = 25 by assumption, List.take_of_length_le o_m]; rfl)))
           ·
            refine s_4 ?_
            refine iff' ?_ ?_ <;> intro c15
            ·
             refine s_1 ?_
             have hln : 2 ≤ (K.length : Int) := by have := kb3 (op := t.op) (k := K.length); have := kb4 (op := t.op) (k := K.length); first | (have := kb3 hkb (by assumption); omega) | exact (kb4 hkb (by assumption)).1
             have hp1 := pg_map (k := K) (i := 1) o_m o_m
             refine s_2 ?_
             refine qq (qv_iai UL.out SZ.out e_vm (inVi hlo) rfl o_m o_m) ?_
             refine qq (qv_ldi PL.out rfl (inVi hlo) o_m o_m) ?_
             refine s_1 ?_
             refine qq (qv_iai UL.out SZ.out e_vm (inVi hhi) rfl o_m o_m) ?_
             refine qq (qv_ldi PL.out rfl (inVi hhi) o_m o_m) ?_
             refine s_9 ?_
             refine lc1 [0,1,2,3,5,8,9,19,20,34,48,58,74,90,134,159,170,186,202] (fun (i : Int) => [(15, (.int .i64 ((hulL (pg K 1) ((K.take i.toNat).drop 2)).1))), (16, (.int .i64 ((hulL (pg K 1) ((K.take i.toNat).drop 2)).2))), (17, (Value.int .i64 i))]) (fun i => 2 ≤ i ∧ i ≤ K.length) (fun i => (K.length - i).toNat) 2 ?_ ?_ ?_ 
             · exact ⟨(c_i (by rw [hp1.1, show (K.take (2 : Int).toNat).drop 2 = [] from List.drop_eq_nil_of_le (by rw [List.length_take]; omega)]; rfl)), (c_i (by rw [hp1.2, show (K.take (2 : Int).toNat).drop 2 = [] from List.drop_eq_nil_of_le (by rw [List.length_take]; omega)]; rfl)), rfl, trivial⟩
             · exact ⟨by omega, by omega⟩
             rintro i e4 ⟨i1, i2⟩
             refine s_5 ?_
             refine oq (qv_lenI UL.out rfl hlo) ?_
             refine s_2 ?_
             refine iff' ?_ ?_ <;> intro c16
             ·
              refine s_3 ?_
              have hpi := pg_map (k := K) (i := i) o_m o_m
              refine s_4 ?_
              refine qq (qv_iai UL.out SZ.out e_vm (inVi hlo) rfl o_m o_m) ?_
              refine qq (qv_ldi PL.out rfl (inVi hlo) o_m o_m) ?_
              refine qq (f_c (leastR_c) rfl rfl) ?_
              refine s_3 ?_
              refine qq (qv_iai UL.out SZ.out e_vm (inVi hhi) rfl o_m o_m) ?_
              refine qq (qv_ldi PL.out rfl (inVi hhi) o_m o_m) ?_
              refine qq (f_c (mostR_c) rfl rfl) ?_
              refine s_8 ?_
              exact le1 (i + 1) ⟨(c_i (by rw [show (i + 1).toNat = i.toNat + 1 by omega, hul_take i1 o_m, hpi.1])), (c_i (by rw [show (i + 1).toNat = i.toNat + 1 by omega, hul_take i1 o_m, hpi.2])), (c_i (by rfl)), trivial⟩ ⟨by omega, by omega⟩
             ·
              refine s_11 ?_
              exact rt2 (c_i (by first | (rw [show t.op = 23 by assumption, List.take_of_length_le o_m]; rfl) | (rw [show t.op = 25 by assumption, List.take_of_length_le o_m]; rfl))) (c_i (by first | (rw [show t.op = 23 by assumption, List.take_of_length_le o_m]; rfl) | (rw [show t.op = 25 by assumption, List.take_of_length_le o_m]; rfl)))
            ·
             refine s_7 ?_
             exact rt2 (c_i (by rw [rul_e o_m])) (c_i (by rw [rul_e o_m]))

end Go.Proofs.YtbchkopkgpfkgaaGreatDoor
