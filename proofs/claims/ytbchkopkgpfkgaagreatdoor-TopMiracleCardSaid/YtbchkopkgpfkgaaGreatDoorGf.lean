import Derived.Test.YtbchkopkgpfkgaaGreatDoorTi
import Derived.Test.YtbchkopkgpfkgaaGreatDoorWp
import Derived.Test.YtbchkopkgpfkgaaGreatDoorTy
import Derived.Test.YtbchkopkgpfkgaaGreatDoorWb
/- Walks of the top laws: what each function returns. Printed by a program out of notes. -/
namespace Go.Proofs.YtbchkopkgpfkgaaGreatDoor
open Go.Vc
open Classical

set_option maxRecDepth 100000 in
set_option maxHeartbeats 4000000 in
theorem usesVar_c {V : HV} {o : Int} :
    FnC Tryz.prog 178 [(Value.int .i64 o)] V [] (fun v _ _ => v = (.bool (decide (o = 0 ∨ o = 5)))) := by
 refine f_i Tryz.func178 ?_
 intro w0 D
 refine s_5 ?_
 refine j_n [] [(2, (.bool (decide ((o = 0) ∨ (o = 5)))))] ?_ (fun e1 => ?_)
 ·
  refine s_4 ?_
  by_cases g1 : o = 0
  ·
   refine s_5 ?_
   exact j_e ⟨(jt (.inl g1)), trivial⟩
  ·
   refine s_5 ?_
   exact j_e ⟨(jb (jo g1 Iff.rfl)), trivial⟩
 refine s_1 ?_
 exact rt1 (jb o_m)

set_option maxRecDepth 100000 in
set_option maxHeartbeats 4000000 in
theorem usesN_c {V : HV} {o : Int} :
    FnC Tryz.prog 179 [(Value.int .i64 o)] V [] (fun v _ _ => v = (.bool (decide (o = 4 ∨ o = 5)))) := by
 refine f_i Tryz.func179 ?_
 intro w0 D
 refine s_5 ?_
 refine j_n [] [(2, (.bool (decide ((o = 4) ∨ (o = 5)))))] ?_ (fun e1 => ?_)
 ·
  refine s_4 ?_
  by_cases g1 : o = 4
  ·
   refine s_5 ?_
   exact j_e ⟨(jt (.inl g1)), trivial⟩
  ·
   refine s_5 ?_
   exact j_e ⟨(jb (jo g1 Iff.rfl)), trivial⟩
 refine s_1 ?_
 exact rt1 (jb o_m)

set_option maxRecDepth 100000 in
set_option maxHeartbeats 4000000 in
theorem usesTerm_c {V : HV} {o : Int} :
    FnC Tryz.prog 180 [(Value.int .i64 o)] V [] (fun v _ _ => v = (.bool (decide (o = 0 ∨ o = 1 ∨ o = 3 ∨ o = 4)))) := by
 refine f_i Tryz.func180 ?_
 intro w0 D
 refine s_5 ?_
 refine j_n [] [(2, (.bool (decide ((((o = 0) ∨ (o = 1)) ∨ (o = 3)) ∨ (o = 4)))))] ?_ (fun e1 => ?_)
 ·
  refine s_4 ?_
  by_cases g1 : o = 0
  ·
   refine s_13 ?_
   exact j_e ⟨(jt (.inl (.inl (.inl g1)))), trivial⟩
  ·
   refine s_4 ?_
   by_cases g2 : o = 1
   ·
    refine s_9 ?_
    exact j_e ⟨(jt (.inl (.inl ((jo g1 Iff.rfl).1 g2)))), trivial⟩
   ·
    refine s_4 ?_
    by_cases g3 : o = 3
    ·
     refine s_5 ?_
     exact j_e ⟨(jt (.inl ((jo (fun z => g2 ((jo g1 Iff.rfl).2 z)) Iff.rfl).1 g3))), trivial⟩
    ·
     refine s_5 ?_
     exact j_e ⟨(jb (jo (fun z => g3 ((jo (fun z => g2 ((jo g1 Iff.rfl).2 z)) Iff.rfl).2 z)) Iff.rfl)), trivial⟩
 refine s_1 ?_
 exact rt1 (jb o_m)

set_option maxRecDepth 100000 in
set_option maxHeartbeats 4000000 in
theorem zeroTerm_c {V : HV} {t : Tm} {ks : Value} (hT : Tms V ks t.kids) :
    FnC Tryz.prog 181 [(.agg #[(.int .i64 t.op), (.int .i64 t.n), ks])] V [] (fun v _ _ => v = (.bool (decide (pln t)))) := by
 refine f_i Tryz.func181 ?_
 intro w0 D
 obtain ⟨kvs, hS, hK⟩ := hT
 refine s_2 ?_
 refine b_ox fun b1 => ?_
 refine s_3 ?_
 refine j_n [0] [(2, (.bool (decide (((t.op = 0) ∧ (t.n = 0)) ∧ (((t.kids.length : Int)) = 0)))))] ?_ (fun e1 => ?_)
 ·
  refine s_5 ?_
  by_cases g1 : t.op = 0
  ·
   refine s_5 ?_
   by_cases g2 : t.n = 0
   ·
    refine s_2 ?_
    refine og (qv_lenSS UL.out rfl hS) w_a ?_
    refine s_4 ?_
    exact j_e ⟨(jb (ja ((ja g1 Iff.rfl).1 g2) Iff.rfl)), trivial⟩
   ·
    refine s_7 ?_
    exact j_e ⟨(jf (fun z => (fun z => g2 ((ja g1 Iff.rfl).2 z)) z.1)), trivial⟩
  ·
   refine s_12 ?_
   exact j_e ⟨(jf (fun z => (fun z => g1 z.1) z.1)), trivial⟩
 refine s_1 ?_
 exact rt1 (jb (by exact Iff.rfl))

set_option maxRecDepth 100000 in
set_option maxHeartbeats 4000000 in
theorem risingP_c {V : HV} {l : List Int} {lv : Value} (hl : Ints .i64 V lv l) :
    FnC Tryz.prog 182 [lv] V [] (fun v _ _ => v = (.bool (decide (risP l)))) := by
 refine f_i Tryz.func182 ?_
 intro w0 D
 have hb := hl.bound
 refine s_8 ?_
 refine oq (qv_lenI UL.out rfl hl) ?_
 refine s_3 ?_
 refine lc1 [0,5] (fun (i : Int) => [(6, (Value.int .i64 i))]) (fun i => 0 ≤ i ∧ i ≤ l.length ∧ ∀ x : Int, 1 ≤ x → x < i → ¬ gi l x ≤ gi l (x - 1)) (fun i => (l.length - i).toNat) 0 ?_ ?_ ?_ 
 · exact ⟨rfl, trivial⟩
 · exact ⟨by omega, by omega, fun x a b => by omega⟩
 rintro i e1 ⟨i1, i2, hno⟩
 refine s_5 ?_
 refine iff' ?_ ?_ <;> intro c1
 ·
  refine s_9 ?_
  refine j_n [0,3,5,6,7] [(22, (.bool (decide ((0 < i) ∧ ((gi l (i)) ≤ (gi l (i - 1)))))))] ?_ (fun e2 => ?_)
  ·
   refine s_4 ?_
   by_cases g1 : 0 < i
   ·
    refine s_2 ?_
    refine qg (qv_iai UL.out SZ.out e_vm (inVi hl) rfl o_m o_m) w_a ?_
    refine qg (qv_ldi PL.out rfl (inVi hl) o_m o_m) w_a ?_
    refine s_3 ?_
    refine qg (qv_iai UL.out SZ.out e_vm (inVi hl) rfl o_m o_m) w_a ?_
    refine qg (qv_ldi PL.out rfl (inVi hl) o_m o_m) w_a ?_
    refine s_3 ?_
    exact j_e ⟨(jb (ja g1 Iff.rfl)), trivial⟩
   ·
    refine s_12 ?_
    exact j_e ⟨(jf (fun z => g1 z.1)), trivial⟩
  refine iff' ?_ ?_ <;> intro c2
  ·
   refine s_7 ?_
   exact rt1 (jf (by intro q; exact q i o_m o_m o_m))
  ·
   refine s_5 ?_
   exact le1 (i + 1) ⟨(c_i o_m), trivial⟩ ⟨by omega, by omega, fun x a b => by
         by_cases e : x = i
         · subst e; first | assumption | omega
         · exact hno x a o_m⟩
 ·
  refine s_7 ?_
  exact rt1 (jt (by exact fun x a b => hno x a o_m))

set_option maxRecDepth 100000 in
set_option maxHeartbeats 4000000 in
theorem shapedP_c {V : HV} {va ha ba : Value} {F : Fl} (hF : Fls V va ha ba F) {s : St} {ks tv lv bv : Value} (hT : Tms V ks s.tm.kids) (hth : Sts V tv s.thn) (hel : Sts V lv s.els) (hbv : Ints .i64 V bv s.bds) {p last : Prop} [Decidable p] (hpp : p ↔ last) (hsh : shpP F s last) :
    FnC Tryz.prog 143 [(.agg #[va, ha, ba]), (.agg #[(.int .i64 s.dk), (.int .i64 s.cost), (.int .i64 s.var), (.int .i64 s.n), (.int .i64 s.tm.op), (.int .i64 s.tm.n), ks, tv, lv, bv]), (.bool (decide (p)))] V [] (fun v _ _ => v = (Value.bool true)) := by
 refine f_i Tryz.func143 ?_
 intro w0 D
 obtain ⟨hvs, hH⟩ := hF.h
 obtain ⟨xB, hB⟩ := hF.b.sl
 have hbvv := SlS.bound hF.v
 have hbh := SlS.bound hH.sl
 have hbb := SlS.bound hB
 have hT0 := hT
 obtain ⟨kvs, hS, hK⟩ := hT
 obtain ⟨xst, hst⟩ := hth.sl
 obtain ⟨xse, hse⟩ := hel.sl
 have hnu := shp_num hsh
 have hpl := shp_pln hsh
 have hs6 := shp_s hsh
 refine s_2 ?_
 refine b_ox fun b1 => ?_
 refine b_ox fun b2 => ?_
 refine s_12 ?_
 refine j_n [0,1,2,3,4,6,7] [(10, (.bool (decide ((s.dk < 0) ∨ (6 < s.dk)))))] ?_ (fun e1 => ?_)
 ·
  refine s_4 ?_
  by_cases g1 : s.dk < 0
  ·
   refine s_5 ?_
   exact j_e ⟨(jt (.inl g1)), trivial⟩
  ·
   refine s_5 ?_
   exact j_e ⟨(jb (jo g1 Iff.rfl)), trivial⟩
 refine iff' ?_ ?_ <;> intro c1
 ·
  omega
 ·
  refine s_1 ?_
  refine j_n [0,1,2,3,4,6,7] [(10, (.bool (decide ((¬ (s.dk = 0 ∨ s.dk = 5)) ∧ (s.var ≠ 0)))))] ?_ (fun e2 => ?_)
  ·
   refine s_2 ?_
   refine oq (f_c (usesVar_c) rfl rfl) ?_
   refine s_2 ?_
   by_cases g2 : ¬ (s.dk = 0 ∨ s.dk = 5)
   ·
    refine s_6 ?_
    exact j_e ⟨(jb (ja g2 Iff.rfl)), trivial⟩
   ·
    refine s_6 ?_
    exact j_e ⟨(jf (fun z => g2 z.1)), trivial⟩
  refine iff' ?_ ?_ <;> intro c2
  ·
   omega
  ·
   refine s_1 ?_
   refine j_n [0,1,2,3,4,6,7] [(10, (.bool (decide ((¬ (s.dk = 4 ∨ s.dk = 5)) ∧ (s.n ≠ 0)))))] ?_ (fun e3 => ?_)
   ·
    refine s_2 ?_
    refine oq (f_c (usesN_c) rfl rfl) ?_
    refine s_2 ?_
    by_cases g3 : ¬ (s.dk = 4 ∨ s.dk = 5)
    ·
     refine s_6 ?_
     exact j_e ⟨(jb (ja g3 Iff.rfl)), trivial⟩
    ·
     refine s_6 ?_
     exact j_e ⟨(jf (fun z => g3 z.1)), trivial⟩
   refine iff' ?_ ?_ <;> intro c3
   ·
    omega
   ·
    refine s_1 ?_
    refine j_n [0,1,2,3,4,6,7] [(10, (.bool (decide ((¬ (s.dk = 0 ∨ s.dk = 1 ∨ s.dk = 3 ∨ s.dk = 4)) ∧ (¬ (pln s.tm))))))] ?_ (fun e4 => ?_)
    ·
     refine s_2 ?_
     refine oq (f_c (usesTerm_c) rfl rfl) ?_
     refine s_2 ?_
     by_cases g4 : ¬ (s.dk = 0 ∨ s.dk = 1 ∨ s.dk = 3 ∨ s.dk = 4)
     ·
      refine s_2 ?_
      refine og (f_c (zeroTerm_c hT0) rfl rfl) w_a ?_
      refine s_4 ?_
      exact j_e ⟨(jb (ja g4 Iff.rfl)), trivial⟩
     ·
      refine s_7 ?_
      exact j_e ⟨(jf (fun z => g4 z.1)), trivial⟩
    refine iff' ?_ ?_ <;> intro c4
    ·
     exact absurd (hpl o_m) (by first | assumption | exact (by assumption : _ ∧ _).2)
    ·
     refine s_1 ?_
     refine j_n [0,1,2,3,4,6,7] [(10, (.bool (decide (((s.dk ≠ 3) ∧ (s.dk ≠ 4)) ∧ (0 < ((s.thn.length : Int)))))))] ?_ (fun e5 => ?_)
     ·
      refine s_4 ?_
      by_cases g5 : s.dk ≠ 3
      ·
       refine s_4 ?_
       by_cases g6 : s.dk ≠ 4
       ·
        refine s_2 ?_
        refine og (qv_lenSS UL.out rfl hst) w_a ?_
        refine s_4 ?_
        exact j_e ⟨(jb (ja ((ja g5 Iff.rfl).1 g6) Iff.rfl)), trivial⟩
       ·
        refine s_7 ?_
        exact j_e ⟨(jf (fun z => (fun z => g6 ((ja g5 Iff.rfl).2 z)) z.1)), trivial⟩
      ·
       refine s_11 ?_
       exact j_e ⟨(jf (fun z => (fun z => g5 z.1) z.1)), trivial⟩
     refine iff' ?_ ?_ <;> intro c5
     ·
      omega
     ·
      refine s_1 ?_
      refine j_n [0,1,2,3,4,6,7] [(10, (.bool (decide ((s.dk ≠ 3) ∧ (0 < ((s.els.length : Int)))))))] ?_ (fun e6 => ?_)
      ·
       refine s_4 ?_
       by_cases g7 : s.dk ≠ 3
       ·
        refine s_2 ?_
        refine og (qv_lenSS UL.out rfl hse) w_a ?_
        refine s_4 ?_
        exact j_e ⟨(jb (ja g7 Iff.rfl)), trivial⟩
       ·
        refine s_7 ?_
        exact j_e ⟨(jf (fun z => g7 z.1)), trivial⟩
      refine iff' ?_ ?_ <;> intro c6
      ·
       omega
      ·
       refine s_1 ?_
       refine j_n [0,1,2,3,4,6,7] [(10, (.bool (decide ((s.dk ≠ 6) ∧ (0 < ((s.bds.length : Int)))))))] ?_ (fun e7 => ?_)
       ·
        refine s_4 ?_
        by_cases g8 : s.dk ≠ 6
        ·
         refine s_2 ?_
         refine og (qv_lenI UL.out rfl hbv) w_a ?_
         refine s_4 ?_
         exact j_e ⟨(jb (ja g8 Iff.rfl)), trivial⟩
        ·
         refine s_7 ?_
         exact j_e ⟨(jf (fun z => g8 z.1)), trivial⟩
       refine iff' ?_ ?_ <;> intro c7
       ·
        omega
       ·
        refine s_1 ?_
        refine j_n [0,1,2,3,4,6,7] [(10, (.bool (decide ((s.dk = 0 ∨ s.dk = 5) ∧ (((s.var < 0) ∨ (((F.vs.length : Int)) ≤ s.var)) ∨ (((vr F.vs (s.var)).kd) ≠ 0))))))] ?_ (fun e8 => ?_)
        ·
         refine s_2 ?_
         refine oq (f_c (usesVar_c) rfl rfl) ?_
         refine s_1 ?_
         by_cases g9 : s.dk = 0 ∨ s.dk = 5
         ·
          refine s_4 ?_
          by_cases g10 : s.var < 0
          ·
           refine s_20 ?_
           exact j_e ⟨(jt ⟨g9, (.inl (.inl g10))⟩), trivial⟩
          ·
           refine s_4 ?_
           refine og (qv_lenSS UL.out rfl hF.v) w_a ?_
           refine s_3 ?_
           by_cases g11 : ((F.vs.length : Int)) ≤ s.var
           ·
            refine s_12 ?_
            exact j_e ⟨(jt ⟨g9, (.inl ((jo g10 Iff.rfl).1 g11))⟩), trivial⟩
           ·
            refine s_4 ?_
            refine og (qv_ias UL.out SZ.out e_vm hF.v rfl o_m o_m) w_a ?_
            refine og (qv_fas FI.out rfl hF.v o_m o_m) w_a ?_
            refine og (qv_ldf PL.out rfl hF.v o_m o_m o_m (vrcs_el (o := 1) o_m o_m o_m rfl)) w_a ?_
            refine s_5 ?_
            exact j_e ⟨(jb (ja g9 (jo (fun z => g11 ((jo g10 Iff.rfl).2 z)) Iff.rfl))), trivial⟩
         ·
          refine s_24 ?_
          exact j_e ⟨(jf (fun z => g9 z.1)), trivial⟩
        refine iff' ?_ ?_ <;> intro c8
        ·
         omega
        ·
         refine j_n [0,1,2,3,4,6,7] [(10, (.bool (decide ((s.dk = 5) ∧ ((s.n < 0) ∨ (((F.hs.length : Int)) ≤ s.n))))))] ?_ (fun e9 => ?_)
         ·
          refine s_4 ?_
          by_cases g12 : s.dk = 5
          ·
           refine s_4 ?_
           by_cases g13 : s.n < 0
           ·
            refine s_10 ?_
            exact j_e ⟨(jt ⟨g12, (.inl g13)⟩), trivial⟩
           ·
            refine s_4 ?_
            refine og (qv_lenSS UL.out rfl hH.sl) w_a ?_
            refine s_5 ?_
            exact j_e ⟨(jb (ja g12 (jo g13 Iff.rfl))), trivial⟩
          ·
           refine s_14 ?_
           exact j_e ⟨(jf (fun z => g12 z.1)), trivial⟩
         refine iff' ?_ ?_ <;> intro c9
         ·
          omega
         ·
          refine s_2 ?_
          refine j_n [0,1,3,4,7,10] [(6, (.bool (decide ((s.dk ≠ 6) ∨ (((((p) ∧ (0 < ((s.bds.length : Int)))) ∧ (((s.bds.length : Int)) ≤ 32)) ∧ (0 ≤ (gi s.bds (0)))) ∧ (risP s.bds))))))] ?_ (fun e10 => ?_)
          ·
           refine s_4 ?_
           by_cases g14 : s.dk ≠ 6
           ·
            refine s_28 ?_
            exact j_e ⟨(jt (.inl g14)), trivial⟩
           ·
            refine s_2 ?_
            by_cases g15 : p
            ·
             refine s_2 ?_
             refine og (qv_lenI UL.out rfl hbv) w_a ?_
             refine s_3 ?_
             by_cases g16 : 0 < ((s.bds.length : Int))
             ·
              refine s_2 ?_
              refine og (qv_lenI UL.out rfl hbv) w_a ?_
              refine s_3 ?_
              by_cases g17 : ((s.bds.length : Int)) ≤ 32
              ·
               refine s_2 ?_
               refine og (qv_iai UL.out SZ.out e_vm (inVi hbv) rfl o_m o_m) w_a ?_
               refine og (qv_ldi PL.out rfl (inVi hbv) o_m o_m) w_a ?_
               refine s_3 ?_
               by_cases g18 : 0 ≤ (gi s.bds (0))
               ·
                refine s_2 ?_
                refine og (f_c (risingP_c hbv) rfl rfl) w_a ?_
                refine s_4 ?_
                exact j_e ⟨(jb (jo g14 (ja ((ja ((ja ((ja g15 Iff.rfl).1 g16) Iff.rfl).1 g17) Iff.rfl).1 g18) Iff.rfl))), trivial⟩
               ·
                refine s_7 ?_
                exact j_e ⟨(jf (fun z => z.elim g14 (fun z => (fun z => g18 ((ja ((ja ((ja g15 Iff.rfl).1 g16) Iff.rfl).1 g17) Iff.rfl).2 z)) z.1))), trivial⟩
              ·
               refine s_14 ?_
               exact j_e ⟨(jf (fun z => z.elim g14 (fun z => (fun z => (fun z => g17 ((ja ((ja g15 Iff.rfl).1 g16) Iff.rfl).2 z)) z.1) z.1))), trivial⟩
             ·
              refine s_20 ?_
              exact j_e ⟨(jf (fun z => z.elim g14 (fun z => (fun z => (fun z => (fun z => g16 ((ja g15 Iff.rfl).2 z)) z.1) z.1) z.1))), trivial⟩
            ·
             refine s_26 ?_
             exact j_e ⟨(jf (fun z => z.elim g14 (fun z => (fun z => (fun z => (fun z => g15 z.1) z.1) z.1) z.1))), trivial⟩
          refine s_1 ?_
          exact rt1 (jdt (by first | exact (Classical.em (s.dk = 6)).elim (fun h6 => .inr ⟨⟨⟨⟨hpp.2 (hs6 h6).1, by omega⟩, by omega⟩, by omega⟩, (hs6 h6).2⟩) .inl | (exfalso; omega)))

set_option maxRecDepth 100000 in
set_option maxHeartbeats 4000000 in
theorem numbered_c {V : HV} {s : St} {ks tv lv bv : Value} (hT : Tms V ks s.tm.kids) (hth : Sts V tv s.thn) (hel : Sts V lv s.els) (hbv : Ints .i64 V bv s.bds) (hn1 : ¬ nmBad s) (hn2 : ¬ bdBad s) (hn3 : s.dk = 6 → 1 ≤ s.bds.length) :
    FnC Tryz.prog 144 [(.agg #[(.int .i64 s.dk), (.int .i64 s.cost), (.int .i64 s.var), (.int .i64 s.n), (.int .i64 s.tm.op), (.int .i64 s.tm.n), ks, tv, lv, bv])] V [] (fun v _ _ => v = (Value.bool true)) := by
 refine f_i Tryz.func144 ?_
 intro w0 D
 obtain ⟨kvs, hS, hK⟩ := hT
 obtain ⟨xst, hst⟩ := hth.sl
 obtain ⟨xse, hse⟩ := hel.sl
 have hbb := hbv.bound
 unfold nmBad limC at hn1
 unfold bdBad at hn2
 refine s_2 ?_
 refine b_ox fun b1 => ?_
 refine s_13 ?_
 refine iff' ?_ ?_ <;> intro c1
 ·
  refine s_5 ?_
  refine j_n [0,1,2,6] [(30, (.bool (decide (((s.cost < 0) ∨ (67108864 < s.cost)) ∨ ((s.dk = 4) ∧ ((s.n < 0) ∨ (4096 < s.n)))))))] ?_ (fun e1 => ?_)
  ·
   refine s_5 ?_
   by_cases g1 : s.cost < 0
   ·
    refine s_21 ?_
    exact j_e ⟨(jt (.inl (.inl g1))), trivial⟩
   ·
    refine s_6 ?_
    by_cases g2 : 67108864 < s.cost
    ·
     refine s_15 ?_
     exact j_e ⟨(jt (.inl ((jo g1 Iff.rfl).1 g2))), trivial⟩
    ·
     refine s_4 ?_
     by_cases g3 : s.dk = 4
     ·
      refine s_4 ?_
      by_cases g4 : s.n < 0
      ·
       refine s_7 ?_
       exact j_e ⟨(jt (.inr ⟨g3, (.inl g4)⟩)), trivial⟩
      ·
       refine s_7 ?_
       exact j_e ⟨(jb (jo (fun z => g2 ((jo g1 Iff.rfl).2 z)) (ja g3 (jo g4 Iff.rfl)))), trivial⟩
     ·
      refine s_11 ?_
      exact j_e ⟨(jf (fun z => z.elim (fun z => g2 ((jo g1 Iff.rfl).2 z)) (fun z => g3 z.1))), trivial⟩
  refine iff' ?_ ?_ <;> intro c2
  ·
   refine s_5 ?_
   exact rt1 (by first | rfl | (first | omega | (exfalso; split at hn1 <;> omega)))
  ·
   refine s_2 ?_
   refine j_n [0,1,6,30] [(2, (.bool (decide ((s.dk ≠ 6) ∨ ((gi s.bds (((s.bds.length : Int)) - 1)) ≤ 67108864)))))] ?_ (fun e2 => ?_)
   ·
    refine s_5 ?_
    by_cases g5 : s.dk ≠ 6
    ·
     refine s_12 ?_
     exact j_e ⟨(jt (.inl g5)), trivial⟩
    ·
     refine s_4 ?_
     refine og (qv_lenI UL.out rfl hbv) w_a ?_
     refine s_1 ?_
     refine og (qv_iai UL.out SZ.out e_vm (inVi hbv) rfl o_m o_m) w_a ?_
     refine og (qv_ldi PL.out rfl (inVi hbv) o_m o_m) w_a ?_
     refine s_4 ?_
     exact j_e ⟨(jb (jo g5 Iff.rfl)), trivial⟩
   refine s_1 ?_
   exact rt1 (jdt (by first | omega | (exfalso; split at hn1 <;> omega)))
 ·
  refine s_3 ?_
  refine j_n [0,1,2,6] [(30, (.bool (decide (((s.cost < 0) ∨ (10000 < s.cost)) ∨ ((s.dk = 4) ∧ ((s.n < 0) ∨ (4096 < s.n)))))))] ?_ (fun e3 => ?_)
  ·
   refine s_5 ?_
   by_cases g6 : s.cost < 0
   ·
    refine s_21 ?_
    exact j_e ⟨(jt (.inl (.inl g6))), trivial⟩
   ·
    refine s_6 ?_
    by_cases g7 : 10000 < s.cost
    ·
     refine s_15 ?_
     exact j_e ⟨(jt (.inl ((jo g6 Iff.rfl).1 g7))), trivial⟩
    ·
     refine s_4 ?_
     by_cases g8 : s.dk = 4
     ·
      refine s_4 ?_
      by_cases g9 : s.n < 0
      ·
       refine s_7 ?_
       exact j_e ⟨(jt (.inr ⟨g8, (.inl g9)⟩)), trivial⟩
      ·
       refine s_7 ?_
       exact j_e ⟨(jb (jo (fun z => g7 ((jo g6 Iff.rfl).2 z)) (ja g8 (jo g9 Iff.rfl)))), trivial⟩
     ·
      refine s_11 ?_
      exact j_e ⟨(jf (fun z => z.elim (fun z => g7 ((jo g6 Iff.rfl).2 z)) (fun z => g8 z.1))), trivial⟩
  refine iff' ?_ ?_ <;> intro c3
  ·
   refine s_5 ?_
   exact rt1 (by first | rfl | (first | omega | (exfalso; split at hn1 <;> omega)))
  ·
   refine s_2 ?_
   refine j_n [0,1,6,30] [(2, (.bool (decide ((s.dk ≠ 6) ∨ ((gi s.bds (((s.bds.length : Int)) - 1)) ≤ 67108864)))))] ?_ (fun e4 => ?_)
   ·
    refine s_5 ?_
    by_cases g10 : s.dk ≠ 6
    ·
     refine s_12 ?_
     exact j_e ⟨(jt (.inl g10)), trivial⟩
    ·
     refine s_4 ?_
     refine og (qv_lenI UL.out rfl hbv) w_a ?_
     refine s_1 ?_
     refine og (qv_iai UL.out SZ.out e_vm (inVi hbv) rfl o_m o_m) w_a ?_
     refine og (qv_ldi PL.out rfl (inVi hbv) o_m o_m) w_a ?_
     refine s_4 ?_
     exact j_e ⟨(jb (jo g10 Iff.rfl)), trivial⟩
   refine s_1 ?_
   exact rt1 (jdt (by first | omega | (exfalso; split at hn1 <;> omega)))

end Go.Proofs.YtbchkopkgpfkgaaGreatDoor
