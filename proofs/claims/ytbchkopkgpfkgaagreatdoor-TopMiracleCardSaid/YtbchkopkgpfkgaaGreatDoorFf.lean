import Derived.Test.YtbchkopkgpfkgaaGreatDoorTi
import Derived.Test.YtbchkopkgpfkgaaGreatDoorFe
import Derived.Test.YtbchkopkgpfkgaaGreatDoorWp
/- Walks of the top laws: what each function returns. Printed by a program out of notes. -/
namespace Go.Proofs.YtbchkopkgpfkgaaGreatDoor
open Go.Vc
open Classical

set_option maxRecDepth 100000 in
set_option maxHeartbeats 4000000 in
theorem plainR_c {V : HV} {t : Tm} {ks : Value} (hT : Tms V ks t.kids) :
    FnC Tryz.prog 172 [(.agg #[(.int .i64 t.op), (.int .i64 t.n), ks])] V [] (fun v _ _ => v = (.bool (decide (pln t)))) := by
 refine f_i Tryz.func172 ?_
 intro w0 D
 obtain ⟨kvs, hS, hK⟩ := hT
 refine s_2 ?_
 refine b_ox fun b1 => ?_
 refine s_3 ?_
 refine j_n [0] [(2, (.bool (decide (((t.op = 0) ∧ (t.n = 0)) ∧ (((t.kids.length : Int)) = 0)))))] ?_ (fun e1 => ?_)
 ·
  refine s_5 ?_
  by_cases g1 : t.op = 0
  ·
   refine s_5 ?_
   by_cases g2 : t.n = 0
   ·
    refine s_2 ?_
    refine og (qv_lenSS UL.out rfl hS) w_a ?_
    refine s_4 ?_
    exact j_e ⟨(jb (ja ((ja g1 Iff.rfl).1 g2) Iff.rfl)), trivial⟩
   ·
    refine s_7 ?_
    exact j_e ⟨(jf (fun z => (fun z => g2 ((ja g1 Iff.rfl).2 z)) z.1)), trivial⟩
  ·
   refine s_12 ?_
   exact j_e ⟨(jf (fun z => (fun z => g1 z.1) z.1)), trivial⟩
 refine s_1 ?_
 exact rt1 (jb (by exact Iff.rfl))

set_option maxRecDepth 100000 in
set_option maxHeartbeats 4000000 in
theorem risingR_c {V : HV} {l : List Int} {lv : Value} (hl : Ints .i64 V lv l) :
    FnC Tryz.prog 173 [lv] V [] (fun v _ _ => v = (.bool (decide (rsg l)))) := by
 refine f_i Tryz.func173 ?_
 intro w0 D
 have hb := hl.bound
 refine s_6 ?_
 refine j_n [0,2] [(17, (.bool (decide (((((l.length : Int)) < 1) ∨ (32 < ((l.length : Int)))) ∨ ((gi l (0)) < 0)))))] ?_ (fun e1 => ?_)
 ·
  refine s_2 ?_
  refine oq (qv_lenI UL.out rfl hl) ?_
  refine s_2 ?_
  by_cases g1 : ((l.length : Int)) < 1
  ·
   refine s_11 ?_
   exact j_e ⟨(jt (.inl (.inl g1))), trivial⟩
  ·
   refine s_1 ?_
   refine og (qv_lenI UL.out rfl hl) w_a ?_
   refine s_3 ?_
   by_cases g2 : 32 < ((l.length : Int))
   ·
    refine s_6 ?_
    exact j_e ⟨(jt (.inl ((jo g1 Iff.rfl).1 g2))), trivial⟩
   ·
    refine s_1 ?_
    refine og (qv_iai UL.out SZ.out e_vm (inVi hl) rfl o_m o_m) w_a ?_
    refine og (qv_ldi PL.out rfl (inVi hl) o_m o_m) w_a ?_
    refine s_3 ?_
    exact j_e ⟨(jb (jo (fun z => g2 ((jo g1 Iff.rfl).2 z)) Iff.rfl)), trivial⟩
 refine iff' ?_ ?_ <;> intro c1
 ·
  refine s_5 ?_
  exact rt1 (jf (by intro q; first | exact q.1 (by assumption) | exact q.2 i i1 o_m (by assumption)))
 ·
  refine s_7 ?_
  refine lc1 [0,17] (fun (i : Int) => [(3, (Value.int .i64 i))]) (fun i => 1 ≤ i ∧ ∀ x : Int, 1 ≤ x → x < i → ¬ gi l x ≤ gi l (x - 1)) (fun i => (l.length - i).toNat) 1 ?_ ?_ ?_ 
  · exact ⟨rfl, trivial⟩
  · exact ⟨by omega, fun x a b => by omega⟩
  rintro i e2 ⟨i1, hno⟩
  refine s_5 ?_
  refine oq (qv_lenI UL.out rfl hl) ?_
  refine s_2 ?_
  refine iff' ?_ ?_ <;> intro c2
  ·
   refine s_7 ?_
   refine qq (qv_iai UL.out SZ.out e_vm (inVi hl) rfl o_m o_m) ?_
   refine qq (qv_ldi PL.out rfl (inVi hl) o_m o_m) ?_
   refine s_3 ?_
   refine qq (qv_iai UL.out SZ.out e_vm (inVi hl) rfl o_m o_m) ?_
   refine qq (qv_ldi PL.out rfl (inVi hl) o_m o_m) ?_
   refine s_2 ?_
   refine iff' ?_ ?_ <;> intro c3
   ·
    refine s_7 ?_
    exact rt1 (jf (by intro q; first | exact q.1 (by assumption) | exact q.2 i i1 o_m (by assumption)))
   ·
    refine s_6 ?_
    exact le1 (i + 1) ⟨(c_i o_m), trivial⟩ ⟨by omega, fun x a b => by
          by_cases e : x = i
          · subst e; assumption
          · exact hno x a o_m⟩
  ·
   refine s_7 ?_
   exact rt1 (jt (by exact ⟨by assumption, fun x a b => hno x a o_m⟩))

set_option maxRecDepth 100000 in
set_option maxHeartbeats 4000000 in
theorem shapedR_c {V : HV} {va ha ba : Value} {F : Fl} (hF : Fls V va ha ba F) {s : St} {ks tv lv bv : Value} (hT : Tms V ks s.tm.kids) (hth : Sts V tv s.thn) (hel : Sts V lv s.els) (hbv : Ints .i64 V bv s.bds) {p : Prop} [Decidable p] :
    FnC Tryz.prog 135 [(.agg #[va, ha, ba]), (.agg #[(.int .i64 s.dk), (.int .i64 s.cost), (.int .i64 s.var), (.int .i64 s.n), (.int .i64 s.tm.op), (.int .i64 s.tm.n), ks, tv, lv, bv]), (.bool (decide (p)))] V [] (fun v _ _ => v = (.bool (decide (shpP F s p)))) := by
 refine f_i Tryz.func135 ?_
 intro w0 D
 obtain ⟨hvs, hH⟩ := hF.h
 obtain ⟨xB, hB⟩ := hF.b.sl
 have hbvv := SlS.bound hF.v
 have hbh := SlS.bound hH.sl
 have hbb := SlS.bound hB
 have hT0 := hT
 obtain ⟨kvs, hS, hK⟩ := hT
 obtain ⟨xst, hst⟩ := hth.sl
 obtain ⟨xse, hse⟩ := hel.sl
 refine s_2 ?_
 refine b_ox fun b1 => ?_
 refine b_ox fun b2 => ?_
 refine s_3 ?_
 refine j_n [0,1,2,3,4,6] [(7, (.bool (decide ((((s.thn.length : Int)) = 0) ∧ (((s.els.length : Int)) = 0)))))] ?_ (fun e1 => ?_)
 ·
  refine s_3 ?_
  refine oq (qv_lenSS UL.out rfl hst) ?_
  refine s_2 ?_
  by_cases g1 : ((s.thn.length : Int)) = 0
  ·
   refine s_2 ?_
   refine og (qv_lenSS UL.out rfl hse) w_a ?_
   refine s_4 ?_
   exact j_e ⟨(jb (ja g1 Iff.rfl)), trivial⟩
  ·
   refine s_7 ?_
   exact j_e ⟨(jf (fun z => g1 z.1)), trivial⟩
 refine s_1 ?_
 refine j_n [0,1,2,3,4,6,7] [(8, (.bool (decide (((0 ≤ s.var) ∧ (s.var < ((F.vs.length : Int)))) ∧ (((vr F.vs (s.var)).kd) = 0)))))] ?_ (fun e2 => ?_)
 ·
  refine s_5 ?_
  by_cases g2 : 0 ≤ s.var
  ·
   refine s_4 ?_
   refine og (qv_lenSS UL.out rfl hF.v) w_a ?_
   refine s_3 ?_
   by_cases g3 : s.var < ((F.vs.length : Int))
   ·
    refine s_4 ?_
    refine og (qv_ias UL.out SZ.out e_vm hF.v rfl o_m o_m) w_a ?_
    refine og (qv_fas FI.out rfl hF.v o_m o_m) w_a ?_
    refine og (qv_ldf PL.out rfl hF.v o_m o_m o_m (vrcs_el (o := 1) o_m o_m o_m rfl)) w_a ?_
    refine s_4 ?_
    exact j_e ⟨(jb (ja ((ja g2 Iff.rfl).1 g3) Iff.rfl)), trivial⟩
   ·
    refine s_11 ?_
    exact j_e ⟨(jf (fun z => (fun z => g3 ((ja g2 Iff.rfl).2 z)) z.1)), trivial⟩
  ·
   refine s_19 ?_
   exact j_e ⟨(jf (fun z => (fun z => g2 z.1) z.1)), trivial⟩
 refine s_12 ?_
 refine iff' ?_ ?_ <;> intro c1
 ·
  refine s_1 ?_
  refine j_n [0,1,2,3,4,7,8,41,42] [(6, (.bool (decide (((((((s.thn.length : Int)) = 0) ∧ (((s.els.length : Int)) = 0)) ∧ (((0 ≤ s.var) ∧ (s.var < ((F.vs.length : Int)))) ∧ (((vr F.vs (s.var)).kd) = 0))) ∧ (s.n = 0)) ∧ (((s.bds.length : Int)) = 0)))))] ?_ (fun e3 => ?_)
  ·
   refine s_3 ?_
   by_cases g4 : (((s.thn.length : Int)) = 0) ∧ (((s.els.length : Int)) = 0)
   ·
    refine s_3 ?_
    by_cases g5 : ((0 ≤ s.var) ∧ (s.var < ((F.vs.length : Int)))) ∧ (((vr F.vs (s.var)).kd) = 0)
    ·
     refine s_5 ?_
     by_cases g6 : s.n = 0
     ·
      refine s_2 ?_
      refine og (qv_lenI UL.out rfl hbv) w_a ?_
      refine s_4 ?_
      exact j_e ⟨(jb (ja ((ja ((ja g4 Iff.rfl).1 g5) Iff.rfl).1 g6) Iff.rfl)), trivial⟩
     ·
      refine s_7 ?_
      exact j_e ⟨(jf (fun z => (fun z => g6 ((ja ((ja g4 Iff.rfl).1 g5) Iff.rfl).2 z)) z.1)), trivial⟩
    ·
     refine s_12 ?_
     exact j_e ⟨(jf (fun z => (fun z => (fun z => g5 ((ja g4 Iff.rfl).2 z)) z.1) z.1)), trivial⟩
   ·
    refine s_15 ?_
    exact j_e ⟨(jf (fun z => (fun z => (fun z => g4 z.1) z.1) z.1)), trivial⟩
  refine s_2 ?_
  exact rt1 (jb (by exact (shp_0 c1).symm))
 ·
  refine s_5 ?_
  refine iff' ?_ ?_ <;> intro c2
  ·
   refine s_1 ?_
   refine j_n [0,1,2,3,4,7,8,41,42,59] [(6, (.bool (decide (((((((s.thn.length : Int)) = 0) ∧ (((s.els.length : Int)) = 0)) ∧ (s.var = 0)) ∧ (s.n = 0)) ∧ (((s.bds.length : Int)) = 0)))))] ?_ (fun e4 => ?_)
   ·
    refine s_3 ?_
    by_cases g7 : (((s.thn.length : Int)) = 0) ∧ (((s.els.length : Int)) = 0)
    ·
     refine s_5 ?_
     by_cases g8 : s.var = 0
     ·
      refine s_5 ?_
      by_cases g9 : s.n = 0
      ·
       refine s_2 ?_
       refine og (qv_lenI UL.out rfl hbv) w_a ?_
       refine s_4 ?_
       exact j_e ⟨(jb (ja ((ja ((ja g7 Iff.rfl).1 g8) Iff.rfl).1 g9) Iff.rfl)), trivial⟩
      ·
       refine s_7 ?_
       exact j_e ⟨(jf (fun z => (fun z => g9 ((ja ((ja g7 Iff.rfl).1 g8) Iff.rfl).2 z)) z.1)), trivial⟩
     ·
      refine s_12 ?_
      exact j_e ⟨(jf (fun z => (fun z => (fun z => g8 ((ja g7 Iff.rfl).2 z)) z.1) z.1)), trivial⟩
    ·
     refine s_17 ?_
     exact j_e ⟨(jf (fun z => (fun z => (fun z => g7 z.1) z.1) z.1)), trivial⟩
   refine s_2 ?_
   exact rt1 (jb (by exact (shp_1 c2).symm))
  ·
   refine s_5 ?_
   refine iff' ?_ ?_ <;> intro c3
   ·
    refine s_1 ?_
    refine j_n [0,1,2,3,4,7,8,41,42,59,78] [(6, (.bool (decide ((((((((s.thn.length : Int)) = 0) ∧ (((s.els.length : Int)) = 0)) ∧ (s.var = 0)) ∧ (s.n = 0)) ∧ (((s.bds.length : Int)) = 0)) ∧ (pln s.tm)))))] ?_ (fun e5 => ?_)
    ·
     refine s_3 ?_
     by_cases g10 : (((s.thn.length : Int)) = 0) ∧ (((s.els.length : Int)) = 0)
     ·
      refine s_5 ?_
      by_cases g11 : s.var = 0
      ·
       refine s_5 ?_
       by_cases g12 : s.n = 0
       ·
        refine s_2 ?_
        refine og (qv_lenI UL.out rfl hbv) w_a ?_
        refine s_3 ?_
        by_cases g13 : ((s.bds.length : Int)) = 0
        ·
         refine s_2 ?_
         refine og (f_c (plainR_c hT0) rfl rfl) w_a ?_
         refine s_3 ?_
         exact j_e ⟨(jb (ja ((ja ((ja ((ja g10 Iff.rfl).1 g11) Iff.rfl).1 g12) Iff.rfl).1 g13) Iff.rfl)), trivial⟩
        ·
         refine s_6 ?_
         exact j_e ⟨(jf (fun z => (fun z => g13 ((ja ((ja ((ja g10 Iff.rfl).1 g11) Iff.rfl).1 g12) Iff.rfl).2 z)) z.1)), trivial⟩
       ·
        refine s_12 ?_
        exact j_e ⟨(jf (fun z => (fun z => (fun z => g12 ((ja ((ja g10 Iff.rfl).1 g11) Iff.rfl).2 z)) z.1) z.1)), trivial⟩
      ·
       refine s_17 ?_
       exact j_e ⟨(jf (fun z => (fun z => (fun z => (fun z => g11 ((ja g10 Iff.rfl).2 z)) z.1) z.1) z.1)), trivial⟩
     ·
      refine s_22 ?_
      exact j_e ⟨(jf (fun z => (fun z => (fun z => (fun z => g10 z.1) z.1) z.1) z.1)), trivial⟩
    refine s_2 ?_
    exact rt1 (jb (by exact (shp_2 c3).symm))
   ·
    refine s_5 ?_
    refine iff' ?_ ?_ <;> intro c4
    ·
     refine s_1 ?_
     refine j_n [0,1,2,3,4,7,8,41,42,59,78,102] [(6, (.bool (decide (((s.var = 0) ∧ (s.n = 0)) ∧ (((s.bds.length : Int)) = 0)))))] ?_ (fun e6 => ?_)
     ·
      refine s_5 ?_
      by_cases g14 : s.var = 0
      ·
       refine s_5 ?_
       by_cases g15 : s.n = 0
       ·
        refine s_2 ?_
        refine og (qv_lenI UL.out rfl hbv) w_a ?_
        refine s_4 ?_
        exact j_e ⟨(jb (ja ((ja g14 Iff.rfl).1 g15) Iff.rfl)), trivial⟩
       ·
        refine s_7 ?_
        exact j_e ⟨(jf (fun z => (fun z => g15 ((ja g14 Iff.rfl).2 z)) z.1)), trivial⟩
      ·
       refine s_12 ?_
       exact j_e ⟨(jf (fun z => (fun z => g14 z.1) z.1)), trivial⟩
     refine s_2 ?_
     exact rt1 (jb (by exact (shp_3 c4).symm))
    ·
     refine s_5 ?_
     refine iff' ?_ ?_ <;> intro c5
     ·
      refine s_1 ?_
      refine j_n [0,1,2,3,4,7,8,41,42,59,78,102,118] [(6, (.bool (decide (((s.var = 0) ∧ (((s.els.length : Int)) = 0)) ∧ (((s.bds.length : Int)) = 0)))))] ?_ (fun e7 => ?_)
      ·
       refine s_5 ?_
       by_cases g16 : s.var = 0
       ·
        refine s_2 ?_
        refine og (qv_lenSS UL.out rfl hse) w_a ?_
        refine s_3 ?_
        by_cases g17 : ((s.els.length : Int)) = 0
        ·
         refine s_2 ?_
         refine og (qv_lenI UL.out rfl hbv) w_a ?_
         refine s_4 ?_
         exact j_e ⟨(jb (ja ((ja g16 Iff.rfl).1 g17) Iff.rfl)), trivial⟩
        ·
         refine s_7 ?_
         exact j_e ⟨(jf (fun z => (fun z => g17 ((ja g16 Iff.rfl).2 z)) z.1)), trivial⟩
       ·
        refine s_13 ?_
        exact j_e ⟨(jf (fun z => (fun z => g16 z.1) z.1)), trivial⟩
      refine s_2 ?_
      exact rt1 (jb (by exact (shp_4 c5).symm))
     ·
      refine s_5 ?_
      refine iff' ?_ ?_ <;> intro c6
      ·
       refine s_1 ?_
       refine j_n [0,1,2,3,4,7,8,41,42,59,78,102,118,135] [(6, (.bool (decide (((((((((s.thn.length : Int)) = 0) ∧ (((s.els.length : Int)) = 0)) ∧ (((0 ≤ s.var) ∧ (s.var < ((F.vs.length : Int)))) ∧ (((vr F.vs (s.var)).kd) = 0))) ∧ (0 ≤ s.n)) ∧ (s.n < ((F.hs.length : Int)))) ∧ (((s.bds.length : Int)) = 0)) ∧ (pln s.tm)))))] ?_ (fun e8 => ?_)
       ·
        refine s_3 ?_
        by_cases g18 : (((s.thn.length : Int)) = 0) ∧ (((s.els.length : Int)) = 0)
        ·
         refine s_3 ?_
         by_cases g19 : ((0 ≤ s.var) ∧ (s.var < ((F.vs.length : Int)))) ∧ (((vr F.vs (s.var)).kd) = 0)
         ·
          refine s_5 ?_
          by_cases g20 : 0 ≤ s.n
          ·
           refine s_4 ?_
           refine og (qv_lenSS UL.out rfl hH.sl) w_a ?_
           refine s_3 ?_
           by_cases g21 : s.n < ((F.hs.length : Int))
           ·
            refine s_2 ?_
            refine og (qv_lenI UL.out rfl hbv) w_a ?_
            refine s_3 ?_
            by_cases g22 : ((s.bds.length : Int)) = 0
            ·
             refine s_2 ?_
             refine og (f_c (plainR_c hT0) rfl rfl) w_a ?_
             refine s_3 ?_
             exact j_e ⟨(jb (ja ((ja ((ja ((ja ((ja g18 Iff.rfl).1 g19) Iff.rfl).1 g20) Iff.rfl).1 g21) Iff.rfl).1 g22) Iff.rfl)), trivial⟩
            ·
             refine s_6 ?_
             exact j_e ⟨(jf (fun z => (fun z => g22 ((ja ((ja ((ja ((ja g18 Iff.rfl).1 g19) Iff.rfl).1 g20) Iff.rfl).1 g21) Iff.rfl).2 z)) z.1)), trivial⟩
           ·
            refine s_12 ?_
            exact j_e ⟨(jf (fun z => (fun z => (fun z => g21 ((ja ((ja ((ja g18 Iff.rfl).1 g19) Iff.rfl).1 g20) Iff.rfl).2 z)) z.1) z.1)), trivial⟩
          ·
           refine s_20 ?_
           exact j_e ⟨(jf (fun z => (fun z => (fun z => (fun z => g20 ((ja ((ja g18 Iff.rfl).1 g19) Iff.rfl).2 z)) z.1) z.1) z.1)), trivial⟩
         ·
          refine s_25 ?_
          exact j_e ⟨(jf (fun z => (fun z => (fun z => (fun z => (fun z => g19 ((ja g18 Iff.rfl).2 z)) z.1) z.1) z.1) z.1)), trivial⟩
        ·
         refine s_28 ?_
         exact j_e ⟨(jf (fun z => (fun z => (fun z => (fun z => (fun z => g18 z.1) z.1) z.1) z.1) z.1)), trivial⟩
       refine s_2 ?_
       exact rt1 (jb (by exact (shp_5 c6).symm))
      ·
       refine s_5 ?_
       refine iff' ?_ ?_ <;> intro c7
       ·
        refine s_1 ?_
        refine j_n [0,1,3,4,7,8,41,42,59,78,102,118,135,165] [(6, (.bool (decide (((((((((s.thn.length : Int)) = 0) ∧ (((s.els.length : Int)) = 0)) ∧ (p)) ∧ (s.var = 0)) ∧ (s.n = 0)) ∧ (pln s.tm)) ∧ (rsg s.bds)))))] ?_ (fun e9 => ?_)
        ·
         refine s_3 ?_
         by_cases g23 : (((s.thn.length : Int)) = 0) ∧ (((s.els.length : Int)) = 0)
         ·
          refine s_3 ?_
          by_cases g24 : p
          ·
           refine s_5 ?_
           by_cases g25 : s.var = 0
           ·
            refine s_5 ?_
            by_cases g26 : s.n = 0
            ·
             refine s_2 ?_
             refine og (f_c (plainR_c hT0) rfl rfl) w_a ?_
             refine s_2 ?_
             by_cases g27 : pln s.tm
             ·
              refine s_2 ?_
              refine og (f_c (risingR_c hbv) rfl rfl) w_a ?_
              refine s_3 ?_
              exact j_e ⟨(jb (ja ((ja ((ja ((ja ((ja g23 Iff.rfl).1 g24) Iff.rfl).1 g25) Iff.rfl).1 g26) Iff.rfl).1 g27) Iff.rfl)), trivial⟩
             ·
              refine s_6 ?_
              exact j_e ⟨(jf (fun z => (fun z => g27 ((ja ((ja ((ja ((ja g23 Iff.rfl).1 g24) Iff.rfl).1 g25) Iff.rfl).1 g26) Iff.rfl).2 z)) z.1)), trivial⟩
            ·
             refine s_11 ?_
             exact j_e ⟨(jf (fun z => (fun z => (fun z => g26 ((ja ((ja ((ja g23 Iff.rfl).1 g24) Iff.rfl).1 g25) Iff.rfl).2 z)) z.1) z.1)), trivial⟩
           ·
            refine s_16 ?_
            exact j_e ⟨(jf (fun z => (fun z => (fun z => (fun z => g25 ((ja ((ja g23 Iff.rfl).1 g24) Iff.rfl).2 z)) z.1) z.1) z.1)), trivial⟩
          ·
           refine s_21 ?_
           exact j_e ⟨(jf (fun z => (fun z => (fun z => (fun z => (fun z => g24 ((ja g23 Iff.rfl).2 z)) z.1) z.1) z.1) z.1)), trivial⟩
         ·
          refine s_24 ?_
          exact j_e ⟨(jf (fun z => (fun z => (fun z => (fun z => (fun z => g23 z.1) z.1) z.1) z.1) z.1)), trivial⟩
        refine s_2 ?_
        exact rt1 (jb (by exact (shp_6 c7).symm))
       ·
        refine s_6 ?_
        exact rt1 (jf (by exact shp_e o_m))

theorem shapedR_d{V : HV} {va ha ba : Value} {F : Fl} (hF : Fls V va ha ba F) {s : St} {ks tv lv bv : Value} (hT : Tms V ks s.tm.kids) (hth : Sts V tv s.thn) (hel : Sts V lv s.els) (hbv : Ints .i64 V bv s.bds) {p last : Prop} [Decidable p] (h : p ↔ last) : FnC Tryz.prog 135 [.agg #[va, ha, ba], .agg #[.int .i64 s.dk, .int .i64 s.cost, .int .i64 s.var, .int .i64 s.n, .int .i64 s.tm.op, .int .i64 s.tm.n, ks, tv, lv, bv], .bool (decide p)] V [] (fun v _ _ => v = .bool (decide (shpP F s last))) := by
  cases propext h
  exact shapedR_c hF hT hth hel hbv
end Go.Proofs.YtbchkopkgpfkgaaGreatDoor
