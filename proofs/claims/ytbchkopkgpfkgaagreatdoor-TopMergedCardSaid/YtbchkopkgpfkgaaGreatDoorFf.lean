/- Ff. -/
import Derived.Test.YtbchkopkgpfkgaaGreatDoorTi
import Derived.Test.YtbchkopkgpfkgaaGreatDoorFc
import Derived.Test.YtbchkopkgpfkgaaGreatDoorWp
import Derived.Test.YtbchkopkgpfkgaaGreatDoorFa
namespace Go.Proofs.YtbchkopkgpfkgaaGreatDoor
open Go.Vc
open Classical

set_option maxRecDepth 100000 in
set_option maxHeartbeats 4000000 in
theorem plainR_c {V : HV} {t : Tm} {ks : Value} (hT : Tms V ks t.kids) :
    FnC Tryz.prog 172 [(.agg #[(.int .i64 t.op), (.int .i64 t.n), ks])] V [] (fun v _ _ => v = (.bool (decide (pln t)))) := by
 refine f_i Tryz.func172 ?_
 intro w0 D
 obtain ⟨kvs, hS, hK⟩ := hT
 refine s_2 ?_
 refine b_ox fun b1 => ?_
 refine s_3 ?_
 refine j_n [0] [(2, (.bool (decide (((t.op = 0) ∧ (t.n = 0)) ∧ (((t.kids.length : Int)) = 0)))))] ?_ (fun e1 => ?_)
 ·
  refine s_5 ?_
  by_cases g1 : t.op = 0
  ·
   refine s_5 ?_
   by_cases g2 : t.n = 0
   ·
    refine s_2 ?_
    refine og (qv_lenSS UL.out rfl hS) w_a ?_
    refine s_4 ?_
    exact j_e ⟨(jb (ja ((ja g1 Iff.rfl).1 g2) Iff.rfl)), trivial⟩
   ·
    refine s_7 ?_
    exact j_e ⟨(jf (fun z => (fun z => g2 ((ja g1 Iff.rfl).2 z)) z.1)), trivial⟩
  ·
   refine s_12 ?_
   exact j_e ⟨(jf (fun z => (fun z => g1 z.1) z.1)), trivial⟩
 refine s_1 ?_
 exact rt1 (jb (by exact Iff.rfl))

set_option maxRecDepth 100000 in
set_option maxHeartbeats 4000000 in
theorem risingR_c {V : HV} {l : List Int} {lv : Value} (hl : Ints .i64 V lv l) :
    FnC Tryz.prog 173 [lv] V [] (fun v _ _ => v = (.bool (decide (rsg l)))) := by
 refine f_i Tryz.func173 ?_
 intro w0 D
 have hb := hl.bound
 refine s_6 ?_
 refine j_n [0,2] [(17, (.bool (decide (((((l.length : Int)) < 1) ∨ (32 < ((l.length : Int)))) ∨ ((gi l (0)) < 0)))))] ?_ (fun e1 => ?_)
 ·
  refine s_2 ?_
  refine oq (qv_lenI UL.out rfl hl) ?_
  refine s_2 ?_
  by_cases g1 : ((l.length : Int)) < 1
  ·
   refine s_11 ?_
   exact j_e ⟨(jt (.inl (.inl g1))), trivial⟩
  ·
   refine s_1 ?_
   refine og (qv_lenI UL.out rfl hl) w_a ?_
   refine s_3 ?_
   by_cases g2 : 32 < ((l.length : Int))
   ·
    refine s_6 ?_
    exact j_e ⟨(jt (.inl ((jo g1 Iff.rfl).1 g2))), trivial⟩
   ·
    refine s_1 ?_
    refine og (qv_iai UL.out SZ.out e_vm (inVi hl) rfl o_m o_m) w_a ?_
    refine og (qv_ldi PL.out rfl (inVi hl) o_m o_m) w_a ?_
    refine s_3 ?_
    exact j_e ⟨(jb (jo (fun z => g2 ((jo g1 Iff.rfl).2 z)) Iff.rfl)), trivial⟩
 refine iff' ?_ ?_ <;> intro c1
 ·
  refine s_5 ?_
  exact rt1 (jf (by intro q; first | exact q.1 (by assumption) | exact q.2 i i1 o_m (by assumption)))
 ·
  refine s_7 ?_
  refine lc1 [0,17] (fun (i : Int) => [(3, (Value.int .i64 i))]) (fun i => 1 ≤ i ∧ ∀ x : Int, 1 ≤ x → x < i → ¬ gi l x ≤ gi l (x - 1)) (fun i => (l.length - i).toNat) 1 ?_ ?_ ?_ 
  · exact ⟨rfl, trivial⟩
  · exact ⟨by omega, fun x a b => by omega⟩
  rintro i e2 ⟨i1, hno⟩
  refine s_5 ?_
  refine oq (qv_lenI UL.out rfl hl) ?_
  refine s_2 ?_
  refine iff' ?_ ?_ <;> intro c2
  ·
   refine s_7 ?_
   refine qq (qv_iai UL.out SZ.out e_vm (inVi hl) rfl o_m o_m) ?_
   refine qq (qv_ldi PL.out rfl (inVi hl) o_m o_m) ?_
   refine s_3 ?_
   refine qq (qv_iai UL.out SZ.out e_vm (inVi hl) rfl o_m o_m) ?_
   refine qq (qv_ldi PL.out rfl (inVi hl) o_m o_m) ?_
   refine s_2 ?_
   refine iff' ?_ ?_ <;> intro c3
   ·
    refine s_7 ?_
    exact rt1 (jf (by intro q; first | exact q.1 (by assumption) | exact q.2 i i1 o_m (by assumption)))
   ·
    refine s_6 ?_
    exact le1 (i + 1) ⟨(c_i o_m), trivial⟩ ⟨by omega, fun x a b => by
          by_cases e : x = i
          · subst e; assumption
          · exact hno x a o_m⟩
  ·
   refine s_7 ?_
   exact rt1 (jt (by exact ⟨by assumption, fun x a b => hno x a o_m⟩))

set_option maxRecDepth 100000 in
set_option maxHeartbeats 4000000 in
theorem shapedR_c {V : HV} {va ha ba : Value} {F : Fl} (hF : Fls V va ha ba F) {s : St} {ks tv lv bv : Value} (hT : Tms V ks s.tm.kids) (hth : Sts V tv s.thn) (hel : Sts V lv s.els) (hbv : Ints .i64 V bv s.bds) {p : Prop} [Decidable p] :
    FnC Tryz.prog 135 [(.agg #[va, ha, ba]), (.agg #[(.int .i64 s.dk), (.int .i64 s.cost), (.int .i64 s.var), (.int .i64 s.n), (.int .i64 s.tm.op), (.int .i64 s.tm.n), ks, tv, lv, bv]), (.bool (decide (p)))] V [] (fun v _ _ => v = (.bool (decide (shpP F s p)))) := by
 refine f_i Tryz.func135 ?_
 intro w0 D
 obtain ⟨hvs, hH⟩ := hF.h
 obtain ⟨xB, hB⟩ := hF.b.sl
 have hbvv := SlS.bound hF.v
 have hbh := SlS.bound hH.sl
 have hbb := SlS.bound hB
 have hT0 := hT
 obtain ⟨kvs, hS, hK⟩ := hT
 obtain ⟨xst, hst⟩ := hth.sl
 obtain ⟨xse, hse⟩ := hel.sl
 refine s_2 ?_
 refine b_ox fun b1 => ?_
 refine b_ox fun b2 => ?_
 refine s_3 ?_
 refine j_n [0,1,2,3,4,6] [(7, (.bool (decide ((((s.thn.length : Int)) = 0) ∧ (((s.els.length : Int)) = 0)))))] ?_ (fun e1 => ?_)
 ·
  refine s_3 ?_
  refine oq (qv_lenSS UL.out rfl hst) ?_
  refine s_2 ?_
  by_cases g1 : ((s.thn.length : Int)) = 0
  ·
   refine s_2 ?_
   refine og (qv_lenSS UL.out rfl hse) w_a ?_
   refine s_4 ?_
   exact j_e ⟨(jb (ja g1 Iff.rfl)), trivial⟩
  ·
   refine s_7 ?_
   exact j_e ⟨(jf (fun z => g1 z.1)), trivial⟩
 refine s_1 ?_
 refine j_n [0,1,2,3,4,6,7] [(8, (.bool (decide (((0 ≤ s.var) ∧ (s.var < ((F.vs.length : Int)))) ∧ (((vr F.vs (s.var)).kd) = 0)))))] ?_ (fun e2 => ?_)
 ·
  refine s_5 ?_
  by_cases g2 : 0 ≤ s.var
  ·
   refine s_4 ?_
   refine og (qv_lenSS UL.out rfl hF.v) w_a ?_
   refine s_3 ?_
   by_cases g3 : s.var < ((F.vs.length : Int))
   ·
    refine s_4 ?_
    refine og (qv_ias UL.out SZ.out e_vm hF.v rfl o_m o_m) w_a ?_
    refine og (qv_fas FI.out rfl hF.v o_m o_m) w_a ?_
    refine og (qv_ldf PL.out rfl hF.v o_m o_m o_m (vrcs_el (o := 1) o_m o_m o_m rfl)) w_a ?_
    refine s_4 ?_
    exact j_e ⟨(jb (ja ((ja g2 Iff.rfl).1 g3) Iff.rfl)), trivial⟩
   ·
    refine s_11 ?_
    exact j_e ⟨(jf (fun z => (fun z => g3 ((ja g2 Iff.rfl).2 z)) z.1)), trivial⟩
  ·
   refine s_19 ?_
   exact j_e ⟨(jf (fun z => (fun z => g2 z.1) z.1)), trivial⟩
 refine s_12 ?_
 refine iff' ?_ ?_ <;> intro c1
 ·
  refine s_1 ?_
  refine j_n [0,1,2,3,4,7,8,41,42] [(6, (.bool (decide (((((((s.thn.length : Int)) = 0) ∧ (((s.els.length : Int)) = 0)) ∧ (((0 ≤ s.var) ∧ (s.var < ((F.vs.length : Int)))) ∧ (((vr F.vs (s.var)).kd) = 0))) ∧ (s.n = 0)) ∧ (((s.bds.length : Int)) = 0)))))] ?_ (fun e3 => ?_)
  ·
   refine s_3 ?_
   by_cases g4 : (((s.thn.length : Int)) = 0) ∧ (((s.els.length : Int)) = 0)
   ·
    refine s_3 ?_
    by_cases g5 : ((0 ≤ s.var) ∧ (s.var < ((F.vs.length : Int)))) ∧ (((vr F.vs (s.var)).kd) = 0)
    ·
     refine s_5 ?_
     by_cases g6 : s.n = 0
     ·
      refine s_2 ?_
      refine og (qv_lenI UL.out rfl hbv) w_a ?_
      refine s_4 ?_
      exact j_e ⟨(jb (ja ((ja ((ja g4 Iff.rfl).1 g5) Iff.rfl).1 g6) Iff.rfl)), trivial⟩
     ·
      refine s_7 ?_
      exact j_e ⟨(jf (fun z => (fun z => g6 ((ja ((ja g4 Iff.rfl).1 g5) Iff.rfl).2 z)) z.1)), trivial⟩
    ·
     refine s_12 ?_
     exact j_e ⟨(jf (fun z => (fun z => (fun z => g5 ((ja g4 Iff.rfl).2 z)) z.1) z.1)), trivial⟩
   ·
    refine s_15 ?_
    exact j_e ⟨(jf (fun z => (fun z => (fun z => g4 z.1) z.1) z.1)), trivial⟩
  refine s_2 ?_
  exact rt1 (jb (by exact (shp_0 c1).symm))
 ·
  refine s_5 ?_
  refine iff' ?_ ?_ <;> intro c2
  ·
   refine s_1 ?_
   refine j_n [0,1,2,3,4,7,8,41,42,59] [(6, (.bool (decide (((((((s.thn.length : Int)) = 0) ∧ (((s.els.length : Int)) = 0)) ∧ (s.var = 0)) ∧ (s.n = 0)) ∧ (((s.bds.length : Int)) = 0)))))] ?_ (fun e4 => ?_)
   ·
    refine s_3 ?_
    by_cases g7 : (((s.thn.length : Int)) = 0) ∧ (((s.els.length : Int)) = 0)
    ·
     refine s_5 ?_
     by_cases g8 : s.var = 0
     ·
      refine s_5 ?_
      by_cases g9 : s.n = 0
      ·
       refine s_2 ?_
       refine og (qv_lenI UL.out rfl hbv) w_a ?_
       refine s_4 ?_
       exact j_e ⟨(jb (ja ((ja ((ja g7 Iff.rfl).1 g8) Iff.rfl).1 g9) Iff.rfl)), trivial⟩
      ·
       refine s_7 ?_
       exact j_e ⟨(jf (fun z => (fun z => g9 ((ja ((ja g7 Iff.rfl).1 g8) Iff.rfl).2 z)) z.1)), trivial⟩
     ·
      refine s_12 ?_
      exact j_e ⟨(jf (fun z => (fun z => (fun z => g8 ((ja g7 Iff.rfl).2 z)) z.1) z.1)), trivial⟩
    ·
     refine s_17 ?_
     exact j_e ⟨(jf (fun z => (fun z => (fun z => g7 z.1) z.1) z.1)), trivial⟩
   refine s_2 ?_
   exact rt1 (jb (by exact (shp_1 c2).symm))
  ·
   refine s_5 ?_
   refine iff' ?_ ?_ <;> intro c3
   ·
    refine s_1 ?_
    refine j_n [0,1,2,3,4,7,8,41,42,59,78] [(6, (.bool (decide ((((((((s.thn.length : Int)) = 0) ∧ (((s.els.length : Int)) = 0)) ∧ (s.var = 0)) ∧ (s.n = 0)) ∧ (((s.bds.length : Int)) = 0)) ∧ (pln s.tm)))))] ?_ (fun e5 => ?_)
    ·
     refine s_3 ?_
     by_cases g10 : (((s.thn.length : Int)) = 0) ∧ (((s.els.length : Int)) = 0)
     ·
      refine s_5 ?_
      by_cases g11 : s.var = 0
      ·
       refine s_5 ?_
       by_cases g12 : s.n = 0
       ·
        refine s_2 ?_
        refine og (qv_lenI UL.out rfl hbv) w_a ?_
        refine s_3 ?_
        by_cases g13 : ((s.bds.length : Int)) = 0
        ·
         refine s_2 ?_
         refine og (f_c (plainR_c hT0) rfl rfl) w_a ?_
         refine s_3 ?_
         exact j_e ⟨(jb (ja ((ja ((ja ((ja g10 Iff.rfl).1 g11) Iff.rfl).1 g12) Iff.rfl).1 g13) Iff.rfl)), trivial⟩
        ·
         refine s_6 ?_
         exact j_e ⟨(jf (fun z => (fun z => g13 ((ja ((ja ((ja g10 Iff.rfl).1 g11) Iff.rfl).1 g12) Iff.rfl).2 z)) z.1)), trivial⟩
       ·
        refine s_12 ?_
        exact j_e ⟨(jf (fun z => (fun z => (fun z => g12 ((ja ((ja g10 Iff.rfl).1 g11) Iff.rfl).2 z)) z.1) z.1)), trivial⟩
      ·
       refine s_17 ?_
       exact j_e ⟨(jf (fun z => (fun z => (fun z => (fun z => g11 ((ja g10 Iff.rfl).2 z)) z.1) z.1) z.1)), trivial⟩
     ·
      refine s_22 ?_
      exact j_e ⟨(jf (fun z => (fun z => (fun z => (fun z => g10 z.1) z.1) z.1) z.1)), trivial⟩
    refine s_2 ?_
    exact rt1 (jb (by exact (shp_2 c3).symm))
   ·
    refine s_5 ?_
    refine iff' ?_ ?_ <;> intro c4
    ·
     refine s_1 ?_
     refine j_n [0,1,2,3,4,7,8,41,42,59,78,102] [(6, (.bool (decide (((s.var = 0) ∧ (s.n = 0)) ∧ (((s.bds.length : Int)) = 0)))))] ?_ (fun e6 => ?_)
     ·
      refine s_5 ?_
      by_cases g14 : s.var = 0
      ·
       refine s_5 ?_
       by_cases g15 : s.n = 0
       ·
        refine s_2 ?_
        refine og (qv_lenI UL.out rfl hbv) w_a ?_
        refine s_4 ?_
        exact j_e ⟨(jb (ja ((ja g14 Iff.rfl).1 g15) Iff.rfl)), trivial⟩
       ·
        refine s_7 ?_
        exact j_e ⟨(jf (fun z => (fun z => g15 ((ja g14 Iff.rfl).2 z)) z.1)), trivial⟩
      ·
       refine s_12 ?_
       exact j_e ⟨(jf (fun z => (fun z => g14 z.1) z.1)), trivial⟩
     refine s_2 ?_
     exact rt1 (jb (by exact (shp_3 c4).symm))
    ·
     refine s_5 ?_
     refine iff' ?_ ?_ <;> intro c5
     ·
      refine s_1 ?_
      refine j_n [0,1,2,3,4,7,8,41,42,59,78,102,118] [(6, (.bool (decide (((s.var = 0) ∧ (((s.els.length : Int)) = 0)) ∧ (((s.bds.length : Int)) = 0)))))] ?_ (fun e7 => ?_)
      ·
       refine s_5 ?_
       by_cases g16 : s.var = 0
       ·
        refine s_2 ?_
        refine og (qv_lenSS UL.out rfl hse) w_a ?_
        refine s_3 ?_
        by_cases g17 : ((s.els.length : Int)) = 0
        ·
         refine s_2 ?_
         refine og (qv_lenI UL.out rfl hbv) w_a ?_
         refine s_4 ?_
         exact j_e ⟨(jb (ja ((ja g16 Iff.rfl).1 g17) Iff.rfl)), trivial⟩
        ·
         refine s_7 ?_
         exact j_e ⟨(jf (fun z => (fun z => g17 ((ja g16 Iff.rfl).2 z)) z.1)), trivial⟩
       ·
        refine s_13 ?_
        exact j_e ⟨(jf (fun z => (fun z => g16 z.1) z.1)), trivial⟩
      refine s_2 ?_
      exact rt1 (jb (by exact (shp_4 c5).symm))
     ·
      refine s_5 ?_
      refine iff' ?_ ?_ <;> intro c6
      ·
       refine s_1 ?_
       refine j_n [0,1,2,3,4,7,8,41,42,59,78,102,118,135] [(6, (.bool (decide (((((((((s.thn.length : Int)) = 0) ∧ (((s.els.length : Int)) = 0)) ∧ (((0 ≤ s.var) ∧ (s.var < ((F.vs.length : Int)))) ∧ (((vr F.vs (s.var)).kd) = 0))) ∧ (0 ≤ s.n)) ∧ (s.n < ((F.hs.length : Int)))) ∧ (((s.bds.length : Int)) = 0)) ∧ (pln s.tm)))))] ?_ (fun e8 => ?_)
       ·
        refine s_3 ?_
        by_cases g18 : (((s.thn.length : Int)) = 0) ∧ (((s.els.length : Int)) = 0)
        ·
         refine s_3 ?_
         by_cases g19 : ((0 ≤ s.var) ∧ (s.var < ((F.vs.length : Int)))) ∧ (((vr F.vs (s.var)).kd) = 0)
         ·
          refine s_5 ?_
          by_cases g20 : 0 ≤ s.n
          ·
           refine s_4 ?_
           refine og (qv_lenSS UL.out rfl hH.sl) w_a ?_
           refine s_3 ?_
           by_cases g21 : s.n < ((F.hs.length : Int))
           ·
            refine s_2 ?_
            refine og (qv_lenI UL.out rfl hbv) w_a ?_
            refine s_3 ?_
            by_cases g22 : ((s.bds.length : Int)) = 0
            ·
             refine s_2 ?_
             refine og (f_c (plainR_c hT0) rfl rfl) w_a ?_
             refine s_3 ?_
             exact j_e ⟨(jb (ja ((ja ((ja ((ja ((ja g18 Iff.rfl).1 g19) Iff.rfl).1 g20) Iff.rfl).1 g21) Iff.rfl).1 g22) Iff.rfl)), trivial⟩
            ·
             refine s_6 ?_
             exact j_e ⟨(jf (fun z => (fun z => g22 ((ja ((ja ((ja ((ja g18 Iff.rfl).1 g19) Iff.rfl).1 g20) Iff.rfl).1 g21) Iff.rfl).2 z)) z.1)), trivial⟩
           ·
            refine s_12 ?_
            exact j_e ⟨(jf (fun z => (fun z => (fun z => g21 ((ja ((ja ((ja g18 Iff.rfl).1 g19) Iff.rfl).1 g20) Iff.rfl).2 z)) z.1) z.1)), trivial⟩
          ·
           refine s_20 ?_
           exact j_e ⟨(jf (fun z => (fun z => (fun z => (fun z => g20 ((ja ((ja g18 Iff.rfl).1 g19) Iff.rfl).2 z)) z.1) z.1) z.1)), trivial⟩
         ·
          refine s_25 ?_
          exact j_e ⟨(jf (fun z => (fun z => (fun z => (fun z => (fun z => g19 ((ja g18 Iff.rfl).2 z)) z.1) z.1) z.1) z.1)), trivial⟩
        ·
         refine s_28 ?_
         exact j_e ⟨(jf (fun z => (fun z => (fun z => (fun z => (fun z => g18 z.1) z.1) z.1) z.1) z.1)), trivial⟩
       refine s_2 ?_
       exact rt1 (jb (by exact (shp_5 c6).symm))
      ·
       refine s_5 ?_
       refine iff' ?_ ?_ <;> intro c7
       ·
        refine s_1 ?_
        refine j_n [0,1,3,4,7,8,41,42,59,78,102,118,135,165] [(6, (.bool (decide (((((((((s.thn.length : Int)) = 0) ∧ (((s.els.length : Int)) = 0)) ∧ (p)) ∧ (s.var = 0)) ∧ (s.n = 0)) ∧ (pln s.tm)) ∧ (rsg s.bds)))))] ?_ (fun e9 => ?_)
        ·
         refine s_3 ?_
         by_cases g23 : (((s.thn.length : Int)) = 0) ∧ (((s.els.length : Int)) = 0)
         ·
          refine s_3 ?_
          by_cases g24 : p
          ·
           refine s_5 ?_
           by_cases g25 : s.var = 0
           ·
            refine s_5 ?_
            by_cases g26 : s.n = 0
            ·
             refine s_2 ?_
             refine og (f_c (plainR_c hT0) rfl rfl) w_a ?_
             refine s_2 ?_
             by_cases g27 : pln s.tm
             ·
              refine s_2 ?_
              refine og (f_c (risingR_c hbv) rfl rfl) w_a ?_
              refine s_3 ?_
              exact j_e ⟨(jb (ja ((ja ((ja ((ja ((ja g23 Iff.rfl).1 g24) Iff.rfl).1 g25) Iff.rfl).1 g26) Iff.rfl).1 g27) Iff.rfl)), trivial⟩
             ·
              refine s_6 ?_
              exact j_e ⟨(jf (fun z => (fun z => g27 ((ja ((ja ((ja ((ja g23 Iff.rfl).1 g24) Iff.rfl).1 g25) Iff.rfl).1 g26) Iff.rfl).2 z)) z.1)), trivial⟩
            ·
             refine s_11 ?_
             exact j_e ⟨(jf (fun z => (fun z => (fun z => g26 ((ja ((ja ((ja g23 Iff.rfl).1 g24) Iff.rfl).1 g25) Iff.rfl).2 z)) z.1) z.1)), trivial⟩
           ·
            refine s_16 ?_
            exact j_e ⟨(jf (fun z => (fun z => (fun z => (fun z => g25 ((ja ((ja g23 Iff.rfl).1 g24) Iff.rfl).2 z)) z.1) z.1) z.1)), trivial⟩
          ·
           refine s_21 ?_
           exact j_e ⟨(jf (fun z => (fun z => (fun z => (fun z => (fun z => g24 ((ja g23 Iff.rfl).2 z)) z.1) z.1) z.1) z.1)), trivial⟩
         ·
          refine s_24 ?_
          exact j_e ⟨(jf (fun z => (fun z => (fun z => (fun z => (fun z => g23 z.1) z.1) z.1) z.1) z.1)), trivial⟩
        refine s_2 ?_
        exact rt1 (jb (by exact (shp_6 c7).symm))
       ·
        refine s_6 ?_
        exact rt1 (jf (by exact shp_e o_m))

theorem shapedR_d{V : HV} {va ha ba : Value} {F : Fl} (hF : Fls V va ha ba F) {s : St} {ks tv lv bv : Value} (hT : Tms V ks s.tm.kids) (hth : Sts V tv s.thn) (hel : Sts V lv s.els) (hbv : Ints .i64 V bv s.bds) {p last : Prop} [Decidable p] (h : p ↔ last) : FnC Tryz.prog 135 [.agg #[va, ha, ba], .agg #[.int .i64 s.dk, .int .i64 s.cost, .int .i64 s.var, .int .i64 s.n, .int .i64 s.tm.op, .int .i64 s.tm.n, ks, tv, lv, bv], .bool (decide p)] V [] (fun v _ _ => v = .bool (decide (shpP F s last))) := by
  cases propext h
  exact shapedR_c hF hT hth hel hbv
end Go.Proofs.YtbchkopkgpfkgaaGreatDoor

namespace Go.Proofs.YtbchkopkgpfkgaaGreatDoor
open Go.Vc
open Classical

/-- What the function does, for arguments of a size below k. -/
def CSC (k : Nat) : Prop := ∀ (V : HV) (va ha ba : Value) (F : Fl) (l : List St) (lv : Value) (top : Prop) (it : Decidable top), Fls V va ha ba F → VarsOk F.vs → Sts V lv l → nds l < k → FnC Tryz.prog 80 [.agg #[va, ha, ba], lv, .bool (@decide top it)] V [] (fun v _ _ => v = .int .i64 (csL F top l))

set_option maxRecDepth 100000 in
set_option maxHeartbeats 4000000 in
theorem checkStepsR_step {V : HV} {va ha ba : Value} {F : Fl} (hF : Fls V va ha ba F) {l : List St} {lv : Value} {top : Prop} [it : Decidable top] {k : Nat} (IH : CSC k) (hV : VarsOk F.vs) (hL : Sts V lv l) (hk : nds l < (k + 1 : Nat)) :
    FnC Tryz.prog 80 [(.agg #[va, ha, ba]), lv, (.bool (decide (top)))] V [] (fun v _ _ => v = (.int .i64 (csL F top l))) := by
 refine f_i Tryz.func80 ?_
 intro w0 D
 have hF0 := hF
 obtain ⟨hvs, hH⟩ := hF.h
 obtain ⟨xB, hB⟩ := hF.b.sl
 have hbvv := SlS.bound hF.v
 have hbh := SlS.bound hH.sl
 have hbb := SlS.bound hB
 obtain ⟨kvs, tvs, evs, bvs, hS, hK, hth, hel, hbv⟩ := hL
 have hb := SlS.bound hS
 refine s_2 ?_
 refine b_ox fun b1 => ?_
 refine s_8 ?_
 refine lc1 [0,1,2,3] (fun (i : Int) => [(7, (Value.int .i64 i))]) (fun i => 0 ≤ i ∧ i ≤ l.length ∧ csL F top l = csL F top (l.drop i.toNat)) (fun i => (l.length - i).toNat) 0 ?_ ?_ ?_ 
 · exact ⟨rfl, trivial⟩
 · exact ⟨by omega, by omega, rfl⟩
 rintro i e1 ⟨i1, i2, hy⟩
 refine s_5 ?_
 refine oq (qv_lenSS UL.out rfl hS) ?_
 refine s_2 ?_
 refine iff' ?_ ?_ <;> intro c1
 ·
  refine s_7 ?_
  refine oq (qv_ias UL.out SZ.out e_vm hS rfl o_m o_m) ?_
  refine oq (qv_lds AG.out rfl hS o_m o_m (stcs_at o_m o_m)) ?_
  refine a_lo fun b2 => ?_
  refine s_tw rfl rfl (allc rfl (allc rfl (allc rfl (allc rfl (allc rfl (allc rfl (allc (Tms.one (hK (i) o_m o_m)) (allc (Sts.one (hth (i) o_m o_m)) (allc (Sts.one (hel (i) o_m o_m)) (allc (Sl.one (hbv (i) o_m o_m)) rfl)))))))))) ?_
  refine s_3 ?_
  have hsz := nds_at (l := l) i1 o_m
  have hse := nd_eq (st l i)
  have hsp := (st l i).tm.sz_pos
  have hsn := nds_nn (l.take i.toNat)
  have hs1 := nds_nn (st l i).thn
  have hs2 := nds_nn (st l i).els
  refine j_n [0,1,2,3,7,8,14] [(32, (.bool (decide (¬ (shpP F (st l i) (top ∧ i = (l.length : Int) - 1))))))] ?_ (fun e2 => ?_)
  ·
   refine s_5 ?_
   by_cases g1 : top
   ·
    refine s_2 ?_
    refine og (qv_lenSS UL.out rfl hS) w_a ?_
    refine s_3 ?_
    refine oq (f_c (shapedR_d (F := F) (s := st l i) (p := i = (((l.length : Int)) - 1)) (last := top ∧ i = (l.length : Int) - 1) hF0 (hK i i1 o_m) (hth i i1 o_m) (hel i i1 o_m) (hbv i i1 o_m) ⟨fun q => ⟨by assumption, q⟩, fun q => q.2⟩) rfl rfl) ?_
    refine s_2 ?_
    exact j_e ⟨rfl, trivial⟩
   ·
    refine s_6 ?_
    refine oq (f_c (shapedR_d (F := F) (s := st l i) (p := False) (last := top ∧ i = (l.length : Int) - 1) hF0 (hK i i1 o_m) (hth i i1 o_m) (hel i i1 o_m) (hbv i i1 o_m) ⟨False.elim, fun q => absurd q.1 (by assumption)⟩) rfl rfl) ?_
    refine s_2 ?_
    exact j_e ⟨rfl, trivial⟩
  refine iff' ?_ ?_ <;> intro c2
  ·
   refine s_7 ?_
   exact rt1 (c_i (by exact cs_hit2 i1 o_m hy (cs_1 (by assumption)) o_m))
  ·
   refine s_2 ?_
   have hsh := Classical.not_not.1 ‹¬ ¬ shpP F (st l i) (top ∧ i = (l.length : Int) - 1)›
   refine s_10 ?_
   refine iff' ?_ ?_ <;> intro c3
   ·
    refine s_5 ?_
    refine j_n [0,1,2,3,7,8,9,14,32,35] [(59, (.bool (decide ((((((st l (i)).cost) < 0) ∨ (67108864 < ((st l (i)).cost))) ∨ (((st l (i)).n) < 0)) ∨ ((((st l (i)).dk) = 4) ∧ (4096 < ((st l (i)).n)))))))] ?_ (fun e3 => ?_)
    ·
     refine s_5 ?_
     by_cases g2 : ((st l (i)).cost) < 0
     ·
      refine s_21 ?_
      exact j_e ⟨(jt (.inl (.inl (.inl g2)))), trivial⟩
     ·
      refine s_6 ?_
      by_cases g3 : 67108864 < ((st l (i)).cost)
      ·
       refine s_15 ?_
       exact j_e ⟨(jt (.inl (.inl ((jo g2 Iff.rfl).1 g3)))), trivial⟩
      ·
       refine s_5 ?_
       by_cases g4 : ((st l (i)).n) < 0
       ·
        refine s_10 ?_
        exact j_e ⟨(jt (.inl ((jo (fun z => g3 ((jo g2 Iff.rfl).2 z)) Iff.rfl).1 g4))), trivial⟩
       ·
        refine s_4 ?_
        by_cases g5 : ((st l (i)).dk) = 4
        ·
         refine s_6 ?_
         exact j_e ⟨(jb (jo (fun z => g4 ((jo (fun z => g3 ((jo g2 Iff.rfl).2 z)) Iff.rfl).2 z)) (ja g5 Iff.rfl))), trivial⟩
        ·
         refine s_6 ?_
         exact j_e ⟨(jf (fun z => z.elim (fun z => g4 ((jo (fun z => g3 ((jo g2 Iff.rfl).2 z)) Iff.rfl).2 z)) (fun z => g5 z.1))), trivial⟩
    refine iff' ?_ ?_ <;> intro c4
    ·
     refine s_7 ?_
     exact rt1 (c_i (by exact cs_hit2 i1 o_m hy (cs_3 (Classical.not_not.1 (by assumption)) (by first | (left; unfold nmBad limC; (repeat' split) <;> omega) | (right; unfold bdBad; omega))) o_m))
    ·
     refine s_3 ?_
     have hb0 := (hbv i i1 o_m).bound
     have hnm : ¬ nmBad (st l i) := by unfold nmBad limC; (repeat' split) <;> omega
     refine j_n [0,1,2,3,7,8,9,14,32,35,59] [(74, (.bool (decide ((0 < ((((st l (i)).bds).length : Int))) ∧ (67108864 < (gi ((st l (i)).bds) (((((st l (i)).bds).length : Int)) - 1)))))))] ?_ (fun e4 => ?_)
     ·
      refine s_3 ?_
      refine oq (qv_lenI UL.out rfl (hbv (i) o_m o_m)) ?_
      refine s_2 ?_
      by_cases g6 : 0 < ((((st l (i)).bds).length : Int))
      ·
       refine s_4 ?_
       refine og (qv_lenI UL.out rfl (hbv (i) o_m o_m)) w_a ?_
       refine s_1 ?_
       refine og (qv_iai UL.out SZ.out e_vm (inVi (hbv (i) o_m o_m)) rfl o_m o_m) w_a ?_
       refine og (qv_ldi PL.out rfl (inVi (hbv (i) o_m o_m)) o_m o_m) w_a ?_
       refine s_3 ?_
       exact j_e ⟨(jb (ja g6 Iff.rfl)), trivial⟩
      ·
       refine s_11 ?_
       exact j_e ⟨(jf (fun z => g6 z.1)), trivial⟩
     refine iff' ?_ ?_ <;> intro c5
     ·
      refine s_7 ?_
      exact rt1 (c_i (by exact cs_hit2 i1 o_m hy (cs_3 (Classical.not_not.1 (by assumption)) (by first | (left; unfold nmBad limC; (repeat' split) <;> omega) | (right; unfold bdBad; omega))) o_m))
     ·
      refine s_2 ?_
      have hbb : ¬ bdBad (st l i) := by unfold bdBad; omega
      refine s_5 ?_
      refine oq (f_c (CheckTermR_c (inp := false) (hK i i1 o_m) hF.v hV) rfl rfl) ?_
      refine s_8 ?_
      refine iff' ?_ ?_ <;> intro c6
      ·
       refine s_8 ?_
       exact rt1 (c_i (by exact cs_hit2 i1 o_m hy (by rw [cs_r hsh hnm hbb]; (repeat' split) <;> first | rfl | (exfalso; omega)) o_m))
      ·
       refine s_6 ?_
       refine oq (f_c (IH _ _ _ _ _ _ _ False instDecidableFalse hF0 hV (hth i i1 o_m) o_m) rfl rfl) ?_
       refine s_8 ?_
       refine iff' ?_ ?_ <;> intro c7
       ·
        refine s_8 ?_
        exact rt1 (c_i (by exact cs_hit2 i1 o_m hy (by rw [cs_r hsh hnm hbb]; (repeat' split) <;> first | rfl | (exfalso; omega)) o_m))
       ·
        refine s_6 ?_
        refine oq (f_c (IH _ _ _ _ _ _ _ False instDecidableFalse hF0 hV (hel i i1 o_m) o_m) rfl rfl) ?_
        refine s_7 ?_
        refine iff' ?_ ?_ <;> intro c8
        ·
         refine s_8 ?_
         exact rt1 (c_i (by exact cs_hit2 i1 o_m hy (by rw [cs_r hsh hnm hbb]; (repeat' split) <;> first | rfl | (exfalso; omega)) o_m))
        ·
         refine s_1 ?_
         refine v_d 1 ?_
         refine s_5 ?_
         exact le1 (i + 1) ⟨(c_i o_m), trivial⟩ ⟨by omega, by omega, cs_on2 i1 o_m hy (by rw [cs_r hsh hnm hbb]; (repeat' split) <;> first | rfl | (exfalso; omega) | omega)⟩
   ·
    refine s_3 ?_
    refine j_n [0,1,2,3,7,8,9,14,32,35] [(59, (.bool (decide ((((((st l (i)).cost) < 0) ∨ (10000 < ((st l (i)).cost))) ∨ (((st l (i)).n) < 0)) ∨ ((((st l (i)).dk) = 4) ∧ (4096 < ((st l (i)).n)))))))] ?_ (fun e5 => ?_)
    ·
     refine s_5 ?_
     by_cases g7 : ((st l (i)).cost) < 0
     ·
      refine s_21 ?_
      exact j_e ⟨(jt (.inl (.inl (.inl g7)))), trivial⟩
     ·
      refine s_6 ?_
      by_cases g8 : 10000 < ((st l (i)).cost)
      ·
       refine s_15 ?_
       exact j_e ⟨(jt (.inl (.inl ((jo g7 Iff.rfl).1 g8)))), trivial⟩
      ·
       refine s_5 ?_
       by_cases g9 : ((st l (i)).n) < 0
       ·
        refine s_10 ?_
        exact j_e ⟨(jt (.inl ((jo (fun z => g8 ((jo g7 Iff.rfl).2 z)) Iff.rfl).1 g9))), trivial⟩
       ·
        refine s_4 ?_
        by_cases g10 : ((st l (i)).dk) = 4
        ·
         refine s_6 ?_
         exact j_e ⟨(jb (jo (fun z => g9 ((jo (fun z => g8 ((jo g7 Iff.rfl).2 z)) Iff.rfl).2 z)) (ja g10 Iff.rfl))), trivial⟩
        ·
         refine s_6 ?_
         exact j_e ⟨(jf (fun z => z.elim (fun z => g9 ((jo (fun z => g8 ((jo g7 Iff.rfl).2 z)) Iff.rfl).2 z)) (fun z => g10 z.1))), trivial⟩
    refine iff' ?_ ?_ <;> intro c9
    ·
     refine s_7 ?_
     exact rt1 (c_i (by exact cs_hit2 i1 o_m hy (cs_3 (Classical.not_not.1 (by assumption)) (by first | (left; unfold nmBad limC; (repeat' split) <;> omega) | (right; unfold bdBad; omega))) o_m))
    ·
     refine s_3 ?_
     have hb0 := (hbv i i1 o_m).bound
     have hnm : ¬ nmBad (st l i) := by unfold nmBad limC; (repeat' split) <;> omega
     refine j_n [0,1,2,3,7,8,9,14,32,35,59] [(74, (.bool (decide ((0 < ((((st l (i)).bds).length : Int))) ∧ (67108864 < (gi ((st l (i)).bds) (((((st l (i)).bds).length : Int)) - 1)))))))] ?_ (fun e6 => ?_)
     ·
      refine s_3 ?_
      refine oq (qv_lenI UL.out rfl (hbv (i) o_m o_m)) ?_
      refine s_2 ?_
      by_cases g11 : 0 < ((((st l (i)).bds).length : Int))
      ·
       refine s_4 ?_
       refine og (qv_lenI UL.out rfl (hbv (i) o_m o_m)) w_a ?_
       refine s_1 ?_
       refine og (qv_iai UL.out SZ.out e_vm (inVi (hbv (i) o_m o_m)) rfl o_m o_m) w_a ?_
       refine og (qv_ldi PL.out rfl (inVi (hbv (i) o_m o_m)) o_m o_m) w_a ?_
       refine s_3 ?_
       exact j_e ⟨(jb (ja g11 Iff.rfl)), trivial⟩
      ·
       refine s_11 ?_
       exact j_e ⟨(jf (fun z => g11 z.1)), trivial⟩
     refine iff' ?_ ?_ <;> intro c10
     ·
      refine s_7 ?_
      exact rt1 (c_i (by exact cs_hit2 i1 o_m hy (cs_3 (Classical.not_not.1 (by assumption)) (by first | (left; unfold nmBad limC; (repeat' split) <;> omega) | (right; unfold bdBad; omega))) o_m))
     ·
      refine s_2 ?_
      have hbb : ¬ bdBad (st l i) := by unfold bdBad; omega
      refine s_5 ?_
      refine oq (f_c (CheckTermR_c (inp := false) (hK i i1 o_m) hF.v hV) rfl rfl) ?_
      refine s_8 ?_
      refine iff' ?_ ?_ <;> intro c11
      ·
       refine s_8 ?_
       exact rt1 (c_i (by exact cs_hit2 i1 o_m hy (by rw [cs_r hsh hnm hbb]; (repeat' split) <;> first | rfl | (exfalso; omega)) o_m))
      ·
       refine s_6 ?_
       refine oq (f_c (IH _ _ _ _ _ _ _ False instDecidableFalse hF0 hV (hth i i1 o_m) o_m) rfl rfl) ?_
       refine s_8 ?_
       refine iff' ?_ ?_ <;> intro c12
       ·
        refine s_8 ?_
        exact rt1 (c_i (by exact cs_hit2 i1 o_m hy (by rw [cs_r hsh hnm hbb]; (repeat' split) <;> first | rfl | (exfalso; omega)) o_m))
       ·
        refine s_6 ?_
        refine oq (f_c (IH _ _ _ _ _ _ _ False instDecidableFalse hF0 hV (hel i i1 o_m) o_m) rfl rfl) ?_
        refine s_7 ?_
        refine iff' ?_ ?_ <;> intro c13
        ·
         refine s_8 ?_
         exact rt1 (c_i (by exact cs_hit2 i1 o_m hy (by rw [cs_r hsh hnm hbb]; (repeat' split) <;> first | rfl | (exfalso; omega)) o_m))
        ·
         refine s_1 ?_
         refine v_d 1 ?_
         refine s_5 ?_
         exact le1 (i + 1) ⟨(c_i o_m), trivial⟩ ⟨by omega, by omega, cs_on2 i1 o_m hy (by rw [cs_r hsh hnm hbb]; (repeat' split) <;> first | rfl | (exfalso; omega) | omega)⟩
 ·
  refine s_7 ?_
  exact rt1 (c_i (by rw [hy, List.drop_eq_nil_of_le o_m]; rfl))

theorem checkStepsR_c : ∀ k, CSC k
  | 0 => fun _ _ _ _ _ l _ _ _ _ _ _ h => absurd h (by have := nds_nn l; omega)
  | k + 1 => fun V va ha ba F l lv top it hF hV hL hk => checkStepsR_step (it := it) hF (checkStepsR_c k) hV hL hk
end Go.Proofs.YtbchkopkgpfkgaaGreatDoor

namespace Go.Proofs.YtbchkopkgpfkgaaGreatDoor
open Go.Vc
open Classical

/-- What the function does, for arguments of a size below k. -/
def BDC (k : Nat) : Prop := ∀ (V : HV) (F : Fl) (top : Prop) (l : List St) (lv : Value), Sts V lv l → StsOk F top l → nds l < k → FnC Tryz.prog 27 [lv] V [] (fun v _ _ => v = .tuple #[.int .i64 (mnI (ubS l) 4097), .int .i64 (mnI (ubO l) 9), .int .i64 (mnI (ubT l) 67108865)])

set_option maxRecDepth 100000 in
set_option maxHeartbeats 4000000 in
theorem BoundsR_step {V : HV} {F : Fl} {top : Prop} {l : List St} {lv : Value} {k : Nat} (IH : BDC k) (hL : Sts V lv l) (hO : StsOk F top l) (hk : nds l < (k + 1 : Nat)) :
    FnC Tryz.prog 27 [lv] V [] (fun v _ _ => v = .tuple #[(.int .i64 (mnI (ubS l) 4097)), (.int .i64 (mnI (ubO l) 9)), (.int .i64 (mnI (ubT l) 67108865))]) := by
 refine f_i Tryz.func27 ?_
 intro w0 D
 obtain ⟨kvs, tvs, evs, bvs, hS, hK, hth, hel, hbv⟩ := hL
 have hb := SlS.bound hS
 have hN := hO.nns
 refine s_18 ?_
 refine lc1 [0,2,3,4] (fun (i : Int) => [(5, (.int .i64 (mnI (ubS (l.take i.toNat)) 4097))), (6, (.int .i64 (mnI (ubO (l.take i.toNat)) 9))), (7, (.int .i64 (mnI (ubT (l.take i.toNat)) 67108865))), (8, (Value.int .i64 i))]) (fun i => 0 ≤ i ∧ i ≤ l.length) (fun i => (l.length - i).toNat) 0 ?_ ?_ ?_ 
 · exact ⟨(c_i (by rfl)), (c_i (by rfl)), (c_i (by rfl)), rfl, trivial⟩
 · exact ⟨by omega, by omega⟩
 rintro i e1 ⟨i1, i2⟩
 refine s_5 ?_
 refine oq (qv_lenSS UL.out rfl hS) ?_
 refine s_2 ?_
 refine iff' ?_ ?_ <;> intro c1
 ·
  refine s_4 ?_
  have hsz := nds_at (l := l) i1 o_m
  have hse := nd_eq (st l i)
  have hsp := (st l i).tm.sz_pos
  have hsn := nds_nn (l.take i.toNat)
  have hs1 := nds_nn (st l i).thn
  have hs2 := nds_nn (st l i).els
  have hok := StsOk_at hO i1 o_m
  have hnu := hok.num
  have hn := hok.nn
  have hne := (nn_eq _).1 hn
  obtain ⟨u1, u2, u3⟩ := ubs_nn _ hne.2.2.1
  obtain ⟨w1, w2, w3⟩ := ubs_nn _ hne.2.2.2
  obtain ⟨hx1, hx2, hx3⟩ := ubs_nn _ (nns_take hN i.toNat)
  have p1 := mn_bd (L := 4097) u1 o_m
  have q1 := mn_bd (L := 4097) w1 o_m
  have r1 := mx_bd p1 q1
  have y1 := mn_bd (L := 4097) hx1 o_m
  have p2 := mn_bd (L := 9) u2 o_m
  have q2 := mn_bd (L := 9) w2 o_m
  have r2 := mx_bd p2 q2
  have y2 := mn_bd (L := 9) hx2 o_m
  have p3 := mn_bd (L := 67108865) u3 o_m
  have q3 := mn_bd (L := 67108865) w3 o_m
  have r3 := mx_bd p3 q3
  have y3 := mn_bd (L := 67108865) hx3 o_m
  refine s_3 ?_
  refine oq (qv_ias UL.out SZ.out e_vm hS rfl o_m o_m) ?_
  refine oq (qv_lds AG.out rfl hS o_m o_m (stcs_at o_m o_m)) ?_
  refine a_lo fun b1 => ?_
  refine s_tw rfl rfl (allc rfl (allc rfl (allc rfl (allc rfl (allc rfl (allc rfl (allc (Tms.one (hK (i) o_m o_m)) (allc (Sts.one (hth (i) o_m o_m)) (allc (Sts.one (hel (i) o_m o_m)) (allc (Sl.one (hbv (i) o_m o_m)) rfl)))))))))) ?_
  refine s_5 ?_
  refine oq (f_c (IH _ _ _ _ _ (hth i i1 o_m) (StOk_eq.1 hok).2.1 o_m) rfl rfl) ?_
  refine s_12 ?_
  refine oq (f_c (IH _ _ _ _ _ (hel i i1 o_m) (StOk_eq.1 hok).2.2 o_m) rfl rfl) ?_
  refine s_12 ?_
  refine qq (f_c (mostR_c) rfl rfl) ?_
  refine s_3 ?_
  refine qq (f_c (mostR_c) rfl rfl) ?_
  refine s_4 ?_
  refine qq (f_c (mostR_c) rfl rfl) ?_
  refine s_12 ?_
  refine iff' ?_ ?_ <;> intro c2
  ·
   have hn4 := hnu.2.2 o_m
   have m1 := mulb (a := (st l i).n) (b := 1 + mnI (ubS (st l i).thn) 4097) (A := 4096) (B := 4098) o_m o_m o_m o_m
   have m2 := mulb (a := (st l i).n) (b := mnI (ubO (st l i).thn) 9) (A := 4096) (B := 9) o_m o_m o_m o_m
   have m3 := mulb (a := (st l i).n) (b := (st l i).cost + mnI (ubT (st l i).thn) 67108865) (A := 4096) (B := 134217729) o_m o_m o_m o_m
   refine s_29 ?_
   refine iff' ?_ ?_ <;> intro c3
   ·
    refine s_8 ?_
    refine oq (f_c (leastR_c) rfl rfl) ?_
    refine s_7 ?_
    refine oq (f_c (leastR_c) rfl rfl) ?_
    refine s_6 ?_
    refine oq (f_c (leastR_c) rfl rfl) ?_
    refine s_2 ?_
    refine v_d 0 ?_
    refine s_5 ?_
    exact le1 (i + 1) ⟨(c_i (by rw [show (i + 1).toNat = i.toNat + 1 by omega, ubS_take i1 o_m]; exact bS4 hn hx1 o_m)), (c_i (by rw [show (i + 1).toNat = i.toNat + 1 by omega, ubO_take i1 o_m]; exact bO1 hx2 o_m)), (c_i (by rw [show (i + 1).toNat = i.toNat + 1 by omega, ubT_take i1 o_m]; exact bT4 hn hx3 o_m)), (c_i (by rfl)), trivial⟩ ⟨by omega, by omega⟩
   ·
    refine s_6 ?_
    refine oq (f_c (leastR_c) rfl rfl) ?_
    refine s_7 ?_
    refine oq (f_c (leastR_c) rfl rfl) ?_
    refine s_6 ?_
    refine oq (f_c (leastR_c) rfl rfl) ?_
    refine s_2 ?_
    refine v_d 0 ?_
    refine s_5 ?_
    exact le1 (i + 1) ⟨(c_i (by rw [show (i + 1).toNat = i.toNat + 1 by omega, ubS_take i1 o_m]; exact bS4 hn hx1 o_m)), (c_i (by rw [show (i + 1).toNat = i.toNat + 1 by omega, ubO_take i1 o_m]; exact bO4 hn hx2 o_m)), (c_i (by rw [show (i + 1).toNat = i.toNat + 1 by omega, ubT_take i1 o_m]; exact bT4 hn hx3 o_m)), (c_i (by rfl)), trivial⟩ ⟨by omega, by omega⟩
  ·
   refine s_8 ?_
   refine iff' ?_ ?_ <;> intro c4
   ·
    refine s_8 ?_
    refine oq (f_c (leastR_c) rfl rfl) ?_
    refine s_7 ?_
    refine oq (f_c (leastR_c) rfl rfl) ?_
    refine s_6 ?_
    refine oq (f_c (leastR_c) rfl rfl) ?_
    refine s_2 ?_
    refine v_d 0 ?_
    refine s_5 ?_
    exact le1 (i + 1) ⟨(c_i (by rw [show (i + 1).toNat = i.toNat + 1 by omega, ubS_take i1 o_m]; exact bS0 hn hx1 o_m)), (c_i (by rw [show (i + 1).toNat = i.toNat + 1 by omega, ubO_take i1 o_m]; exact bO1 hx2 o_m)), (c_i (by rw [show (i + 1).toNat = i.toNat + 1 by omega, ubT_take i1 o_m]; exact bT0 hn hx3 o_m)), (c_i (by rfl)), trivial⟩ ⟨by omega, by omega⟩
   ·
    refine s_6 ?_
    refine oq (f_c (leastR_c) rfl rfl) ?_
    refine s_7 ?_
    refine oq (f_c (leastR_c) rfl rfl) ?_
    refine s_6 ?_
    refine oq (f_c (leastR_c) rfl rfl) ?_
    refine s_2 ?_
    refine v_d 0 ?_
    refine s_5 ?_
    exact le1 (i + 1) ⟨(c_i (by rw [show (i + 1).toNat = i.toNat + 1 by omega, ubS_take i1 o_m]; exact bS0 hn hx1 o_m)), (c_i (by rw [show (i + 1).toNat = i.toNat + 1 by omega, ubO_take i1 o_m]; exact bO0 hn hx2 o_m o_m)), (c_i (by rw [show (i + 1).toNat = i.toNat + 1 by omega, ubT_take i1 o_m]; exact bT0 hn hx3 o_m)), (c_i (by rfl)), trivial⟩ ⟨by omega, by omega⟩
 ·
  refine s_12 ?_
  exact rt3 (c_i (by rw [List.take_of_length_le o_m])) (c_i (by rw [List.take_of_length_le o_m])) (c_i (by rw [List.take_of_length_le o_m]))

theorem BoundsR_c : ∀ k, BDC k
  | 0 => fun _ _ _ l _ _ _ h => absurd h (by have := nds_nn l; omega)
  | k + 1 => fun V F top l lv hL hO hk => BoundsR_step (BoundsR_c k) hL hO hk
end Go.Proofs.YtbchkopkgpfkgaaGreatDoor

namespace Go.Proofs.YtbchkopkgpfkgaaGreatDoor
open Go.Vc
open Classical

set_option maxRecDepth 100000 in
set_option maxHeartbeats 4000000 in
theorem CheckR_c {V : HV} {va ha ba : Value} {F : Fl} (hF : Fls V va ha ba F) (hn : ∀ v ∈ F.vs, v.nm.size ≤ 9223372036854775807) (hn2 : ∀ i : Int, 0 ≤ i → i < F.hs.length → (ht F.hs i).nm.size ≤ 9223372036854775807) (hz : nds F.bd + hsz F.hs ≤ 1000000) :
    FnC Tryz.prog 26 [(.agg #[va, ha, ba])] V [] (fun v _ _ => v = (.int .i64 (chkR F))) := by
 refine f_i Tryz.func26 ?_
 intro w0 D
 have hF0 := hF
 obtain ⟨hvs, hH⟩ := hF.h
 obtain ⟨xB, hB⟩ := hF.b.sl
 have hbvv := SlS.bound hF.v
 have hbh := SlS.bound hH.sl
 have hbb := SlS.bound hB
 refine s_2 ?_
 refine b_ox fun b1 => ?_
 refine s_6 ?_
 refine oq (f_c (sizes_c hF0 hz) rfl rfl) ?_
 refine s_2 ?_
 refine iff' ?_ ?_ <;> intro c1
 ·
  refine s_5 ?_
  exact rt1 (c_i (by first | exact (if_pos (by assumption)).symm | (unfold chkR; rw [if_neg (fun z => z hsz), if_neg o_m, if_neg (fun z => z hhz), if_neg o_m]; (repeat' split) <;> first | rfl | (exfalso; omega))))
 ·
  refine s_2 ?_
  have hsz := Classical.not_not.1 ‹¬ ¬ SzOk F›
  refine s_3 ?_
  refine oq (f_c (CheckVarsR_c hF0.v hn) rfl rfl) ?_
  refine s_8 ?_
  refine iff' ?_ ?_ <;> intro c2
  ·
   refine s_6 ?_
   exact rt1 (c_i (by unfold chkR; rw [if_neg (fun z => z hsz), if_pos (by assumption)]))
  ·
   refine s_3 ?_
   have hV : VarsOk F.vs := cvC_0 o_m
   refine s_4 ?_
   refine lc1 [0,1,12,17] (fun (i : Int) => [(4, (Value.int .i64 i))]) (fun i => 0 ≤ i ∧ i ≤ F.hs.length ∧ ∀ x : Int, 0 ≤ x → x < i → htE F x = 0) (fun i => (F.hs.length - i).toNat) 0 ?_ ?_ ?_ 
   · exact ⟨rfl, trivial⟩
   · exact ⟨by omega, by omega, fun x a b => by omega⟩
   rintro i e1 ⟨i1, i2, hno⟩
   refine s_6 ?_
   refine oq (qv_lenSS UL.out rfl hH.sl) ?_
   refine s_2 ?_
   refine iff' ?_ ?_ <;> intro c3
   ·
    refine s_8 ?_
    refine oq (qv_ias UL.out SZ.out e_vm hH.sl rfl o_m o_m) ?_
    refine oq (qv_lds AG.out rfl hH.sl o_m o_m (htcs_at o_m o_m)) ?_
    refine a_lo fun b2 => ?_
    refine s_tw rfl rfl (allc rfl (allc rfl (allc rfl (allc rfl (allc rfl (allc (Tms.one (hH.hk (i) o_m o_m)) rfl)))))) ?_
    refine s_6 ?_
    refine oq (f_c (isNameR_c (hn2 _ i1 o_m)) rfl rfl) ?_
    refine s_2 ?_
    refine iff' ?_ ?_ <;> intro c4
    ·
     refine s_7 ?_
     exact rt1 (c_i (by have z : htE F i = 7 := ht_7 (by assumption); have z2 := fnz_hit (n := F.hs.length) hno o_m i1 o_m; unfold chkR; rw [if_neg (fun z => z hsz), if_neg o_m, if_pos o_m]; omega))
    ·
     refine s_3 ?_
     have hnm := Classical.not_not.1 ‹¬ ¬ NameOk (ht F.hs i).nm›
     refine s_4 ?_
     refine lc1 [0,1,4,5,12,17,23,34] (fun (j : Int) => [(6, (Value.int .i64 j))]) (fun j => 0 ≤ j ∧ j ≤ i ∧ ∀ x : Int, 0 ≤ x → x < j → ¬ (ht F.hs x).nm = (ht F.hs i).nm) (fun j => (i - j).toNat) 0 ?_ ?_ ?_ 
     · exact ⟨rfl, trivial⟩
     · exact ⟨by omega, by omega, fun x a b => by omega⟩
     rintro j e2 ⟨j1, j2, hdu⟩
     refine s_7 ?_
     refine iff' ?_ ?_ <;> intro c5
     ·
      refine s_8 ?_
      refine qq (qv_ias UL.out SZ.out e_vm hH.sl rfl o_m o_m) ?_
      refine qq (qv_fas FI.out rfl hH.sl o_m o_m) ?_
      refine qq (qv_ldf PL.out rfl hH.sl o_m o_m o_m (htcs_el (o := 0) o_m o_m o_m rfl)) ?_
      refine s_2 ?_
      refine qq (qv_eqstr rfl rfl) ?_
      refine s_1 ?_
      refine iff' ?_ ?_ <;> intro c6
      ·
       refine s_9 ?_
       exact rt1 (c_i (by have z : htE F i = 8 := ht_8 hnm j1 o_m (by assumption); have z2 := fnz_hit (n := F.hs.length) hno o_m i1 o_m; unfold chkR; rw [if_neg (fun z => z hsz), if_neg o_m, if_pos o_m]; omega))
      ·
       refine s_6 ?_
       exact le1 (j + 1) ⟨(c_i o_m), trivial⟩ ⟨by omega, by omega, all_snoc hdu (by assumption)⟩
     ·
      refine s_9 ?_
      refine oq (f_c (boundedR_c) rfl rfl) ?_
      refine s_2 ?_
      refine iff' ?_ ?_ <;> intro c7
      ·
       refine s_7 ?_
       exact rt1 (c_i (by have z : htE F i = 3 := ht_3 hnm (fun x a b => hdu x a o_m) (by assumption); have z2 := fnz_hit (n := F.hs.length) hno o_m i1 o_m; unfold chkR; rw [if_neg (fun z => z hsz), if_neg o_m, if_pos o_m]; omega))
      ·
       refine s_2 ?_
       have hbd := Classical.not_not.1 ‹¬ ¬ bndP (ht F.hs i).lo (ht F.hs i).hi›
       refine s_5 ?_
       refine oq (f_c (CheckTermR_c (inp := true) (hH.hk i i1 o_m) hF0.v hV) rfl rfl) ?_
       refine s_7 ?_
       refine iff' ?_ ?_ <;> intro c8
       ·
        refine s_8 ?_
        exact rt1 (c_i (by have z : htE F i = ctC F.vs (ht F.hs i).tm true := ht_r hnm (fun x a b => hdu x a o_m) hbd; have z2 := fnz_hit (n := F.hs.length) hno o_m i1 o_m; unfold chkR; rw [if_neg (fun z => z hsz), if_neg o_m, if_pos o_m]; omega))
       ·
        refine s_1 ?_
        refine v_d 1 ?_
        refine s_5 ?_
        exact le1 (i + 1) ⟨(c_i o_m), trivial⟩ ⟨by omega, by omega, all_snoc hno (by rw [ht_r hnm (fun x a b => hdu x a o_m) hbd]; omega)⟩
   ·
    refine s_3 ?_
    have hhz : fnz (htE F) F.hs.length = 0 := fnz_all fun x a b => hno x a o_m
    refine s_4 ?_
    refine oq (f_c (checkStepsR_c ((nds F.bd).toNat + 1) _ _ _ _ _ _ _ True instDecidableTrue hF0 hV hF0.b (by have := nds_nn F.bd; omega)) rfl rfl) ?_
    refine s_8 ?_
    refine iff' ?_ ?_ <;> intro c9
    ·
     refine s_6 ?_
     exact rt1 (c_i (by unfold chkR; rw [if_neg (fun z => z hsz), if_neg o_m, if_neg (fun z => z hhz), if_pos (by assumption)]))
    ·
     refine s_5 ?_
     refine oq (f_c (BoundsR_c ((nds F.bd).toNat + 1) _ _ True _ _ hF0.b (csL_0 (F := F) (top := True) (l := F.bd) o_m) (by have := nds_nn F.bd; omega)) rfl rfl) ?_
     refine s_10 ?_
     refine j_n [0,1,3,4,12,17,23,68] [(86, (.bool (decide (((4096 < (mnI (ubS F.bd) 4097)) ∨ (8 < (mnI (ubO F.bd) 9))) ∨ (67108864 < (mnI (ubT F.bd) 67108865))))))] ?_ (fun e3 => ?_)
     ·
      refine s_4 ?_
      by_cases g1 : 4096 < (mnI (ubS F.bd) 4097)
      ·
       refine s_8 ?_
       exact j_e ⟨(jt (.inl (.inl g1))), trivial⟩
      ·
       refine s_4 ?_
       by_cases g2 : 8 < (mnI (ubO F.bd) 9)
       ·
        refine s_4 ?_
        exact j_e ⟨(jt (.inl ((jo g1 Iff.rfl).1 g2))), trivial⟩
       ·
        refine s_4 ?_
        exact j_e ⟨(jb (jo (fun z => g2 ((jo g1 Iff.rfl).2 z)) Iff.rfl)), trivial⟩
     refine iff' ?_ ?_ <;> intro c10
     ·
      refine s_5 ?_
      exact rt1 (c_i (by first | exact (if_pos (by assumption)).symm | (unfold chkR; rw [if_neg (fun z => z hsz), if_neg o_m, if_neg (fun z => z hhz), if_neg o_m]; (repeat' split) <;> first | rfl | (exfalso; omega))))
     ·
      refine s_6 ?_
      exact rt1 (c_i (by unfold chkR; rw [if_neg (fun z => z hsz), if_neg o_m, if_neg (fun z => z hhz), if_neg o_m, if_neg (by assumption)]))

end Go.Proofs.YtbchkopkgpfkgaaGreatDoor
