import Derived.Test.YtbchkopkgpfkgaaGreatDoorTi
import Derived.Test.YtbchkopkgpfkgaaGreatDoorGq
import Derived.Test.YtbchkopkgpfkgaaGreatDoorGm
import Derived.Test.YtbchkopkgpfkgaaGreatDoorWp
/- Walks of the top laws: what each function returns. Printed by a program out of notes. -/
namespace Go.Proofs.YtbchkopkgpfkgaaGreatDoor
open Go.Vc
open Classical

set_option maxRecDepth 100000 in
set_option maxHeartbeats 4000000 in
theorem start_c {V : HV} {va ha ba : Value} {F : Fl} (hF : Fls V va ha ba F) {A B C : List Int} {sa sb sc : Value} (hVa : Valid F) (hA : Ints .i64 V sa A) (hB : Ints .i64 V sb B) (hC : Ints .i64 V sc C) (hI : InOk F.vs A B C) :
    FnC Tryz.prog 93 [(.agg #[va, ha, ba]), (.agg #[sa, sb, sc])] V [] (fun v V' σ' => ∃ bm u hx, v = .tuple #[.pointer (some ⟨bm, 0, none⟩), .int .i64 0] ∧ Ints .i64 V' hx (hatL F (iniL F.vs A B C)) ∧ σ' = [(Arr 156 bm [va, ha, ba, u, hx, (Value.slice none 0 0), (Value.int .i64 0)]), Gr 3 1 u F.vs.length ((iniL F.vs A B C).map (Value.int .i64))]) := by
 refine f_i Tryz.func93 ?_
 intro w0 D
 have hF0 := hF
 obtain ⟨hvs, hH⟩ := hF.h
 obtain ⟨xQ, hQ⟩ := hF.b.sl
 have hbvv := SlS.bound hF.v
 have hbh := SlS.bound hH.sl
 have hbb := SlS.bound hQ
 have hbA := hA.bound
 have hbB := hB.bound
 have hbC := hC.bound
 have hz1 := hVa.sz.1
 refine s_2 ?_
 refine b_ox fun b1 => ?_
 refine b_ox fun b2 => ?_
 refine s_7 ?_
 refine oq (f_c (Check_c hF0 hVa) rfl rfl) ?_
 refine s_7 ?_
 refine iff' ?_ ?_ <;> intro c1
 ·
  omega
 ·
  refine s_4 ?_
  refine oq (qv_build (out := [va, ha, ba, (Value.slice none 0 0), (Value.slice none 0 0), (Value.slice none 0 0), (Value.int .i64 0)]) BI.out [(0, [va, ha, ba])] rfl rfl) ?_
  refine b_ox fun b3 => ?_
  refine s_10 ?_
  refine oq (qv_build (out := [(Value.slice none 0 0), sa, sb, sc]) BI.out [(1, [sa]), (2, [sb]), (3, [sc])] (by show [(1, Value.cells sa), (2, Value.cells sb), (3, Value.cells sc)] = _; rw [(Sl.cells hA), (Sl.cells hB), (Sl.cells hC)]; try rfl) rfl) ?_
  refine a_lo fun b4 => ?_
  refine s_tw rfl rfl (allc rfl (allc (Sl.one hA) (allc (Sl.one hB) (allc (Sl.one hC) rfl)))) ?_
  refine s_2 ?_
  refine vc_nil 3 1 ?_
  refine s_8 ?_
  refine oq (qv_lenSS UL.out rfl hF.v) ?_
  refine s_3 ?_
  refine lp5 [0,1,2,3,6,7,8,20,33,34] (fun (i : Int) (u : Value) (a1 : Value) (a2 : Value) (a3 : Value) => [(9, (Value.bool false)), (35, (Value.int .i64 i))]) (fun i u a1 a2 a3 => [(Arr 26 b1 [va, ha, ba]), (Arr 86 b2 [sa, sb, sc]), (Arr 156 b3 [va, ha, ba, u, (Value.slice none 0 0), (Value.slice none 0 0), (Value.int .i64 0)]), (Arr 201 b4 [(Value.slice none 0 0), a1, a2, a3]), (Gr 3 1 u i.toNat ((((iniL F.vs A B C).take i.toNat).map (Value.int .i64))))]) (fun i u a1 a2 a3 => 0 ≤ i ∧ i ≤ F.vs.length ∧ Ints .i64 V a1 (A.drop (cn F.vs 1 i)) ∧ Ints .i64 V a2 (B.drop (cn F.vs 2 i)) ∧ Ints .i64 V a3 (C.drop (cn F.vs 3 i))) (fun i u a1 a2 a3 => (F.vs.length - i).toNat) 0 ((Value.slice none 0 0)) sa sb sc ?_ ?_ ?_ ?_ 
  · exact ⟨rfl, rfl, trivial⟩
  · (rfl)
  · exact ⟨by omega, by omega, hA, hB, hC⟩
  rintro i u a1 a2 a3 e1 ⟨i1, i2, ha1, ha2, ha3⟩
  refine s_5 ?_
  refine iff' ?_ ?_ <;> intro c2
  ·
   refine s_4 ?_
   have hoe := hVa.vs.each i i1 o_m
   have hkd := kd_in hoe.2.2.1
   refine s_1 ?_
   refine oq (qv_ias UL.out SZ.out e_vm hF.v rfl o_m o_m) ?_
   refine oq (qv_lds AG.out rfl hF.v o_m o_m (vrcs_at o_m o_m)) ?_
   refine a_lo fun b5 => ?_
   refine s_15 ?_
   refine iff' ?_ ?_ <;> intro c3
   ·
    refine s_2 ?_
    rcases (show (vr F.vs (i)).kd = 1 ∨ (vr F.vs (i)).kd = 2 ∨ (vr F.vs (i)).kd = 3 from by omega) with e2_0 | e2_1 | e2_2
    ·
     refine s_3 ?_
     have hlf := lft (i := i) hI.l1 hI.r1 i1 o_m (by assumption)
     have hld2 := List.length_drop (i := cn F.vs 1 i) (l := A)
     refine oq (qv_iaae (i := 1) (off := 0) UL.out SZ.out rfl rfl e2_0 o_m o_m e_vd) ?_
     refine s_1 ?_
     refine oq (qv_lenI UL.out rfl ha1) ?_
     refine s_2 ?_
     refine iff' ?_ ?_ <;> intro c4
     ·
      omega
     ·
      refine s_5 ?_
      refine oq (qv_iaae (i := 1) (off := 0) UL.out SZ.out rfl rfl e2_0 o_m o_m e_vd) ?_
      refine s_1 ?_
      refine oq (qv_iai UL.out SZ.out e_vm (inVi ha1) rfl o_m o_m) ?_
      refine oq (qv_ldi PL.out rfl (inVi ha1) o_m o_m) ?_
      refine s_3 ?_
      refine ro1 [qt 0,qt 1,qt 2,qt 3,qt 4,ld 5,qt 6,qt 7,ld 8] ?_
      refine s_4 ?_
      refine rq rfl (qv_iaae (i := 1) (off := 0) UL.out SZ.out rfl rfl e2_0 o_m o_m e_vd) ?_
      refine rl_q ?_
      refine s_1 ?_
      refine ops_nil ⟨[(Arr 26 b1 [va, ha, ba]), (Arr 86 b2 [sa, sb, sc]), (Arr 156 b3 [va, ha, ba, u, (Value.slice none 0 0), (Value.slice none 0 0), (Value.int .i64 0)]), (Arr 201 b4 [(Value.slice none 0 0), a1, a2, a3]), (Gr 3 1 u i.toNat ((((iniL F.vs A B C).take i.toNat).map (Value.int .i64)))), (Arr 71 b5 [(Value.string (vr F.vs (i)).nm), (.int .i64 ((vr F.vs (i)).kd)), (.int .i64 ((vr F.vs (i)).lo)), (.int .i64 ((vr F.vs (i)).hi)), (.int .i64 ((vr F.vs (i)).ini))])], [], (Sub.refl _), perm_nil _, ⟨[], (.refl _)⟩, ?_⟩
      refine rq rfl (qv_sliceLoR UL.out SZ.out e_vm (Ints.toS ha1) rfl o_m o_m) ?_
      refine rq rfl (qv_iaae (i := 1) (off := 0) UL.out SZ.out rfl rfl e2_0 o_m o_m e_vd) ?_
      refine rl_o ?_
      refine s_tp rfl e_vm (Sl.one (Ints.dropR ha1 (m := 1) (by rw [List.length_drop]; omega))) ?_
      refine on1 ?_
      refine s_10 ?_
      by_cases g1 : (gi ((A.drop (cn F.vs 1 i))) (0)) < ((vr F.vs (i)).lo)
      ·
       omega
      ·
       refine s_7 ?_
       have hini := ini_1 (vs := F.vs) (A := A) (B := B) (C := C) (i := i) (by assumption)
       refine s_3 ?_
       refine oq (qv_nilck rfl) ?_
       refine s_3 ?_
       refine ops_lit (n := 1) (s := 1) (cs := [(.int .i64 (gi ((A.drop (cn F.vs 1 i))) (0)))]) UL.out TZ.out (l_b rfl) rfl rfl rfl (l_b rfl) rfl (fun b6 => ?_)
       refine a_po rfl rfl rfl o_c o_m m_x fun v1 hn1 => ?_
       refine oq (qv_nilck rfl) ?_
       refine s_1 ?_
       refine ops_gr1 (k := 4) rfl (fun ho1 => ?_)
       refine s_tp rfl e_vm ho1 ?_
       refine s_1 ?_
       refine v_d 6 ?_
       refine v_d 5 ?_
       refine s_4 ?_
       exact le5 (i + 1) v1 ((dropR a1 (1 : Int).toNat 1)) a2 a3 ⟨(jdf o_m), (c_i (by rfl)), trivial⟩ ⟨by omega, by omega, Ints.lstep ha1 hlf.1 i1 o_m (by assumption), Ints.lsame ha2 i1 o_m o_m, Ints.lsame ha3 i1 o_m o_m⟩ (hr := by rw [iniL_take i1 o_m, List.map_append, hini, show (i + 1).toNat = i.toNat + 1 by omega]; rfl)
    ·
     refine s_3 ?_
     have hlf := lft (i := i) hI.l2 hI.r2 i1 o_m (by assumption)
     have hld2 := List.length_drop (i := cn F.vs 2 i) (l := B)
     refine oq (qv_iaae (i := 2) (off := 0) UL.out SZ.out rfl rfl e2_1 o_m o_m e_vd) ?_
     refine s_1 ?_
     refine oq (qv_lenI UL.out rfl ha2) ?_
     refine s_2 ?_
     refine iff' ?_ ?_ <;> intro c5
     ·
      omega
     ·
      refine s_5 ?_
      refine oq (qv_iaae (i := 2) (off := 0) UL.out SZ.out rfl rfl e2_1 o_m o_m e_vd) ?_
      refine s_1 ?_
      refine oq (qv_iai UL.out SZ.out e_vm (inVi ha2) rfl o_m o_m) ?_
      refine oq (qv_ldi PL.out rfl (inVi ha2) o_m o_m) ?_
      refine s_3 ?_
      refine ro1 [qt 0,qt 1,qt 2,qt 3,qt 4,ld 5,qt 6,qt 7,ld 8] ?_
      refine s_4 ?_
      refine rq rfl (qv_iaae (i := 2) (off := 0) UL.out SZ.out rfl rfl e2_1 o_m o_m e_vd) ?_
      refine rl_q ?_
      refine s_1 ?_
      refine ops_nil ⟨[(Arr 26 b1 [va, ha, ba]), (Arr 86 b2 [sa, sb, sc]), (Arr 156 b3 [va, ha, ba, u, (Value.slice none 0 0), (Value.slice none 0 0), (Value.int .i64 0)]), (Arr 201 b4 [(Value.slice none 0 0), a1, a2, a3]), (Gr 3 1 u i.toNat ((((iniL F.vs A B C).take i.toNat).map (Value.int .i64)))), (Arr 71 b5 [(Value.string (vr F.vs (i)).nm), (.int .i64 ((vr F.vs (i)).kd)), (.int .i64 ((vr F.vs (i)).lo)), (.int .i64 ((vr F.vs (i)).hi)), (.int .i64 ((vr F.vs (i)).ini))])], [], (Sub.refl _), perm_nil _, ⟨[], (.refl _)⟩, ?_⟩
      refine rq rfl (qv_sliceLoR UL.out SZ.out e_vm (Ints.toS ha2) rfl o_m o_m) ?_
      refine rq rfl (qv_iaae (i := 2) (off := 0) UL.out SZ.out rfl rfl e2_1 o_m o_m e_vd) ?_
      refine rl_o ?_
      refine s_tp rfl e_vm (Sl.one (Ints.dropR ha2 (m := 1) (by rw [List.length_drop]; omega))) ?_
      refine on1 ?_
      refine s_10 ?_
      by_cases g2 : (gi ((B.drop (cn F.vs 2 i))) (0)) < ((vr F.vs (i)).lo)
      ·
       omega
      ·
       refine s_7 ?_
       have hini := ini_2 (vs := F.vs) (A := A) (B := B) (C := C) (i := i) (by assumption)
       refine s_3 ?_
       refine oq (qv_nilck rfl) ?_
       refine s_3 ?_
       refine ops_lit (n := 1) (s := 1) (cs := [(.int .i64 (gi ((B.drop (cn F.vs 2 i))) (0)))]) UL.out TZ.out (l_b rfl) rfl rfl rfl (l_b rfl) rfl (fun b7 => ?_)
       refine a_po rfl rfl rfl o_c o_m m_x fun v2 hn2 => ?_
       refine oq (qv_nilck rfl) ?_
       refine s_1 ?_
       refine ops_gr1 (k := 4) rfl (fun ho2 => ?_)
       refine s_tp rfl e_vm ho2 ?_
       refine s_1 ?_
       refine v_d 6 ?_
       refine v_d 5 ?_
       refine s_4 ?_
       exact le5 (i + 1) v2 a1 ((dropR a2 (1 : Int).toNat 1)) a3 ⟨(jdf o_m), (c_i (by rfl)), trivial⟩ ⟨by omega, by omega, Ints.lsame ha1 i1 o_m o_m, Ints.lstep ha2 hlf.1 i1 o_m (by assumption), Ints.lsame ha3 i1 o_m o_m⟩ (hr := by rw [iniL_take i1 o_m, List.map_append, hini, show (i + 1).toNat = i.toNat + 1 by omega]; rfl)
    ·
     refine s_3 ?_
     have hlf := lft (i := i) hI.l3 hI.r3 i1 o_m (by assumption)
     have hld2 := List.length_drop (i := cn F.vs 3 i) (l := C)
     refine oq (qv_iaae (i := 3) (off := 0) UL.out SZ.out rfl rfl e2_2 o_m o_m e_vd) ?_
     refine s_1 ?_
     refine oq (qv_lenI UL.out rfl ha3) ?_
     refine s_2 ?_
     refine iff' ?_ ?_ <;> intro c6
     ·
      omega
     ·
      refine s_5 ?_
      refine oq (qv_iaae (i := 3) (off := 0) UL.out SZ.out rfl rfl e2_2 o_m o_m e_vd) ?_
      refine s_1 ?_
      refine oq (qv_iai UL.out SZ.out e_vm (inVi ha3) rfl o_m o_m) ?_
      refine oq (qv_ldi PL.out rfl (inVi ha3) o_m o_m) ?_
      refine s_3 ?_
      refine ro1 [qt 0,qt 1,qt 2,qt 3,qt 4,ld 5,qt 6,qt 7,ld 8] ?_
      refine s_4 ?_
      refine rq rfl (qv_iaae (i := 3) (off := 0) UL.out SZ.out rfl rfl e2_2 o_m o_m e_vd) ?_
      refine rl_q ?_
      refine s_1 ?_
      refine ops_nil ⟨[(Arr 26 b1 [va, ha, ba]), (Arr 86 b2 [sa, sb, sc]), (Arr 156 b3 [va, ha, ba, u, (Value.slice none 0 0), (Value.slice none 0 0), (Value.int .i64 0)]), (Arr 201 b4 [(Value.slice none 0 0), a1, a2, a3]), (Gr 3 1 u i.toNat ((((iniL F.vs A B C).take i.toNat).map (Value.int .i64)))), (Arr 71 b5 [(Value.string (vr F.vs (i)).nm), (.int .i64 ((vr F.vs (i)).kd)), (.int .i64 ((vr F.vs (i)).lo)), (.int .i64 ((vr F.vs (i)).hi)), (.int .i64 ((vr F.vs (i)).ini))])], [], (Sub.refl _), perm_nil _, ⟨[], (.refl _)⟩, ?_⟩
      refine rq rfl (qv_sliceLoR UL.out SZ.out e_vm (Ints.toS ha3) rfl o_m o_m) ?_
      refine rq rfl (qv_iaae (i := 3) (off := 0) UL.out SZ.out rfl rfl e2_2 o_m o_m e_vd) ?_
      refine rl_o ?_
      refine s_tp rfl e_vm (Sl.one (Ints.dropR ha3 (m := 1) (by rw [List.length_drop]; omega))) ?_
      refine on1 ?_
      refine s_10 ?_
      by_cases g3 : (gi ((C.drop (cn F.vs 3 i))) (0)) < ((vr F.vs (i)).lo)
      ·
       omega
      ·
       refine s_7 ?_
       have hini := ini_3 (vs := F.vs) (A := A) (B := B) (C := C) (i := i) (by assumption)
       refine s_3 ?_
       refine oq (qv_nilck rfl) ?_
       refine s_3 ?_
       refine ops_lit (n := 1) (s := 1) (cs := [(.int .i64 (gi ((C.drop (cn F.vs 3 i))) (0)))]) UL.out TZ.out (l_b rfl) rfl rfl rfl (l_b rfl) rfl (fun b8 => ?_)
       refine a_po rfl rfl rfl o_c o_m m_x fun v3 hn3 => ?_
       refine oq (qv_nilck rfl) ?_
       refine s_1 ?_
       refine ops_gr1 (k := 4) rfl (fun ho3 => ?_)
       refine s_tp rfl e_vm ho3 ?_
       refine s_1 ?_
       refine v_d 6 ?_
       refine v_d 5 ?_
       refine s_4 ?_
       exact le5 (i + 1) v3 a1 a2 ((dropR a3 (1 : Int).toNat 1)) ⟨(jdf o_m), (c_i (by rfl)), trivial⟩ ⟨by omega, by omega, Ints.lsame ha1 i1 o_m o_m, Ints.lsame ha2 i1 o_m o_m, Ints.lstep ha3 hlf.1 i1 o_m (by assumption)⟩ (hr := by rw [iniL_take i1 o_m, List.map_append, hini, show (i + 1).toNat = i.toNat + 1 by omega]; rfl)
   ·
    refine s_1 ?_
    have hini := ini_0 (vs := F.vs) (A := A) (B := B) (C := C) (i := i) o_m
    refine s_3 ?_
    refine oq (qv_nilck rfl) ?_
    refine s_3 ?_
    refine ops_lit (n := 1) (s := 1) (cs := [(.int .i64 ((vr F.vs (i)).ini))]) UL.out TZ.out (l_b rfl) rfl rfl rfl (l_b rfl) rfl (fun b9 => ?_)
    refine a_po rfl rfl rfl o_c o_m m_x fun v4 hn4 => ?_
    refine oq (qv_nilck rfl) ?_
    refine s_1 ?_
    refine ops_gr1 (k := 4) rfl (fun ho4 => ?_)
    refine s_tp rfl e_vm ho4 ?_
    refine s_1 ?_
    refine v_d 6 ?_
    refine v_d 5 ?_
    refine s_4 ?_
    exact le5 (i + 1) v4 a1 a2 a3 ⟨rfl, (c_i (by rfl)), trivial⟩ ⟨by omega, by omega, Ints.lsame ha1 i1 o_m o_m, Ints.lsame ha2 i1 o_m o_m, Ints.lsame ha3 i1 o_m o_m⟩ (hr := by rw [iniL_take i1 o_m, List.map_append, hini, show (i + 1).toNat = i.toNat + 1 by omega]; rfl)
  ·
   refine s_9 ?_
   refine lc1 [0,1,2,3,6,7,8,9,20,33,34,35,36,88] (fun (j0 : Int) => [(89, (Value.int .i64 j0))]) (fun j0 => 0 ≤ j0 ∧ j0 ≤ 4) (fun j0 => (4 - j0).toNat) 0 ?_ ?_ ?_ 
   · exact ⟨rfl, trivial⟩
   · exact ⟨by omega, by omega⟩
   rintro j0 e3 ⟨j01, j02⟩
   refine s_5 ?_
   refine iff' ?_ ?_ <;> intro c7
   ·
    refine s_4 ?_
    have hz4 := left4 (by have h := ha1; rw [cn_all o_m, ← hI.l1, List.drop_length] at h; exact h) (by have h := ha2; rw [cn_all o_m, ← hI.l2, List.drop_length] at h; exact h) (by have h := ha3; rw [cn_all o_m, ← hI.l3, List.drop_length] at h; exact h) j01 o_m
    refine s_1 ?_
    refine oq (qv_idx (v := (gv [(Value.slice none 0 0), a1, a2, a3] (j0))) (i := j0) UL.out PL.out SZ.out rfl rfl o_m (by simp; omega) (idx_one (cs := [(Value.slice none 0 0), a1, a2, a3]) o_m (by simp; omega))) ?_
    refine s_5 ?_
    refine oq (qv_lenI UL.out rfl hz4) ?_
    refine s_2 ?_
    refine iff' ?_ ?_ <;> intro c8
    ·
     exact absurd c8 (by simp)
    ·
     refine s_5 ?_
     exact le1 (j0 + 1) ⟨(c_i o_m), trivial⟩ ⟨by omega, by omega⟩
   ·
    refine s_11 ?_
    refine vc_nil 3 1 ?_
    refine s_3 ?_
    refine oq (qv_lenSS UL.out rfl hH.sl) ?_
    refine s_3 ?_
    refine lp2 [0,1,2,3,6,7,8,9,20,33,34,35,36,88,89,90,96,98,99] (fun (j : Int) (g : Value) => [(100, (Value.int .i64 j))]) (fun j g => [(Arr 26 b1 [va, ha, ba]), (Arr 86 b2 [sa, sb, sc]), (Arr 156 b3 [va, ha, ba, u, g, (Value.slice none 0 0), (Value.int .i64 0)]), (Arr 201 b4 [(Value.slice none 0 0), a1, a2, a3]), (Gr 3 1 u F.vs.length (((iniL F.vs A B C).map (Value.int .i64)))), (Gr 3 1 g j.toNat ((((hatL F (iniL F.vs A B C)).take j.toNat).map (Value.int .i64))))]) (fun j g => 0 ≤ j ∧ j ≤ F.hs.length) (fun j g => (F.hs.length - j).toNat) 0 ((Value.slice none 0 0)) ?_ ?_ ?_ ?_ 
    · exact ⟨rfl, trivial⟩
    · (rw [List.take_of_length_le (l := iniL F.vs A B C) (by rw [iniL_len]; omega), show i.toNat = F.vs.length by omega]; rfl)
    · exact ⟨by omega, by omega⟩
    rintro j g e4 ⟨j1, j2⟩
    refine s_5 ?_
    refine iff' ?_ ?_ <;> intro c9
    ·
     refine s_5 ?_
     refine oq (qv_ias UL.out SZ.out e_vm hH.sl rfl o_m o_m) ?_
     refine oq (qv_lds AG.out rfl hH.sl o_m o_m (htcs_at o_m o_m)) ?_
     refine a_lo fun b10 => ?_
     refine s_tw rfl rfl (allc rfl (allc rfl (allc rfl (allc rfl (allc rfl (allc (Tms.one (hH.hk (j) o_m o_m)) rfl)))))) ?_
     refine s_1 ?_
     have hok := hVa.hs j j1 o_m
     refine vc_join (α := Nat × Value) (fun xx => [(0, (.agg #[va, ha, ba])), (1, (.agg #[sa, sb, sc])), (2, (Value.pointer (some ⟨b1, 0, none⟩))), (3, (Value.pointer (some ⟨b2, 0, none⟩))), (6, (Value.int .i64 0)), (7, (Value.pointer (some ⟨b3, 0, none⟩))), (8, (Value.pointer (some ⟨b4, 0, none⟩))), (9, (Value.bool false)), (16, (Value.pointer (some ⟨b10, 0, none⟩))), (20, (.bool (decide ((0 : Int) ≠ 0)))), (33, va), (34, (.int .i64 ((F.vs.length : Int)))), (35, (Value.int .i64 i)), (36, (.bool (decide (i < ((F.vs.length : Int)))))), (88, (.agg #[(Value.slice none 0 0), a1, a2, a3])), (89, (Value.int .i64 j0)), (90, (.bool (decide (j0 < 4)))), (96, (Value.bool false)), (98, ha), (99, (.int .i64 ((F.hs.length : Int)))), (100, (Value.int .i64 j)), (101, (.bool (decide (j < ((F.hs.length : Int))))))]) (fun xx V' σ' => V = V' ∧ [(Arr 26 b1 [va, ha, ba]), (Arr 86 b2 [sa, sb, sc]), (Arr 156 b3 [va, ha, ba, u, xx.2, (Value.slice none 0 0), (Value.int .i64 0)]), (Arr 201 b4 [(Value.slice none 0 0), a1, a2, a3]), (Gr 3 1 u F.vs.length (((iniL F.vs A B C).map (Value.int .i64)))), (Gr 3 1 xx.2 ((j.toNat + 1)) (((((hatL F (iniL F.vs A B C)).take j.toNat).map (Value.int .i64)) ++ [(.int .i64 (hld (val (iniL F.vs A B C) (ht F.hs j).tm) ((ht F.hs (j)).lo) ((ht F.hs (j)).hi)))]))), (Arr 132 b10 [(Value.string (ht F.hs (j)).nm), (.int .i64 ((ht F.hs (j)).lo)), (.int .i64 ((ht F.hs (j)).hi)), (.int .i64 ((ht F.hs (j)).tm.op)), (.int .i64 ((ht F.hs (j)).tm.n)), (gv hvs (j))]), (Arr 3 xx.1 [(.int .i64 (hld (val (iniL F.vs A B C) (ht F.hs j).tm) ((ht F.hs (j)).lo) ((ht F.hs (j)).hi)))])] = σ') ?_ ?_
     ·
      refine rE 22 [0,0,1,0,0,1] ?_
      refine eq_ (i := 0) k_r rfl q_a ?_
      refine eq_ (i := 1) k_r rfl q_a ?_
      refine eq_ (i := 2) k_r rfl (qv_nilck rfl) ?_
      refine eq_ (i := 3) k_r rfl q_a ?_
      refine eq_ (i := 5) k_r rfl q_a ?_
      refine eq_ (i := 6) k_r rfl (qv_nilck rfl) ?_
      refine eq_ (i := 7) k_r rfl q_a ?_
      refine eq_ (i := 9) k_r rfl q_a ?_
      refine eq_ (i := 10) k_r rfl q_a ?_
      refine eq_ (i := 12) k_r rfl q_a ?_
      refine eq_ (i := 13) k_r rfl q_a ?_
      refine eq_ (i := 14) k_r rfl q_a ?_
      refine eq_ (i := 15) k_r rfl q_a ?_
      refine el2 (i := 4) (j := 8) k_r ?_ ?_
      ·
       refine el_o ?_
       refine s_1 ?_
       refine on3 [0,0,1,0,0,1] (Sub.refl _) ?_
       refine el1 (i := 8) k_r ?_
       refine el_o ?_
       refine s_1 ?_
       refine on3 [0,0,1,0,0,1] (Sub.refl _) ?_
       refine eq_ (i := 11) k_r rfl (qv_call_gi (v := (.int .i64 (val (iniL F.vs A B C) (ht F.hs j).tm))) (k := 3) rfl (fun Vo hVo hbo => value_c ((ht F.hs j).tm.sz.toNat + 1) _ _ _ _ F.vs true _ ((hH.hk j j1 o_m).mono hVo) hbo iniL_len (ini_inR hVa.vs hI) hok.ct.1 hok.ct.2 (by have := (ht F.hs j).tm.sz_pos; omega)) rfl rfl) ?_
       refine eq_ (i := 16) k_r rfl (f_c (clamp_c) rfl rfl) ?_
       refine el1 (i := 17) k_r ?_
       refine el_o ?_
       refine ops_lit (n := 1) (s := 1) (cs := [(.int .i64 (hld (val (iniL F.vs A B C) (ht F.hs j).tm) ((ht F.hs (j)).lo) ((ht F.hs (j)).hi)))]) UL.out TZ.out (l_b rfl) rfl rfl rfl (l_b rfl) rfl (fun b11 => ?_)
       refine on3 [0,0,1,0,0,1] (Sub.refl _) ?_
       refine el1 (i := 18) k_r ?_
       refine el_o ?_
       refine a_po rfl rfl rfl o_c o_m m_x fun v5 hn5 => ?_
       refine on3 [0,0,1,0,0,1] (Sub.refl _) ?_
       refine eq_ (i := 19) k_r rfl (qv_nilck rfl) ?_
       refine eq_ (i := 20) k_r rfl q_a ?_
       refine el1 (i := 21) k_r ?_
       refine el_o ?_
       refine ops_gr1 (k := 5) rfl (fun ho5 => ?_)
       refine s_tp rfl e_vm ho5 ?_
       refine on3 [0,0,1,0,0,1] (Sub.refl _) ?_
       refine enil (σ' := [(Arr 26 b1 [va, ha, ba]), (Arr 86 b2 [sa, sb, sc]), (Arr 156 b3 [va, ha, ba, u, v5, (Value.slice none 0 0), (Value.int .i64 0)]), (Arr 201 b4 [(Value.slice none 0 0), a1, a2, a3]), (Gr 3 1 u F.vs.length (((iniL F.vs A B C).map (Value.int .i64)))), (Gr 3 1 v5 ((j.toNat + 1)) (((((hatL F (iniL F.vs A B C)).take j.toNat).map (Value.int .i64)) ++ [(.int .i64 (hld (val (iniL F.vs A B C) (ht F.hs j).tm) ((ht F.hs (j)).lo) ((ht F.hs (j)).hi)))]))), (Arr 132 b10 [(Value.string (ht F.hs (j)).nm), (.int .i64 ((ht F.hs (j)).lo)), (.int .i64 ((ht F.hs (j)).hi)), (.int .i64 ((ht F.hs (j)).tm.op)), (.int .i64 ((ht F.hs (j)).tm.n)), (gv hvs (j))]), (Arr 3 b11 [(.int .i64 (hld (val (iniL F.vs A B C) (ht F.hs j).tm) ((ht F.hs (j)).lo) ((ht F.hs (j)).hi)))])]) k_r (pz [0, 1, 2, 3, 4, 5, 6, 7] rfl k_r) ⟨(b11, v5), ⟨rfl, rfl, rfl, rfl, rfl, rfl, rfl, rfl, rfl, rfl, rfl, rfl, rfl, rfl, rfl, rfl, rfl, rfl, rfl, rfl, rfl, rfl, trivial⟩, rfl, rfl⟩
      ·
       refine el_o ?_
       refine s_1 ?_
       refine on3 [0,0,1,0,0,1] (Sub.refl _) ?_
       refine eq_ (i := 11) k_r rfl (qv_call_gi (v := (.int .i64 (val (iniL F.vs A B C) (ht F.hs j).tm))) (k := 3) rfl (fun Vo hVo hbo => value_c ((ht F.hs j).tm.sz.toNat + 1) _ _ _ _ F.vs true _ ((hH.hk j j1 o_m).mono hVo) hbo iniL_len (ini_inR hVa.vs hI) hok.ct.1 hok.ct.2 (by have := (ht F.hs j).tm.sz_pos; omega)) rfl rfl) ?_
       refine eq_ (i := 16) k_r rfl (f_c (clamp_c) rfl rfl) ?_
       refine el2 (i := 4) (j := 17) k_r ?_ ?_
       ·
        refine el_o ?_
        refine s_1 ?_
        refine on3 [0,0,1,0,0,1] (Sub.refl _) ?_
        refine el1 (i := 17) k_r ?_
        refine el_o ?_
        refine ops_lit (n := 1) (s := 1) (cs := [(.int .i64 (hld (val (iniL F.vs A B C) (ht F.hs j).tm) ((ht F.hs (j)).lo) ((ht F.hs (j)).hi)))]) UL.out TZ.out (l_b rfl) rfl rfl rfl (l_b rfl) rfl (fun b12 => ?_)
        refine on3 [0,0,1,0,0,1] (Sub.refl _) ?_
        refine el1 (i := 18) k_r ?_
        refine el_o ?_
        refine a_po rfl rfl rfl o_c o_m m_x fun v6 hn6 => ?_
        refine on3 [0,0,1,0,0,1] (Sub.refl _) ?_
        refine eq_ (i := 19) k_r rfl (qv_nilck rfl) ?_
        refine eq_ (i := 20) k_r rfl q_a ?_
        refine el1 (i := 21) k_r ?_
        refine el_o ?_
        refine ops_gr1 (k := 5) rfl (fun ho6 => ?_)
        refine s_tp rfl e_vm ho6 ?_
        refine on3 [0,0,1,0,0,1] (Sub.refl _) ?_
        refine enil (σ' := [(Arr 26 b1 [va, ha, ba]), (Arr 86 b2 [sa, sb, sc]), (Arr 156 b3 [va, ha, ba, u, v6, (Value.slice none 0 0), (Value.int .i64 0)]), (Arr 201 b4 [(Value.slice none 0 0), a1, a2, a3]), (Gr 3 1 u F.vs.length (((iniL F.vs A B C).map (Value.int .i64)))), (Gr 3 1 v6 ((j.toNat + 1)) (((((hatL F (iniL F.vs A B C)).take j.toNat).map (Value.int .i64)) ++ [(.int .i64 (hld (val (iniL F.vs A B C) (ht F.hs j).tm) ((ht F.hs (j)).lo) ((ht F.hs (j)).hi)))]))), (Arr 132 b10 [(Value.string (ht F.hs (j)).nm), (.int .i64 ((ht F.hs (j)).lo)), (.int .i64 ((ht F.hs (j)).hi)), (.int .i64 ((ht F.hs (j)).tm.op)), (.int .i64 ((ht F.hs (j)).tm.n)), (gv hvs (j))]), (Arr 3 b12 [(.int .i64 (hld (val (iniL F.vs A B C) (ht F.hs j).tm) ((ht F.hs (j)).lo) ((ht F.hs (j)).hi)))])]) k_r (pz [0, 1, 2, 3, 4, 5, 6, 7] rfl k_r) ⟨(b12, v6), ⟨rfl, rfl, rfl, rfl, rfl, rfl, rfl, rfl, rfl, rfl, rfl, rfl, rfl, rfl, rfl, rfl, rfl, rfl, rfl, rfl, rfl, rfl, trivial⟩, rfl, rfl⟩
       ·
        refine el_o ?_
        refine ops_lit (n := 1) (s := 1) (cs := [(.int .i64 (hld (val (iniL F.vs A B C) (ht F.hs j).tm) ((ht F.hs (j)).lo) ((ht F.hs (j)).hi)))]) UL.out TZ.out (l_b rfl) rfl rfl rfl (l_b rfl) rfl (fun b13 => ?_)
        refine on3 [0,0,1,0,0,1] (Sub.refl _) ?_
        refine el1 (i := 4) k_r ?_
        refine el_o ?_
        refine s_1 ?_
        refine on3 [0,0,1,0,0,1] (Sub.refl _) ?_
        refine el1 (i := 18) k_r ?_
        refine el_o ?_
        refine a_po rfl rfl rfl o_c o_m m_x fun v7 hn7 => ?_
        refine on3 [0,0,1,0,0,1] (Sub.refl _) ?_
        refine eq_ (i := 19) k_r rfl (qv_nilck rfl) ?_
        refine eq_ (i := 20) k_r rfl q_a ?_
        refine el1 (i := 21) k_r ?_
        refine el_o ?_
        refine ops_gr1 (k := 5) rfl (fun ho7 => ?_)
        refine s_tp rfl e_vm ho7 ?_
        refine on3 [0,0,1,0,0,1] (Sub.refl _) ?_
        refine enil (σ' := [(Arr 26 b1 [va, ha, ba]), (Arr 86 b2 [sa, sb, sc]), (Arr 156 b3 [va, ha, ba, u, v7, (Value.slice none 0 0), (Value.int .i64 0)]), (Arr 201 b4 [(Value.slice none 0 0), a1, a2, a3]), (Gr 3 1 u F.vs.length (((iniL F.vs A B C).map (Value.int .i64)))), (Gr 3 1 v7 ((j.toNat + 1)) (((((hatL F (iniL F.vs A B C)).take j.toNat).map (Value.int .i64)) ++ [(.int .i64 (hld (val (iniL F.vs A B C) (ht F.hs j).tm) ((ht F.hs (j)).lo) ((ht F.hs (j)).hi)))]))), (Arr 132 b10 [(Value.string (ht F.hs (j)).nm), (.int .i64 ((ht F.hs (j)).lo)), (.int .i64 ((ht F.hs (j)).hi)), (.int .i64 ((ht F.hs (j)).tm.op)), (.int .i64 ((ht F.hs (j)).tm.n)), (gv hvs (j))]), (Arr 3 b13 [(.int .i64 (hld (val (iniL F.vs A B C) (ht F.hs j).tm) ((ht F.hs (j)).lo) ((ht F.hs (j)).hi)))])]) k_r (pz [0, 1, 2, 3, 4, 5, 6, 7] rfl k_r) ⟨(b13, v7), ⟨rfl, rfl, rfl, rfl, rfl, rfl, rfl, rfl, rfl, rfl, rfl, rfl, rfl, rfl, rfl, rfl, rfl, rfl, rfl, rfl, rfl, rfl, trivial⟩, rfl, rfl⟩
     rintro ⟨z121, zg122⟩ e5 Vj1 σj1 hJ1
     obtain ⟨rfl, rfl⟩ : V = Vj1 ∧ [(Arr 26 b1 [va, ha, ba]), (Arr 86 b2 [sa, sb, sc]), (Arr 156 b3 [va, ha, ba, u, zg122, (Value.slice none 0 0), (Value.int .i64 0)]), (Arr 201 b4 [(Value.slice none 0 0), a1, a2, a3]), (Gr 3 1 u F.vs.length (((iniL F.vs A B C).map (Value.int .i64)))), (Gr 3 1 zg122 ((j.toNat + 1)) (((((hatL F (iniL F.vs A B C)).take j.toNat).map (Value.int .i64)) ++ [(.int .i64 (hld (val (iniL F.vs A B C) (ht F.hs j).tm) ((ht F.hs (j)).lo) ((ht F.hs (j)).hi)))]))), (Arr 132 b10 [(Value.string (ht F.hs (j)).nm), (.int .i64 ((ht F.hs (j)).lo)), (.int .i64 ((ht F.hs (j)).hi)), (.int .i64 ((ht F.hs (j)).tm.op)), (.int .i64 ((ht F.hs (j)).tm.n)), (gv hvs (j))]), (Arr 3 z121 [(.int .i64 (hld (val (iniL F.vs A B C) (ht F.hs j).tm) ((ht F.hs (j)).lo) ((ht F.hs (j)).hi)))])] = σj1 := hJ1
     change VC _ _ _ _ _ _ (upds 127 [(0, (.agg #[va, ha, ba])), (1, (.agg #[sa, sb, sc])), (2, (Value.pointer (some ⟨b1, 0, none⟩))), (3, (Value.pointer (some ⟨b2, 0, none⟩))), (6, (Value.int .i64 0)), (7, (Value.pointer (some ⟨b3, 0, none⟩))), (8, (Value.pointer (some ⟨b4, 0, none⟩))), (9, (Value.bool false)), (16, (Value.pointer (some ⟨b10, 0, none⟩))), (20, (.bool (decide ((0 : Int) ≠ 0)))), (33, va), (34, (.int .i64 ((F.vs.length : Int)))), (35, (Value.int .i64 i)), (36, (.bool (decide (i < ((F.vs.length : Int)))))), (88, (.agg #[(Value.slice none 0 0), a1, a2, a3])), (89, (Value.int .i64 j0)), (90, (.bool (decide (j0 < 4)))), (96, (Value.bool false)), (98, ha), (99, (.int .i64 ((F.hs.length : Int)))), (100, (Value.int .i64 j)), (101, (.bool (decide (j < ((F.hs.length : Int))))))] e5) _ _
     refine v_d 7 ?_
     refine v_d 6 ?_
     refine s_4 ?_
     exact le2 (j + 1) zg122 ⟨(c_i o_m), trivial⟩ ⟨by omega, by omega⟩ (hr := by rw [hatL_take j1 o_m, List.map_append, show (j + 1).toNat = j.toNat + 1 by omega]; rfl)
    ·
     refine s_8 ?_
     refine v_fG 5 fun Vf1 hVf1 hc1 => ?_
     refine v_d 3 ?_
     refine v_d 1 ?_
     refine v_d 0 ?_
     refine s_1 ?_
     refine ra2 ?_
     exact ⟨_, _, _, rfl, by have q := hc1; rw [List.take_of_length_le (by rw [hatL_len]; omega)] at q; exact q, rfl⟩

set_option maxRecDepth 100000 in
set_option maxHeartbeats 4000000 in
theorem Run_c {V : HV} {va ha ba : Value} {F : Fl} (hF : Fls V va ha ba F) {A B C : List Int} {sa sb sc : Value} (hVa : Valid F) (hA : Ints .i64 V sa A) (hB : Ints .i64 V sb B) (hC : Ints .i64 V sc C) (hI : InOk F.vs A B C) :
    FnC Tryz.prog 32 [(.agg #[va, ha, ba]), (.agg #[sa, sb, sc])] V [] (fun v V' σ' => σ' = [] ∧ ∃ ov, v = .tuple #[.agg #[ov, .int .i64 (obsF F A B C).time], .int .i64 0] ∧ Ints .i64 V' ov (obsF F A B C).outs) := by
 refine FnC.drop ?_
 refine f_i Tryz.func32 ?_
 intro w0 D
 obtain ⟨hvs, hH⟩ := hF.h
 obtain ⟨xQ, hQ⟩ := hF.b.sl
 have hbvv := SlS.bound hF.v
 have hbh := SlS.bound hH.sl
 have hbb := SlS.bound hQ
 refine s_2 ?_
 refine b_ox fun b1 => ?_
 refine b_ox fun b2 => ?_
 refine a_lo fun b3 => ?_
 refine s_6 ?_
 refine c_l [] (start_c hF hVa hA hB hC hI) rfl rfl fun r1 V1 sg1 hV1 hp1 => ?_
 obtain ⟨bm, u, hx, rfl, hh, rfl⟩ := hp1
 have hF := hF.mono hV1
 have hA := hA.mono hV1
 have hB := hB.mono hV1
 have hC := hC.mono hV1
 refine p_m [2,3,4,0,1] ?_
 refine s_12 ?_
 refine iff' ?_ ?_ <;> intro c1
 ·
  omega
 ·
  refine s_2 ?_
  refine vc_nil 3 1 ?_
  refine s_4 ?_
  refine c_l [3,3,3] (run_c ((nds F.bd).toNat + 1) _ _ _ _ _ _ _ _ _ _ _ _ _ _ _ True hF hVa hh hatL_len hF.b hVa.bd (start_rdy hVa hI) (by have := nds_nn F.bd; omega)) rfl rfl fun r2 V2 sg2 hV2 hp2 => ?_
  obtain ⟨rfl, rfl, w1, rfl⟩ := hp2
  have hF := hF.mono hV2
  have hA := hA.mono hV2
  have hB := hB.mono hV2
  have hC := hC.mono hV2
  have hh := hh.mono hV2
  refine p_m [3,4,5,0,1,2] ?_
  refine s_2 ?_
  refine v_fG 5 fun Vf1 hVf1 hc1 => ?_
  have hF := hF.mono hVf1
  have hA := hA.mono hVf1
  have hB := hB.mono hVf1
  have hC := hC.mono hVf1
  have hh := hh.mono hVf1
  refine ro1 [qt 0,qt 1,qt 2,qt 3,qt 4,qt 5,qt 6,qt 7,qt 8,ld 9,qt 10] ?_
  refine s_1 ?_
  refine rq rfl (qv_nilck rfl) ?_
  refine s_3 ?_
  refine rq rfl (qv_nilck rfl) ?_
  refine s_2 ?_
  have hcw0 := hc1
  have hcw := Sl.cells hcw0
  refine rq rfl (qv_build (out := [w1, (.int .i64 ((obsF F A B C).time))]) BI.out [(0, [w1]), (1, [(.int .i64 ((obsF F A B C).time))])] (by show [(0, Value.cells w1), (1, Value.cells (.int .i64 ((obsF F A B C).time)))] = _; rw [hcw]; try rfl) rfl) ?_
  refine rl_o ?_
  refine s_tw rfl rfl (allc (Sl.one hcw0) (allc rfl rfl)) ?_
  refine on1 ?_
  refine s_3 ?_
  refine rs2 _ (Value.int .i64 0) (r_va rfl) (rv_t rfl) ?_
  exact ⟨[], _, .refl _, rfl, _, rfl, hc1⟩

end Go.Proofs.YtbchkopkgpfkgaaGreatDoor
