import Derived.Test.YtbchkopkgpfkgaaGreatDoorTi
import Derived.Test.YtbchkopkgpfkgaaGreatDoorGw
/- Walks of the top laws: what each function returns. Printed by a program out of notes. -/
namespace Go.Proofs.YtbchkopkgpfkgaaGreatDoor
open Go.Vc
open Classical

set_option maxRecDepth 100000 in
set_option maxHeartbeats 4000000 in
theorem rIn_c {V : HV} {va ha ba : Value} {F : Fl} (hF : Fls V va ha ba F) {pv qv : Value} {B : List Int} (hVa : Valid F) (hP : Ints .i64 V pv B) (hQ : Ints .i64 V qv (unL (vfl F.vs 3) 0)) {s : Int} (s0 : 0 ≤ s) (s1 : s < spc F.vs 1) :
    FnC Tryz.prog 112 [(.agg #[va, ha, ba]), (Value.int .i64 s), pv, qv] V [] (fun v V' σ' => σ' = [] ∧ ∃ u1, v = .agg #[u1, pv, qv] ∧ Ints .i64 V' u1 (unL (vfl F.vs 1) s)) := by
 refine FnC.drop ?_
 refine f_i Tryz.func112 ?_
 intro w0 D
 obtain ⟨hvs, hH⟩ := hF.h
 obtain ⟨xQ, hQb⟩ := hF.b.sl
 have hbvv := SlS.bound hF.v
 have hbh := SlS.bound hH.sl
 have hbb := SlS.bound hQb
 have h64 : F.vs.length ≤ 64 := by have := hVa.sz.1; omega
 have n1 := spc_pos' hVa.vs 1
 have n3 := spc_pos' hVa.vs 3
 have n4 := hVa.vs.s1
 have n5 := hVa.vs.s2
 have n6 := hVa.vs.s3
 refine s_2 ?_
 refine b_ox fun b1 => ?_
 refine a_lo fun b2 => ?_
 refine s_6 ?_
 refine c_l [] (Unrank_c (k := 1) (r := s) hF.v h64 hVa.vs o_m o_m o_m o_m) rfl rfl fun r1 V1 sg1 hV1 hp1 => ?_
 obtain ⟨rfl, u1, rfl, hu1⟩ := hp1
 have hF := hF.mono hV1
 have hP := hP.mono hV1
 have hQ := hQ.mono hV1
 refine s_11 ?_
 refine oq (qv_build (out := [u1, pv, qv]) BI.out [(0, [u1]), (1, [pv]), (2, [qv])] (by show [(0, Value.cells u1), (1, Value.cells pv), (2, Value.cells qv)] = _; rw [(Sl.cells hu1), (Sl.cells hP), (Sl.cells hQ)]; try rfl) rfl) ?_
 refine s_tw rfl rfl (allc (Sl.one hu1) (allc (Sl.one hP) (allc (Sl.one hQ) rfl))) ?_
 refine s_2 ?_
 refine rs1 _ (r_va rfl) ?_
 exact ⟨[], _, .refl _, rfl, _, rfl, hu1⟩

theorem keyR_c {V : HV} {lv : Value} {q : Ob} (ht : TabV Tryz.prog V) (hl : Ints .i64 V lv (q.2 :: q.1)) (h2 : q.1.length ≤ 8) (h : 0 ≤ q.2 ∧ q.2 ≤ 67108864) (hr : ∀ i : Int, 0 ≤ i → i < q.1.length → -1048576 ≤ gi q.1 i ∧ gi q.1 i ≤ 1048576) : FnC Tryz.prog 113 [lv] V [] (fun v _ _ => v = .string (keyO q)) := spelledR_c ht hl (by simp) (by rw [List.length_cons]; omega) (spell_ok h h2 hr)
set_option maxRecDepth 100000 in
set_option maxHeartbeats 4000000 in
theorem rKey_c {V : HV} {va ha ba : Value} {F : Fl} (hF : Fls V va ha ba F) {pv qv : Value} {B : List Int} {tm : Bool} (hVa : Valid F) (hP : Ints .i64 V pv B) (hQ : Ints .i64 V qv (unL (vfl F.vs 3) 0)) {s : Int} {d1 d2 d3 : Nat} (hd1 : Cells V d1 [va, ha, ba]) (hd2 : Cells V d2 [pv, .bool (decide (tm = true))]) (hd3 : Cells V d3 [qv]) (hB : rkE (vfl F.vs 2) B = 0) (ht : TabV Tryz.prog V) (s0 : 0 ≤ s) (s1 : s < spc F.vs 1) :
    FnC Tryz.prog 111 [(Value.int .i64 s), (Value.pointer (some ⟨d1, 0, none⟩)), (Value.pointer (some ⟨d2, 0, none⟩)), (Value.pointer (some ⟨d3, 0, none⟩))] V [] (fun v _ _ => v = .string (keyO (oK F B tm s 0))) := by
 refine f_i Tryz.func111 ?_
 intro w0 D
 obtain ⟨hvs, hH⟩ := hF.h
 obtain ⟨xQ, hQb⟩ := hF.b.sl
 have hbvv := SlS.bound hF.v
 have hbh := SlS.bound hH.sl
 have hbb := SlS.bound hQb
 have h64 : F.vs.length ≤ 64 := by have := hVa.sz.1; omega
 have n1 := spc_pos' hVa.vs 1
 have n3 := spc_pos' hVa.vs 3
 have n4 := hVa.vs.s1
 have n5 := hVa.vs.s2
 have n6 := hVa.vs.s3
 refine s_5 ?_
 have hin := in_ok hVa.vs hB s 0
 have hbd0 := obs_bd hVa hin
 have hbd : (oK F B tm s 0).1.length ≤ 8 ∧ (0 ≤ (obsF F (unL (vfl F.vs 1) s) B (unL (vfl F.vs 3) 0)).time ∧ (obsF F (unL (vfl F.vs 1) s) B (unL (vfl F.vs 3) 0)).time ≤ 67108864) ∧ ∀ i : Int, 0 ≤ i → i < (oK F B tm s 0).1.length → -1048576 ≤ gi (oK F B tm s 0).1 i ∧ gi (oK F B tm s 0).1 i ≤ 1048576 := ⟨hbd0.1, ⟨hbd0.2.1, hbd0.2.2.1⟩, hbd0.2.2.2⟩
 refine vc_join (α := Nat × Value) (fun xx => [(0, (Value.int .i64 s)), (1, (Value.pointer (some ⟨d1, 0, none⟩))), (2, (Value.pointer (some ⟨d2, 0, none⟩))), (3, (Value.pointer (some ⟨d3, 0, none⟩))), (5, (Value.string ⟨#[]⟩)), (6, (Value.pointer (some ⟨xx.1, 0, none⟩)))]) (fun xx V' σ' => Vc.Sub V V' ∧ [(Arr 90 xx.1 [xx.2, (.int .i64 ((obsF F (unL (vfl F.vs 1) s) B (unL (vfl F.vs 3) 0)).time))])] = σ' ∧ Ints .i64 V' xx.2 (obsF F (unL (vfl F.vs 1) s) B (unL (vfl F.vs 3) 0)).outs) ?_ ?_
 ·
  refine rE 14 [] ?_
  refine eq_ (i := 0) k_r rfl q_a ?_
  refine eq_ (i := 1) k_r rfl q_a ?_
  refine eq_ (i := 2) k_r rfl q_a ?_
  refine eq_ (i := 3) k_r rfl q_a ?_
  refine eq_ (i := 4) k_r rfl q_a ?_
  refine eq_ (i := 5) k_r rfl q_a ?_
  refine el2 (i := 6) (j := 11) k_r ?_ ?_
  ·
   refine el_o ?_
   refine c_l [] (rIn_c hF hVa hP hQ s0 s1) rfl rfl fun r1 V1 sg1 hV1 hp1 => ?_
   obtain ⟨rfl, u1, rfl, hu1⟩ := hp1
   have hF := hF.mono hV1
   have hP := hP.mono hV1
   have hQ := hQ.mono hV1
   have ht := ht.mono hV1
   have hd1 := hd1.mono hV1
   have hd2 := hd2.mono hV1
   have hd3 := hd3.mono hV1
   refine on3 [] hV1 ?_
   refine el2 (i := 7) (j := 11) k_r ?_ ?_
   ·
    refine el_o ?_
    refine c_l [] (Run_c hF hVa hu1 hP hQ hin) rfl rfl fun r2 V2 sg2 hV2 hp2 => ?_
    obtain ⟨rfl, ov, rfl, hov⟩ := hp2
    have hF := hF.mono hV2
    have hP := hP.mono hV2
    have hQ := hQ.mono hV2
    have ht := ht.mono hV2
    have hd1 := hd1.mono hV2
    have hd2 := hd2.mono hV2
    have hd3 := hd3.mono hV2
    refine on3 [] hV2 ?_
    refine eq_ (i := 8) k_r rfl q_a ?_
    refine eq_ (i := 9) k_r rfl q_a ?_
    refine eq_ (i := 10) k_r rfl q_a ?_
    refine el1 (i := 11) k_r ?_
    refine el_o ?_
    refine a_lo fun b1 => ?_
    refine on3 [1] (Sub.refl _) ?_
    refine el1 (i := 12) k_r ?_
    refine el_o ?_
    refine s_tw rfl rfl (allc (Sl.one hov) (allc rfl rfl)) ?_
    refine on3 [1] (Sub.refl _) ?_
    refine eq_ (i := 13) k_r rfl q_a ?_
    refine enil (σ' := [(Arr 90 b1 [ov, (.int .i64 ((obsF F (unL (vfl F.vs 1) s) B (unL (vfl F.vs 3) 0)).time))])]) k_r (pz [0] rfl rfl) ⟨(b1, ov), ⟨rfl, rfl, rfl, rfl, rfl, rfl, trivial⟩, (hV1.trans hV2), rfl, hov⟩
   ·
    refine el_o ?_
    refine a_lo fun b2 => ?_
    refine on3 [1] (Sub.refl _) ?_
    refine el1 (i := 7) k_r ?_
    refine el_o ?_
    refine c_l [] (Run_c hF hVa hu1 hP hQ hin) rfl rfl fun r3 V3 sg3 hV3 hp3 => ?_
    obtain ⟨rfl, ov, rfl, hov⟩ := hp3
    have hF := hF.mono hV3
    have hP := hP.mono hV3
    have hQ := hQ.mono hV3
    have ht := ht.mono hV3
    have hd1 := hd1.mono hV3
    have hd2 := hd2.mono hV3
    have hd3 := hd3.mono hV3
    refine on3 [1] hV3 ?_
    refine eq_ (i := 8) k_r rfl q_a ?_
    refine eq_ (i := 9) k_r rfl q_a ?_
    refine eq_ (i := 10) k_r rfl q_a ?_
    refine el1 (i := 12) k_r ?_
    refine el_o ?_
    refine s_tw rfl rfl (allc (Sl.one hov) (allc rfl rfl)) ?_
    refine on3 [1] (Sub.refl _) ?_
    refine eq_ (i := 13) k_r rfl q_a ?_
    refine enil (σ' := [(Arr 90 b2 [ov, (.int .i64 ((obsF F (unL (vfl F.vs 1) s) B (unL (vfl F.vs 3) 0)).time))])]) k_r (pz [0] rfl rfl) ⟨(b2, ov), ⟨rfl, rfl, rfl, rfl, rfl, rfl, trivial⟩, (hV1.trans hV3), rfl, hov⟩
  ·
   refine el_o ?_
   refine a_lo fun b3 => ?_
   refine on3 [1] (Sub.refl _) ?_
   refine el1 (i := 6) k_r ?_
   refine el_o ?_
   refine c_l [] (rIn_c hF hVa hP hQ s0 s1) rfl rfl fun r4 V4 sg4 hV4 hp4 => ?_
   obtain ⟨rfl, u1, rfl, hu1⟩ := hp4
   have hF := hF.mono hV4
   have hP := hP.mono hV4
   have hQ := hQ.mono hV4
   have ht := ht.mono hV4
   have hd1 := hd1.mono hV4
   have hd2 := hd2.mono hV4
   have hd3 := hd3.mono hV4
   refine on3 [1] hV4 ?_
   refine el1 (i := 7) k_r ?_
   refine el_o ?_
   refine c_l [] (Run_c hF hVa hu1 hP hQ hin) rfl rfl fun r5 V5 sg5 hV5 hp5 => ?_
   obtain ⟨rfl, ov, rfl, hov⟩ := hp5
   have hF := hF.mono hV5
   have hP := hP.mono hV5
   have hQ := hQ.mono hV5
   have ht := ht.mono hV5
   have hd1 := hd1.mono hV5
   have hd2 := hd2.mono hV5
   have hd3 := hd3.mono hV5
   refine on3 [1] hV5 ?_
   refine eq_ (i := 8) k_r rfl q_a ?_
   refine eq_ (i := 9) k_r rfl q_a ?_
   refine eq_ (i := 10) k_r rfl q_a ?_
   refine el1 (i := 12) k_r ?_
   refine el_o ?_
   refine s_tw rfl rfl (allc (Sl.one hov) (allc rfl rfl)) ?_
   refine on3 [1] (Sub.refl _) ?_
   refine eq_ (i := 13) k_r rfl q_a ?_
   refine enil (σ' := [(Arr 90 b3 [ov, (.int .i64 ((obsF F (unL (vfl F.vs 1) s) B (unL (vfl F.vs 3) 0)).time))])]) k_r (pz [0] rfl rfl) ⟨(b3, ov), ⟨rfl, rfl, rfl, rfl, rfl, rfl, trivial⟩, (hV4.trans hV5), rfl, hov⟩
 rintro ⟨z6, ov⟩ e1 Vj1 σj1 hJ1
 obtain ⟨hSVj1, rfl, hov⟩ : Vc.Sub V Vj1 ∧ [(Arr 90 z6 [ov, (.int .i64 ((obsF F (unL (vfl F.vs 1) s) B (unL (vfl F.vs 3) 0)).time))])] = σj1 ∧ Ints .i64 Vj1 ov (obsF F (unL (vfl F.vs 1) s) B (unL (vfl F.vs 3) 0)).outs := hJ1
 change VC _ _ _ _ _ _ (upds 30 [(0, (Value.int .i64 s)), (1, (Value.pointer (some ⟨d1, 0, none⟩))), (2, (Value.pointer (some ⟨d2, 0, none⟩))), (3, (Value.pointer (some ⟨d3, 0, none⟩))), (5, (Value.string ⟨#[]⟩)), (6, (Value.pointer (some ⟨z6, 0, none⟩)))] e1) _ _
 have hF := hF.mono hSVj1
 have hP := hP.mono hSVj1
 have hQ := hQ.mono hSVj1
 have ht := ht.mono hSVj1
 have hd1 := hd1.mono hSVj1
 have hd2 := hd2.mono hSVj1
 have hd3 := hd3.mono hSVj1
 refine s_5 ?_
 refine c_l [] (SeenO_c hov (by have := hbd.1; omega)) rfl rfl fun r6 V6 sg6 hV6 hp6 => ?_
 obtain ⟨rfl, cv, rfl, hcv⟩ := hp6
 have hF := hF.mono hV6
 have hP := hP.mono hV6
 have hQ := hQ.mono hV6
 have ht := ht.mono hV6
 have hd1 := hd1.mono hV6
 have hd2 := hd2.mono hV6
 have hd3 := hd3.mono hV6
 have hov := hov.mono hV6
 refine s_tw rfl rfl (allc (Sl.one hcv) (allc rfl rfl)) ?_
 refine s_5 ?_
 refine ops_lit (n := 1) (s := 1) (cs := [(.int .i64 ((oK F B tm s 0).2))]) UL.out TZ.out (l_b rfl) rfl rfl rfl (l_b rfl) rfl (fun b4 => ?_)
 refine s_2 ?_
 refine ops_to_gr (k := 1) (b := b4) (n := 1) (cap := 1) (cs := #[(.int .i64 ((oK F B tm s 0).2))]) 1 ([(oK F B tm s 0).2].map (Value.int .i64)) rfl rfl (Nat.le_refl _) (l_b rfl) rfl rfl ?_
 have hbl := hbd.1
 refine a_pv rfl rfl hcv o_c (by simp only [List.length_map]; omega) (by simp only [List.length_map, maxLen]; omega) fun v1 => ?_
 refine o_fG 1 fun Vf1 hVf1 hc1 => ?_
 have hF := hF.mono hVf1
 have hP := hP.mono hVf1
 have hQ := hQ.mono hVf1
 have ht := ht.mono hVf1
 have hd1 := hd1.mono hVf1
 have hd2 := hd2.mono hVf1
 have hd3 := hd3.mono hVf1
 have hov := hov.mono hVf1
 have hcv := hcv.mono hVf1
 have hkl : Ints .i64 Vf1 v1 ((oK F B tm s 0).2 :: (oK F B tm s 0).1) := Ints.cons hc1
 refine oq (f_c (keyR_c ht hkl hbd.1 (seen_bd hbd.2.1) hbd.2.2) rfl rfl) ?_
 refine s_3 ?_
 refine ra1 ?_
 rfl

set_option maxRecDepth 100000 in
set_option maxHeartbeats 4000000 in
theorem rSp_c {V : HV} {va ha ba : Value} {F : Fl} (hF : Fls V va ha ba F) (hVa : Valid F) :
    FnC Tryz.prog 167 [(.agg #[va, ha, ba])] V [] (fun v _ _ => v = .tuple #[(.int .i64 (spc F.vs 1)), (.int .i64 (spc F.vs 3))]) := by
 refine f_i Tryz.func167 ?_
 intro w0 D
 obtain ⟨hvs, hH⟩ := hF.h
 obtain ⟨xQ, hQb⟩ := hF.b.sl
 have hbvv := SlS.bound hF.v
 have hbh := SlS.bound hH.sl
 have hbb := SlS.bound hQb
 have h64 : F.vs.length ≤ 64 := by have := hVa.sz.1; omega
 have n1 := spc_pos' hVa.vs 1
 have n3 := spc_pos' hVa.vs 3
 have n4 := hVa.vs.s1
 have n5 := hVa.vs.s2
 have n6 := hVa.vs.s3
 refine s_2 ?_
 refine b_ox fun b1 => ?_
 refine s_7 ?_
 refine oq (f_c (dSpace_c hF.v h64 hVa.vs o_m o_m) rfl rfl) ?_
 refine s_9 ?_
 refine oq (f_c (dSpace_c hF.v h64 hVa.vs o_m o_m) rfl rfl) ?_
 refine s_13 ?_
 exact rt2 rfl rfl

set_option maxRecDepth 100000 in
set_option maxHeartbeats 4000000 in
theorem rCls_c {V : HV} {va ha ba : Value} {F : Fl} (hF : Fls V va ha ba F) (hVa : Valid F) {fid : Nat} {caps : List Value} {kf : Nat → ByteArray} (hf : ∀ s : Int, 0 ≤ s → s < spc F.vs 1 → FnC Tryz.prog fid (.int .i64 s :: caps) V [] (fun v _ _ => v = .string (kf s.toNat))) :
    FnC Tryz.prog 110 [(.agg #[va, ha, ba]), (Value.func (.func fid) #[] caps.toArray)] V [] (fun v V' σ' => σ' = [] ∧ ∃ P : List Int, Ints .i64 V' v P ∧ Lab kf (spc F.vs 1).toNat P) := by
 refine FnC.drop ?_
 refine f_i Tryz.func110 ?_
 intro w0 D
 obtain ⟨hvs, hH⟩ := hF.h
 obtain ⟨xQ, hQb⟩ := hF.b.sl
 have hbvv := SlS.bound hF.v
 have hbh := SlS.bound hH.sl
 have hbb := SlS.bound hQb
 have h64 : F.vs.length ≤ 64 := by have := hVa.sz.1; omega
 have n1 := spc_pos' hVa.vs 1
 have n3 := spc_pos' hVa.vs 3
 have n4 := hVa.vs.s1
 have n5 := hVa.vs.s2
 have n6 := hVa.vs.s3
 refine s_2 ?_
 refine b_ox fun b1 => ?_
 refine s_5 ?_
 refine oq (f_c (rSp_c hF hVa) rfl rfl) ?_
 refine s_8 ?_
 refine ops_mkmap0 Value.string (Value.int .i64) (fun b2 => ?_)
 refine s_5 ?_
 refine ops_make (n := spc F.vs 1) UL.out TZ.out rfl rfl rfl rfl o_m o_m o_m (fun b3 => ?_)
 refine s_9 ?_
 refine lp3 [0,1,2,4,5,7,8,21] (fun (s : Int) (f : FK) (Z : List Int) => [(22, (Value.int .i64 s))]) (fun s f Z => [(Arr 26 b1 [va, ha, ba]), (Mf b2 Value.string (Value.int .i64) f), (Arr 3 b3 (Z.map (Value.int .i64)))]) (fun s f Z => 0 ≤ s ∧ s ≤ spc F.vs 1 ∧ (Z.length : Int) = spc F.vs 1 ∧ ClI kf s.toNat f Z) (fun s f Z => (spc F.vs 1 - s).toNat) 0 (fun _ => none) ((List.replicate (spc F.vs 1).toNat (0 : Int))) ?_ ?_ ?_ ?_ 
 · exact ⟨rfl, trivial⟩
 · (first | (rw [List.map_replicate]; done) | (rw [List.map_replicate]; rfl))
 · exact ⟨by omega, by omega, by rw [List.length_replicate]; omega, ClI.init⟩
 rintro s f Z e1 ⟨s0, s1, hzl, hci⟩
 refine s_5 ?_
 refine iff' ?_ ?_ <;> intro c1
 ·
  refine s_4 ?_
  have hs1 : (s + 1).toNat = s.toNat + 1 := by omega
  have hs2 : s = (s.toNat : Nat) := by omega
  have hzm : (Z.map (Value.int .i64)).length = (spc F.vs 1).toNat := by rw [List.length_map]; omega
  refine s_8 ?_
  refine oq (f_c (hf s s0 o_m) rfl rfl) ?_
  refine s_7 ?_
  refine oq (qv_look (a0 := 0) (key := (kf s.toNat)) (k := 1) UL.out (KeyT.str Tryz.underlying9) TZ.out rfl rfl rfl) ?_
  refine s_11 ?_
  refine iff' ?_ ?_ <;> intro c2
  ·
   refine s_4 ?_
   refine oq (qv_lenM (k := 1) UL.out rfl rfl hci.keys rfl) ?_
   refine ops_mapset (k := 1) (key := (kf s.toNat)) (v := ((clsK kf s.toNat).length : Int)) UL.out (KeyT.str Tryz.underlying9) rfl rfl rfl rfl ?_
   refine s_6 ?_
   refine oq (qv_look1 (a0 := 0) (key := (kf s.toNat)) (k := 1) UL.out (KeyT.str Tryz.underlying9) TZ.out rfl rfl rfl) ?_
   refine oq (qv_ia (v := (.slice (some ⟨b3, 0, none⟩) (spc F.vs 1).toNat (spc F.vs 1).toNat)) UL.out SZ.out rfl (inO (k := 2) rfl (by rw [List.length_map]; omega) (Nat.le_refl _) o_m) rfl o_m o_m) ?_
   refine ops_ste (k := 2) (b := b3) (n := (spc F.vs 1).toNat) (c := (spc F.vs 1).toNat) (i := s) (cs := (Z.map (Value.int .i64))) SZ.out rfl (rfl : ev _ _ = (.int .i64 (((setF f ((kf s.toNat)) (((clsK kf s.toNat).length : Int))) ((kf s.toNat))).getD 0))) rfl rfl o_m o_m ?_
   refine s_5 ?_
   exact le3 (s + 1) (setF f ((kf s.toNat)) (((clsK kf s.toNat).length : Int))) ((Z.set s.toNat (((setF f ((kf s.toNat)) (((clsK kf s.toNat).length : Int))) ((kf s.toNat))).getD 0))) ⟨(c_i o_m), trivial⟩ ⟨by omega, by omega, by rw [List.length_set]; exact hzl, by rw [hs1]; exact ClI.new hci (some_no c2) (fun x a b => gi_setn a o_m o_m) (by rw [← hs2, gi_sets o_m o_m]; rw [setF_same]; rfl)⟩ (hr := by first | (rw [List.map_set]; done) | (rw [List.map_set]; try rfl))
  ·
   refine s_6 ?_
   refine oq (qv_look1 (a0 := 0) (key := (kf s.toNat)) (k := 1) UL.out (KeyT.str Tryz.underlying9) TZ.out rfl rfl rfl) ?_
   refine oq (qv_ia (v := (.slice (some ⟨b3, 0, none⟩) (spc F.vs 1).toNat (spc F.vs 1).toNat)) UL.out SZ.out rfl (inO (k := 2) rfl (by rw [List.length_map]; omega) (Nat.le_refl _) o_m) rfl o_m o_m) ?_
   refine ops_ste (k := 2) (b := b3) (n := (spc F.vs 1).toNat) (c := (spc F.vs 1).toNat) (i := s) (cs := (Z.map (Value.int .i64))) SZ.out rfl (rfl : ev _ _ = (.int .i64 ((f ((kf s.toNat))).getD 0))) rfl rfl o_m o_m ?_
   refine s_5 ?_
   exact le3 (s + 1) f ((Z.set s.toNat ((f ((kf s.toNat))).getD 0))) ⟨(c_i o_m), trivial⟩ ⟨by omega, by omega, by rw [List.length_set]; exact hzl, by rw [hs1]; exact ClI.old hci (j := (f (kf s.toNat)).getD 0) (some_yes (Decidable.not_not.1 c2)) (fun x a b => gi_setn a o_m o_m) (by rw [← hs2, gi_sets o_m o_m])⟩ (hr := by first | (rw [List.map_set]; done) | (rw [List.map_set]; try rfl))
 ·
  refine s_3 ?_
  refine v_f 2 fun Vf1 hVf1 hc1 => ?_
  have hF := hF.mono hVf1
  refine s_2 ?_
  have hlb : Ints .i64 Vf1 (.slice (some ⟨b3, 0, none⟩) (spc F.vs 1).toNat (spc F.vs 1).toNat) Z := ints_cells hc1 o_m (Nat.le_refl _) o_m
  refine c_l [] (pof_c hlb o_m) rfl rfl fun r1 V1 sg1 hV1 hp1 => ?_
  obtain ⟨rfl, P, hPv, hPl⟩ := hp1
  have hF := hF.mono hV1
  have hc1 := hc1.mono hV1
  refine s_3 ?_
  refine ra1 ?_
  exact ⟨[], _, .refl _, rfl, P, hPv, Lab.trans (by have := hci.lab o_m; rw [show (spc F.vs 1).toNat = s.toNat by omega]; exact this) hPl⟩

end Go.Proofs.YtbchkopkgpfkgaaGreatDoor
