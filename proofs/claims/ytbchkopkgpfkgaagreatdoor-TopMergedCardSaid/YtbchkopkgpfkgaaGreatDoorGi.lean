/- Gi. -/
import Derived.Test.YtbchkopkgpfkgaaGreatDoorTi
import Derived.Test.YtbchkopkgpfkgaaGreatDoorWp
import Derived.Test.YtbchkopkgpfkgaaGreatDoorTy
import Derived.Test.YtbchkopkgpfkgaaGreatDoorWb
namespace Go.Proofs.YtbchkopkgpfkgaaGreatDoor
open Go.Vc
open Classical

set_option maxRecDepth 100000 in
set_option maxHeartbeats 4000000 in
theorem dsize_c {V : HV} {n : ByteArray} {a b c d : Int} (h1 : -1048576 ≤ b) (h2 : c ≤ 1048576) (h3 : b ≤ c) :
    FnC Tryz.prog 91 [(.agg #[(Value.string n), (Value.int .i64 a), (Value.int .i64 b), (Value.int .i64 c), (Value.int .i64 d)])] V [] (fun v _ _ => v = (.int .i64 (c - b + 1))) := by
 refine f_i Tryz.func91 ?_
 intro w0 D
 refine s_2 ?_
 refine b_ox fun b1 => ?_
 refine s_13 ?_
 exact rt1 (c_i o_m)

set_option maxRecDepth 100000 in
set_option maxHeartbeats 4000000 in
theorem chosen_c {V : HV} {va : Value} {vs : List Vr} {k : Int} (hv : Vrs V va vs) (h64 : vs.length ≤ 64) (hV : VarsOk vs) (hk0 : k = 0 ∨ k = 1 ∨ k = 2 ∨ k = 3) (hs : spc vs k ≤ 4096) :
    FnC Tryz.prog 90 [va, (Value.int .i64 k)] V [] (fun v V' σ' => σ' = [] ∧ ∃ u, v = .tuple #[u, .int .i64 (spc vs k), .int .i64 0] ∧ Vrs V' u (vfl vs k)) := by
 refine f_i Tryz.func90 ?_
 intro w0 D
 have hs0 := hs
 have hb := SlS.bound hv
 have hfl := hV.fl k
 have hpp := prd_le (l := vfl vs k) (fun v q => (hfl v q).1)
 rw [spc_prd] at hs
 have hln := vfl_le (vs := vs) (k := k)
 refine s_11 ?_
 refine j_n [0,1,13] [] ?_ (fun e1 => ?_)
 ·
  refine s_7 ?_
  refine iff' ?_ ?_ <;> intro c1
  ·
   refine s_1 ?_
   refine i_ft c1 ?_
   refine s_1 ?_
   exact j_e trivial
  ·
   refine s_5 ?_
   refine iff' ?_ ?_ <;> intro c2
   ·
    refine s_1 ?_
    refine i_ft c2 ?_
    refine s_1 ?_
    exact j_e trivial
   ·
    refine s_5 ?_
    refine iff' ?_ ?_ <;> intro c3
    ·
     refine s_1 ?_
     refine i_ft c3 ?_
     refine s_1 ?_
     exact j_e trivial
    ·
     refine s_4 ?_
     refine iff' ?_ ?_ <;> intro c4
     ·
      refine s_1 ?_
      exact j_e trivial
     ·
      omega
 refine s_1 ?_
 refine vc_nil 71 5 ?_
 refine s_7 ?_
 refine oq (qv_lenSS UL.out rfl hv) ?_
 refine s_3 ?_
 refine lp2 [0,1,13,19,20] (fun (i : Int) (u : Value) => [(7, u), (21, (Value.int .i64 i))]) (fun i u => [(Gr 71 5 u ((vfl (vs.take i.toNat) k).length) ((vrcs (vfl (vs.take i.toNat) k))))]) (fun i u => 0 ≤ i ∧ i ≤ vs.length) (fun i u => (vs.length - i).toNat) 0 ((Value.slice none 0 0)) ?_ ?_ ?_ ?_ 
 · exact ⟨(by first | rfl | (first | omega | simp)), rfl, trivial⟩
 · (rfl)
 · exact ⟨by omega, by omega⟩
 rintro i u e2 ⟨i1, i2⟩
 refine s_5 ?_
 refine iff' ?_ ?_ <;> intro c5
 ·
  refine s_5 ?_
  refine oq (qv_ias UL.out SZ.out e_vm hv rfl o_m o_m) ?_
  refine oq (qv_lds AG.out rfl hv o_m o_m (vrcs_at o_m o_m)) ?_
  refine a_lo fun b1 => ?_
  refine s_10 ?_
  refine iff' ?_ ?_ <;> intro c6
  ·
   refine s_2 ?_
   refine v_d 1 ?_
   refine s_4 ?_
   exact le2 (i + 1) u ⟨rfl, (c_i o_m), trivial⟩ ⟨by omega, by omega⟩ (hr := by first | (rw [vfl_y i1 o_m o_m, List.length_append, vrcs_snoc]; rfl) | rw [vfl_n i1 o_m o_m])
  ·
   refine s_3 ?_
   have hm := hV.ord _ (vr_in (l := vs) i1 o_m)
   obtain ⟨hm1, hm2, hm3⟩ := hm
   refine j_n [0,1,7,9,13,19,20,21,22,28] [(43, (.bool (decide (((((vr vs (i)).hi) < ((vr vs (i)).lo)) ∨ (((vr vs (i)).lo) < ((-1048576)))) ∨ (1048576 < ((vr vs (i)).hi))))))] ?_ (fun e3 => ?_)
   ·
    refine s_7 ?_
    by_cases g1 : ((vr vs (i)).hi) < ((vr vs (i)).lo)
    ·
     refine s_10 ?_
     exact j_e ⟨(jt (.inl (.inl g1))), trivial⟩
    ·
     refine s_5 ?_
     by_cases g2 : ((vr vs (i)).lo) < ((-1048576))
     ·
      omega
     ·
      refine s_5 ?_
      exact j_e ⟨(jb (jo (fun z => g2 ((jo g1 Iff.rfl).2 z)) Iff.rfl)), trivial⟩
   refine iff' ?_ ?_ <;> intro c7
   ·
    omega
   ·
    refine s_4 ?_
    refine ops_lit (n := 1) (s := 5) (cs := [(Value.string (vr vs (i)).nm), (.int .i64 ((vr vs (i)).kd)), (.int .i64 ((vr vs (i)).lo)), (.int .i64 ((vr vs (i)).hi)), (.int .i64 ((vr vs (i)).ini))]) UL.out TZ.out (l_b rfl) rfl rfl rfl (l_b rfl) rfl (fun b2 => ?_)
    refine a_po rfl rfl rfl o_c (by have := vfl_lt (vs := vs) (k := k) (i := i); first | omega | (simp only [maxLen]; omega)) (by have := vfl_lt (vs := vs) (k := k) (i := i); first | omega | (simp only [maxLen]; omega)) fun v1 hn1 => ?_
    refine s_2 ?_
    refine v_d 2 ?_
    refine v_d 1 ?_
    refine s_4 ?_
    exact le2 (i + 1) v1 ⟨rfl, (c_i o_m), trivial⟩ ⟨by omega, by omega⟩ (hr := by first | (rw [vfl_y i1 o_m o_m, List.length_append, vrcs_snoc]; rfl) | rw [vfl_n i1 o_m o_m])
 ·
  refine s_3 ?_
  refine v_fS 0 fun Vf1 hVf1 hc1 => ?_
  have hv := hv.mono hVf1
  refine s_5 ?_
  have hL : Vrs Vf1 u (vfl vs k) := by have q := hc1; rw [List.take_of_length_le o_m] at q; exact q
  refine s_2 ?_
  refine oq (qv_lenSS UL.out rfl hL) ?_
  refine s_3 ?_
  refine lc1 [0,1,7,13,19,20,21,22,49,50] (fun (j : Int) => [(10, (.int .i64 (prd ((vfl vs k).take j.toNat)))), (51, (Value.int .i64 j))]) (fun j => 0 ≤ j ∧ j ≤ (vfl vs k).length) (fun j => ((vfl vs k).length - j).toNat) 0 ?_ ?_ ?_ 
  · exact ⟨(c_i (by rfl)), rfl, trivial⟩
  · exact ⟨by omega, by omega⟩
  rintro j e4 ⟨j1, j2⟩
  refine s_5 ?_
  refine iff' ?_ ?_ <;> intro c8
  ·
   refine s_5 ?_
   refine oq (qv_ias UL.out SZ.out e_vm hL rfl o_m o_m) ?_
   refine oq (qv_lds AG.out rfl hL o_m o_m (vrcs_at o_m o_m)) ?_
   refine a_lo fun b3 => ?_
   refine s_3 ?_
   have hm := hfl _ (vr_in (l := (vfl vs k)) j1 o_m)
   obtain ⟨hm1, hm2, hm3⟩ := hm
   have hp1 := hpp j.toNat
   have hp2 := hpp (j + 1).toNat
   have hp3 := prd_take (l := (vfl vs k)) j1 o_m
   refine s_3 ?_
   refine oq (f_c (dsize_c o_m o_m o_m) rfl rfl) ?_
   refine s_8 ?_
   refine iff' ?_ ?_ <;> intro c9
   ·
    omega
   ·
    refine s_1 ?_
    refine v_d 0 ?_
    refine s_4 ?_
    exact le1 (j + 1) ⟨(c_i (by rw [prd_take j1 o_m])), (c_i (by rfl)), trivial⟩ ⟨by omega, by omega⟩
  ·
   refine s_11 ?_
   refine ra3 ?_
   have e : prd ((vfl vs k).take j.toNat) = spc vs k := by rw [spc_prd, List.take_of_length_le o_m]
   rw [e]
   exact ⟨rfl, _, rfl, hL⟩

end Go.Proofs.YtbchkopkgpfkgaaGreatDoor

namespace Go.Proofs.YtbchkopkgpfkgaaGreatDoor
open Go.Vc
open Classical

set_option maxRecDepth 100000 in
set_option maxHeartbeats 4000000 in
theorem dSpace_c {V : HV} {va : Value} {vs : List Vr} {k : Int} (hv : Vrs V va vs) (h64 : vs.length ≤ 64) (hV : VarsOk vs) (hk0 : k = 0 ∨ k = 1 ∨ k = 2 ∨ k = 3) (hs : spc vs k ≤ 4096) :
    FnC Tryz.prog 30 [va, (Value.int .i64 k)] V [] (fun v _ _ => v = .tuple #[(.int .i64 (spc vs k)), (Value.int .i64 0)]) := by
 refine f_i Tryz.func30 ?_
 intro w0 D
 have hs0 := hs
 refine s_9 ?_
 refine c_l [] (chosen_c hv h64 hV hk0 hs0) rfl rfl fun r1 V1 sg1 hV1 hp1 => ?_
 obtain ⟨rfl, u, rfl, hL⟩ := hp1
 have hv := hv.mono hV1
 refine s_16 ?_
 exact rt2 rfl rfl

set_option maxRecDepth 100000 in
set_option maxHeartbeats 4000000 in
theorem dRank_c {V : HV} {va : Value} {vs : List Vr} {k : Int} (hv : Vrs V va vs) (h64 : vs.length ≤ 64) (hV : VarsOk vs) (hk0 : k = 0 ∨ k = 1 ∨ k = 2 ∨ k = 3) (hs : spc vs k ≤ 4096) {pv : Value} {xs : List Int} (hx : Ints .i64 V pv xs) :
    FnC Tryz.prog 29 [va, (Value.int .i64 k), pv] V [] (fun v _ _ => v = .tuple #[(.int .i64 (rkV (vfl vs k) xs)), (.int .i64 (rkE (vfl vs k) xs))]) := by
 refine f_i Tryz.func29 ?_
 intro w0 D
 have hs0 := hs
 have hb := SlS.bound hv
 have hfl := hV.fl k
 have hpp := prd_le (l := vfl vs k) (fun v q => (hfl v q).1)
 rw [spc_prd] at hs
 have hln := vfl_le (vs := vs) (k := k)
 have hbx := hx.bound
 refine s_9 ?_
 refine c_l [] (chosen_c hv h64 hV hk0 hs0) rfl rfl fun r1 V1 sg1 hV1 hp1 => ?_
 obtain ⟨rfl, u, rfl, hL⟩ := hp1
 have hv := hv.mono hV1
 have hx := hx.mono hV1
 refine s_16 ?_
 refine iff' ?_ ?_ <;> intro c1
 ·
  refine s_8 ?_
  exact rt2 (c_i (by first | exact (rk_2 o_m).2.symm | exact (rk_3 o_m i1 o_m o_m).2.symm | exact (rk_0 o_m (fun x a b => hin x a o_m)).1.symm | (rw [(rk_0 o_m (fun x a b => hin x a o_m)).2]; first | rfl | (congr 1; omega)) | (exfalso; omega))) (c_i (by first | exact (rk_2 o_m).1.symm | exact (rk_3 o_m i1 o_m o_m).1.symm | exact (rk_0 o_m (fun x a b => hin x a o_m)).1.symm | (rw [(rk_0 o_m (fun x a b => hin x a o_m)).2]; first | rfl | (congr 1; omega)) | (exfalso; omega)))
 ·
  refine s_3 ?_
  refine oq (qv_lenI UL.out rfl hx) ?_
  refine s_1 ?_
  refine oq (qv_lenSS UL.out rfl hL) ?_
  refine s_3 ?_
  refine iff' ?_ ?_ <;> intro c2
  ·
   refine s_7 ?_
   exact rt2 (c_i (by first | exact (rk_2 o_m).2.symm | exact (rk_3 o_m i1 o_m o_m).2.symm | exact (rk_0 o_m (fun x a b => hin x a o_m)).1.symm | (rw [(rk_0 o_m (fun x a b => hin x a o_m)).2]; first | rfl | (congr 1; omega)) | (exfalso; omega))) (c_i (by first | exact (rk_2 o_m).1.symm | exact (rk_3 o_m i1 o_m o_m).1.symm | exact (rk_0 o_m (fun x a b => hin x a o_m)).1.symm | (rw [(rk_0 o_m (fun x a b => hin x a o_m)).2]; first | rfl | (congr 1; omega)) | (exfalso; omega)))
  ·
   refine s_9 ?_
   refine oq (qv_lenSS UL.out rfl hL) ?_
   refine s_3 ?_
   refine lc1 [0,1,2,8,10,21,25,31,32] (fun (i : Int) => [(11, (.int .i64 (rkN (vfl vs k) xs i.toNat))), (33, (Value.int .i64 i))]) (fun i => 0 ≤ i ∧ i ≤ (vfl vs k).length ∧ ∀ x : Int, 0 ≤ x → x < i → (vr (vfl vs k) x).lo ≤ gi xs x ∧ gi xs x ≤ (vr (vfl vs k) x).hi) (fun i => ((vfl vs k).length - i).toNat) 0 ?_ ?_ ?_ 
   · exact ⟨(c_i (by rfl)), rfl, trivial⟩
   · exact ⟨by omega, by omega, fun x a b => by omega⟩
   rintro i e1 ⟨i1, i2, hin⟩
   refine s_5 ?_
   refine iff' ?_ ?_ <;> intro c3
   ·
    refine s_4 ?_
    have hm := hfl _ (vr_in (l := (vfl vs k)) i1 o_m)
    obtain ⟨hm1, hm2, hm3⟩ := hm
    have hr := rkN_bd (xs := xs) i1 i2 hin
    have hp1 := hpp i.toNat
    have hmm := mulb (a := rkN (vfl vs k) xs i.toNat) (b := (vr (vfl vs k) i).hi - (vr (vfl vs k) i).lo + 1) (A := 4096) (B := 4194304) o_m o_m o_m o_m
    refine s_2 ?_
    refine oq (qv_ias UL.out SZ.out e_vm hL rfl o_m o_m) ?_
    refine oq (qv_lds AG.out rfl hL o_m o_m (vrcs_at o_m o_m)) ?_
    refine a_lo fun b1 => ?_
    refine s_5 ?_
    refine j_n [0,1,2,8,10,11,12,13,21,25,31,32,33,34] [(53, (.bool (decide (((gi xs (i)) < ((vr ((vfl vs k)) (i)).lo)) ∨ (((vr ((vfl vs k)) (i)).hi) < (gi xs (i)))))))] ?_ (fun e2 => ?_)
    ·
     refine s_3 ?_
     refine qq (qv_iai UL.out SZ.out e_vm (inVi hx) rfl o_m o_m) ?_
     refine qq (qv_ldi PL.out rfl (inVi hx) o_m o_m) ?_
     refine s_4 ?_
     by_cases g1 : (gi xs (i)) < ((vr ((vfl vs k)) (i)).lo)
     ·
      refine s_9 ?_
      exact j_e ⟨(jt (.inl g1)), trivial⟩
     ·
      refine s_2 ?_
      refine qg (qv_iai UL.out SZ.out e_vm (inVi hx) rfl o_m o_m) w_a ?_
      refine qg (qv_ldi PL.out rfl (inVi hx) o_m o_m) w_a ?_
      refine s_5 ?_
      exact j_e ⟨(jb (jo g1 Iff.rfl)), trivial⟩
    refine iff' ?_ ?_ <;> intro c4
    ·
     refine s_8 ?_
     exact rt2 (c_i (by first | exact (rk_2 o_m).2.symm | exact (rk_3 o_m i1 o_m o_m).2.symm | exact (rk_0 o_m (fun x a b => hin x a o_m)).1.symm | (rw [(rk_0 o_m (fun x a b => hin x a o_m)).2]; first | rfl | (congr 1; omega)) | (exfalso; omega))) (c_i (by first | exact (rk_2 o_m).1.symm | exact (rk_3 o_m i1 o_m o_m).1.symm | exact (rk_0 o_m (fun x a b => hin x a o_m)).1.symm | (rw [(rk_0 o_m (fun x a b => hin x a o_m)).2]; first | rfl | (congr 1; omega)) | (exfalso; omega)))
    ·
     refine s_4 ?_
     refine qq (f_c (dsize_c o_m o_m o_m) rfl rfl) ?_
     refine s_3 ?_
     refine qq (qv_iai UL.out SZ.out e_vm (inVi hx) rfl o_m o_m) ?_
     refine qq (qv_ldi PL.out rfl (inVi hx) o_m o_m) ?_
     refine s_6 ?_
     refine v_d 0 ?_
     refine s_4 ?_
     exact le1 (i + 1) ⟨(c_i (by rw [rkN_s i1])), (c_i (by rfl)), trivial⟩ ⟨by omega, by omega, all_snoc hin o_m⟩
   ·
    refine s_9 ?_
    exact rt2 (c_i (by first | exact (rk_2 o_m).2.symm | exact (rk_3 o_m i1 o_m o_m).2.symm | exact (rk_0 o_m (fun x a b => hin x a o_m)).1.symm | (rw [(rk_0 o_m (fun x a b => hin x a o_m)).2]; first | rfl | (congr 1; omega)) | (exfalso; omega))) (c_i (by first | exact (rk_2 o_m).1.symm | exact (rk_3 o_m i1 o_m o_m).1.symm | exact (rk_0 o_m (fun x a b => hin x a o_m)).1.symm | (rw [(rk_0 o_m (fun x a b => hin x a o_m)).2]; first | rfl | (congr 1; omega)) | (exfalso; omega)))

end Go.Proofs.YtbchkopkgpfkgaaGreatDoor

namespace Go.Proofs.YtbchkopkgpfkgaaGreatDoor
open Go.Vc
open Classical

set_option maxRecDepth 100000 in
set_option maxHeartbeats 4000000 in
theorem Unrank_c {V : HV} {va : Value} {vs : List Vr} {k : Int} (hv : Vrs V va vs) (h64 : vs.length ≤ 64) (hV : VarsOk vs) (hk0 : k = 0 ∨ k = 1 ∨ k = 2 ∨ k = 3) (hs : spc vs k ≤ 4096) {r : Int} (r0 : 0 ≤ r) (r1 : r < spc vs k) :
    FnC Tryz.prog 92 [va, (Value.int .i64 k), (Value.int .i64 r)] V [] (fun v V' σ' => σ' = [] ∧ ∃ u, v = .tuple #[u, .int .i64 0] ∧ Ints .i64 V' u (unL (vfl vs k) r)) := by
 refine f_i Tryz.func92 ?_
 intro w0 D
 have hs0 := hs
 have hb := SlS.bound hv
 have hfl := hV.fl k
 have hpp := prd_le (l := vfl vs k) (fun v q => (hfl v q).1)
 rw [spc_prd] at hs
 have hln := vfl_le (vs := vs) (k := k)
 refine s_9 ?_
 refine c_l [] (chosen_c hv h64 hV hk0 hs0) rfl rfl fun r1 V1 sg1 hV1 hp1 => ?_
 obtain ⟨rfl, u, rfl, hL⟩ := hp1
 have hv := hv.mono hV1
 refine s_16 ?_
 refine iff' ?_ ?_ <;> intro c1
 ·
  omega
 ·
  refine s_5 ?_
  by_cases g1 : r < 0
  ·
   omega
  ·
   refine s_6 ?_
   refine iff' ?_ ?_ <;> intro c2
   ·
    omega
   ·
    refine s_4 ?_
    refine oq (qv_lenSS UL.out rfl hL) ?_
    refine ops_make (n := (((vfl vs k)).length : Int)) UL.out TZ.out rfl rfl rfl rfl o_m o_m o_m (fun b1 => ?_)
    refine s_6 ?_
    refine oq (qv_lenSS UL.out rfl hL) ?_
    refine s_4 ?_
    refine lp2 [0,1,6,7,8,9,10,11,21,25] (fun (j : Int) (Z : List Int) => [(2, (.int .i64 (r / prd ((vfl vs k).drop (j + 1).toNat)))), (12, (Value.int .i64 j))]) (fun j Z => [(Arr 3 b1 (Z.map (Value.int .i64)))]) (fun j Z => -1 ≤ j ∧ j < (vfl vs k).length ∧ Z.length = (vfl vs k).length ∧ ∀ x : Int, j < x → x < (vfl vs k).length → gi Z x = unE (vfl vs k) r x) (fun j Z => (j + 1).toNat) ((((vfl vs k).length : Int) - 1)) ((List.replicate (vfl vs k).length (0 : Int))) ?_ ?_ ?_ ?_ 
    · exact ⟨(c_i (by rw [show (((vfl vs k).length : Int) - 1 + 1).toNat = (vfl vs k).length by omega, List.drop_length]; show r = r / 1; omega)), (c_i (by rfl)), trivial⟩
    · (rw [List.map_replicate]; rfl)
    · exact ⟨by omega, by omega, by rw [List.length_replicate], fun x a b => by omega⟩
    rintro j Z e1 ⟨j1, j2, hz, ha⟩
    refine s_6 ?_
    refine iff' ?_ ?_ <;> intro c3
    ·
     refine s_4 ?_
     have hm := hfl _ (vr_in (l := (vfl vs k)) (i := j) o_m o_m)
     obtain ⟨hm1, hm2, hm3⟩ := hm
     have hd0 := Int.ediv_nonneg r0 (show 0 ≤ prd ((vfl vs k).drop (j + 1).toNat) by have := prd_dpos (L := (vfl vs k)) (fun v q => (hfl v q).1) (j + 1).toNat; omega)
     have hd1 := Int.ediv_le_self (prd ((vfl vs k).drop (j + 1).toNat)) r0
     have hun := un_in (r := r) (fun v q => (hfl v q).1) (show 0 ≤ j by omega) j2
     unfold unE at hun
     have hzm : (Z.map (Value.int .i64)).length = (vfl vs k).length := by rw [List.length_map]; exact hz
     refine s_3 ?_
     refine oq (qv_ias UL.out SZ.out e_vm hL rfl o_m o_m) ?_
     refine oq (qv_lds AG.out rfl hL o_m o_m (vrcs_at o_m o_m)) ?_
     refine oq (f_c (dsize_c o_m o_m o_m) rfl rfl) ?_
     refine s_3 ?_
     refine ro1 [qt 0,qt 1,qt 2,qt 3,qt 4,qt 5,qt 6,qt 7,qt 8,qt 9,qt 10,qt 11,ld 12] ?_
     refine s_4 ?_
     refine rq rfl (qv_ias UL.out SZ.out e_vm hL rfl o_m o_m) ?_
     refine rq rfl (qv_fas FI.out rfl hL o_m o_m) ?_
     refine rq rfl (qv_ldf PL.out rfl hL o_m o_m o_m (vrcs_el (o := 2) o_m o_m o_m rfl)) ?_
     refine s_2 ?_
     refine rq rfl (qv_rem rfl rfl o_m o_m) ?_
     refine s_1 ?_
     refine rq rfl (qv_ia (v := (.slice (some ⟨b1, 0, none⟩) ((((vfl vs k)).length : Int)).toNat ((((vfl vs k)).length : Int)).toNat)) UL.out SZ.out rfl (inO (k := 0) rfl (by rw [List.length_map]; omega) (Nat.le_refl _) o_m) rfl o_m o_m) ?_
     refine rl_o ?_
     refine ops_ste (k := 0) (b := b1) (n := ((((vfl vs k)).length : Int)).toNat) (c := ((((vfl vs k)).length : Int)).toNat) (i := j) (cs := (Z.map (Value.int .i64))) SZ.out rfl (rfl : ev _ _ = (.int .i64 (((vr ((vfl vs k)) (j)).lo) + ((r / prd ((vfl vs k).drop (j + 1).toNat)) % ((vr (vfl vs k) j).hi - (vr (vfl vs k) j).lo + 1))))) rfl rfl o_m o_m ?_
     refine on1 ?_
     refine s_4 ?_
     refine oq (qv_quo rfl rfl o_m o_m) ?_
     refine s_7 ?_
     exact le2 (j - 1) ((Z.set j.toNat (unE (vfl vs k) r j))) ⟨(c_i (by rw [show j - 1 + 1 = j by omega, ← un_next (L := (vfl vs k)) (r := r) (i := j) (fun v q => (hfl v q).1) o_m o_m])), (c_i (by rfl)), trivial⟩ ⟨by omega, by omega, by rw [List.length_set]; exact hz, un_step (L := (vfl vs k)) (j := j) hz o_m o_m ha⟩ (hr := by rw [List.map_set]; try rfl)
    ·
     refine s_8 ?_
     refine v_f 0 fun Vf1 hVf1 hc1 => ?_
     have hv := hv.mono hVf1
     refine s_1 ?_
     refine ra2 ?_
     exact ⟨rfl, _, rfl, by rw [Int.toNat_natCast]; exact un_done hc1 hz (fun x a b => ha x o_m b) (Nat.le_refl _) o_m⟩

end Go.Proofs.YtbchkopkgpfkgaaGreatDoor

namespace Go.Proofs.YtbchkopkgpfkgaaGreatDoor
open Go.Vc
open Classical

set_option maxRecDepth 100000 in
set_option maxHeartbeats 4000000 in
theorem Inputs_c {V : HV} {va : Value} {vs : List Vr} {a b c : Int} (hv : Vrs V va vs) (h64 : vs.length ≤ 64) (hV : VarsOk vs) (a0 : 0 ≤ a) (a1 : a < spc vs 1) (b0 : 0 ≤ b) (b1 : b < spc vs 2) (c0 : 0 ≤ c) (c1 : c < spc vs 3) :
    FnC Tryz.prog 31 [va, (Value.int .i64 a), (Value.int .i64 b), (Value.int .i64 c)] V [] (fun v V' σ' => σ' = [] ∧ ∃ u1 u2 u3, v = .tuple #[.agg #[u1, u2, u3], .int .i64 0] ∧ Ints .i64 V' u1 (unL (vfl vs 1) a) ∧ Ints .i64 V' u2 (unL (vfl vs 2) b) ∧ Ints .i64 V' u3 (unL (vfl vs 3) c)) := by
 refine FnC.drop ?_
 refine f_i Tryz.func31 ?_
 intro w0 D
 have s1 := hV.s1
 have s2 := hV.s2
 have s3 := hV.s3
 refine s_2 ?_
 refine a_lo fun b1 => ?_
 refine s_7 ?_
 refine c_l [] (Unrank_c (k := 1) (r := a) hv h64 hV o_m o_m o_m o_m) rfl rfl fun r1 V1 sg1 hV1 hp1 => ?_
 obtain ⟨rfl, u1, rfl, hu1⟩ := hp1
 have hv := hv.mono hV1
 refine s_4 ?_
 refine s_tp rfl e_vm (Sl.one hu1) ?_
 refine s_2 ?_
 skip
 refine s_5 ?_
 refine iff' ?_ ?_ <;> intro c1
 ·
  exact absurd rfl c1
 ·
  refine s_6 ?_
  refine c_l [] (Unrank_c (k := 2) (r := b) hv h64 hV o_m o_m o_m o_m) rfl rfl fun r2 V2 sg2 hV2 hp2 => ?_
  obtain ⟨rfl, u2, rfl, hu2⟩ := hp2
  have hv := hv.mono hV2
  have hu1 := hu1.mono hV2
  refine s_4 ?_
  refine s_tp rfl e_vm (Sl.one hu2) ?_
  refine s_2 ?_
  skip
  refine s_5 ?_
  refine i_fn c1 ?_
  refine s_6 ?_
  refine c_l [] (Unrank_c (k := 3) (r := c) hv h64 hV o_m o_m o_m o_m) rfl rfl fun r3 V3 sg3 hV3 hp3 => ?_
  obtain ⟨rfl, u3, rfl, hu3⟩ := hp3
  have hv := hv.mono hV3
  have hu1 := hu1.mono hV3
  have hu2 := hu2.mono hV3
  refine s_4 ?_
  refine s_tp rfl e_vm (Sl.one hu3) ?_
  refine s_7 ?_
  refine i_fn c1 ?_
  refine s_4 ?_
  refine s_tw rfl rfl (allc (Sl.one hu1) (allc (Sl.one hu2) (allc (Sl.one hu3) rfl))) ?_
  refine s_3 ?_
  refine rs2 _ (Value.int .i64 0) (r_va rfl) (rv_t rfl) ?_
  exact ⟨[], _, .refl _, rfl, _, _, _, rfl, hu1, hu2, hu3⟩

end Go.Proofs.YtbchkopkgpfkgaaGreatDoor
