/- Fj. -/
import Derived.Test.YtbchkopkgpfkgaaGreatDoorTi
import Derived.Test.YtbchkopkgpfkgaaGreatDoorWp
import Derived.Test.YtbchkopkgpfkgaaGreatDoorTy
import Derived.Test.YtbchkopkgpfkgaaGreatDoorWb
import Derived.Test.YtbchkopkgpfkgaaGreatDoorFf
import Derived.Test.YtbchkopkgpfkgaaGreatDoorFa
namespace Go.Proofs.YtbchkopkgpfkgaaGreatDoor
open Go.Vc
open Classical

set_option maxRecDepth 100000 in
set_option maxHeartbeats 4000000 in
theorem OfR_c {V : HV} {va : Value} {vs : List Vr} {k : Int} (hv : Vrs V va vs) (h64 : vs.length ≤ 64) :
    FnC Tryz.prog 12 [va, (Value.int .i64 k)] V [] (fun v V' σ' => σ' = [] ∧ Vrs V' v (vfl vs k)) := by
 refine f_i Tryz.func12 ?_
 intro w0 D
 have hb := SlS.bound hv
 refine s_6 ?_
 refine ops_lit (n := 0) (s := 5) (cs := []) UL.out TZ.out (l_b rfl) rfl rfl rfl (l_b rfl) rfl (fun b1 => ?_)
 refine ops_to_gr (k := 0) (b := b1) (n := 0) (cap := 0) (cs := #[]) 5 [] rfl rfl (Nat.le_refl _) (Nat.zero_le _) rfl rfl ?_
 refine s_8 ?_
 refine lp2 [0,1,4] (fun (i : Int) (u : Value) => [(5, u), (6, (Value.int .i64 i))]) (fun i u => [(Gr 71 5 u ((vfl (vs.take i.toNat) k).length) ((vrcs (vfl (vs.take i.toNat) k))))]) (fun i u => 0 ≤ i ∧ i ≤ vs.length) (fun i u => (vs.length - i).toNat) 0 ((.slice (some ⟨b1, 0, none⟩) 0 0)) ?_ ?_ ?_ ?_ 
 · exact ⟨(by first | rfl | (first | omega | simp)), rfl, trivial⟩
 · (rfl)
 · exact ⟨by omega, by omega⟩
 rintro i u e1 ⟨i1, i2⟩
 refine s_5 ?_
 refine oq (qv_lenSS UL.out rfl hv) ?_
 refine s_2 ?_
 refine iff' ?_ ?_ <;> intro c1
 ·
  refine s_7 ?_
  refine oq (qv_ias UL.out SZ.out e_vm hv rfl o_m o_m) ?_
  refine oq (qv_fas FI.out rfl hv o_m o_m) ?_
  refine oq (qv_ldf PL.out rfl hv o_m o_m o_m (vrcs_el (o := 1) o_m o_m o_m rfl)) ?_
  refine s_3 ?_
  refine iff' ?_ ?_ <;> intro c2
  ·
   refine s_4 ?_
   refine oq (qv_ias UL.out SZ.out e_vm hv rfl o_m o_m) ?_
   refine oq (qv_lds AG.out rfl hv o_m o_m (vrcs_at o_m o_m)) ?_
   refine ops_lit (n := 1) (s := 5) (cs := [(Value.string (vr vs (i)).nm), (.int .i64 ((vr vs (i)).kd)), (.int .i64 ((vr vs (i)).lo)), (.int .i64 ((vr vs (i)).hi)), (.int .i64 ((vr vs (i)).ini))]) UL.out TZ.out (l_b rfl) rfl rfl rfl (l_b rfl) rfl (fun b2 => ?_)
   refine a_po rfl rfl rfl o_c (by have := vfl_lt (vs := vs) (k := k) (i := i); first | omega | (simp only [maxLen]; omega)) (by have := vfl_lt (vs := vs) (k := k) (i := i); first | omega | (simp only [maxLen]; omega)) fun v1 hn1 => ?_
   refine s_2 ?_
   refine v_d 1 ?_
   refine s_5 ?_
   exact le2 (i + 1) v1 ⟨rfl, (c_i o_m), trivial⟩ ⟨by omega, by omega⟩ (hr := by first | (rw [vfl_y i1 o_m (by assumption), List.length_append, vrcs_snoc]; rfl) | rw [vfl_n i1 o_m (by assumption)])
  ·
   refine s_6 ?_
   exact le2 (i + 1) u ⟨rfl, (c_i o_m), trivial⟩ ⟨by omega, by omega⟩ (hr := by first | (rw [vfl_y i1 o_m (by assumption), List.length_append, vrcs_snoc]; rfl) | rw [vfl_n i1 o_m (by assumption)])
 ·
  refine s_7 ?_
  refine v_fS 0 fun Vf1 hVf1 hc1 => ?_
  have hv := hv.mono hVf1
  refine s_1 ?_
  refine ra1 ?_
  have q := hc1
  rw [List.take_of_length_le o_m] at q
  exact ⟨rfl, q⟩

end Go.Proofs.YtbchkopkgpfkgaaGreatDoor

namespace Go.Proofs.YtbchkopkgpfkgaaGreatDoor
open Go.Vc
open Classical

set_option maxRecDepth 100000 in
set_option maxHeartbeats 4000000 in
theorem SpaceO_c {V : HV} {va : Value} {vs : List Vr} {k : Int} (hv : Vrs V va vs) (h64 : vs.length ≤ 64) (hV : VarsOk vs) (hk0 : k = 0 ∨ k = 1 ∨ k = 2 ∨ k = 3) (hs : spc vs k ≤ 4096) :
    FnC Tryz.prog 9 [va, (Value.int .i64 k)] V [] (fun v _ _ => v = .tuple #[(.int .i64 (spc vs k)), (Value.int .i64 0)]) := by
 refine f_i Tryz.func9 ?_
 intro w0 D
 have hb := SlS.bound hv
 have hfl := hV.fl k
 have hpp := prd_le (l := vfl vs k) (fun v q => (hfl v q).1)
 rw [spc_prd] at hs
 have hln := vfl_le (vs := vs) (k := k)
 refine s_7 ?_
 refine j_n [0,1,4,5] [(23, (.bool (decide ((((k ≠ 0) ∧ (k ≠ 1)) ∧ (k ≠ 2)) ∧ (k ≠ 3)))))] ?_ (fun e1 => ?_)
 ·
  refine s_4 ?_
  by_cases g1 : k ≠ 0
  ·
   refine s_4 ?_
   by_cases g2 : k ≠ 1
   ·
    refine s_4 ?_
    by_cases g3 : k ≠ 2
    ·
     refine s_4 ?_
     exact j_e ⟨(jb (ja ((ja ((ja g1 Iff.rfl).1 g2) Iff.rfl).1 g3) Iff.rfl)), trivial⟩
    ·
     refine s_4 ?_
     exact j_e ⟨(jf (fun z => (fun z => g3 ((ja ((ja g1 Iff.rfl).1 g2) Iff.rfl).2 z)) z.1)), trivial⟩
   ·
    refine s_8 ?_
    exact j_e ⟨(jf (fun z => (fun z => (fun z => g2 ((ja g1 Iff.rfl).2 z)) z.1) z.1)), trivial⟩
  ·
   refine s_12 ?_
   exact j_e ⟨(jf (fun z => (fun z => (fun z => g1 z.1) z.1) z.1)), trivial⟩
 refine iff' ?_ ?_ <;> intro c1
 ·
  refine s_6 ?_
  exact rt2 (c_i (by exfalso; omega)) (c_i (by exfalso; omega))
 ·
  refine s_5 ?_
  refine c_l [] (OfR_c hv h64) rfl rfl fun r1 V1 sg1 hV1 hp1 => ?_
  obtain ⟨rfl, hL⟩ := hp1
  obtain ⟨lq, hlq⟩ : ∃ x, x = r1 := ⟨_, rfl⟩
  subst hlq
  have hv := hv.mono hV1
  refine s_8 ?_
  refine lc1 [0,1,6,23] (fun (i : Int) => [(7, (Value.int .i64 i))]) (fun i => 0 ≤ i ∧ i ≤ (vfl vs k).length) (fun i => ((vfl vs k).length - i).toNat) 0 ?_ ?_ ?_ 
  · exact ⟨rfl, trivial⟩
  · exact ⟨by omega, by omega⟩
  rintro i e2 ⟨i1, i2⟩
  refine s_5 ?_
  refine oq (qv_lenSS UL.out rfl hL) ?_
  refine s_2 ?_
  refine iff' ?_ ?_ <;> intro c2
  ·
   refine s_4 ?_
   have hm := hfl _ (vr_in (l := (vfl vs k)) i1 o_m)
   obtain ⟨hm1, hm2, hm3⟩ := hm
   refine j_n [0,1,6,7,23,30] [(59, (.bool (decide (((((vr ((vfl vs k)) (i)).hi) < ((vr ((vfl vs k)) (i)).lo)) ∨ (((vr ((vfl vs k)) (i)).lo) < ((-1048576)))) ∨ (1048576 < ((vr ((vfl vs k)) (i)).hi))))))] ?_ (fun e3 => ?_)
   ·
    refine s_3 ?_
    refine qq (qv_ias UL.out SZ.out e_vm hL rfl o_m o_m) ?_
    refine qq (qv_fas FI.out rfl hL o_m o_m) ?_
    refine qq (qv_ldf PL.out rfl hL o_m o_m o_m (vrcs_el (o := 2) o_m o_m o_m rfl)) ?_
    refine s_2 ?_
    refine qq (qv_ias UL.out SZ.out e_vm hL rfl o_m o_m) ?_
    refine qq (qv_fas FI.out rfl hL o_m o_m) ?_
    refine qq (qv_ldf PL.out rfl hL o_m o_m o_m (vrcs_el (o := 3) o_m o_m o_m rfl)) ?_
    refine s_2 ?_
    by_cases g4 : ((vr ((vfl vs k)) (i)).hi) < ((vr ((vfl vs k)) (i)).lo)
    ·
     refine s_16 ?_
     exact j_e ⟨(jt (.inl (.inl g4))), trivial⟩
    ·
     refine s_2 ?_
     refine qg (qv_ias UL.out SZ.out e_vm hL rfl o_m o_m) w_a ?_
     refine qg (qv_fas FI.out rfl hL o_m o_m) w_a ?_
     refine qg (qv_ldf PL.out rfl hL o_m o_m o_m (vrcs_el (o := 2) o_m o_m o_m rfl)) w_a ?_
     refine s_3 ?_
     by_cases g5 : ((vr ((vfl vs k)) (i)).lo) < ((-1048576))
     ·
      refine s_8 ?_
      exact j_e ⟨(jt (.inl ((jo g4 Iff.rfl).1 g5))), trivial⟩
     ·
      refine s_2 ?_
      refine qg (qv_ias UL.out SZ.out e_vm hL rfl o_m o_m) w_a ?_
      refine qg (qv_fas FI.out rfl hL o_m o_m) w_a ?_
      refine qg (qv_ldf PL.out rfl hL o_m o_m o_m (vrcs_el (o := 3) o_m o_m o_m rfl)) w_a ?_
      refine s_3 ?_
      exact j_e ⟨(jb (jo (fun z => g5 ((jo g4 Iff.rfl).2 z)) Iff.rfl)), trivial⟩
   refine iff' ?_ ?_ <;> intro c3
   ·
    refine s_8 ?_
    exact rt2 (c_i (by exfalso; omega)) (c_i (by exfalso; omega))
   ·
    refine s_6 ?_
    exact le1 (i + 1) ⟨(c_i o_m), trivial⟩ ⟨by omega, by omega⟩
  ·
   refine s_12 ?_
   refine lc1 [0,1,6,7,23,30] (fun (j : Int) => [(8, (.int .i64 (prd ((vfl vs k).take j.toNat)))), (9, (Value.int .i64 j))]) (fun j => 0 ≤ j ∧ j ≤ (vfl vs k).length) (fun j => ((vfl vs k).length - j).toNat) 0 ?_ ?_ ?_ 
   · exact ⟨(c_i (by rfl)), rfl, trivial⟩
   · exact ⟨by omega, by omega⟩
   rintro j e4 ⟨j1, j2⟩
   refine s_5 ?_
   refine oq (qv_lenSS UL.out rfl hL) ?_
   refine s_2 ?_
   refine iff' ?_ ?_ <;> intro c4
   ·
    refine s_4 ?_
    have hm := hfl _ (vr_in (l := (vfl vs k)) j1 o_m)
    obtain ⟨hm1, hm2, hm3⟩ := hm
    have hp1 := hpp j.toNat
    have hp2 := hpp (j + 1).toNat
    have hp3 := prd_take (l := (vfl vs k)) j1 o_m
    refine s_4 ?_
    refine qq (qv_ias UL.out SZ.out e_vm hL rfl o_m o_m) ?_
    refine qq (qv_fas FI.out rfl hL o_m o_m) ?_
    refine qq (qv_ldf PL.out rfl hL o_m o_m o_m (vrcs_el (o := 3) o_m o_m o_m rfl)) ?_
    refine s_2 ?_
    refine qq (qv_ias UL.out SZ.out e_vm hL rfl o_m o_m) ?_
    refine qq (qv_fas FI.out rfl hL o_m o_m) ?_
    refine qq (qv_ldf PL.out rfl hL o_m o_m o_m (vrcs_el (o := 2) o_m o_m o_m rfl)) ?_
    refine s_10 ?_
    refine iff' ?_ ?_ <;> intro c5
    ·
     refine s_8 ?_
     exact rt2 (c_i (by exfalso; omega)) (c_i (by exfalso; omega))
    ·
     refine s_6 ?_
     exact le1 (j + 1) ⟨(c_i (by rw [prd_take j1 o_m])), (c_i (by rfl)), trivial⟩ ⟨by omega, by omega⟩
   ·
    refine s_9 ?_
    exact rt2 (c_i (by rw [spc_prd, List.take_of_length_le o_m])) rfl

end Go.Proofs.YtbchkopkgpfkgaaGreatDoor

namespace Go.Proofs.YtbchkopkgpfkgaaGreatDoor
open Go.Vc
open Classical

set_option maxRecDepth 100000 in
set_option maxHeartbeats 4000000 in
theorem RankO_c {V : HV} {va : Value} {vs : List Vr} {k : Int} (hv : Vrs V va vs) (h64 : vs.length ≤ 64) (hV : VarsOk vs) (hk0 : k = 0 ∨ k = 1 ∨ k = 2 ∨ k = 3) (hs : spc vs k ≤ 4096) {pv : Value} {xs : List Int} (hx : Ints .i64 V pv xs) :
    FnC Tryz.prog 7 [va, (Value.int .i64 k), pv] V [] (fun v _ _ => v = .tuple #[(.int .i64 (rkV (vfl vs k) xs)), (.int .i64 (rkE (vfl vs k) xs))]) := by
 refine f_i Tryz.func7 ?_
 intro w0 D
 have hs0 := hs
 have hb := SlS.bound hv
 have hfl := hV.fl k
 have hpp := prd_le (l := vfl vs k) (fun v q => (hfl v q).1)
 rw [spc_prd] at hs
 have hln := vfl_le (vs := vs) (k := k)
 have hbx := hx.bound
 refine s_9 ?_
 refine oq (f_c (SpaceO_c hv h64 hV hk0 hs0) rfl rfl) ?_
 refine s_12 ?_
 refine iff' ?_ ?_ <;> intro c1
 ·
  refine s_7 ?_
  exact rt2 (c_i (by first | exact (rk_2 o_m).2.symm | exact (rk_3 o_m i1 o_m o_m).2.symm | exact (rk_0 o_m (fun x a b => hin x a o_m)).1.symm | (rw [(rk_0 o_m (fun x a b => hin x a o_m)).2]; first | rfl | (congr 1; omega)) | (exfalso; omega))) (c_i (by first | exact (rk_2 o_m).1.symm | exact (rk_3 o_m i1 o_m o_m).1.symm | exact (rk_0 o_m (fun x a b => hin x a o_m)).1.symm | (rw [(rk_0 o_m (fun x a b => hin x a o_m)).2]; first | rfl | (congr 1; omega)) | (exfalso; omega)))
 ·
  refine s_5 ?_
  refine c_l [] (OfR_c hv h64) rfl rfl fun r1 V1 sg1 hV1 hp1 => ?_
  obtain ⟨rfl, hL⟩ := hp1
  obtain ⟨lq, hlq⟩ : ∃ x, x = r1 := ⟨_, rfl⟩
  subst hlq
  have hv := hv.mono hV1
  have hx := hx.mono hV1
  refine s_6 ?_
  refine oq (qv_lenSS UL.out rfl hL) ?_
  refine s_1 ?_
  refine oq (qv_lenI UL.out rfl hx) ?_
  refine s_2 ?_
  refine iff' ?_ ?_ <;> intro c2
  ·
   refine s_6 ?_
   exact rt2 (c_i (by first | exact (rk_2 o_m).2.symm | exact (rk_3 o_m i1 o_m o_m).2.symm | exact (rk_0 o_m (fun x a b => hin x a o_m)).1.symm | (rw [(rk_0 o_m (fun x a b => hin x a o_m)).2]; first | rfl | (congr 1; omega)) | (exfalso; omega))) (c_i (by first | exact (rk_2 o_m).1.symm | exact (rk_3 o_m i1 o_m o_m).1.symm | exact (rk_0 o_m (fun x a b => hin x a o_m)).1.symm | (rw [(rk_0 o_m (fun x a b => hin x a o_m)).2]; first | rfl | (congr 1; omega)) | (exfalso; omega)))
  ·
   refine s_11 ?_
   refine lc1 [0,1,2,9,10,20,29] (fun (i : Int) => [(11, (.int .i64 (rkN (vfl vs k) xs i.toNat))), (12, (Value.int .i64 i))]) (fun i => 0 ≤ i ∧ i ≤ (vfl vs k).length ∧ ∀ x : Int, 0 ≤ x → x < i → (vr (vfl vs k) x).lo ≤ gi xs x ∧ gi xs x ≤ (vr (vfl vs k) x).hi) (fun i => ((vfl vs k).length - i).toNat) 0 ?_ ?_ ?_ 
   · exact ⟨(c_i (by rfl)), rfl, trivial⟩
   · exact ⟨by omega, by omega, fun x a b => by omega⟩
   rintro i e1 ⟨i1, i2, hin⟩
   refine s_5 ?_
   refine oq (qv_lenSS UL.out rfl hL) ?_
   refine s_2 ?_
   refine iff' ?_ ?_ <;> intro c3
   ·
    refine s_5 ?_
    have hm := hfl _ (vr_in (l := (vfl vs k)) i1 o_m)
    obtain ⟨hm1, hm2, hm3⟩ := hm
    have hr := rkN_bd (xs := xs) i1 i2 hin
    have hp1 := hpp i.toNat
    have hmm := mulb (a := rkN (vfl vs k) xs i.toNat) (b := (vr (vfl vs k) i).hi - (vr (vfl vs k) i).lo + 1) (A := 4096) (B := 4194304) o_m o_m o_m o_m
    refine j_n [0,1,2,9,10,11,12,20,29,33] [(57, (.bool (decide (((gi xs (i)) < ((vr ((vfl vs k)) (i)).lo)) ∨ (((vr ((vfl vs k)) (i)).hi) < (gi xs (i)))))))] ?_ (fun e2 => ?_)
    ·
     refine s_3 ?_
     refine qq (qv_iai UL.out SZ.out e_vm (inVi hx) rfl o_m o_m) ?_
     refine qq (qv_ldi PL.out rfl (inVi hx) o_m o_m) ?_
     refine s_2 ?_
     refine qq (qv_ias UL.out SZ.out e_vm hL rfl o_m o_m) ?_
     refine qq (qv_fas FI.out rfl hL o_m o_m) ?_
     refine qq (qv_ldf PL.out rfl hL o_m o_m o_m (vrcs_el (o := 2) o_m o_m o_m rfl)) ?_
     refine s_2 ?_
     by_cases g1 : (gi xs (i)) < ((vr ((vfl vs k)) (i)).lo)
     ·
      refine s_12 ?_
      exact j_e ⟨(jt (.inl g1)), trivial⟩
     ·
      refine s_2 ?_
      refine qg (qv_iai UL.out SZ.out e_vm (inVi hx) rfl o_m o_m) w_a ?_
      refine qg (qv_ldi PL.out rfl (inVi hx) o_m o_m) w_a ?_
      refine s_2 ?_
      refine qg (qv_ias UL.out SZ.out e_vm hL rfl o_m o_m) w_a ?_
      refine qg (qv_fas FI.out rfl hL o_m o_m) w_a ?_
      refine qg (qv_ldf PL.out rfl hL o_m o_m o_m (vrcs_el (o := 3) o_m o_m o_m rfl)) w_a ?_
      refine s_3 ?_
      exact j_e ⟨(jb (jo g1 Iff.rfl)), trivial⟩
    refine iff' ?_ ?_ <;> intro c4
    ·
     refine s_8 ?_
     exact rt2 (c_i (by first | exact (rk_2 o_m).2.symm | exact (rk_3 o_m i1 o_m o_m).2.symm | exact (rk_0 o_m (fun x a b => hin x a o_m)).1.symm | (rw [(rk_0 o_m (fun x a b => hin x a o_m)).2]; first | rfl | (congr 1; omega)) | (exfalso; omega))) (c_i (by first | exact (rk_2 o_m).1.symm | exact (rk_3 o_m i1 o_m o_m).1.symm | exact (rk_0 o_m (fun x a b => hin x a o_m)).1.symm | (rw [(rk_0 o_m (fun x a b => hin x a o_m)).2]; first | rfl | (congr 1; omega)) | (exfalso; omega)))
    ·
     refine s_5 ?_
     refine qq (qv_ias UL.out SZ.out e_vm hL rfl o_m o_m) ?_
     refine qq (qv_fas FI.out rfl hL o_m o_m) ?_
     refine qq (qv_ldf PL.out rfl hL o_m o_m o_m (vrcs_el (o := 3) o_m o_m o_m rfl)) ?_
     refine s_2 ?_
     refine qq (qv_ias UL.out SZ.out e_vm hL rfl o_m o_m) ?_
     refine qq (qv_fas FI.out rfl hL o_m o_m) ?_
     refine qq (qv_ldf PL.out rfl hL o_m o_m o_m (vrcs_el (o := 2) o_m o_m o_m rfl)) ?_
     refine s_5 ?_
     refine qq (qv_iai UL.out SZ.out e_vm (inVi hx) rfl o_m o_m) ?_
     refine qq (qv_ldi PL.out rfl (inVi hx) o_m o_m) ?_
     refine s_3 ?_
     refine qq (qv_ias UL.out SZ.out e_vm hL rfl o_m o_m) ?_
     refine qq (qv_fas FI.out rfl hL o_m o_m) ?_
     refine qq (qv_ldf PL.out rfl hL o_m o_m o_m (vrcs_el (o := 2) o_m o_m o_m rfl)) ?_
     refine s_8 ?_
     exact le1 (i + 1) ⟨(c_i (by rw [rkN_s i1])), (c_i (by rfl)), trivial⟩ ⟨by omega, by omega, all_snoc hin o_m⟩
   ·
    refine s_9 ?_
    exact rt2 (c_i (by first | exact (rk_2 o_m).2.symm | exact (rk_3 o_m i1 o_m o_m).2.symm | exact (rk_0 o_m (fun x a b => hin x a o_m)).1.symm | (rw [(rk_0 o_m (fun x a b => hin x a o_m)).2]; first | rfl | (congr 1; omega)) | (exfalso; omega))) (c_i (by first | exact (rk_2 o_m).1.symm | exact (rk_3 o_m i1 o_m o_m).1.symm | exact (rk_0 o_m (fun x a b => hin x a o_m)).1.symm | (rw [(rk_0 o_m (fun x a b => hin x a o_m)).2]; first | rfl | (congr 1; omega)) | (exfalso; omega)))

end Go.Proofs.YtbchkopkgpfkgaaGreatDoor

namespace Go.Proofs.YtbchkopkgpfkgaaGreatDoor
open Go.Vc
open Classical

set_option maxRecDepth 100000 in
set_option maxHeartbeats 4000000 in
theorem Fit_c {V : HV} {va ha ba : Value} {F : Fl} (hF : Fls V va ha ba F) (hn : ∀ v ∈ F.vs, v.nm.size ≤ 9223372036854775807) (hn2 : ∀ i : Int, 0 ≤ i → i < F.hs.length → (ht F.hs i).nm.size ≤ 9223372036854775807) {a b c : Int} :
    FnC Tryz.prog 6 [(.agg #[va, ha, ba]), (Value.int .i64 a), (Value.int .i64 b), (Value.int .i64 c)] V [] (fun v _ _ => v = (.bool (decide (FitP F a b c)))) := by
 refine f_i Tryz.func6 ?_
 intro w0 D
 have hF0 := hF
 obtain ⟨hvs, hH⟩ := hF.h
 obtain ⟨xB, hB⟩ := hF.b.sl
 have hbvv := SlS.bound hF.v
 have hbh := SlS.bound hH.sl
 have hbb := SlS.bound hB
 refine s_2 ?_
 refine b_ox fun b1 => ?_
 refine s_4 ?_
 refine j_n [0,1,2,3,4,8] [(25, (.bool (decide ((¬ (FewP F 10 80)) ∨ ((chkR F) ≠ 0)))))] ?_ (fun e1 => ?_)
 ·
  refine s_2 ?_
  refine oq (f_c (Few_c hF0 o_m o_m o_m) rfl rfl) ?_
  refine s_2 ?_
  by_cases g1 : ¬ (FewP F 10 80)
  ·
   refine s_5 ?_
   exact j_e ⟨(jt (.inl g1)), trivial⟩
  ·
   refine s_1 ?_
   refine og (f_c (CheckR_c hF0 hn hn2 (few_le (Classical.not_not.1 (by assumption)))) rfl rfl) w_a ?_
   refine s_3 ?_
   exact j_e ⟨(jb (jo g1 Iff.rfl)), trivial⟩
 refine iff' ?_ ?_ <;> intro c1
 ·
  refine s_5 ?_
  exact rt1 (jf (by exact fun q => (‹¬ (FewP F 10 80) ∨ chkR F ≠ 0›).elim (fun y => y q.1) (fun y => y q.2.1)))
 ·
  refine s_2 ?_
  have hq := not_or.1 ‹¬ (¬ FewP F 10 80 ∨ chkR F ≠ 0)›
  have hfw := Classical.not_not.1 hq.1
  have hc0 := Classical.not_not.1 hq.2
  have hVa := chkR_0 hc0
  have h64 : F.vs.length ≤ 64 := by have := hVa.sz.1; omega
  refine s_3 ?_
  refine oq (f_c (SpaceO_c hF0.v h64 hVa.vs o_m (by have := hVa.vs.s1; have := hVa.vs.s2; have := hVa.vs.s3; omega)) rfl rfl) ?_
  refine s_10 ?_
  refine oq (f_c (SpaceO_c hF0.v h64 hVa.vs o_m (by have := hVa.vs.s1; have := hVa.vs.s2; have := hVa.vs.s3; omega)) rfl rfl) ?_
  refine s_10 ?_
  refine oq (f_c (SpaceO_c hF0.v h64 hVa.vs o_m (by have := hVa.vs.s1; have := hVa.vs.s2; have := hVa.vs.s3; omega)) rfl rfl) ?_
  refine s_10 ?_
  refine oq (f_c (BoundsR_c ((nds F.bd).toNat + 1) _ _ True _ _ hF0.b hVa.bd (by have := nds_nn F.bd; omega)) rfl rfl) ?_
  refine s_9 ?_
  refine j_n [0,4,25] [(8, (.bool (decide (((((spc F.vs 1) ≤ a) ∧ ((spc F.vs 2) ≤ b)) ∧ ((spc F.vs 3) ≤ c)) ∧ ((mnI (ubS F.bd) 4097) ≤ 400)))))] ?_ (fun e2 => ?_)
  ·
   refine s_5 ?_
   by_cases g2 : (spc F.vs 1) ≤ a
   ·
    refine s_5 ?_
    by_cases g3 : (spc F.vs 2) ≤ b
    ·
     refine s_5 ?_
     by_cases g4 : (spc F.vs 3) ≤ c
     ·
      refine s_5 ?_
      exact j_e ⟨(jb (ja ((ja ((ja g2 Iff.rfl).1 g3) Iff.rfl).1 g4) Iff.rfl)), trivial⟩
     ·
      refine s_5 ?_
      exact j_e ⟨(jf (fun z => (fun z => g4 ((ja ((ja g2 Iff.rfl).1 g3) Iff.rfl).2 z)) z.1)), trivial⟩
    ·
     refine s_10 ?_
     exact j_e ⟨(jf (fun z => (fun z => (fun z => g3 ((ja g2 Iff.rfl).2 z)) z.1) z.1)), trivial⟩
   ·
    refine s_15 ?_
    exact j_e ⟨(jf (fun z => (fun z => (fun z => g2 z.1) z.1) z.1)), trivial⟩
  refine s_1 ?_
  exact rt1 (jb (by exact fit_iff hfw hc0))

end Go.Proofs.YtbchkopkgpfkgaaGreatDoor
