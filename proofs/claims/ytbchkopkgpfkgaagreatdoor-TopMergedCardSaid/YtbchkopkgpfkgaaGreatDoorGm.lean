/- Gm. -/
import Derived.Test.YtbchkopkgpfkgaaGreatDoorTi
import Derived.Test.YtbchkopkgpfkgaaGreatDoorGi
import Derived.Test.YtbchkopkgpfkgaaGreatDoorGa
import Derived.Test.YtbchkopkgpfkgaaGreatDoorWp
import Derived.Test.YtbchkopkgpfkgaaGreatDoorGd
import Derived.Test.YtbchkopkgpfkgaaGreatDoorGh
import Derived.Test.YtbchkopkgpfkgaaGreatDoorGg
namespace Go.Proofs.YtbchkopkgpfkgaaGreatDoor
open Go.Vc
open Classical

set_option maxRecDepth 100000 in
set_option maxHeartbeats 4000000 in
theorem vars1_c {V : HV} {n m : ByteArray} {a1 a2 a3 a4 c1 c2 c3 c4 : Int} {b : Nat} (hb : Cells V b [.string m, .int .i64 c1, .int .i64 c2, .int .i64 c3, .int .i64 c4]) (hne : ¬ n = m) :
    FnC Tryz.prog 136 [(.agg #[(Value.string n), (Value.int .i64 a1), (Value.int .i64 a2), (Value.int .i64 a3), (Value.int .i64 a4)]), (Value.pointer (some ⟨b, 0, none⟩))] V [] (fun v _ _ => v = (Value.bool false)) := by
 refine f_i Tryz.func136 ?_
 intro w0 D
 refine s_2 ?_
 refine b_ox fun b1 => ?_
 refine s_8 ?_
 refine oq (qv_eqstr rfl rfl) ?_
 refine s_3 ?_
 exact rt1 (jdf (by assumption))

set_option maxRecDepth 100000 in
set_option maxHeartbeats 4000000 in
theorem idxV_c {V : HV} {s : Value} {l : List Vr} {fid : Nat} {caps : List Value} (hv : Vrs V s l) (hf : ∀ i : Int, 0 ≤ i → i < l.length → FnC Tryz.prog fid (.agg #[.string (vr l i).nm, .int .i64 (vr l i).kd, .int .i64 (vr l i).lo, .int .i64 (vr l i).hi, .int .i64 (vr l i).ini] :: caps) V [] (fun v _ _ => v = .bool false)) :
    FnC Tryz.prog 174 [s, (Value.func (.func fid) #[] caps.toArray)] V [] (fun v _ _ => v = (.int .i64 ((-1)))) := by
 refine f_i Tryz.func174 ?_
 intro w0 D
 have hbd := SlS.bound hv
 refine s_8 ?_
 refine oq (qv_lenSS UL.out rfl hv) ?_
 refine s_3 ?_
 refine lc1 [0,1,7] (fun (j : Int) => [(8, (Value.int .i64 j))]) (fun j => 0 ≤ j ∧ j ≤ l.length) (fun j => (l.length - j).toNat) 0 ?_ ?_ ?_ 
 · exact ⟨rfl, trivial⟩
 · exact ⟨by omega, by omega⟩
 rintro j e1 ⟨j1, j2⟩
 refine s_5 ?_
 refine iff' ?_ ?_ <;> intro c1
 ·
  refine s_13 ?_
  refine oq (qv_ias UL.out SZ.out e_vm hv rfl o_m o_m) ?_
  refine oq (qv_lds AG.out rfl hv o_m o_m (vrcs_at o_m o_m)) ?_
  refine oq (f_c (hf j j1 o_m) rfl rfl) ?_
  refine s_7 ?_
  exact le1 (j + 1) ⟨(c_i o_m), trivial⟩ ⟨by omega, by omega⟩
 ·
  refine s_7 ?_
  exact rt1 rfl

set_option maxRecDepth 100000 in
set_option maxHeartbeats 4000000 in
theorem conV_c {V : HV} {s : Value} {l : List Vr} {fid : Nat} {caps : List Value} (hv : Vrs V s l) (hf : ∀ i : Int, 0 ≤ i → i < l.length → FnC Tryz.prog fid (.agg #[.string (vr l i).nm, .int .i64 (vr l i).kd, .int .i64 (vr l i).lo, .int .i64 (vr l i).hi, .int .i64 (vr l i).ini] :: caps) V [] (fun v _ _ => v = .bool false)) :
    FnC Tryz.prog 138 [s, (Value.func (.func fid) #[] caps.toArray)] V [] (fun v _ _ => v = (Value.bool false)) := by
 refine f_i Tryz.func138 ?_
 intro w0 D
 refine s_8 ?_
 refine oq (f_c (idxV_c hv hf) rfl rfl) ?_
 refine s_4 ?_
 exact rt1 (jdf o_m)

set_option maxRecDepth 100000 in
set_option maxHeartbeats 4000000 in
theorem varsCode_c {V : HV} {va : Value} {vs : List Vr} (hv : Vrs V va vs) (h64 : vs.length ≤ 64) (hV : VarsOk vs) :
    FnC Tryz.prog 86 [va] V [] (fun v _ _ => v = (Value.int .i64 0)) := by
 refine f_i Tryz.func86 ?_
 intro w0 D
 have hb := SlS.bound hv
 have s1 := hV.s1
 have s2 := hV.s2
 have s3 := hV.s3
 refine s_8 ?_
 refine oq (qv_lenSS UL.out rfl hv) ?_
 refine s_3 ?_
 refine lc1 [0,10,11] (fun (i : Int) => [(12, (Value.int .i64 i))]) (fun i => 0 ≤ i ∧ i ≤ vs.length) (fun i => (vs.length - i).toNat) 0 ?_ ?_ ?_ 
 · exact ⟨rfl, trivial⟩
 · exact ⟨by omega, by omega⟩
 rintro i e1 ⟨i1, i2⟩
 refine s_5 ?_
 refine iff' ?_ ?_ <;> intro c1
 ·
  refine s_4 ?_
  have hok := hV.each i i1 o_m
  have hkd := kd_in hok.2.2.1
  have hin := ini_in hok.2.2.2.2
  refine s_2 ?_
  refine oq (qv_ias UL.out SZ.out e_vm hv rfl o_m o_m) ?_
  refine oq (qv_lds AG.out rfl hv o_m o_m (vrcs_at o_m o_m)) ?_
  refine a_lo fun b1 => ?_
  refine s_5 ?_
  refine oq (qv_func (cs := [(Value.pointer (some ⟨b1, 0, none⟩))]) rfl) ?_
  refine s_7 ?_
  refine oq (f_c (isName_c (by have := hok.1.1; omega)) rfl rfl) ?_
  refine s_3 ?_
  refine iff' ?_ ?_ <;> intro c2
  ·
   exact absurd hok.1 c2
  ·
   refine s_4 ?_
   refine oq (qv_sliceHiS UL.out SZ.out e_vm hv rfl o_m o_m) ?_
   refine s_1 ?_
   refine oq (qv_call_own (v := (Value.bool false)) (k := 0) (b := b1) rfl (fun Vo hVo hbo => conV_c (fid := 136) (caps := [(Value.pointer (some ⟨b1, 0, none⟩))]) (Vrs.take (m := (i : Int).toNat) (hv.mono hVo) o_m) (fun x x1 x2 => by rw [vr_tk x1 (tk_lt x2)]; exact vars1_c ⟨_, _, hbo⟩ (hok.2.1 x x1 (by have := tk_lt x2; omega)))) rfl rfl) ?_
   refine s_9 ?_
   by_cases g1 : ((vr vs (i)).kd) < 0
   ·
    omega
   ·
    refine s_6 ?_
    refine iff' ?_ ?_ <;> intro c3
    ·
     omega
    ·
     refine s_7 ?_
     refine oq (f_c (bounded_c) rfl rfl) ?_
     refine s_3 ?_
     refine iff' ?_ ?_ <;> intro c4
     ·
      exact absurd hok.2.2.2.1 c4
     ·
      refine s_1 ?_
      refine j_n [0,3,4,5,10,11,12,13,18,23,29] [(38, (.bool (decide ((((vr vs (i)).kd) ≠ 0) ∧ (((vr vs (i)).ini) ≠ 0)))))] ?_ (fun e2 => ?_)
      ·
       refine s_5 ?_
       by_cases g2 : ((vr vs (i)).kd) ≠ 0
       ·
        refine s_6 ?_
        exact j_e ⟨(jb (ja g2 Iff.rfl)), trivial⟩
       ·
        refine s_6 ?_
        exact j_e ⟨(jf (fun z => g2 z.1)), trivial⟩
      refine iff' ?_ ?_ <;> intro c5
      ·
       omega
      ·
       refine j_n [0,3,4,5,10,11,12,13,18,23,29] [(38, (.bool (decide ((((vr vs (i)).kd) = 0) ∧ ((((vr vs (i)).ini) < ((vr vs (i)).lo)) ∨ (((vr vs (i)).hi) < ((vr vs (i)).ini)))))))] ?_ (fun e3 => ?_)
       ·
        refine s_5 ?_
        by_cases g3 : ((vr vs (i)).kd) = 0
        ·
         refine s_6 ?_
         by_cases g4 : ((vr vs (i)).ini) < ((vr vs (i)).lo)
         ·
          omega
         ·
          refine s_9 ?_
          exact j_e ⟨(jb (ja g3 (jo g4 Iff.rfl))), trivial⟩
        ·
         refine s_15 ?_
         exact j_e ⟨(jf (fun z => g3 z.1)), trivial⟩
       refine iff' ?_ ?_ <;> intro c6
       ·
        omega
       ·
        refine s_1 ?_
        refine v_d 0 ?_
        refine s_4 ?_
        exact le1 (i + 1) ⟨(c_i o_m), trivial⟩ ⟨by omega, by omega⟩
 ·
  refine s_5 ?_
  refine ops_lit (n := 3) (s := 1) (cs := [(Value.int .i64 1), (Value.int .i64 2), (Value.int .i64 3)]) UL.out TZ.out (l_b rfl) rfl rfl rfl (l_b rfl) rfl (fun b2 => ?_)
  refine oq (qv_len UL.out rfl rfl) ?_
  refine s_3 ?_
  refine vc_to_gr (k := 0) (b := b2) (n := 3) (cap := 3) (cs := #[(Value.int .i64 1), (Value.int .i64 2), (Value.int .i64 3)]) 1 ([1, 2, 3].map (Value.int .i64)) rfl rfl (Nat.le_refl _) (l_b rfl) rfl rfl ?_
  refine lc1 [0,10,11,12,13,71,72] (fun (j : Int) => [(73, (Value.int .i64 j))]) (fun j => 0 ≤ j ∧ j ≤ 3) (fun j => (3 - j).toNat) 0 ?_ ?_ ?_ 
  · exact ⟨rfl, trivial⟩
  · exact ⟨by omega, by omega⟩
  rintro j e4 ⟨j1, j2⟩
  refine s_5 ?_
  refine iff' ?_ ?_ <;> intro c7
  ·
   refine s_5 ?_
   refine oq (qv_iai UL.out SZ.out e_vm (inGi (k := 0) rfl) rfl o_m o_m) ?_
   refine oq (qv_ldi PL.out rfl (inGi (k := 0) rfl) o_m o_m) ?_
   refine s_3 ?_
   have hg := g123 j1 o_m
   have hsp : spc vs (gi [1, 2, 3] j) ≤ 4096 := by rcases hg with e | e | e <;> rw [e] <;> omega
   have hsq : gi [1, 2, 3] j = 3 → spc vs (gi [1, 2, 3] j) ≤ 256 := fun e => by rw [e]; omega
   refine s_3 ?_
   refine oq (f_c (dSpace_c hv h64 hV o_m hsp) rfl rfl) ?_
   refine s_7 ?_
   refine j_n [0,7,8,9,10,11,12,13,71,72,73,74] [(92, (.bool (decide (((0 : Int) ≠ 0) ∨ (((gi ([1, 2, 3]) (j)) = 3) ∧ (256 < (spc vs (gi ([1, 2, 3]) (j)))))))))] ?_ (fun e5 => ?_)
   ·
    refine s_4 ?_
    by_cases g5 : (0 : Int) ≠ 0
    ·
     omega
    ·
     refine s_3 ?_
     by_cases g6 : (gi ([1, 2, 3]) (j)) = 3
     ·
      refine s_5 ?_
      exact j_e ⟨(jb (jo g5 (ja g6 Iff.rfl))), trivial⟩
     ·
      refine s_5 ?_
      exact j_e ⟨(jf (fun z => z.elim g5 (fun z => g6 z.1))), trivial⟩
   refine iff' ?_ ?_ <;> intro c8
   ·
    omega
   ·
    refine s_5 ?_
    exact le1 (j + 1) ⟨(c_i o_m), trivial⟩ ⟨by omega, by omega⟩
  ·
   refine s_7 ?_
   exact rt1 rfl

end Go.Proofs.YtbchkopkgpfkgaaGreatDoor

namespace Go.Proofs.YtbchkopkgpfkgaaGreatDoor
open Go.Vc
open Classical

set_option maxRecDepth 100000 in
set_option maxHeartbeats 4000000 in
theorem hats1_c {V : HV} {n m : ByteArray} {a1 a2 a3 a4 c1 c2 c3 c4 : Int} {k1 k2 : Value} {b : Nat} (hb : Cells V b [.string m, .int .i64 c1, .int .i64 c2, .int .i64 c3, .int .i64 c4, k2]) (hk : k1.cells = [k1].toArray) (hk1 : k1.oneCell' = true) (hne : ¬ n = m) :
    FnC Tryz.prog 140 [(.agg #[(Value.string n), (Value.int .i64 a1), (Value.int .i64 a2), (Value.int .i64 a3), (Value.int .i64 a4), k1]), (Value.pointer (some ⟨b, 0, none⟩))] V [] (fun v _ _ => v = (Value.bool false)) := by
 refine f_i Tryz.func140 ?_
 intro w0 D
 refine s_2 ?_
 refine b_ox fun b1 => ?_
 refine s_8 ?_
 refine oq (qv_eqstr rfl rfl) ?_
 refine s_3 ?_
 exact rt1 (jdf (by assumption))

set_option maxRecDepth 100000 in
set_option maxHeartbeats 4000000 in
theorem idxH_c {V : HV} {s : Value} {l : List Ht} {kv : List Value} {fid : Nat} {caps : List Value} (hH : HtsK V s l kv) (hf : ∀ i : Int, 0 ≤ i → i < l.length → FnC Tryz.prog fid (.agg #[.string (ht l i).nm, .int .i64 (ht l i).lo, .int .i64 (ht l i).hi, .int .i64 (ht l i).tm.op, .int .i64 (ht l i).tm.n, gv kv i] :: caps) V [] (fun v _ _ => v = .bool false)) :
    FnC Tryz.prog 175 [s, (Value.func (.func fid) #[] caps.toArray)] V [] (fun v _ _ => v = (.int .i64 ((-1)))) := by
 refine f_i Tryz.func175 ?_
 intro w0 D
 have hbd := SlS.bound hH.sl
 refine s_8 ?_
 refine oq (qv_lenSS UL.out rfl hH.sl) ?_
 refine s_3 ?_
 refine lc1 [0,1,7] (fun (j : Int) => [(8, (Value.int .i64 j))]) (fun j => 0 ≤ j ∧ j ≤ l.length) (fun j => (l.length - j).toNat) 0 ?_ ?_ ?_ 
 · exact ⟨rfl, trivial⟩
 · exact ⟨by omega, by omega⟩
 rintro j e1 ⟨j1, j2⟩
 refine s_5 ?_
 refine iff' ?_ ?_ <;> intro c1
 ·
  refine s_13 ?_
  refine oq (qv_ias UL.out SZ.out e_vm hH.sl rfl o_m o_m) ?_
  refine oq (qv_lds AG.out rfl hH.sl o_m o_m (htcs_at o_m o_m)) ?_
  refine oq (f_c (hf j j1 o_m) rfl rfl) ?_
  refine s_7 ?_
  exact le1 (j + 1) ⟨(c_i o_m), trivial⟩ ⟨by omega, by omega⟩
 ·
  refine s_7 ?_
  exact rt1 rfl

set_option maxRecDepth 100000 in
set_option maxHeartbeats 4000000 in
theorem conH_c {V : HV} {s : Value} {l : List Ht} {kv : List Value} {fid : Nat} {caps : List Value} (hH : HtsK V s l kv) (hf : ∀ i : Int, 0 ≤ i → i < l.length → FnC Tryz.prog fid (.agg #[.string (ht l i).nm, .int .i64 (ht l i).lo, .int .i64 (ht l i).hi, .int .i64 (ht l i).tm.op, .int .i64 (ht l i).tm.n, gv kv i] :: caps) V [] (fun v _ _ => v = .bool false)) :
    FnC Tryz.prog 141 [s, (Value.func (.func fid) #[] caps.toArray)] V [] (fun v _ _ => v = (Value.bool false)) := by
 refine f_i Tryz.func141 ?_
 intro w0 D
 refine s_8 ?_
 refine oq (f_c (idxH_c hH hf) rfl rfl) ?_
 refine s_4 ?_
 exact rt1 (jdf o_m)

set_option maxRecDepth 100000 in
set_option maxHeartbeats 4000000 in
theorem hatchesCode_c {V : HV} {va ha ba : Value} {F : Fl} (hF : Fls V va ha ba F) (hV : VarsOk F.vs) (hs : ∀ i : Int, 0 ≤ i → i < F.hs.length → HtOk F i) :
    FnC Tryz.prog 87 [(.agg #[va, ha, ba])] V [] (fun v _ _ => v = (Value.int .i64 0)) := by
 refine f_i Tryz.func87 ?_
 intro w0 D
 obtain ⟨hvs, hH⟩ := hF.h
 obtain ⟨xB, hB⟩ := hF.b.sl
 have hbvv := SlS.bound hF.v
 have hbh := SlS.bound hH.sl
 have hbb := SlS.bound hB
 refine s_2 ?_
 refine b_ox fun b1 => ?_
 refine s_7 ?_
 refine oq (qv_lenSS UL.out rfl hH.sl) ?_
 refine s_3 ?_
 refine lc1 [0,1,8,9] (fun (i : Int) => [(10, (Value.int .i64 i))]) (fun i => 0 ≤ i ∧ i ≤ F.hs.length) (fun i => (F.hs.length - i).toNat) 0 ?_ ?_ ?_ 
 · exact ⟨rfl, trivial⟩
 · exact ⟨by omega, by omega⟩
 rintro i e1 ⟨i1, i2⟩
 refine s_5 ?_
 refine iff' ?_ ?_ <;> intro c1
 ·
  refine s_4 ?_
  have hok := hs i i1 o_m
  refine s_2 ?_
  refine oq (qv_ias UL.out SZ.out e_vm hH.sl rfl o_m o_m) ?_
  refine oq (qv_lds AG.out rfl hH.sl o_m o_m (htcs_at o_m o_m)) ?_
  refine a_lo fun b2 => ?_
  refine s_1 ?_
  refine s_tw rfl rfl (allc rfl (allc rfl (allc rfl (allc rfl (allc rfl (allc (Tms.one (hH.hk (i) o_m o_m)) rfl)))))) ?_
  refine s_3 ?_
  refine oq (qv_func (cs := [(Value.pointer (some ⟨b2, 0, none⟩))]) rfl) ?_
  refine s_8 ?_
  refine oq (f_c (isName_c (by have := hok.nm.1; omega)) rfl rfl) ?_
  refine s_3 ?_
  refine iff' ?_ ?_ <;> intro c2
  ·
   exact absurd hok.nm c2
  ·
   refine s_5 ?_
   refine oq (qv_sliceHiS UL.out SZ.out e_vm hH.sl rfl o_m o_m) ?_
   refine s_1 ?_
   refine oq (qv_call_own (v := (Value.bool false)) (k := 1) (b := b2) rfl (fun Vo hVo hbo => conH_c (fid := 140) (caps := [(Value.pointer (some ⟨b2, 0, none⟩))]) (HtsK.take (m := (i : Int).toNat) (hH.mono hVo) o_m) (fun x x1 x2 => by rw [ht_tk x1 (tk_lt x2)]; exact hats1_c ⟨_, _, hbo⟩ (Tms.cells (hH.hk x x1 (by have := tk_lt x2; omega))) (Tms.one (hH.hk x x1 (by have := tk_lt x2; omega))) (hok.du x x1 (by have := tk_lt x2; omega)))) rfl rfl) ?_
   refine s_9 ?_
   refine oq (f_c (bounded_c) rfl rfl) ?_
   refine s_3 ?_
   refine iff' ?_ ?_ <;> intro c3
   ·
    exact absurd hok.bd c3
   ·
    refine s_7 ?_
    refine oq (f_c (termCode_c (inp := true) (hH.hk i i1 o_m) hF.v hV hok.ct.1 hok.ct.2) rfl rfl) ?_
    refine s_7 ?_
    refine iff' ?_ ?_ <;> intro c4
    ·
     omega
    ·
     refine s_1 ?_
     refine v_d 1 ?_
     refine s_4 ?_
     exact le1 (i + 1) ⟨(c_i o_m), trivial⟩ ⟨by omega, by omega⟩
 ·
  refine s_7 ?_
  exact rt1 rfl

end Go.Proofs.YtbchkopkgpfkgaaGreatDoor

namespace Go.Proofs.YtbchkopkgpfkgaaGreatDoor
open Go.Vc
open Classical

set_option maxRecDepth 100000 in
set_option maxHeartbeats 4000000 in
theorem Check_c {V : HV} {va ha ba : Value} {F : Fl} (hF : Fls V va ha ba F) (hv : Valid F) :
    FnC Tryz.prog 28 [(.agg #[va, ha, ba])] V [] (fun v _ _ => v = (Value.int .i64 0)) := by
 refine f_i Tryz.func28 ?_
 intro w0 D
 have hF0 := hF
 obtain ⟨hvs, hH⟩ := hF.h
 obtain ⟨xB, hB⟩ := hF.b.sl
 have hbvv := SlS.bound hF.v
 have hbh := SlS.bound hH.sl
 have hbb := SlS.bound hB
 obtain ⟨z1, z2, z3, z4, z5⟩ := hv.sz
 have hn0 := nds_nn F.bd
 have hh0 := hsz_nn F.hs
 have y1 := hv.uS
 have y2 := hv.uO
 have y3 := hv.uT
 have nn := ubs_nn _ hv.bd.nns
 refine s_2 ?_
 refine b_ox fun b1 => ?_
 refine s_4 ?_
 refine a_lo fun b2 => ?_
 refine s_5 ?_
 refine c_l [1] (stepsM_c ((nds F.bd).toNat + 1) _ _ _ _ _ _ _ _ (fun z => z) hF0.b z5 o_m o_m o_m o_m o_m) rfl rfl fun r1 V1 sg1 hV1 hp1 => ?_
 obtain ⟨rfl, rfl, rfl⟩ := hp1
 refine p_m [1,0] ?_
 refine s_6 ?_
 refine oq (qv_lenSS UL.out rfl hH.sl) ?_
 refine s_3 ?_
 refine lp1 [0,1,2,3,14,15] (fun (i : Int) => [(16, (Value.int .i64 i))]) (fun i => [(Arr 26 b1 [va, ha, ba]), (Arr 141 b2 [(.int .i64 (nds F.bd + hsz (F.hs.take i.toNat))), (Value.bool false)])]) (fun i => 0 ≤ i ∧ i ≤ F.hs.length) (fun i => (F.hs.length - i).toNat) 0 ?_ ?_ ?_ ?_ 
 · exact ⟨rfl, trivial⟩
 · (rw [show nds F.bd + hsz (F.hs.take (Int.toNat 0)) = 0 + nds F.bd by show nds F.bd + 0 = _; omega])
 · exact ⟨by omega, by omega⟩
 rintro i e1 ⟨i1, i2⟩
 refine s_5 ?_
 refine iff' ?_ ?_ <;> intro c1
 ·
  refine s_4 ?_
  have hsa := hsz_at (l := F.hs) i1 o_m
  have hsn := hsz_nn (F.hs.take i.toNat)
  have htp := (ht F.hs i).tm.sz_pos
  refine s_1 ?_
  refine oq (qv_ias UL.out SZ.out e_vm hH.sl rfl o_m o_m) ?_
  refine oq (qv_lds AG.out rfl hH.sl o_m o_m (htcs_at o_m o_m)) ?_
  refine a_lo fun b3 => ?_
  refine s_tw rfl rfl (allc rfl (allc rfl (allc rfl (allc rfl (allc rfl (allc (Tms.one (hH.hk (i) o_m o_m)) rfl)))))) ?_
  refine s_3 ?_
  refine oq (qv_call_own (v := (.bool (decide (False ∨ 1024 < nds F.bd + hsz (F.hs.take i.toNat))))) (k := 1) (b := b2) rfl (fun Vo hVo hbo => over_c (q := False) ⟨_, _, hbo⟩) rfl rfl) ?_
  refine s_2 ?_
  refine iff' ?_ ?_ <;> intro c2
  ·
   refine s_3 ?_
   refine c_l [1] (termM_c ((ht F.hs i).tm.sz.toNat + 1) _ _ _ _ _ _ _ _ (fun z => z) (hH.hk i i1 o_m) o_m (by have := z2 i i1 o_m; omega) o_m o_m o_m) rfl rfl fun r2 V2 sg2 hV2 hp2 => ?_
   obtain ⟨rfl, rfl, rfl⟩ := hp2
   refine p_m [1,0,2] ?_
   refine s_1 ?_
   refine v_d 2 ?_
   refine s_4 ?_
   exact le1 (i + 1) ⟨(c_i o_m), trivial⟩ ⟨by omega, by omega⟩ (hr := by rw [show (i + 1).toNat = i.toNat + 1 by omega, hsz_take i1 o_m, ← Int.add_assoc])
  ·
   exact absurd (fun z => by rcases z with z | z <;> first | exact z.elim | omega) c2
 ·
  refine s_4 ?_
  have ht0 : hsz (F.hs.take i.toNat) = hsz F.hs := by rw [List.take_of_length_le o_m]
  refine s_3 ?_
  refine oq (qv_lenSS UL.out rfl hF.v) ?_
  refine s_2 ?_
  by_cases g1 : 64 < ((F.vs.length : Int))
  ·
   omega
  ·
   refine s_2 ?_
   refine og (qv_lenSS UL.out rfl hH.sl) w_a ?_
   refine s_3 ?_
   by_cases g2 : 8 < ((F.hs.length : Int))
   ·
    omega
   ·
    refine og (qv_call_own (v := (.bool (decide (False ∨ 1024 < nds F.bd + hsz (F.hs.take i.toNat))))) (k := 1) (b := b2) rfl (fun Vo hVo hbo => over_c (q := False) ⟨_, _, hbo⟩) rfl rfl) w_a ?_
    refine s_2 ?_
    refine iff' ?_ ?_ <;> intro c3
    ·
     rcases c3 with z | z <;> first | exact z.elim | omega
    ·
     refine s_6 ?_
     refine oq (f_c (varsCode_c hF0.v o_m hv.vs) rfl rfl) ?_
     refine s_7 ?_
     refine iff' ?_ ?_ <;> intro c4
     ·
      omega
     ·
      refine s_5 ?_
      refine oq (f_c (hatchesCode_c hF0 hv.vs hv.hs) rfl rfl) ?_
      refine s_7 ?_
      refine i_fn c4 ?_
      refine s_7 ?_
      refine oq (f_c (stepsCode_c ((nds F.bd).toNat + 1) _ _ _ _ _ _ _ True instDecidableTrue hF0 hv.vs hF0.b hv.bd o_m) rfl rfl) ?_
      refine s_7 ?_
      refine i_fn c4 ?_
      refine s_6 ?_
      refine oq (f_c (upper_c ((nds F.bd).toNat + 1) _ _ True _ _ hF0.b hv.bd o_m) rfl rfl) ?_
      refine a_lo fun b4 => ?_
      refine s_3 ?_
      have w1 : mnI (ubS F.bd) 1099511627776 ≤ 4096 := by unfold mnI; split <;> omega
      have w2 : mnI (ubO F.bd) 1099511627776 ≤ 8 := by unfold mnI; split <;> omega
      have w3 : mnI (ubT F.bd) 1099511627776 ≤ 67108864 := by unfold mnI; split <;> omega
      refine s_5 ?_
      by_cases g3 : 4096 < (mnI (ubS F.bd) 1099511627776)
      ·
       omega
      ·
       refine s_5 ?_
       by_cases g4 : 8 < (mnI (ubO F.bd) 1099511627776)
       ·
        omega
       ·
        refine s_5 ?_
        refine iff' ?_ ?_ <;> intro c5
        ·
         omega
        ·
         refine s_6 ?_
         exact rt1 rfl

end Go.Proofs.YtbchkopkgpfkgaaGreatDoor
