import Derived.Test.YtbchkopkgpfkgaaGreatDoorTi
import Derived.Test.YtbchkopkgpfkgaaGreatDoorGm
import Derived.Test.YtbchkopkgpfkgaaGreatDoorGe
/- Walks of the top laws: what each function returns. Printed by a program out of notes. -/
namespace Go.Proofs.YtbchkopkgpfkgaaGreatDoor
open Go.Vc
open Classical

set_option maxRecDepth 100000 in
set_option maxHeartbeats 4000000 in
theorem hats1_c {V : HV} {n m : ByteArray} {a1 a2 a3 a4 c1 c2 c3 c4 : Int} {k1 k2 : Value} {b : Nat} (hb : Cells V b [.string m, .int .i64 c1, .int .i64 c2, .int .i64 c3, .int .i64 c4, k2]) (hk : k1.cells = [k1].toArray) (hk1 : k1.oneCell' = true) (hne : ¬ n = m) :
    FnC Tryz.prog 140 [(.agg #[(Value.string n), (Value.int .i64 a1), (Value.int .i64 a2), (Value.int .i64 a3), (Value.int .i64 a4), k1]), (Value.pointer (some ⟨b, 0, none⟩))] V [] (fun v _ _ => v = (Value.bool false)) := by
 refine f_i Tryz.func140 ?_
 intro w0 D
 refine s_2 ?_
 refine b_ox fun b1 => ?_
 refine s_8 ?_
 refine oq (qv_eqstr rfl rfl) ?_
 refine s_3 ?_
 exact rt1 (jdf (by assumption))

set_option maxRecDepth 100000 in
set_option maxHeartbeats 4000000 in
theorem idxH_c {V : HV} {s : Value} {l : List Ht} {kv : List Value} {fid : Nat} {caps : List Value} (hH : HtsK V s l kv) (hf : ∀ i : Int, 0 ≤ i → i < l.length → FnC Tryz.prog fid (.agg #[.string (ht l i).nm, .int .i64 (ht l i).lo, .int .i64 (ht l i).hi, .int .i64 (ht l i).tm.op, .int .i64 (ht l i).tm.n, gv kv i] :: caps) V [] (fun v _ _ => v = .bool false)) :
    FnC Tryz.prog 175 [s, (Value.func (.func fid) #[] caps.toArray)] V [] (fun v _ _ => v = (.int .i64 ((-1)))) := by
 refine f_i Tryz.func175 ?_
 intro w0 D
 have hbd := SlS.bound hH.sl
 refine s_8 ?_
 refine oq (qv_lenSS UL.out rfl hH.sl) ?_
 refine s_3 ?_
 refine lc1 [0,1,7] (fun (j : Int) => [(8, (Value.int .i64 j))]) (fun j => 0 ≤ j ∧ j ≤ l.length) (fun j => (l.length - j).toNat) 0 ?_ ?_ ?_ 
 · exact ⟨rfl, trivial⟩
 · exact ⟨by omega, by omega⟩
 rintro j e1 ⟨j1, j2⟩
 refine s_5 ?_
 refine iff' ?_ ?_ <;> intro c1
 ·
  refine s_13 ?_
  refine oq (qv_ias UL.out SZ.out e_vm hH.sl rfl o_m o_m) ?_
  refine oq (qv_lds AG.out rfl hH.sl o_m o_m (htcs_at o_m o_m)) ?_
  refine oq (f_c (hf j j1 o_m) rfl rfl) ?_
  refine s_7 ?_
  exact le1 (j + 1) ⟨(c_i o_m), trivial⟩ ⟨by omega, by omega⟩
 ·
  refine s_7 ?_
  exact rt1 rfl

set_option maxRecDepth 100000 in
set_option maxHeartbeats 4000000 in
theorem conH_c {V : HV} {s : Value} {l : List Ht} {kv : List Value} {fid : Nat} {caps : List Value} (hH : HtsK V s l kv) (hf : ∀ i : Int, 0 ≤ i → i < l.length → FnC Tryz.prog fid (.agg #[.string (ht l i).nm, .int .i64 (ht l i).lo, .int .i64 (ht l i).hi, .int .i64 (ht l i).tm.op, .int .i64 (ht l i).tm.n, gv kv i] :: caps) V [] (fun v _ _ => v = .bool false)) :
    FnC Tryz.prog 141 [s, (Value.func (.func fid) #[] caps.toArray)] V [] (fun v _ _ => v = (Value.bool false)) := by
 refine f_i Tryz.func141 ?_
 intro w0 D
 refine s_8 ?_
 refine oq (f_c (idxH_c hH hf) rfl rfl) ?_
 refine s_4 ?_
 exact rt1 (jdf o_m)

set_option maxRecDepth 100000 in
set_option maxHeartbeats 4000000 in
theorem hatchesCode_c {V : HV} {va ha ba : Value} {F : Fl} (hF : Fls V va ha ba F) (hV : VarsOk F.vs) (hs : ∀ i : Int, 0 ≤ i → i < F.hs.length → HtOk F i) :
    FnC Tryz.prog 87 [(.agg #[va, ha, ba])] V [] (fun v _ _ => v = (Value.int .i64 0)) := by
 refine f_i Tryz.func87 ?_
 intro w0 D
 obtain ⟨hvs, hH⟩ := hF.h
 obtain ⟨xB, hB⟩ := hF.b.sl
 have hbvv := SlS.bound hF.v
 have hbh := SlS.bound hH.sl
 have hbb := SlS.bound hB
 refine s_2 ?_
 refine b_ox fun b1 => ?_
 refine s_7 ?_
 refine oq (qv_lenSS UL.out rfl hH.sl) ?_
 refine s_3 ?_
 refine lc1 [0,1,8,9] (fun (i : Int) => [(10, (Value.int .i64 i))]) (fun i => 0 ≤ i ∧ i ≤ F.hs.length) (fun i => (F.hs.length - i).toNat) 0 ?_ ?_ ?_ 
 · exact ⟨rfl, trivial⟩
 · exact ⟨by omega, by omega⟩
 rintro i e1 ⟨i1, i2⟩
 refine s_5 ?_
 refine iff' ?_ ?_ <;> intro c1
 ·
  refine s_4 ?_
  have hok := hs i i1 o_m
  refine s_2 ?_
  refine oq (qv_ias UL.out SZ.out e_vm hH.sl rfl o_m o_m) ?_
  refine oq (qv_lds AG.out rfl hH.sl o_m o_m (htcs_at o_m o_m)) ?_
  refine a_lo fun b2 => ?_
  refine s_1 ?_
  refine s_tw rfl rfl (allc rfl (allc rfl (allc rfl (allc rfl (allc rfl (allc (Tms.one (hH.hk (i) o_m o_m)) rfl)))))) ?_
  refine s_3 ?_
  refine oq (qv_func (cs := [(Value.pointer (some ⟨b2, 0, none⟩))]) rfl) ?_
  refine s_8 ?_
  refine oq (f_c (isName_c (by have := hok.nm.1; omega)) rfl rfl) ?_
  refine s_3 ?_
  refine iff' ?_ ?_ <;> intro c2
  ·
   exact absurd hok.nm c2
  ·
   refine s_5 ?_
   refine oq (qv_sliceHiS UL.out SZ.out e_vm hH.sl rfl o_m o_m) ?_
   refine s_1 ?_
   refine oq (qv_call_own (v := (Value.bool false)) (k := 1) (b := b2) rfl (fun Vo hVo hbo => conH_c (fid := 140) (caps := [(Value.pointer (some ⟨b2, 0, none⟩))]) (HtsK.take (m := (i : Int).toNat) (hH.mono hVo) o_m) (fun x x1 x2 => by rw [ht_tk x1 (tk_lt x2)]; exact hats1_c ⟨_, _, hbo⟩ (Tms.cells (hH.hk x x1 (by have := tk_lt x2; omega))) (Tms.one (hH.hk x x1 (by have := tk_lt x2; omega))) (hok.du x x1 (by have := tk_lt x2; omega)))) rfl rfl) ?_
   refine s_9 ?_
   refine oq (f_c (bounded_c) rfl rfl) ?_
   refine s_3 ?_
   refine iff' ?_ ?_ <;> intro c3
   ·
    exact absurd hok.bd c3
   ·
    refine s_7 ?_
    refine oq (f_c (termCode_c (inp := true) (hH.hk i i1 o_m) hF.v hV hok.ct.1 hok.ct.2) rfl rfl) ?_
    refine s_7 ?_
    refine iff' ?_ ?_ <;> intro c4
    ·
     omega
    ·
     refine s_1 ?_
     refine v_d 1 ?_
     refine s_4 ?_
     exact le1 (i + 1) ⟨(c_i o_m), trivial⟩ ⟨by omega, by omega⟩
 ·
  refine s_7 ?_
  exact rt1 rfl

end Go.Proofs.YtbchkopkgpfkgaaGreatDoor
