import Derived.Test.YtbchkopkgpfkgaaGreatDoorTi
import Derived.Test.YtbchkopkgpfkgaaGreatDoorGd
import Derived.Test.YtbchkopkgpfkgaaGreatDoorGb
/- Walks of the top laws: what each function returns. Printed by a program out of notes. -/
namespace Go.Proofs.YtbchkopkgpfkgaaGreatDoor
open Go.Vc
open Classical

/-- What the function does, for arguments of a size below k. -/
def RPC (k : Nat) : Prop := ∀ (V : HV) (t : Tm) (ks va : Value) (vs : List Vr) (inp : Bool), Tms V ks t.kids → Vrs V va vs → VarsOk vs → fmd vs inp t → rgo vs t → t.sz < k → FnC Tryz.prog 177 [va, .agg #[.int .i64 t.op, .int .i64 t.n, ks]] V [] (fun v _ _ => v = .tuple #[.agg #[.int .i64 (rg vs t).1, .int .i64 (rg vs t).2], .bool true])

set_option maxRecDepth 100000 in
set_option maxHeartbeats 4000000 in
theorem rangedP_step {V : HV} {t : Tm} {ks : Value} {va : Value} {vs : List Vr} {inp : Bool} {k : Nat} (IH : RPC k) (hT : Tms V ks t.kids) (hv : Vrs V va vs) (hV : VarsOk vs) (hf : fmd vs inp t) (hro : rgo vs t) (hk : t.sz < (k + 1 : Nat)) :
    FnC Tryz.prog 177 [va, (.agg #[(.int .i64 t.op), (.int .i64 t.n), ks])] V [] (fun v _ _ => v = .tuple #[(.agg #[(.int .i64 ((rg vs t).1)), (.int .i64 ((rg vs t).2))]), (Value.bool true)]) := by
 refine f_i Tryz.func177 ?_
 intro w0 D
 obtain ⟨kvs, hS, hK⟩ := hT
 have hT : Tms V ks t.kids := .mk kvs hS hK
 have hb := SlS.bound hS
 have hb2 := SlS.bound hv
 have hsk := sz_kids t
 have hff := (fmd_eq t).1 hf
 have hfk := fmdL_iff.1 hff.2.2
 have hrr := (rgo_eq t).1 hro
 have hrk := rgoL_iff.1 hrr.1
 have hln := kb_le hff.1
 refine s_2 ?_
 refine b_ox fun b1 => ?_
 refine a_lo fun b2 => ?_
 refine s_3 ?_
 refine vc_nil 232 2 ?_
 refine s_8 ?_
 refine oq (qv_lenSS UL.out rfl hS) ?_
 refine s_3 ?_
 refine lp2 [0,1,3,4,13,14] (fun (i : Int) (u : Value) => [(6, u), (15, (Value.int .i64 i))]) (fun i u => [(Arr 76 b1 [(.int .i64 t.op), (.int .i64 t.n), ks]), (Arr 232 b2 [(Value.int .i64 0), (Value.int .i64 0)]), (Gr 232 2 u i.toNat ((prcs (rgL vs (t.kids.take i.toNat)))))]) (fun i u => 0 ≤ i ∧ i ≤ t.kids.length) (fun i u => (t.kids.length - i).toNat) 0 ((Value.slice none 0 0)) ?_ ?_ ?_ ?_ 
 · exact ⟨(by first | rfl | (first | omega | simp)), rfl, trivial⟩
 · (rfl)
 · exact ⟨by omega, by omega⟩
 rintro i u e1 ⟨i1, i2⟩
 refine s_5 ?_
 refine iff' ?_ ?_ <;> intro c1
 ·
  refine s_5 ?_
  refine oq (qv_ias UL.out SZ.out e_vm hS rfl o_m o_m) ?_
  refine oq (qv_lds AG.out rfl hS o_m o_m (tmcs_at o_m o_m)) ?_
  refine a_lo fun b3 => ?_
  refine s_tw rfl rfl (allc rfl (allc rfl (allc (Tms.one (hK (i) o_m o_m)) rfl))) ?_
  refine s_2 ?_
  have hsz := szL_at (l := t.kids) i1 o_m
  have hsn := szL_nn (t.kids.take i.toNat)
  refine s_3 ?_
  refine oq (f_c (IH _ _ _ _ _ _ (hK i i1 o_m) hv hV (hfk i i1 o_m) (hrk i i1 o_m) o_m) rfl rfl) ?_
  refine s_3 ?_
  refine a_lo fun b4 => ?_
  refine s_14 ?_
  refine ops_lit (n := 1) (s := 2) (cs := [(.int .i64 ((rg vs (tm t.kids (i))).1)), (.int .i64 ((rg vs (tm t.kids (i))).2))]) UL.out TZ.out (l_b rfl) rfl rfl rfl (l_b rfl) rfl (fun b5 => ?_)
  refine a_po rfl rfl rfl o_c o_m m_x fun v1 hn1 => ?_
  refine s_2 ?_
  refine v_d 5 ?_
  refine v_d 4 ?_
  refine v_d 3 ?_
  refine s_4 ?_
  exact le2 (i + 1) v1 ⟨rfl, (c_i o_m), trivial⟩ ⟨by omega, by omega⟩ (hr := by rw [show (i + 1).toNat = i.toNat + 1 by omega, rgL_take i1 o_m, prcs_snoc]; rfl)
 ·
  refine s_3 ?_
  refine v_fS 2 fun Vf1 hVf1 hc1 => ?_
  have hT := hT.mono hVf1
  have hv := hv.mono hVf1
  refine s_4 ?_
  have hwi : wiM (rul vs t.op t.n (rgL vs t.kids)) := by have q := hrr.2; rwa [rg_eq] at q
  have hkv : Prs Vf1 u (rgL vs t.kids) := by have q := hc1; rw [List.take_of_length_le o_m] at q; unfold Prs; rw [rgL_len, show t.kids.length = i.toNat by omega]; exact q
  refine oq (f_c (ruleP_c (inp := inp) (K := rgL vs t.kids) hv hkv (rgL_gd hV t.kids hff.2.2 hrr.1) (by rw [rgL_len]; exact hff.1) hff.2.1 hwi hT) rfl rfl) ?_
  refine a_lo fun b6 => ?_
  refine s_3 ?_
  refine rom [qt 0,qt 1,qt 2,qt 3,qt 4,qt 5,qt 6,qt 7,qt 8,ld 9,qt 10] [0,1] ?_
  refine s_5 ?_
  by_cases g1 : ((-1048576)) ≤ ((rul vs t.op t.n (rgL vs t.kids)).1)
  ·
   refine re rfl (qv_fa (off := 0) Tryz.field232_1 rfl) (want_t g1 rfl rfl rfl) ?_
   refine re rfl (qv_ldp (v := (.int .i64 ((rul vs t.op t.n (rgL vs t.kids)).2))) Tryz.plain3 rfl (inOc (k := 1) rfl) rfl) (want_t g1 rfl rfl rfl) ?_
   refine re rfl (qv_leq rfl rfl) (want_t g1 rfl rfl rfl) ?_
   refine s_1 ?_
   refine rl_q ?_
   refine s_1 ?_
   refine on2 [0,1] (Sub.refl _) ?_
   refine s_3 ?_
   refine rs2 _ (.bool (decide (((rul vs t.op t.n (rgL vs t.kids)).2) ≤ 1048576))) (r_va rfl) (rv_t rfl) ?_
   exact tup2 (aggc (consc (c_i (by rw [rg_eq])) (consc (c_i (by rw [rg_eq])) rfl))) (jdt (by have q := hrr.2; rw [rg_eq] at q; first | exact q.2 | exact absurd q.1 (by assumption)))
  ·
   refine rs rfl (want_tn g1 rfl rfl rfl) ?_
   refine rs rfl (want_tn g1 rfl rfl rfl) ?_
   refine rs rfl (want_tn g1 rfl rfl rfl) ?_
   refine s_1 ?_
   refine rl_q ?_
   refine s_1 ?_
   refine on2 [0,1] (Sub.refl _) ?_
   refine s_3 ?_
   refine rs2 _ (Value.bool false) (r_va rfl) (rv_t rfl) ?_
   exact tup2 (aggc (consc (c_i (by rw [rg_eq])) (consc (c_i (by rw [rg_eq])) rfl))) (by first | rfl | (have q := hrr.2; rw [rg_eq] at q; first | exact q.2 | exact absurd q.1 (by assumption)))

theorem rangedP_c : ∀ k, RPC k
  | 0 => fun _ t _ _ _ _ _ _ _ _ _ h => absurd h (by have := t.sz_pos; omega)
  | k + 1 => fun V t ks va vs inp hT hv hV hf hr hk => rangedP_step (rangedP_c k) hT hv hV hf hr hk
set_option maxRecDepth 100000 in
set_option maxHeartbeats 4000000 in
theorem termCode_c {V : HV} {t : Tm} {ks : Value} {va : Value} {vs : List Vr} {inp : Bool} (hT : Tms V ks t.kids) (hv : Vrs V va vs) (hV : VarsOk vs) (hf : fmd vs inp t) (hro : rgo vs t) :
    FnC Tryz.prog 142 [va, (.agg #[(.int .i64 t.op), (.int .i64 t.n), ks]), (.bool (decide (inp = true)))] V [] (fun v _ _ => v = (Value.int .i64 0)) := by
 refine f_i Tryz.func142 ?_
 intro w0 D
 have hT0 := hT
 obtain ⟨kvs, hS, hK⟩ := hT
 refine s_2 ?_
 refine b_ox fun b1 => ?_
 refine s_8 ?_
 refine oq (f_c (formedP_c (t.sz.toNat + 1) _ _ _ _ _ _ hT0 hv hf o_m) rfl rfl) ?_
 refine s_9 ?_
 refine oq (f_c (rangedP_c (t.sz.toNat + 1) _ _ _ _ _ inp hT0 hv hV hf hro o_m) rfl rfl) ?_
 refine s_3 ?_
 refine a_lo fun b2 => ?_
 refine s_15 ?_
 exact rt1 rfl

end Go.Proofs.YtbchkopkgpfkgaaGreatDoor
