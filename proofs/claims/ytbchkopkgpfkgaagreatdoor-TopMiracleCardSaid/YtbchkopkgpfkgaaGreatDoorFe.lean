import Derived.Test.YtbchkopkgpfkgaaGreatDoorTi
import Derived.Test.YtbchkopkgpfkgaaGreatDoorFd
/- Walks of the top laws: what each function returns. Printed by a program out of notes. -/
namespace Go.Proofs.YtbchkopkgpfkgaaGreatDoor
open Go.Vc
open Classical

/-- What the function does, for arguments of a size below k. -/
def RGC (k : Nat) : Prop := ∀ (V : HV) (t : Tm) (ks va : Value) (vs : List Vr) (inp : Bool), Tms V ks t.kids → Vrs V va vs → VarsOk vs → fmd vs inp t → t.sz < k → FnC Tryz.prog 134 [va, .agg #[.int .i64 t.op, .int .i64 t.n, ks]] V [] (fun v _ _ => v = .tuple #[.int .i64 (@ite _ (rgoL vs t.kids) (Classical.propDecidable _) (rg vs t).1 0), .int .i64 (@ite _ (rgoL vs t.kids) (Classical.propDecidable _) (rg vs t).2 0), .bool (@decide (rgo vs t) (Classical.propDecidable _))])

set_option maxRecDepth 100000 in
set_option maxHeartbeats 4000000 in
theorem RangeR_step {V : HV} {t : Tm} {ks : Value} {va : Value} {vs : List Vr} {inp : Bool} {k : Nat} (IH : RGC k) (hT : Tms V ks t.kids) (hv : Vrs V va vs) (hV : VarsOk vs) (hf : fmd vs inp t) (hk : t.sz < (k + 1 : Nat)) :
    FnC Tryz.prog 134 [va, (.agg #[(.int .i64 t.op), (.int .i64 t.n), ks])] V [] (fun v _ _ => v = .tuple #[(.int .i64 ((if rgoL vs t.kids then (rg vs t).1 else 0))), (.int .i64 ((if rgoL vs t.kids then (rg vs t).2 else 0))), (.bool (decide (rgo vs t)))]) := by
 refine f_i Tryz.func134 ?_
 intro w0 D
 obtain ⟨kvs, hS, hK⟩ := hT
 have hT : Tms V ks t.kids := .mk kvs hS hK
 have hb := SlS.bound hS
 have hb2 := SlS.bound hv
 have hsk := sz_kids t
 have hff := (fmd_eq t).1 hf
 have hfk := fmdL_iff.1 hff.2.2
 have hln := kb_le hff.1
 refine s_2 ?_
 refine b_ox fun b1 => ?_
 refine s_6 ?_
 refine ops_lit (n := 0) (s := 1) (cs := []) UL.out TZ.out (l_b rfl) rfl rfl rfl (l_b rfl) rfl (fun b2 => ?_)
 refine ops_to_gr (k := 1) (b := b2) (n := 0) (cap := 0) (cs := #[]) 1 [] rfl rfl (Nat.le_refl _) (Nat.zero_le _) rfl rfl ?_
 refine s_4 ?_
 refine ops_lit (n := 0) (s := 1) (cs := []) UL.out TZ.out (l_b rfl) rfl rfl rfl (l_b rfl) rfl (fun b3 => ?_)
 refine ops_to_gr (k := 2) (b := b3) (n := 0) (cap := 0) (cs := #[]) 1 [] rfl rfl (Nat.le_refl _) (Nat.zero_le _) rfl rfl ?_
 refine s_8 ?_
 refine lp3 [0,1,3] (fun (i : Int) (ul : Value) (uh : Value) => [(7, ul), (8, uh), (9, (Value.int .i64 i))]) (fun i ul uh => [(Arr 76 b1 [(.int .i64 t.op), (.int .i64 t.n), ks]), (Gr 3 1 ul i.toNat ((((rgL vs (t.kids.take i.toNat)).map Prod.fst).map (Value.int .i64)))), (Gr 3 1 uh i.toNat ((((rgL vs (t.kids.take i.toNat)).map Prod.snd).map (Value.int .i64))))]) (fun i ul uh => 0 ≤ i ∧ i ≤ t.kids.length ∧ ∀ x : Int, 0 ≤ x → x < i → rgo vs (tm t.kids x)) (fun i ul uh => (t.kids.length - i).toNat) 0 ((.slice (some ⟨b2, 0, none⟩) 0 0)) ((.slice (some ⟨b3, 0, none⟩) 0 0)) ?_ ?_ ?_ ?_ 
 · exact ⟨(by first | rfl | (first | omega | simp)), (by first | rfl | (first | omega | simp)), rfl, trivial⟩
 · (rfl)
 · exact ⟨by omega, by omega, fun x a b => by omega⟩
 rintro i ul uh e1 ⟨i1, i2, hno⟩
 refine s_6 ?_
 refine oq (qv_lenSS UL.out rfl hS) ?_
 refine s_2 ?_
 refine iff' ?_ ?_ <;> intro c1
 ·
  refine s_4 ?_
  have hsz := szL_at (l := t.kids) i1 o_m
  have hsn := szL_nn (t.kids.take i.toNat)
  refine s_5 ?_
  refine oq (qv_ias UL.out SZ.out e_vm hS rfl o_m o_m) ?_
  refine oq (qv_lds AG.out rfl hS o_m o_m (tmcs_at o_m o_m)) ?_
  refine oq (f_c (IH _ _ _ _ _ _ (hK i i1 o_m) hv hV (hfk i i1 o_m) o_m) rfl rfl) ?_
  refine s_14 ?_
  refine iff' ?_ ?_ <;> intro c2
  ·
   refine s_9 ?_
   exact rt3 (c_i (by exact (if_neg (fun q => absurd (rgoL_iff.1 q i i1 o_m) (by assumption))).symm)) (c_i (by exact (if_neg (fun q => absurd (rgoL_iff.1 q i i1 o_m) (by assumption))).symm)) (jf (by exact fun q => absurd (rgoL_iff.1 ((rgo_eq t).1 q).1 i i1 o_m) (by assumption)))
  ·
   refine s_2 ?_
   have hro : rgo vs (tm t.kids (i)) := Classical.not_not.1 (by assumption)
   have hq1 : (if rgoL vs (tm t.kids (i)).kids then (rg vs (tm t.kids (i))).1 else 0) = (rg vs (tm t.kids (i))).1 := if_pos ((rgo_eq _).1 hro).1
   have hq2 : (if rgoL vs (tm t.kids (i)).kids then (rg vs (tm t.kids (i))).2 else 0) = (rg vs (tm t.kids (i))).2 := if_pos ((rgo_eq _).1 hro).1
   refine s_3 ?_
   refine ops_lit (n := 1) (s := 1) (cs := [(.int .i64 ((if rgoL vs (tm t.kids (i)).kids then (rg vs (tm t.kids (i))).1 else 0)))]) UL.out TZ.out (l_b rfl) rfl rfl rfl (l_b rfl) rfl (fun b4 => ?_)
   refine a_po rfl rfl rfl o_c o_m m_x fun v1 hn1 => ?_
   refine s_5 ?_
   refine ops_lit (n := 1) (s := 1) (cs := [(.int .i64 ((if rgoL vs (tm t.kids (i)).kids then (rg vs (tm t.kids (i))).2 else 0)))]) UL.out TZ.out (l_b rfl) rfl rfl rfl (l_b rfl) rfl (fun b5 => ?_)
   refine a_po rfl rfl rfl o_c o_m m_x fun v2 hn2 => ?_
   refine s_2 ?_
   refine v_d 4 ?_
   refine v_d 3 ?_
   refine s_5 ?_
   exact le3 (i + 1) v1 v2 ⟨rfl, rfl, (c_i o_m), trivial⟩ ⟨by omega, by omega, all_snoc hno hro⟩ (hr := by rw [show (i + 1).toNat = i.toNat + 1 by omega, rgL_take i1 o_m]; simp only [List.map_append, List.map_cons, List.map_nil, hq1, hq2])
 ·
  refine s_3 ?_
  refine v_fG 1 fun Vf1 hVf1 hc1 => ?_
  have hT := hT.mono hVf1
  have hv := hv.mono hVf1
  refine v_fG 1 fun Vf2 hVf2 hc2 => ?_
  have hT := hT.mono hVf2
  have hv := hv.mono hVf2
  have hc1 := hc1.mono hVf2
  refine s_5 ?_
  have hkk : rgoL vs t.kids := rgoL_iff.2 fun x a b => hno x a o_m
  have hlo : Ints .i64 Vf2 ul ((rgL vs t.kids).map Prod.fst) := by have q := hc1; rw [List.take_of_length_le o_m] at q; exact q
  have hhi : Ints .i64 Vf2 uh ((rgL vs t.kids).map Prod.snd) := by have q := hc2; rw [List.take_of_length_le o_m] at q; exact q
  refine oq (f_c (by have h := spanR_c (inp := inp) (K := rgL vs t.kids) hv hlo hhi (rgL_gd hV t.kids hff.2.2 hkk) (by rw [rgL_len]; exact hff.1) hff.2.1 hT; rw [← rg_eq] at h; exact h) rfl rfl) ?_
  refine s_13 ?_
  by_cases g1 : ((-1048576)) ≤ ((rg vs t).1)
  ·
   refine s_8 ?_
   exact rt3 (c_i (by exact (if_pos hkk).symm)) (c_i (by exact (if_pos hkk).symm)) (jb (by exact ⟨fun q => (rgo_eq t).2 ⟨hkk, by assumption, q⟩, fun q => ((rgo_eq t).1 q).2.2⟩))
  ·
   refine s_8 ?_
   exact rt3 (c_i (by exact (if_pos hkk).symm)) (c_i (by exact (if_pos hkk).symm)) (jf (by exact fun q => absurd ((rgo_eq t).1 q).2.1 (by assumption)))

theorem RangeR_c : ∀ k, RGC k
  | 0 => fun _ t _ _ _ _ _ _ _ _ h => absurd h (by have := t.sz_pos; omega)
  | k + 1 => fun V t ks va vs inp hT hv hV hf hk => RangeR_step (RangeR_c k) hT hv hV hf hk
set_option maxRecDepth 100000 in
set_option maxHeartbeats 4000000 in
theorem CheckTermR_c {V : HV} {t : Tm} {ks : Value} {va : Value} {vs : List Vr} {inp : Bool} (hT : Tms V ks t.kids) (hv : Vrs V va vs) (hV : VarsOk vs) :
    FnC Tryz.prog 79 [va, (.agg #[(.int .i64 t.op), (.int .i64 t.n), ks]), (.bool (decide (inp = true)))] V [] (fun v _ _ => v = (.int .i64 (ctC vs t inp))) := by
 refine f_i Tryz.func79 ?_
 intro w0 D
 have hT0 := hT
 obtain ⟨kvs, hS, hK⟩ := hT
 refine s_2 ?_
 refine b_ox fun b1 => ?_
 refine s_8 ?_
 refine oq (f_c (formedR_c (t.sz.toNat + 1) _ _ _ _ _ _ hT0 hv o_m) rfl rfl) ?_
 refine s_2 ?_
 refine iff' ?_ ?_ <;> intro c1
 ·
  refine s_5 ?_
  exact rt1 (c_i (by exact (if_pos (by assumption)).symm))
 ·
  refine s_5 ?_
  refine oq (f_c (RangeR_c (t.sz.toNat + 1) _ _ _ _ _ inp hT0 hv hV (Classical.not_not.1 (by assumption)) o_m) rfl rfl) ?_
  refine s_14 ?_
  refine iff' ?_ ?_ <;> intro c2
  ·
   refine s_5 ?_
   exact rt1 (c_i (by unfold ctC; rw [if_neg (by assumption), if_pos (by assumption)]))
  ·
   refine s_6 ?_
   exact rt1 (c_i (by unfold ctC; rw [if_neg (by assumption), if_neg (by assumption)]))

end Go.Proofs.YtbchkopkgpfkgaaGreatDoor
