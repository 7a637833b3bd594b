import Derived.Test.YtbchkopkgpfkgaaGreatDoorTi
import Derived.Test.YtbchkopkgpfkgaaGreatDoorWq
import Derived.Test.YtbchkopkgpfkgaaGreatDoorTy
import Derived.Test.YtbchkopkgpfkgaaGreatDoorWb
/- Walks of the top laws: what each function returns. Printed by a program out of notes. -/
namespace Go.Proofs.YtbchkopkgpfkgaaGreatDoor
open Go.Vc
open Classical

set_option maxRecDepth 100000 in
set_option maxHeartbeats 4000000 in
theorem CloneNil_c {V : HV} {cap : Nat} :
    FnC Tryz.prog 95 [(Value.slice none 0 cap)] V [] (fun v V' σ' => V' = V ∧ σ' = [Gr 3 1 v 0 []]) := by
 refine f_i Tryz.func95 ?_
 intro w0 D
 refine s_12 ?_
 refine vc_nil 3 1 ?_
 refine s_4 ?_
 refine ra1 ?_
 exact ⟨rfl, rfl⟩

set_option maxRecDepth 100000 in
set_option maxHeartbeats 4000000 in
theorem CloneSome_c {V : HV} {ad : Addr} {m c : Nat} {xs : List Int} (hl : xs.length = m) (hb : m ≤ 1000000) (hn : ∀ w, Vc.Sub V (hv w) → ∀ (j : Nat) (u : Value), (xs.map (Value.int .i64))[j]? = some u → w.cell? (ad.add j) = some u) :
    FnC Tryz.prog 95 [(.slice (some ad) m c)] V [] (fun v V' σ' => V' = V ∧ σ' = [Gr 3 1 v m (xs.map (Value.int .i64))]) := by
 refine f_i Tryz.func95 ?_
 intro w0 D
 refine s_14 ?_
 refine ops_lit (n := 0) (s := 1) (cs := []) UL.out TZ.out (l_b rfl) rfl rfl rfl (l_b rfl) rfl (fun b1 => ?_)
 refine s_1 ?_
 refine ops_to_gr (k := 0) (b := b1) (n := 0) (cap := 0) (cs := #[]) 1 [] rfl rfl (Nat.le_refl _) (Nat.zero_le _) rfl rfl ?_
 refine ops_append (k := 0) (n := 0) (s := 1) (m := m) (v := (.slice (some ⟨b1, 0, none⟩) 0 0)) (xs := []) (news := (xs.map (Value.int .i64))) UL.out TZ.out rfl (l_b rfl) rfl rfl rfl (by rw [List.length_map]; omega) (fun w hm => hn w hm.view) o_c o_m m_x (fun v1 hn1 => ?_)
 refine s_3 ?_
 refine ra1 ?_
 refine ⟨rfl, ?_⟩; show [_] = [_]; simp

theorem Clone_c {V : HV} {x : Value} {xs : List Int} (hs : Ints .i64 V x xs) (hb : xs.length ≤ 1000000) : FnC Tryz.prog 95 [x] V [] (fun v V' σ' => V' = V ∧ σ' = [Gr 3 1 v xs.length (xs.map (Value.int .i64))]) := by
  have hs0 : Sl V x (xs.map (Value.int .i64)) := hs
  rcases hs0.cases with ⟨cap, rfl, e⟩ | ⟨ad, cap, rfl, hn⟩
  · have e : xs = [] := by simpa using e
    subst e
    exact CloneNil_c
  · have := CloneSome_c (V := V) (ad := ad) (c := cap) (xs := xs) rfl hb hn
    rw [List.length_map]; exact this
set_option maxRecDepth 100000 in
set_option maxHeartbeats 4000000 in
theorem Seen_c {V : HV} {ov : Value} {O : List Int} {T : Int} {tm : Bool} (ho : Ints .i64 V ov O) (hl : O.length ≤ 1000000) :
    FnC Tryz.prog 33 [(.agg #[ov, (Value.int .i64 T)]), (.bool (decide (tm = true)))] V [] (fun v V' σ' => σ' = [] ∧ ∃ cv, v = .agg #[cv, .int .i64 (seenT tm T)] ∧ Ints .i64 V' cv O) := by
 refine FnC.drop ?_
 refine f_i Tryz.func33 ?_
 intro w0 D
 refine s_2 ?_
 refine b_ox fun b1 => ?_
 refine a_lo fun b2 => ?_
 refine s_5 ?_
 refine c_l [] (Clone_c ho hl) rfl rfl fun r1 V1 sg1 hV1 hp1 => ?_
 obtain ⟨rfl, rfl⟩ := hp1
 obtain ⟨cv, hcv⟩ : ∃ x, x = r1 := ⟨_, rfl⟩
 subst hcv
 have ho := ho.mono hV1
 refine p_m [1,2,0] ?_
 refine o_fG 2 fun Vf1 hVf1 hc1 => ?_
 have ho := ho.mono hVf1
 have hcq : Ints .i64 Vf1 cv O := hc1
 have hcc := Sl.cells hcq
 refine oq (qv_build (out := [cv, (Value.int .i64 0)]) BI.out [(0, [cv])] (by show [(0, Value.cells cv)] = _; rw [hcc]; try rfl) rfl) ?_
 refine a_lo fun b3 => ?_
 refine s_tw rfl rfl (allc (Sl.one hcq) (allc rfl rfl)) ?_
 refine s_6 ?_
 refine iff' ?_ ?_ <;> intro c1
 ·
  refine s_9 ?_
  refine s_tw rfl rfl (allc (Sl.one hcq) (allc rfl rfl)) ?_
  refine s_2 ?_
  refine rs1 _ (r_va rfl) ?_
  exact ⟨[], _, .refl _, rfl, cv, congrArg (fun z => Value.agg #[cv, .int .i64 z]) (if_pos (by assumption)).symm, hcq⟩
 ·
  refine s_4 ?_
  refine s_tw rfl rfl (allc (Sl.one hcq) (allc rfl rfl)) ?_
  refine s_2 ?_
  refine rs1 _ (r_va rfl) ?_
  exact ⟨[], _, .refl _, rfl, cv, congrArg (fun z => Value.agg #[cv, .int .i64 z]) (if_neg (by assumption)).symm, hcq⟩

set_option maxRecDepth 100000 in
set_option maxHeartbeats 4000000 in
theorem isNaN_c {V : HV} {x : Int} :
    FnC Tryz.prog 193 [(Value.int .i64 x)] V [] (fun v _ _ => v = (Value.bool false)) := by
 refine f_i Tryz.func193 ?_
 intro w0 D
 refine s_12 ?_
 exact rt1 (jdf (by exact fun z => z rfl))

set_option maxRecDepth 100000 in
set_option maxHeartbeats 4000000 in
theorem cmpI_c {V : HV} {x y : Int} :
    FnC Tryz.prog 162 [(Value.int .i64 x), (Value.int .i64 y)] V [] (fun v _ _ => v = (.int .i64 (cmI x y))) := by
 refine f_i Tryz.func162 ?_
 intro w0 D
 refine s_7 ?_
 refine oq (f_c (isNaN_c) rfl rfl) ?_
 refine s_5 ?_
 refine oq (f_c (isNaN_c) rfl rfl) ?_
 refine s_23 ?_
 refine iff' ?_ ?_ <;> intro c1
 ·
  refine s_5 ?_
  exact rt1 (c_i (by unfold cmI; (repeat' split) <;> omega))
 ·
  refine s_8 ?_
  refine iff' ?_ ?_ <;> intro c2
  ·
   refine s_5 ?_
   exact rt1 (c_i (by unfold cmI; (repeat' split) <;> omega))
  ·
   refine s_6 ?_
   exact rt1 (c_i (by unfold cmI; (repeat' split) <;> omega))

set_option maxRecDepth 100000 in
set_option maxHeartbeats 4000000 in
theorem cmpL_c {V : HV} {av bv : Value} {A B : List Int} (ha : Ints .i64 V av A) (hb : Ints .i64 V bv B) :
    FnC Tryz.prog 102 [av, bv] V [] (fun v _ _ => v = (.int .i64 (cmL A B))) := by
 refine f_i Tryz.func102 ?_
 intro w0 D
 have hba := ha.bound
 have hbb := hb.bound
 refine s_8 ?_
 refine oq (qv_lenI UL.out rfl ha) ?_
 refine s_3 ?_
 refine lc1 [0,1,9,10] (fun (i : Int) => [(11, (Value.int .i64 i))]) (fun i => 0 ≤ i ∧ i ≤ A.length ∧ i ≤ B.length ∧ cmL A B = cmL (A.drop i.toNat) (B.drop i.toNat)) (fun i => (A.length - i).toNat) 0 ?_ ?_ ?_ 
 · exact ⟨rfl, trivial⟩
 · exact ⟨by omega, by omega, by omega, rfl⟩
 rintro i e1 ⟨i1, i2, i3, hy⟩
 refine s_5 ?_
 refine iff' ?_ ?_ <;> intro c1
 ·
  refine s_6 ?_
  refine oq (qv_iai UL.out SZ.out e_vm (inVi ha) rfl o_m o_m) ?_
  refine oq (qv_ldi PL.out rfl (inVi ha) o_m o_m) ?_
  refine s_8 ?_
  refine oq (qv_lenI UL.out rfl hb) ?_
  refine s_2 ?_
  refine iff' ?_ ?_ <;> intro c2
  ·
   refine s_7 ?_
   exact rt1 (c_i (by rw [hy]; exact (cm_one i1 o_m o_m).symm))
  ·
   refine s_5 ?_
   refine oq (qv_iai UL.out SZ.out e_vm (inVi hb) rfl o_m o_m) ?_
   refine oq (qv_ldi PL.out rfl (inVi hb) o_m o_m) ?_
   refine s_6 ?_
   refine oq (f_c (cmpI_c) rfl rfl) ?_
   refine s_7 ?_
   refine iff' ?_ ?_ <;> intro c3
   ·
    refine s_8 ?_
    exact rt1 (c_i (by rw [hy]; exact (cm_hit i1 o_m o_m (by assumption)).symm))
   ·
    refine s_5 ?_
    exact le1 (i + 1) ⟨(c_i o_m), trivial⟩ ⟨by omega, by omega, by omega, by rw [hy]; exact cm_on i1 o_m o_m (by assumption)⟩
 ·
  refine s_6 ?_
  refine oq (qv_lenI UL.out rfl ha) ?_
  refine s_1 ?_
  refine oq (qv_lenI UL.out rfl hb) ?_
  refine s_2 ?_
  refine iff' ?_ ?_ <;> intro c4
  ·
   refine s_5 ?_
   exact rt1 (c_i (by rw [hy, cm_nil o_m o_m]; first | rw [if_pos o_m] | rw [if_neg o_m]))
  ·
   refine s_6 ?_
   exact rt1 (c_i (by rw [hy, cm_nil o_m o_m]; first | rw [if_pos o_m] | rw [if_neg o_m]))

set_option maxRecDepth 100000 in
set_option maxHeartbeats 4000000 in
theorem cmpO_c {V : HV} {av bv : Value} {a b : List Int × Int} (ha : Ints .i64 V av a.1) (hb : Ints .i64 V bv b.1) :
    FnC Tryz.prog 37 [(.agg #[av, (.int .i64 a.2)]), (.agg #[bv, (.int .i64 b.2)])] V [] (fun v _ _ => v = (.int .i64 (cmO a b))) := by
 refine f_i Tryz.func37 ?_
 intro w0 D
 refine s_2 ?_
 refine b_ox fun b1 => ?_
 refine b_ox fun b2 => ?_
 refine s_9 ?_
 refine oq (f_c (cmpL_c ha hb) rfl rfl) ?_
 refine s_7 ?_
 refine iff' ?_ ?_ <;> intro c1
 ·
  refine s_6 ?_
  exact rt1 (c_i (by exact (if_pos (by assumption)).symm))
 ·
  refine s_12 ?_
  refine iff' ?_ ?_ <;> intro c2
  ·
   refine s_6 ?_
   exact rt1 (c_i (by unfold cmO; rw [if_neg (by assumption)]; unfold cmI; (repeat' split) <;> omega))
  ·
   refine s_9 ?_
   refine iff' ?_ ?_ <;> intro c3
   ·
    refine s_6 ?_
    exact rt1 (c_i (by unfold cmO; rw [if_neg (by assumption)]; unfold cmI; (repeat' split) <;> omega))
   ·
    refine s_6 ?_
    exact rt1 (c_i (by unfold cmO; rw [if_neg (by assumption)]; unfold cmI; (repeat' split) <;> omega))

end Go.Proofs.YtbchkopkgpfkgaaGreatDoor
