/- The chapter's examples. No program in sight. -/
import Derived.Test.YtkmhjcjpohpiaaaMtE
namespace Go.Proofs.Ytkmhjcjpohpiaaa
open Go Go.Vc
open Classical
theorem gvm {C : List Int} {i : Int} (h0 : 0 ≤ i) (h1 : i < C.length) : gv (C.map (Value.int .i64)) i = .int .i64 (gi C i) := by
  unfold gv gi
  rw [List.getD_eq_getElem?_getD, List.getD_eq_getElem?_getD, List.getElem?_map, List.getElem?_eq_getElem (by omega)]; rfl
theorem mset {C : List Int} {n : Nat} {z : Int} : (C.map (Value.int .i64)).set n (.int .i64 z) = (C.set n z).map (Value.int .i64) := by
  rw [List.map_set]
theorem Ints.dropI {H : HV} {kk : IntKind} {v : Value} {xs : List Int} (h : Ints kk H v xs) {n : Nat} (hn : n < xs.length) : Ints kk H (dropS v n) (xs.drop n) := by
  have := Sl.drop h (n := n) (by simpa using hn)
  rwa [← List.map_drop] at this
theorem ci_init {A : Mg} {z : Int} : (List.replicate ((A.L.length : Int) + (A.N.length : Int)).toNat (Value.int .i64 0)).set A.r.toNat (.int .i64 (1 * z)) = ((List.replicate (A.L.length + A.N.length) (0 : Int)).set A.r.toNat z).map (Value.int .i64) := by
  rw [Int.one_mul, ← mset, List.map_replicate, show ((A.L.length : Int) + (A.N.length : Int)).toNat = A.L.length + A.N.length by omega]
theorem gi_dd {t : List Int} (h : t.length = 1) : t = [gi t 0] := by
  match t, h with
  | [a], _ => rfl
abbrev T0 : List Int := [5, 7, 5, 5]
abbrev X0 : Mg := ⟨2, [5, 7], [⟨1, 0, 1⟩, ⟨0, 2, 0⟩], 3⟩
abbrev Y0 : Mg := ⟨2, [10, 12], [⟨0, 1, 0⟩], 2⟩
abbrev Z0 : Mg := ⟨1, [0, 1, 2], [⟨0, 0, 1⟩], 3⟩
abbrev W0 : Mg := ⟨3, [-4], [], 0⟩
theorem x0_vls : vls T0 = [5, 7] := (vls_eq (by simp) fun z => by simp; omega).symm
theorem x0_dg : dg 2 T0 = X0 := by unfold dg; rw [x0_vls]; rfl
theorem x0_in : ∀ z ∈ T0, inR z := fun z hz => by
  simp at hz; unfold inR; omega
theorem x0_E : mkE 2 T0 = 0 := mkE_of x0_in (dg_small (by omega) rfl)
theorem x0_ft : ftE 2 T0 = 0 ∧ ftD 2 T0 = X0 := by
  obtain ⟨a, b⟩ := ft_0 (vars := 2) (t := T0) (by omega) rfl
  rw [a, b, x0_E, mkD_0 x0_E, x0_dg]
  exact ⟨rfl, rfl⟩
theorem x0_ok : Ok X0 := by
  have := mk_ok (vars := 2) (t := T0) (by omega) (by omega) rfl x0_E
  rwa [mkD_0 x0_E, x0_dg] at this
theorem x0_vT : vT X0 = T0 := by
  have := vT_dg (vars := 2) (t := T0) (by omega) rfl
  rwa [x0_dg] at this
abbrev H0 : List P2 := [⟨5, 3⟩, ⟨7, 1⟩]
theorem x0_hg : hgR X0 = H0 := by
  unfold hgR hgL
  rw [if_pos x0_ok, x0_vT]; rfl
theorem up_same {e : Int → Bool} {x : Int} {b c : Bool} : up (up e x b) x c = up e x c := by
  funext i; unfold up
  by_cases h : i = x
  · rw [if_pos h, if_pos h]
  · rw [if_neg h, if_neg h, if_neg h]
abbrev sumF : Int → Int → Int → Int := fun x y _ => x + y
theorem y0_T : boT X0 1 sumF = [12, 12, 10, 10] := by
  have h := x0_vT
  have h : [vl X0 (up (up e0 0 false) (0 + 1) false), vl X0 (up (up e0 0 false) (0 + 1) true), vl X0 (up (up e0 0 true) (0 + 1) false), vl X0 (up (up e0 0 true) (0 + 1) true)] = [5, 7, 5, 5] := h
  simp only [List.cons.injEq, and_true] at h
  obtain ⟨h1, h2, h3, h4⟩ := h
  show [vl X0 (up (up (up e0 0 false) (0 + 1) false) 1 false) + vl X0 (up (up (up e0 0 false) (0 + 1) false) 1 true), vl X0 (up (up (up e0 0 false) (0 + 1) true) 1 false) + vl X0 (up (up (up e0 0 false) (0 + 1) true) 1 true),
    vl X0 (up (up (up e0 0 true) (0 + 1) false) 1 false) + vl X0 (up (up (up e0 0 true) (0 + 1) false) 1 true), vl X0 (up (up (up e0 0 true) (0 + 1) true) 1 false) + vl X0 (up (up (up e0 0 true) (0 + 1) true) 1 true)] = _
  have s : ((0 : Int) + 1) = 1 := rfl
  rw [s] at h1 h2 h3 h4
  simp only [s, up_same, h1, h2, h3, h4]
  rfl
theorem y0_vls : vls [12, 12, 10, 10] = [10, 12] := (vls_eq (by simp) fun z => by simp; omega).symm
theorem y0_dg : dg 2 [12, 12, 10, 10] = Y0 := by unfold dg; rw [y0_vls]; rfl
theorem y0_E : mkE 2 [12, 12, 10, 10] = 0 := mkE_of (fun z hz => by simp at hz; unfold inR; omega) (dg_small (by omega) rfl)
theorem y0_bo : boE X0 1 sumF = 0 ∧ boD X0 1 sumF = Y0 := by
  have h := rsE_0 (A := X0) (i := 1) x0_ok ⟨by omega, by show (1 : Int) < 2; omega⟩
  have e : boE X0 1 sumF = 0 := by rw [boE_0 h, y0_T]; exact y0_E
  refine ⟨e, ?_⟩
  unfold boD
  rw [e, orZ_0, y0_T, y0_dg]
theorem w0_cn : cnE 3 (-4) = 0 ∧ cnD 3 (-4) = W0 := cn_0 (by unfold inR; omega)
theorem z0_chk : chkC Z0 = 1 := chk_1 (by show ¬ ((1 : Int) < 0 ∨ (40 : Int) < 1); omega) (by show ¬ (4096 < 3 ∨ 4096 < 1); omega) fun h => by
  have e : (vls (vT Z0)).length = 3 := congrArg (fun A : Mg => A.L.length) h.2
  have := vls_len (vT Z0)
  rw [e, tabv_len] at this
  have this : 3 ≤ 2 ^ (1 : Int).toNat := this
  have e2 : (1 : Int).toNat = 1 := rfl
  rw [e2] at this
  omega
theorem x0_chk : chkC X0 = 0 := chk_0 x0_ok
/-- What two restrictions are combined by. -/
theorem bo_hyp {A : Mg} {i : Int} (hz : rsE A i = 0) : DsOk A.v [rsD A i false, rsD A i true] ∧ SameV A.v [rsD A i false, rsD A i true] ∧ Rng [rsD A i false, rsD A i true] ∧ Rts [rsD A i false, rsD A i true] := by
  have hok := (rsE_ok hz).1
  rw [rsD_0 hz, rsD_0 hz]
  have c := bo_cmb (i := i) hok
  exact ⟨c.ok, c.sv, c.rg, c.rt⟩
theorem bo_res {A : Mg} {i : Int} {F : Int → Int → Int → Int} (hz : rsE A i = 0) : cT A.v [rsD A i false, rsD A i true] F = boT A i F := by
  rw [rsD_0 hz, rsD_0 hz]
  exact bo_cT (rsE_ok hz).1
end Go.Proofs.Ytkmhjcjpohpiaaa
