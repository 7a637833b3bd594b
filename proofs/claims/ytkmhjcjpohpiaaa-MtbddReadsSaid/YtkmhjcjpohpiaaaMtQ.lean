/- What the builder's finish returns. No program in sight. -/
import Derived.Test.YtkmhjcjpohpiaaaMtY
namespace Go.Proofs.Ytkmhjcjpohpiaaa
open Go Go.Vc
open Classical
theorem tki {l : List Int} {i : Int} (h0 : 0 ≤ i) (h1 : i < l.length) : l.take (i.toNat + 1) = l.take i.toNat ++ [gi l i] := by
  rw [List.take_add_one, List.getElem?_eq_getElem (by omega)]
  unfold gi
  rw [List.getD_eq_getElem?_getD, List.getElem?_eq_getElem (by omega)]; rfl
theorem tkf {l : List Fk} {i : Int} (h0 : 0 ≤ i) (h1 : i < l.length) : l.take (i.toNat + 1) = l.take i.toNat ++ [fk l i] := by
  rw [List.take_add_one, List.getElem?_eq_getElem (by omega)]
  unfold fk
  rw [List.getD_eq_getElem?_getD, List.getElem?_eq_getElem (by omega)]; rfl
theorem nmL_step {lvs : List Int} {i : Int} (h0 : 0 ≤ i) : nmL lvs (i.toNat + 1) = setF (nmL lvs i.toNat) (2 * gi lvs i) i := by
  show setF (nmL lvs i.toNat) (2 * gi lvs (i.toNat : Int)) (i.toNat : Int) = _
  rw [show ((i.toNat : Nat) : Int) = i by omega]
theorem nmN_step {lvs nds : List Int} {j : Int} (h0 : 0 ≤ j) : nmN lvs nds (j.toNat + 1) = setF (nmN lvs nds j.toNat) (2 * gi nds j + 1) (lvs.length + j) := by
  show setF (nmN lvs nds j.toNat) (2 * gi nds (j.toNat : Int) + 1) (lvs.length + (j.toNat : Int)) = _
  rw [show ((j.toNat : Nat) : Int) = j by omega]
theorem fin_el {vars : Int} {L : List Int} {N : List Fk} {root : Int} {lvs nds : List Int} {D : Mg} (F : Fin vars L N root lvs nds D) {i : Int} (h0 : 0 ≤ i) (h1 : i < lvs.length) : gi L (gi lvs i) = gi D.L i := by
  rw [← F.lv, gi_map h0 h1]
theorem Fin.ll {vars : Int} {L : List Int} {N : List Fk} {root : Int} {lvs nds : List Int} {D : Mg} (F : Fin vars L N root lvs nds D) : D.L.length = lvs.length := by rw [← F.lv, List.length_map]
abbrev zM : Mg := ⟨0, [], [], 0⟩
/-- A diagram and a code. -/
def MRs (V : HV) (v : Value) (D : Mg) (c : Int) : Prop := ∃ lv nv, v = .tuple #[.agg #[.int .i64 D.v, lv, nv, .int .i64 D.r], .int .i64 c] ∧ Mt V lv nv D
def big (D : Mg) : Prop := 4096 < D.L.length ∨ 4096 < D.N.length
noncomputable def finE (L : List Int) (D : Mg) : Int := if wd L then 3 else if big D then 4 else 0
noncomputable def orZ (D : Mg) (c : Int) : Mg := if c = 0 then D else zM
theorem finE_w {L : List Int} {D : Mg} (h : wd L) : finE L D = 3 := if_pos h
theorem finE_b {L : List Int} {D : Mg} (h : ¬ wd L) (h2 : big D) : finE L D = 4 := by unfold finE; rw [if_neg h, if_pos h2]
theorem finE_0 {L : List Int} {D : Mg} (h : ¬ wd L) (h2 : ¬ big D) : finE L D = 0 := by unfold finE; rw [if_neg h, if_neg h2]
theorem orZ_0 {D : Mg} : orZ D 0 = D := if_pos rfl
theorem orZ_n {D : Mg} {c : Int} (h : c ≠ 0) : orZ D c = zM := if_neg h
theorem MRs.zero {V : HV} {c : Int} : MRs V (.tuple #[.agg #[.int .i64 0, .slice none 0 0, .slice none 0 0, .int .i64 0], .int .i64 c]) zM c := ⟨_, _, rfl, Mt.nil⟩
theorem MRs.mono {V V' : HV} {v : Value} {D : Mg} {c : Int} (h : MRs V v D c) (s : Vc.Sub V V') : MRs V' v D c := by
  obtain ⟨lv, nv, e, m⟩ := h
  exact ⟨lv, nv, e, m.mono s⟩
/-- The diagram with the values of a builder's reference. -/
noncomputable abbrev bD (vars : Int) (L : List Int) (M : List Fk) (r : Int) : Mg := dg vars (tabv vars fun e => gev (bV L M) e r)
end Go.Proofs.Ytkmhjcjpohpiaaa
