/- Strided intervals: the sets of all values, listed, by corners, or widely. No program in sight. -/
import Derived.Test.YtapkilaikcihgaaNmP
namespace Go.Proofs.Ytapkilaikcihgaa
open Go.Vc
open Classical
noncomputable def XS (op : Int) (a b : Nm) (p : Int) : List Int := ((memF a).take p.toNat).flatMap (exR op b)
noncomputable def YS (op : Int) (a b : Nm) (p q : Int) : List Int := XS op a b p ++ ((memF b).take q.toNat).map (valF op (gi (memF a) p))
theorem XS_0 (op : Int) (a b : Nm) : XS op a b 0 = [] := rfl
theorem YS_0 (op : Int) (a b : Nm) (p : Int) : YS op a b p 0 = XS op a b p := by unfold YS; simp
theorem YS_step {op : Int} {a b : Nm} {p q : Int} (q0 : 0 ≤ q) (q1 : q < (memF b).length) : YS op a b p (q + 1) = YS op a b p q ++ [valF op (gi (memF a) p) (gi (memF b) q)] := by
  unfold YS; rw [take_step q0 q1, List.map_append, List.append_assoc]; rfl
theorem XS_step {op : Int} {a b : Nm} {p q : Int} (p0 : 0 ≤ p) (p1 : p < (memF a).length) (hq : q = (memF b).length) : XS op a b (p + 1) = YS op a b p q := by
  unfold YS XS exR
  rw [take_step p0 p1, List.flatMap_append, hq, show (((memF b).length : Int)).toNat = (memF b).length by omega, List.take_length]
  simp
theorem XS_all {op : Int} {a b : Nm} {p : Int} (hp : p = (memF a).length) : XS op a b p = exL op a b := by
  unfold XS exL; rw [hp, show (((memF a).length : Int)).toNat = (memF a).length by omega, List.take_length]
theorem YS_mem {op : Int} {a b : Nm} {p q : Int} (p0 : 0 ≤ p) (p1 : p < (memF a).length) {n : Int} (h : n ∈ YS op a b p q) : n ∈ exL op a b := by
  unfold YS XS exR at h
  unfold exL exR
  rw [List.mem_append] at h
  rcases h with h | h
  · obtain ⟨x, hx, hn⟩ := List.mem_flatMap.1 h
    exact List.mem_flatMap.2 ⟨x, List.mem_of_mem_take hx, hn⟩
  · obtain ⟨y, hy, hn⟩ := List.mem_map.1 h
    exact List.mem_flatMap.2 ⟨_, gi_mem p0 p1, List.mem_map.2 ⟨y, List.mem_of_mem_take hy, hn⟩⟩
theorem YS_vld {op : Int} {a b : Nm} {p q : Int} (ha : vld a) (hb : vld b) (hok : exOk op a b) (p0 : 0 ≤ p) (p1 : p < (memF a).length) : vld (ofF (YS op a b p q)) :=
  (least_of fun n hn => fitAll_mem.1 (exL_fit ha hb hok) n (YS_mem p0 p1 hn)).ok
theorem memF_len {a : Nm} (h : vld a) : ((memF a).length : Int) = sizeF a := by
  unfold memF; rw [memP_len]; have := (size_bd h).1; omega
theorem memF_at {a : Nm} {i : Int} (h : vld a) (i0 : 0 ≤ i) (i1 : i < sizeF a) : gi (memF a) i = a.l + i * a.s := by
  have hl := memF_len h
  have hlt : i.toNat < (memF a).length := by omega
  have e : gi (memF a) i = (memF a)[i.toNat] := by simp [gi, List.getElem?_eq_getElem hlt]
  rw [e]
  simp only [memF, memP, List.getElem_map, List.getElem_range]
  rw [show ((i.toNat : Nat) : Int) = i by omega]
theorem memF_gi {a : Nm} {i : Int} (h : vld a) (i0 : 0 ≤ i) (i1 : i < (memF a).length) : mem a (gi (memF a) i) := (memF_iff h).1 (gi_mem i0 i1)
theorem size_pos {a : Nm} (h : vld a) (he : a ≠ nE) : 1 ≤ sizeF a := by
  by_cases h0 : a.s = 0
  · rw [sizeF_1 he h0]; omega
  · rw [sizeF_2 he h0]
    have := Int.ediv_nonneg (show 0 ≤ a.h - a.l by have := (vld_ne h he).2.2.1; omega) (vld_bd h).2.2
    omega
def sml (a b : Nm) : Prop := sizeF a * sizeF b ≤ 4096
theorem sml_no {a b : Nm} (ha : vld a) (hb : vld b) (he : a ≠ nE) (hf : b ≠ nE) (h : 4096 < sizeF a ∨ 4096 < sizeF b ∨ 4096 < sizeF a * sizeF b) : ¬ sml a b := by
  have h1 := size_pos ha he
  have h2 := size_pos hb hf
  intro q
  unfold sml at q
  have e1 := Int.mul_le_mul_of_nonneg_left h2 (show 0 ≤ sizeF a by omega)
  have e2 := Int.mul_le_mul_of_nonneg_right h1 (show 0 ≤ sizeF b by omega)
  omega
theorem sml_div {a b : Nm} (hb : vld b) (hf : b ≠ nE) : sml a b ↔ sizeF a ≤ 4096 / sizeF b := by
  have h2 := size_pos hb hf
  unfold sml
  exact (Int.le_ediv_iff_mul_le (by omega)).symm
noncomputable def wdF (op : Int) (a b : Nm) : Nm :=
  if op = 11 then (if 0 ≤ a.l ∧ 0 ≤ b.l then spanF 0 (mx (mag a.l) (mag a.h)) 1 else spanF (-(mx (mag a.l) (mag a.h))) (mx (mag a.l) (mag a.h)) 1)
  else if op = 12 then spanF (mn (b.l + 1) 0) (mx (b.h - 1) 0) 1
  else if op = 21 then upF (joinF a b) (mn a.h b.h) else abF (joinF a b) (mx a.l b.l - 1)
theorem wd_1 {op : Int} {a b : Nm} (h : op = 11) (h2 : 0 ≤ a.l ∧ 0 ≤ b.l) : wdF op a b = spanF 0 (mx (mag a.l) (mag a.h)) 1 := by unfold wdF; rw [if_pos h, if_pos h2]
theorem wd_2 {op : Int} {a b : Nm} (h : op = 11) (h2 : ¬ (0 ≤ a.l ∧ 0 ≤ b.l)) : wdF op a b = spanF (-(mx (mag a.l) (mag a.h))) (mx (mag a.l) (mag a.h)) 1 := by unfold wdF; rw [if_pos h, if_neg h2]
theorem wd_3 {op : Int} {a b : Nm} (h : op = 12) : wdF op a b = spanF (mn (b.l + 1) 0) (mx (b.h - 1) 0) 1 := by unfold wdF; rw [if_neg (by omega), if_pos h]
theorem wd_4 {op : Int} {a b : Nm} (h : op = 21) : wdF op a b = upF (joinF a b) (mn a.h b.h) := by unfold wdF; rw [if_neg (by omega), if_neg (by omega), if_pos h]
theorem wd_5 {op : Int} {a b : Nm} (h : ¬ (op = 11 ∨ op = 12 ∨ op = 21)) : wdF op a b = abF (joinF a b) (mx a.l b.l - 1) := by unfold wdF; rw [if_neg (by omega), if_neg (by omega), if_neg (by omega)]
theorem mag_bd {n : Int} (h : fits n) : 0 ≤ mag n ∧ mag n ≤ 1099511627776 := ⟨mag_nn n, mag_fits.1 h⟩
noncomputable def lsF (op : Int) (a b : Nm) : Nm := if sml a b then exF op a b else wdF op a b
theorem lsF_1 {op : Int} {a b : Nm} (h : sml a b) : lsF op a b = exF op a b := if_pos h
theorem lsF_0 {op : Int} {a b : Nm} (h : ¬ sml a b) : lsF op a b = wdF op a b := if_neg h
noncomputable def exN (op : Int) (a b : Nm) : Nm := if exOk op a b then exF op a b else ⟨0, 0, 0⟩
noncomputable def exE (op : Int) (a b : Nm) : Int := if exOk op a b then 0 else 3
theorem exN_1 {op : Int} {a b : Nm} (h : exOk op a b) : exN op a b = exF op a b := if_pos h
theorem exN_0 {op : Int} {a b : Nm} (h : ¬ exOk op a b) : exN op a b = ⟨0, 0, 0⟩ := if_neg h
theorem exE_1 {op : Int} {a b : Nm} (h : exOk op a b) : exE op a b = 0 := if_pos h
theorem exE_0 {op : Int} {a b : Nm} (h : ¬ exOk op a b) : exE op a b = 3 := if_neg h
/- flags -/
noncomputable def fgF (no yes : Prop) : Nm := if no then (if yes then ⟨0, 1, 1⟩ else sgl 0) else (if yes then sgl 1 else nE)
theorem fg_11 {p q : Prop} (h1 : p) (h2 : q) : fgF p q = ⟨0, 1, 1⟩ := by unfold fgF; rw [if_pos h1, if_pos h2]
theorem fg_10 {p q : Prop} (h1 : p) (h2 : ¬ q) : fgF p q = sgl 0 := by unfold fgF; rw [if_pos h1, if_neg h2]
theorem fg_01 {p q : Prop} (h1 : ¬ p) (h2 : q) : fgF p q = sgl 1 := by unfold fgF; rw [if_neg h1, if_pos h2]
theorem fg_00 {p q : Prop} (h1 : ¬ p) (h2 : ¬ q) : fgF p q = nE := by unfold fgF; rw [if_neg h1, if_neg h2]
theorem fits0 : fits 0 := by decide
theorem fits1 : fits 1 := by decide
theorem j0 : joinF nE (sgl 0) = sgl 0 := joinF_1 rfl
theorem j1 : joinF nE (sgl 1) = sgl 1 := joinF_1 rfl
theorem j01 : joinF (sgl 0) (sgl 1) = ⟨0, 1, 1⟩ := by decide
theorem fg_congr {p q p' q' : Prop} (h1 : p ↔ p') (h2 : q ↔ q') : fgF p q = fgF p' q' := by rw [propext h1, propext h2]
/-- The least set of the truth values. -/
theorem fg_least {no yes : Prop} : Least (fun n => (n = 0 ∧ no) ∨ (n = 1 ∧ yes)) (fgF no yes) := by
  by_cases h1 : no
  · by_cases h2 : yes
    · rw [fg_11 h1 h2, ← j01]
      exact ((least_sgl fits0).join (least_sgl fits1)).congr fun n => by simp [h1, h2]
    · rw [fg_10 h1 h2]; exact (least_sgl fits0).congr fun n => by simp [h1, h2]
  · by_cases h2 : yes
    · rw [fg_01 h1 h2]; exact (least_sgl fits1).congr fun n => by simp [h1, h2]
    · rw [fg_00 h1 h2]; exact least_nE fun n => by simp [h1, h2]
/- one operand -/
def negF (a : Nm) : Nm := ⟨-a.h, -a.l, a.s⟩
noncomputable def unN (op : Int) (a : Nm) : Nm := if vld a ∧ (op = 6 ∨ op = 7) then (if a = nE then nE else if op = 7 then fgF (oth a) (mem a 0) else negF a) else ⟨0, 0, 0⟩
noncomputable def unE (op : Int) (a : Nm) : Int := if vld a ∧ (op = 6 ∨ op = 7) then 0 else 1
theorem unE_1 {op : Int} {a : Nm} (h : ¬ (vld a ∧ (op = 6 ∨ op = 7))) : unE op a = 1 := if_neg h
theorem unE_0 {op : Int} {a : Nm} (h : vld a ∧ (op = 6 ∨ op = 7)) : unE op a = 0 := if_pos h
theorem unN_1 {op : Int} {a : Nm} (h : ¬ (vld a ∧ (op = 6 ∨ op = 7))) : unN op a = ⟨0, 0, 0⟩ := if_neg h
theorem unN_e {op : Int} {a : Nm} (h : vld a ∧ (op = 6 ∨ op = 7)) (h2 : a = nE) : unN op a = nE := by unfold unN; rw [if_pos h, if_pos h2]
theorem unN_7 {op : Int} {a : Nm} (h : vld a ∧ (op = 6 ∨ op = 7)) (h2 : ¬ a = nE) (h3 : op = 7) : unN op a = fgF (oth a) (mem a 0) := by unfold unN; rw [if_pos h, if_neg h2, if_pos h3]
theorem unN_6 {op : Int} {a : Nm} (h : vld a ∧ (op = 6 ∨ op = 7)) (h2 : ¬ a = nE) (h3 : ¬ op = 7) : unN op a = negF a := by unfold unN; rw [if_pos h, if_neg h2, if_neg h3]
theorem two_kinds {a : Nm} (h : vld a) (he : a ≠ nE) : oth a ∨ mem a 0 := by
  have hp := size_pos h he
  by_cases q : 1 < sizeF a
  · exact Or.inl (Or.inl q)
  · have h1 : sizeF a = 1 := by omega
    by_cases z : a.l = 0
    · exact Or.inr ((one_mem0 h h1).2 z)
    · exact Or.inl (Or.inr ⟨h1, z⟩)
end Go.Proofs.Ytapkilaikcihgaa
