/- Strided intervals: values of the operators one by one, and the lists of all values. No program in sight. -/
import Derived.Test.YtapkilaikcihgaaNmZ
namespace Go.Proofs.Ytapkilaikcihgaa
open Go.Vc
open Classical
theorem val8 {op x y : Int} (h : op = 8) : valF op x y = x + y := by subst h; rfl
theorem val9 {op x y : Int} (h : op = 9) : valF op x y = x - y := by subst h; rfl
theorem val10 {op x y : Int} (h : op = 10) : valF op x y = x * y := by subst h; rfl
theorem val11 {op x y : Int} (h : op = 11) : valF op x y = divF x y := by subst h; rfl
theorem val12 {op x y : Int} (h : op = 12) : valF op x y = modF x y := by subst h; rfl
theorem val13 {op x y : Int} (h : op = 13) : valF op x y = flg (x = y) := by subst h; rfl
theorem val14 {op x y : Int} (h : op = 14) : valF op x y = flg (x ≠ y) := by subst h; rfl
theorem val15 {op x y : Int} (h : op = 15) : valF op x y = flg (x < y) := by subst h; rfl
theorem val16 {op x y : Int} (h : op = 16) : valF op x y = flg (x ≤ y) := by subst h; rfl
theorem val17 {op x y : Int} (h : op = 17) : valF op x y = flg (y < x) := by subst h; rfl
theorem val18 {op x y : Int} (h : op = 18) : valF op x y = flg (y ≤ x) := by subst h; rfl
theorem val19 {op x y : Int} (h : op = 19) : valF op x y = flg (x ≠ 0 ∧ y ≠ 0) := by subst h; rfl
theorem val20 {op x y : Int} (h : op = 20) : valF op x y = flg (x ≠ 0 ∨ y ≠ 0) := by subst h; rfl
theorem val21 {op x y : Int} (h : op = 21) : valF op x y = mn x y := by subst h; rfl
theorem val22 {op x y : Int} (h : ¬ (8 ≤ op ∧ op ≤ 21)) : valF op x y = mx x y := by
  unfold valF
  rw [if_neg (by omega), if_neg (by omega), if_neg (by omega), if_neg (by omega), if_neg (by omega), if_neg (by omega), if_neg (by omega), if_neg (by omega), if_neg (by omega), if_neg (by omega), if_neg (by omega), if_neg (by omega), if_neg (by omega), if_neg (by omega)]
theorem flg_1 {p : Prop} (h : p) : flg p = 1 := if_pos h
theorem flg_0 {p : Prop} (h : ¬ p) : flg p = 0 := if_neg h
theorem flg_iff {p q : Prop} (h : p ↔ q) : flg p = flg q := by rw [propext h]
theorem mn_lt {x y : Int} (h : x < y) : x = mn x y := by unfold mn; rw [if_neg (by omega)]
theorem mx_gt {x y : Int} (h : y < x) : x = mx x y := by unfold mx; rw [if_neg (by omega)]
theorem mx_le {x y : Int} (h : x ≤ y) : y = mx x y := by unfold mx; split <;> omega
theorem mn_ge {x y : Int} (h : y ≤ x) : y = mn x y := by unfold mn; split <;> omega
theorem dec_true {i : Decidable True} : @decide True i = true := @decide_eq_true True i trivial
theorem dec_false {i : Decidable False} : @decide False i = false := @decide_eq_false False i id
/-- Is the value in range? -/
def valOk (op x y : Int) : Prop := (op = 8 ∨ op = 9 ∨ op = 10) → fits (valF op x y)
theorem valOk_o {op x y : Int} (h : ¬ (op = 8 ∨ op = 9 ∨ op = 10)) : valOk op x y := fun q => absurd q h
theorem valOk_8 {op x y : Int} (h : op = 8) : valOk op x y ↔ fits (x + y) := by subst h; exact ⟨fun q => q (Or.inl rfl), fun q _ => q⟩
theorem valOk_9 {op x y : Int} (h : op = 9) : valOk op x y ↔ fits (x - y) := by subst h; exact ⟨fun q => q (Or.inr (Or.inl rfl)), fun q _ => q⟩
theorem valOk_10 {op x y : Int} (h : op = 10) : valOk op x y ↔ fits (x * y) := by subst h; exact ⟨fun q => q (Or.inr (Or.inr rfl)), fun q _ => q⟩
noncomputable def prF (x y : Int) : Int := if fits (x * y) then x * y else 0
theorem prF_1 {x y : Int} (h : fits (x * y)) : prF x y = x * y := if_pos h
theorem prF_0 {x y : Int} (h : ¬ fits (x * y)) : prF x y = 0 := if_neg h
noncomputable def vN (op x y : Int) : Int := if op = 10 then prF x y else valF op x y
theorem vN_10 {op x y : Int} (h : op = 10) : vN op x y = prF x y := if_pos h
theorem vN_o {op x y : Int} (h : ¬ op = 10) : vN op x y = valF op x y := if_neg h
theorem vN_ok {op x y : Int} (h : valOk op x y) : vN op x y = valF op x y := by
  by_cases q : op = 10
  · rw [vN_10 q, val10 q, prF_1 ((valOk_10 q).1 h)]
  · exact vN_o q
theorem aw0 (x : Int) : aw x 0 = mag x := by unfold aw mag; split <;> split <;> omega
theorem pr_no {x y : Int} (hy : y ≠ 0) (h : 1099511627776 / mag y < mag x) : ¬ fits (x * y) := by
  intro q
  rw [Int.mul_comm] at q
  exact (tm_iff.2 q) ⟨hy, h⟩
theorem pr_yes {x y : Int} (h : ¬ (x ≠ 0 ∧ y ≠ 0 ∧ 1099511627776 / mag y < mag x)) : fits (x * y) := by
  by_cases hx : x = 0
  · subst hx; rw [Int.zero_mul]; decide
  by_cases hy : y = 0
  · subst hy; rw [Int.mul_zero]; decide
  rw [Int.mul_comm]
  exact tm_fits fun q => h ⟨hx, hy, q.2⟩
theorem val_fits {op x y : Int} (hx : fits x) (hy : fits y) (h : valOk op x y) : fits (valF op x y) := by
  have hflg : ∀ p : Prop, fits (flg p) := fun p => by unfold flg; split <;> decide
  by_cases c : op = 8 ∨ op = 9 ∨ op = 10
  · exact h c
  by_cases h11 : op = 11
  · rw [val11 h11]; exact divF_fits hx
  by_cases h12 : op = 12
  · rw [val12 h12]; exact modF_fits hx hy
  by_cases h13 : op = 13
  · rw [val13 h13]; exact hflg _
  by_cases h14 : op = 14
  · rw [val14 h14]; exact hflg _
  by_cases h15 : op = 15
  · rw [val15 h15]; exact hflg _
  by_cases h16 : op = 16
  · rw [val16 h16]; exact hflg _
  by_cases h17 : op = 17
  · rw [val17 h17]; exact hflg _
  by_cases h18 : op = 18
  · rw [val18 h18]; exact hflg _
  by_cases h19 : op = 19
  · rw [val19 h19]; exact hflg _
  by_cases h20 : op = 20
  · rw [val20 h20]; exact hflg _
  by_cases h21 : op = 21
  · rw [val21 h21]; unfold mn; split <;> assumption
  · rw [val22 (by omega)]; unfold mx; split <;> assumption
/- the list of all values -/
noncomputable def exR (op : Int) (b : Nm) (x : Int) : List Int := (memF b).map (valF op x)
noncomputable def exL (op : Int) (a b : Nm) : List Int := (memF a).flatMap (exR op b)
noncomputable def exF (op : Int) (a b : Nm) : Nm := ofF (exL op a b)
def exOk (op : Int) (a b : Nm) : Prop := ∀ x y, mem a x → mem b y → valOk op x y
theorem exL_iff {op : Int} {a b : Nm} (ha : vld a) (hb : vld b) {n : Int} : n ∈ exL op a b ↔ BinS op a b n := by
  unfold exL exR BinS
  simp only [List.mem_flatMap, List.mem_map, memF_iff ha, memF_iff hb]
  constructor
  · rintro ⟨x, hx, y, hy, e⟩; exact ⟨x, y, hx, hy, e⟩
  · rintro ⟨x, y, hx, hy, e⟩; exact ⟨x, hx, y, hy, e⟩
theorem exL_fit {op : Int} {a b : Nm} (ha : vld a) (hb : vld b) (h : exOk op a b) : fitAll (exL op a b) = true := by
  rw [fitAll_mem]
  intro n hn
  obtain ⟨x, y, hx, hy, rfl⟩ := (exL_iff ha hb).1 hn
  exact val_fits (mem_fits ha hx) (mem_fits hb hy) (h x y hx hy)
theorem ex_least {op : Int} {a b : Nm} (ha : vld a) (hb : vld b) (h : exOk op a b) : Least (BinS op a b) (exF op a b) := (least_of (fitAll_mem.1 (exL_fit ha hb h))).congr fun n => exL_iff ha hb
end Go.Proofs.Ytapkilaikcihgaa
