/- Strided intervals: comparisons, corners, and what an operator with two operands returns. No program in sight. -/
import Derived.Test.YtapkilaikcihgaaNmQ
namespace Go.Proofs.Ytapkilaikcihgaa
open Go.Vc
open Classical
def uneq (a b : Nm) : Prop := 1 < sizeF a ∨ 1 < sizeF b ∨ a.l ≠ b.l
theorem size_one_iff {a : Nm} (h : vld a) (he : a ≠ nE) : sizeF a = 1 ↔ a.l = a.h := by
  constructor
  · intro q; exact (size_one h q).2
  · intro q
    rw [sizeF_1 he ((vld_ne h he).2.2.2.1 q)]
theorem uneq_iff {a b : Nm} (ha : vld a) (hb : vld b) (he : a ≠ nE) (hf : b ≠ nE) : uneq a b ↔ (¬ a = b ∨ 1 < sizeF a) := by
  have p1 := size_pos ha he
  have p2 := size_pos hb hf
  unfold uneq
  constructor
  · rintro (h | h | h)
    · exact Or.inr h
    · by_cases q : a = b
      · subst q; exact Or.inr h
      · exact Or.inl q
    · exact Or.inl fun e => h (by rw [e])
  · rintro (h | h)
    · by_cases q : 1 < sizeF a ∨ 1 < sizeF b
      · exact q.elim Or.inl fun z => Or.inr (Or.inl z)
      · refine Or.inr (Or.inr fun e => h ?_)
        have e1 := (size_one_iff ha he).1 (by omega)
        have e2 := (size_one_iff hb hf).1 (by omega)
        exact Nm.ext' e (by omega) (by rw [(vld_ne ha he).2.2.2.1 e1, (vld_ne hb hf).2.2.2.1 e2])
    · exact Or.inl h
def noP (op : Int) (a b : Nm) : Prop :=
  if op = 13 then uneq a b else if op = 14 then ¬ meetF a b = nE else if op = 15 then b.l ≤ a.h else if op = 16 then b.l < a.h else if op = 17 then a.l ≤ b.h else if op = 18 then a.l < b.h else if op = 19 then mem a 0 ∨ mem b 0 else mem a 0 ∧ mem b 0
def yesP (op : Int) (a b : Nm) : Prop :=
  if op = 13 then ¬ meetF a b = nE else if op = 14 then uneq a b else if op = 15 then a.l < b.h else if op = 16 then a.l ≤ b.h else if op = 17 then b.l < a.h else if op = 18 then b.l ≤ a.h else if op = 19 then oth a ∧ oth b else oth a ∨ oth b
section
variable {op : Int} {a b : Nm}
theorem no13 (h : op = 13) : noP op a b ↔ uneq a b := by subst h; rfl
theorem no14 (h : op = 14) : noP op a b ↔ ¬ meetF a b = nE := by subst h; rfl
theorem no15 (h : op = 15) : noP op a b ↔ b.l ≤ a.h := by subst h; rfl
theorem no16 (h : op = 16) : noP op a b ↔ b.l < a.h := by subst h; rfl
theorem no17 (h : op = 17) : noP op a b ↔ a.l ≤ b.h := by subst h; rfl
theorem no18 (h : op = 18) : noP op a b ↔ a.l < b.h := by subst h; rfl
theorem no19 (h : op = 19) : noP op a b ↔ (mem a 0 ∨ mem b 0) := by subst h; rfl
theorem no20 (h : ¬ (13 ≤ op ∧ op ≤ 19)) : noP op a b ↔ (mem a 0 ∧ mem b 0) := by
  unfold noP; rw [if_neg (by omega), if_neg (by omega), if_neg (by omega), if_neg (by omega), if_neg (by omega), if_neg (by omega), if_neg (by omega)]
theorem yes13 (h : op = 13) : yesP op a b ↔ ¬ meetF a b = nE := by subst h; rfl
theorem yes14 (h : op = 14) : yesP op a b ↔ uneq a b := by subst h; rfl
theorem yes15 (h : op = 15) : yesP op a b ↔ a.l < b.h := by subst h; rfl
theorem yes16 (h : op = 16) : yesP op a b ↔ a.l ≤ b.h := by subst h; rfl
theorem yes17 (h : op = 17) : yesP op a b ↔ b.l < a.h := by subst h; rfl
theorem yes18 (h : op = 18) : yesP op a b ↔ b.l ≤ a.h := by subst h; rfl
theorem yes19 (h : op = 19) : yesP op a b ↔ (oth a ∧ oth b) := by subst h; rfl
theorem yes20 (h : ¬ (13 ≤ op ∧ op ≤ 19)) : yesP op a b ↔ (oth a ∨ oth b) := by
  unfold yesP; rw [if_neg (by omega), if_neg (by omega), if_neg (by omega), if_neg (by omega), if_neg (by omega), if_neg (by omega), if_neg (by omega)]
theorem oth_iff (ha : vld a) (he : a ≠ nE) : oth a ↔ ∃ x, mem a x ∧ x ≠ 0 := by
  have hp := size_pos ha he
  constructor
  · rintro (h | ⟨_, h⟩)
    · have hlt : a.l ≠ a.h := fun e => by have := (size_one_iff ha he).2 e; omega
      by_cases q : a.l = 0
      · exact ⟨a.h, mem_h ha he, by omega⟩
      · exact ⟨a.l, mem_l ha he, q⟩
    · exact ⟨a.l, mem_l ha he, h⟩
  · rintro ⟨x, hx, h0⟩
    by_cases q : 1 < sizeF a
    · exact Or.inl q
    · have h1 : sizeF a = 1 := by omega
      have e := (size_one ha h1).2
      exact Or.inr ⟨h1, by have := hx.1; have := hx.2.1; omega⟩
theorem cp_fg_of {R : Int → Int → Prop} {no yes : Prop} (ha : vld a) (hb : vld b) (ho : ¬ (op = 8 ∨ op = 9 ∨ op = 10)) (hv : ∀ x y, valF op x y = flg (R x y)) (h1 : no ↔ ∃ x y, mem a x ∧ mem b y ∧ ¬ R x y) (h2 : yes ↔ ∃ x y, mem a x ∧ mem b y ∧ R x y) : exF op a b = fgF no yes := by
  refine (ex_least ha hb fun x y _ _ => valOk_o ho).unique (fg_least.congr fun n => ?_)
  unfold BinS
  simp only [hv]
  constructor
  · rintro (⟨rfl, h⟩ | ⟨rfl, h⟩)
    · obtain ⟨x, y, hx, hy, hr⟩ := h1.1 h; exact ⟨x, y, hx, hy, flg_0 hr⟩
    · obtain ⟨x, y, hx, hy, hr⟩ := h2.1 h; exact ⟨x, y, hx, hy, flg_1 hr⟩
  · rintro ⟨x, y, hx, hy, e⟩
    by_cases hr : R x y
    · rw [flg_1 hr] at e; exact Or.inr ⟨e.symm, h2.2 ⟨x, y, hx, hy, hr⟩⟩
    · rw [flg_0 hr] at e; exact Or.inl ⟨e.symm, h1.2 ⟨x, y, hx, hy, hr⟩⟩
theorem cp_all (ha : vld a) (hb : vld b) (he : a ≠ nE) (hf : b ≠ nE) (ho : 13 ≤ op ∧ op ≤ 20) : exF op a b = fgF (noP op a b) (yesP op a b) ∧ (noP op a b ∨ yesP op a b) := by
  have la := mem_l ha he
  have lb := mem_l hb hf
  have ka := mem_h ha he
  have kb := mem_h hb hf
  have key : ∀ (R : Int → Int → Prop), (∀ x y, valF op x y = flg (R x y)) → (noP op a b ↔ ∃ x y, mem a x ∧ mem b y ∧ ¬ R x y) → (yesP op a b ↔ ∃ x y, mem a x ∧ mem b y ∧ R x y) → exF op a b = fgF (noP op a b) (yesP op a b) ∧ (noP op a b ∨ yesP op a b) := fun R hv h1 h2 =>
    ⟨cp_fg_of ha hb (by omega) hv h1 h2, by
      by_cases r : R a.l b.l
      · exact Or.inr (h2.2 ⟨_, _, la, lb, r⟩)
      · exact Or.inl (h1.2 ⟨_, _, la, lb, r⟩)⟩
  have hE : (¬ meetF a b = nE) ↔ ∃ x y, mem a x ∧ mem b y ∧ x = y := by
    rw [meet_emp ha hb]
    constructor
    · intro h
      obtain ⟨n, hn⟩ := Classical.not_forall.1 h
      have := Classical.not_not.1 hn
      exact ⟨n, n, this.1, this.2, rfl⟩
    · rintro ⟨x, y, hx, hy, rfl⟩ h; exact h x ⟨hx, hy⟩
  have hU : uneq a b ↔ ∃ x y, mem a x ∧ mem b y ∧ ¬ x = y := by
    have p1 := size_pos ha he
    have p2 := size_pos hb hf
    unfold uneq
    constructor
    · rintro (h | h | h)
      · have hlt : a.l ≠ a.h := fun e => by have := (size_one_iff ha he).2 e; omega
        by_cases q : a.l = b.l
        · exact ⟨a.h, b.l, ka, lb, by omega⟩
        · exact ⟨a.l, b.l, la, lb, q⟩
      · have hlt : b.l ≠ b.h := fun e => by have := (size_one_iff hb hf).2 e; omega
        by_cases q : a.l = b.l
        · exact ⟨a.l, b.h, la, kb, by omega⟩
        · exact ⟨a.l, b.l, la, lb, q⟩
      · exact ⟨a.l, b.l, la, lb, h⟩
    · rintro ⟨x, y, hx, hy, hne⟩
      by_cases q : 1 < sizeF a ∨ 1 < sizeF b
      · exact q.elim Or.inl fun z => Or.inr (Or.inl z)
      · have e1 := (size_one_iff ha he).1 (by omega)
        have e2 := (size_one_iff hb hf).1 (by omega)
        refine Or.inr (Or.inr fun e => hne ?_)
        have := hx.1; have := hx.2.1; have := hy.1; have := hy.2.1
        omega
  have hs : op = 13 ∨ op = 14 ∨ op = 15 ∨ op = 16 ∨ op = 17 ∨ op = 18 ∨ op = 19 ∨ op = 20 := by omega
  rcases hs with h | h | h | h | h | h | h | h
  · refine key (fun x y => x = y) (fun x y => val13 h) ((no13 h).trans hU) ((yes13 h).trans hE)
  · refine key (fun x y => x ≠ y) (fun x y => val14 h) ((no14 h).trans (hE.trans ?_)) ((yes14 h).trans hU)
    constructor
    · rintro ⟨x, y, hx, hy, e⟩; exact ⟨x, y, hx, hy, fun z => z e⟩
    · rintro ⟨x, y, hx, hy, e⟩; exact ⟨x, y, hx, hy, Classical.not_not.1 e⟩
  · refine key (fun x y => x < y) (fun x y => val15 h) ((no15 h).trans ⟨fun q => ⟨a.h, b.l, ka, lb, by omega⟩, ?_⟩) ((yes15 h).trans ⟨fun q => ⟨a.l, b.h, la, kb, q⟩, ?_⟩)
    · rintro ⟨x, y, hx, hy, e⟩; have := hx.2.1; have := hy.1; omega
    · rintro ⟨x, y, hx, hy, e⟩; have := hx.1; have := hy.2.1; omega
  · refine key (fun x y => x ≤ y) (fun x y => val16 h) ((no16 h).trans ⟨fun q => ⟨a.h, b.l, ka, lb, by omega⟩, ?_⟩) ((yes16 h).trans ⟨fun q => ⟨a.l, b.h, la, kb, q⟩, ?_⟩)
    · rintro ⟨x, y, hx, hy, e⟩; have := hx.2.1; have := hy.1; omega
    · rintro ⟨x, y, hx, hy, e⟩; have := hx.1; have := hy.2.1; omega
  · refine key (fun x y => y < x) (fun x y => val17 h) ((no17 h).trans ⟨fun q => ⟨a.l, b.h, la, kb, by omega⟩, ?_⟩) ((yes17 h).trans ⟨fun q => ⟨a.h, b.l, ka, lb, q⟩, ?_⟩)
    · rintro ⟨x, y, hx, hy, e⟩; have := hx.1; have := hy.2.1; omega
    · rintro ⟨x, y, hx, hy, e⟩; have := hx.2.1; have := hy.1; omega
  · refine key (fun x y => y ≤ x) (fun x y => val18 h) ((no18 h).trans ⟨fun q => ⟨a.l, b.h, la, kb, by omega⟩, ?_⟩) ((yes18 h).trans ⟨fun q => ⟨a.h, b.l, ka, lb, q⟩, ?_⟩)
    · rintro ⟨x, y, hx, hy, e⟩; have := hx.1; have := hy.2.1; omega
    · rintro ⟨x, y, hx, hy, e⟩; have := hx.2.1; have := hy.1; omega
  · refine key (fun x y => x ≠ 0 ∧ y ≠ 0) (fun x y => val19 h) ((no19 h).trans ⟨?_, ?_⟩) ((yes19 h).trans ⟨?_, ?_⟩)
    · rintro (q | q)
      · exact ⟨0, b.l, q, lb, by omega⟩
      · exact ⟨a.l, 0, la, q, by omega⟩
    · rintro ⟨x, y, hx, hy, e⟩
      by_cases z : x = 0
      · exact Or.inl (z ▸ hx)
      · exact Or.inr ((show y = 0 by omega) ▸ hy)
    · rintro ⟨q1, q2⟩
      obtain ⟨x, hx, h0⟩ := (oth_iff ha he).1 q1
      obtain ⟨y, hy, h1⟩ := (oth_iff hb hf).1 q2
      exact ⟨x, y, hx, hy, h0, h1⟩
    · rintro ⟨x, y, hx, hy, h0, h1⟩; exact ⟨(oth_iff ha he).2 ⟨x, hx, h0⟩, (oth_iff hb hf).2 ⟨y, hy, h1⟩⟩
  · refine key (fun x y => x ≠ 0 ∨ y ≠ 0) (fun x y => val20 h) ((no20 (by omega)).trans ⟨?_, ?_⟩) ((yes20 (by omega)).trans ⟨?_, ?_⟩)
    · rintro ⟨q1, q2⟩; exact ⟨0, 0, q1, q2, by omega⟩
    · rintro ⟨x, y, hx, hy, e⟩; exact ⟨(show x = 0 by omega) ▸ hx, (show y = 0 by omega) ▸ hy⟩
    · rintro (q | q)
      · obtain ⟨x, hx, h0⟩ := (oth_iff ha he).1 q; exact ⟨x, b.l, hx, lb, Or.inl h0⟩
      · obtain ⟨y, hy, h0⟩ := (oth_iff hb hf).1 q; exact ⟨a.l, y, la, hy, Or.inr h0⟩
    · rintro ⟨x, y, hx, hy, h0 | h0⟩
      · exact Or.inl ((oth_iff ha he).2 ⟨x, hx, h0⟩)
      · exact Or.inr ((oth_iff hb hf).2 ⟨y, hy, h0⟩)
end
/- sums, differences and products: the range -/
def arOk (op : Int) (a b : Nm) : Prop := (op = 8 → fits (a.l + b.l) ∧ fits (a.h + b.h)) ∧ (op = 9 → fits (a.l - b.h) ∧ fits (a.h - b.l)) ∧ (op = 10 → mulOk a b)
noncomputable def arF (op : Int) (a b : Nm) : Nm := if op = 8 then spanF (a.l + b.l) (a.h + b.h) (gcdF [a.s, b.s]) else if op = 9 then spanF (a.l - b.h) (a.h - b.l) (gcdF [a.s, b.s]) else spanF (minF (pl a b)) (maxF (pl a b)) (gcdF (mulG a b))
theorem ar_least {op : Int} {a b : Nm} (ha : vld a) (hb : vld b) (he : a ≠ nE) (hf : b ≠ nE) (ho : op = 8 ∨ op = 9 ∨ op = 10) (h : arOk op a b) : Least (BinS op a b) (arF op a b) ∧ Least (Nine op a b) (arF op a b) := by
  rcases ho with rfl | rfl | rfl
  · exact add_least ha hb he hf (h.1 rfl).1 (h.1 rfl).2
  · exact sub_least ha hb he hf (h.2.1 rfl).1 (h.2.1 rfl).2
  · exact mul_least ha hb he hf (h.2.2 rfl)
theorem ar_ok_of {op : Int} {a b : Nm} (h : ∀ n, Nine op a b n → fits n) : arOk op a b := by
  have m1 : ∀ x y, (x = a.l ∨ x = a.h) → (y = b.l ∨ y = b.h) → fits (valF op x y) := fun x y hx hy => h _ ⟨x, y, hx.elim Or.inl (fun e => Or.inr (Or.inr e)), hy.elim Or.inl (fun e => Or.inr (Or.inr e)), rfl⟩
  refine ⟨fun e => ?_, fun e => ?_, fun e => ?_⟩ <;> subst e
  · exact ⟨m1 _ _ (Or.inl rfl) (Or.inl rfl), m1 _ _ (Or.inr rfl) (Or.inr rfl)⟩
  · exact ⟨m1 _ _ (Or.inl rfl) (Or.inr rfl), m1 _ _ (Or.inr rfl) (Or.inl rfl)⟩
  · exact mulOk_4.2 ⟨m1 _ _ (Or.inl rfl) (Or.inl rfl), m1 _ _ (Or.inl rfl) (Or.inr rfl), m1 _ _ (Or.inr rfl) (Or.inl rfl), m1 _ _ (Or.inr rfl) (Or.inr rfl)⟩
theorem ar_iff {op : Int} {a b : Nm} (ha : vld a) (hb : vld b) (he : a ≠ nE) (hf : b ≠ nE) (ho : op = 8 ∨ op = 9 ∨ op = 10) : (arOk op a b ↔ exOk op a b) ∧ (arOk op a b ↔ ∀ n, Nine op a b n → fits n) := by
  have h1 : arOk op a b → ∀ n, BinS op a b n → fits n := fun h n hn => by
    have l := (ar_least ha hb he hf ho h).1
    exact mem_fits l.ok (l.all n hn)
  refine ⟨⟨fun h x y hx hy _ => h1 h _ ⟨x, y, hx, hy, rfl⟩, fun h => ar_ok_of fun n hn => ?_⟩, ⟨fun h n hn => h1 h n (nine_bin ha hb he hf hn), ar_ok_of⟩⟩
  obtain ⟨x, y, hx, hy, rfl⟩ := nine_bin ha hb he hf hn
  exact h x y hx hy ho
theorem ar_ex {op : Int} {a b : Nm} (ha : vld a) (hb : vld b) (he : a ≠ nE) (hf : b ≠ nE) (ho : op = 8 ∨ op = 9 ∨ op = 10) (h : exOk op a b) : exF op a b = arF op a b :=
  (ex_least ha hb h).unique (ar_least ha hb he hf ho ((ar_iff ha hb he hf ho).1.2 h)).1
/- the nine values -/
noncomputable def nx (a : Nm) : List Int := [a.l, a.l + a.s, a.h]
noncomputable def coL (op : Int) (a b : Nm) (p q : Int) : List Int := ((nx a).take p.toNat).flatMap (fun x => (nx b).map (valF op x)) ++ ((nx b).take q.toNat).map (valF op (gi (nx a) p))
theorem co_0 (op : Int) (a b : Nm) : coL op a b 0 0 = [] := rfl
theorem co_step {op : Int} {a b : Nm} {p q : Int} (q0 : 0 ≤ q) (q1 : q < 3) : coL op a b p (q + 1) = coL op a b p q ++ [valF op (gi (nx a) p) (gi (nx b) q)] := by
  unfold coL; rw [take_step q0 (by show q < 3; exact q1), List.map_append, List.append_assoc]; rfl
theorem co_next {op : Int} {a b : Nm} {p q : Int} (p0 : 0 ≤ p) (p1 : p < 3) (hq : q = 3) : coL op a b (p + 1) 0 = coL op a b p q := by
  subst hq
  unfold coL
  rw [take_step p0 (by show p < 3; exact p1), List.flatMap_append]
  simp [nx]
theorem co_all {op : Int} {a b : Nm} {p : Int} (hp : p = 3) {n : Int} : n ∈ coL op a b p 0 ↔ Nine op a b n := by
  subst hp
  unfold coL Nine
  simp only [List.append_nil, List.mem_flatMap, List.mem_map, List.take_zero, List.map_nil, Int.toNat_zero]
  constructor
  · rintro ⟨x, hx, y, hy, e⟩
    exact ⟨x, y, by simpa [nx] using hx, by simpa [nx] using hy, e⟩
  · rintro ⟨x, y, hx, hy, e⟩
    exact ⟨x, by simpa [nx] using hx, y, by simpa [nx] using hy, e⟩
theorem nx_mem {a : Nm} (h : vld a) (he : a ≠ nE) {p : Int} (p0 : 0 ≤ p) (p1 : p < 3) : mem a (gi (nx a) p) := by
  have hp : p = 0 ∨ p = 1 ∨ p = 2 := by omega
  rcases hp with rfl | rfl | rfl
  · exact mem_l h he
  · exact mem_2 h he
  · exact mem_h h he
theorem nx_nine {op : Int} {a b : Nm} {p q : Int} (p0 : 0 ≤ p) (p1 : p < 3) (q0 : 0 ≤ q) (q1 : q < 3) : Nine op a b (valF op (gi (nx a) p) (gi (nx b) q)) := by
  refine ⟨_, _, ?_, ?_, rfl⟩
  · have hp : p = 0 ∨ p = 1 ∨ p = 2 := by omega
    rcases hp with rfl | rfl | rfl
    · exact Or.inl rfl
    · exact Or.inr (Or.inl rfl)
    · exact Or.inr (Or.inr rfl)
  · have hq : q = 0 ∨ q = 1 ∨ q = 2 := by omega
    rcases hq with rfl | rfl | rfl
    · exact Or.inl rfl
    · exact Or.inr (Or.inl rfl)
    · exact Or.inr (Or.inr rfl)
/- whether two sets meet, as the document searches -/
theorem mt_yes {a b : Nm} {n : Int} (ha : vld a) (hb : vld b) (m1 : mem a n) (m2 : mem b n) : ¬ meetF a b = nE := fun e => (meet_emp ha hb).1 e n ⟨m1, m2⟩
theorem mt_one {a b : Nm} (ha : vld a) (hb : vld b) (h : sizeF a = 1) : (vld b ∧ mem b a.l) ↔ ¬ meetF a b = nE := by
  obtain ⟨he, hl⟩ := size_one ha h
  have hs := (vld_ne ha he).2.2.2.1 hl
  constructor
  · intro m; exact mt_yes ha hb (mem_l ha he) m.2
  · intro m; exact ⟨hb, Classical.not_not.1 fun q => m (meet_out ha he hs q)⟩
theorem mt_sw {a b : Nm} (ha : vld a) (hb : vld b) : (¬ meetF b a = nE) ↔ ¬ meetF a b = nE := by rw [meet_comm ha hb]
theorem mt_far {a b : Nm} {lo hi : Int} (ha : vld a) (hlo : lo = a.l ∨ lo = b.l) (hhi : hi = a.h ∨ hi = b.h) (h : hi < lo) : meetF a b = nE := by
  refine meet_none ha fun n m1 m2 => ?_
  have := m1.1; have := m1.2.1; have := m2.1; have := m2.2.1
  omega
theorem mt_gcd {a b : Nm} (ha : vld a) (h : ¬ (Int.gcd a.s b.s : Int) ∣ aw a.l b.l) : meetF a b = nE := by
  refine meet_none ha fun n m1 m2 => h (aw_dvd.2 ?_)
  have h1 := Int.dvd_trans (Int.gcd_dvd_left a.s b.s) m1.2.2
  have h2 := Int.dvd_trans (Int.gcd_dvd_right a.s b.s) m2.2.2
  have h3 := Int.dvd_sub h2 h1
  rwa [show n - b.l - (n - a.l) = a.l - b.l by omega] at h3
theorem mt_loop {a b : Nm} {g p n0 lo hi i : Int} (ha : vld a) (sa : 1 ≤ a.s) (sb : 1 ≤ b.s) (hg : g = (Int.gcd a.s b.s : Int)) (hp : p = b.s / g) (hlo : a.l ≤ lo ∧ b.l ≤ lo ∧ (lo = a.l ∨ lo = b.l)) (hhi : hi ≤ a.h ∧ hi ≤ b.h ∧ (hi = a.h ∨ hi = b.h)) (h0 : n0 = a.l + (lo - a.l + a.s - 1) / a.s * a.s)
    (hi0 : ∀ j : Int, 0 ≤ j → j < i → ¬ mem b (n0 + j * a.s)) (hend : p ≤ i ∨ hi < n0 + i * a.s) : meetF a b = nE := by
  refine meet_none ha fun m m1 m2 => ?_
  have g0 : 0 < g := by have := Int.gcd_pos_of_ne_zero_left b.s (show a.s ≠ 0 by omega); omega
  have ga : g ∣ a.s := hg ▸ Int.gcd_dvd_left a.s b.s
  have gb : g ∣ b.s := hg ▸ Int.gcd_dvd_right a.s b.s
  have pg : p * g = b.s := by rw [hp]; exact Int.ediv_mul_cancel gb
  have p0 : 0 < p := by
    rcases Int.lt_or_le 0 p with h | h
    · exact h
    · have := Int.mul_le_mul_of_nonneg_right h (Int.le_of_lt g0); omega
  obtain ⟨x, hx⟩ := m1.2.2
  obtain ⟨y, hy⟩ := ga
  have c1 := (ceil_iff (x := lo - a.l) (t := x) sa).2 (by rw [Int.mul_comm]; have := m1.1; have := m2.1; omega)
  have e1 : m = n0 + (x - (lo - a.l + a.s - 1) / a.s) * a.s := by rw [h0, Int.sub_mul, Int.mul_comm x]; omega
  have hlon : lo ≤ n0 := by
    have := (ceil_iff (x := lo - a.l) (t := (lo - a.l + a.s - 1) / a.s) sa).1 (Int.le_refl _); omega
  obtain ⟨j, hj⟩ : ∃ j : Int, j = x - (lo - a.l + a.s - 1) / a.s := ⟨_, rfl⟩
  rw [← hj] at e1
  have j0 : 0 ≤ j := by omega
  have d1 := Int.emod_add_mul_ediv j p
  have r0 := Int.emod_nonneg j (show p ≠ 0 by omega)
  have r1 := Int.emod_lt_of_pos j p0
  have q0 := Int.ediv_nonneg j0 (Int.le_of_lt p0)
  have q1 := Int.mul_nonneg (Int.le_of_lt p0) q0
  have q2 := Int.mul_nonneg q1 (show 0 ≤ a.s by omega)
  have e2 : m = n0 + j % p * a.s + p * (j / p) * a.s := by rw [e1, Int.add_assoc, ← Int.add_mul, d1]
  have e3 : b.s ∣ p * (j / p) * a.s := ⟨j / p * y, by rw [hy, ← pg]; ac_rfl⟩
  have q3 := Int.mul_nonneg r0 (show 0 ≤ a.s by omega)
  have mb : mem b (n0 + j % p * a.s) := by
    refine ⟨by omega, by have := m2.2.1; omega, ?_⟩
    have := Int.dvd_sub m2.2.2 e3
    rwa [show m - b.l - p * (j / p) * a.s = n0 + j % p * a.s - b.l by omega] at this
  refine hi0 _ r0 ?_ mb
  rcases hend with h | h
  · omega
  · rcases Int.lt_or_le (j % p) i with q | q
    · exact q
    · have := Int.mul_le_mul_of_nonneg_right q (show 0 ≤ a.s by omega)
      have := m1.2.1; have := m2.2.1
      omega
theorem mt_ceil {a : Nm} {lo : Int} (sa : 1 ≤ a.s) (h : a.l ≤ lo) : lo ≤ a.l + (lo - a.l + a.s - 1) / a.s * a.s ∧ a.l + (lo - a.l + a.s - 1) / a.s * a.s ≤ lo + a.s - 1 ∧ 0 ≤ (lo - a.l + a.s - 1) / a.s ∧ (lo - a.l + a.s - 1) / a.s ≤ lo - a.l + a.s - 1 ∧ 0 ≤ (lo - a.l + a.s - 1) / a.s * a.s := by
  have h1 := (ceil_iff (x := lo - a.l) (t := (lo - a.l + a.s - 1) / a.s) sa).1 (Int.le_refl _)
  have h2 := Int.emod_add_mul_ediv (lo - a.l + a.s - 1) a.s
  rw [Int.mul_comm] at h2
  have h3 := Int.emod_nonneg (lo - a.l + a.s - 1) (show a.s ≠ 0 by omega)
  have h4 := Int.ediv_nonneg (show 0 ≤ lo - a.l + a.s - 1 by omega) (show 0 ≤ a.s by omega)
  exact ⟨by omega, by omega, h4, Int.ediv_le_self _ (by omega), Int.mul_nonneg h4 (by omega)⟩
theorem mt_mem {a : Nm} {lo n i : Int} (sa : 1 ≤ a.s) (h : a.l ≤ lo) (hn : n = a.l + (lo - a.l + a.s - 1) / a.s * a.s + i * a.s) (i0 : 0 ≤ i) (h1 : n ≤ a.h) : mem a n := by
  obtain ⟨c1, -, -, -, c2⟩ := mt_ceil sa h
  have := Int.mul_nonneg i0 (show 0 ≤ a.s by omega)
  refine ⟨by omega, h1, ⟨(lo - a.l + a.s - 1) / a.s + i, ?_⟩⟩
  rw [Int.mul_comm, Int.add_mul]; omega
/- lists of values as the document builds them -/
theorem all2_snoc {P : Int → Int → Prop} {p n : Int} (h1 : ∀ i j : Int, 0 ≤ i → i < p → 0 ≤ j → j < n → P i j) (h2 : ∀ j : Int, 0 ≤ j → j < n → P p j) : ∀ i j : Int, 0 ≤ i → i < p + 1 → 0 ≤ j → j < n → P i j := fun i j a b c d => by
  by_cases e : i = p
  · subst e; exact h2 j c d
  · exact h1 i j a (by omega) c d
theorem at_mem {a : Nm} {i : Int} (h : vld a) (i0 : 0 ≤ i) (i1 : i < sizeF a) : mem a (a.l + i * a.s) := by
  have := memF_gi h i0 (by rw [memF_len h]; exact i1)
  rwa [memF_at h i0 i1] at this
theorem mem_at {a : Nm} {x : Int} (h : vld a) (m : mem a x) : ∃ i : Int, 0 ≤ i ∧ i < sizeF a ∧ x = a.l + i * a.s := by
  have hx : x ∈ (memF a).take ((memF a).length : Int).toNat := by rw [Int.toNat_natCast, List.take_length]; exact (memF_iff h).2 m
  obtain ⟨i, i0, i1, -, e⟩ := mem_take hx
  rw [memF_len h] at i1
  exact ⟨i, i0, i1, by rw [← e, memF_at h i0 i1]⟩
theorem ls_ok {op : Int} {a b : Nm} (ha : vld a) (hb : vld b) (h : ∀ i j : Int, 0 ≤ i → i < sizeF a → 0 ≤ j → j < sizeF b → valOk op (a.l + i * a.s) (b.l + j * b.s)) : exOk op a b := fun x y hx hy => by
  obtain ⟨i, i0, i1, rfl⟩ := mem_at ha hx
  obtain ⟨j, j0, j1, rfl⟩ := mem_at hb hy
  exact h i j i0 i1 j0 j1
theorem ls_no {op : Int} {a b : Nm} (ha : vld a) (hb : vld b) {i j : Int} (i0 : 0 ≤ i) (i1 : i < sizeF a) (j0 : 0 ≤ j) (j1 : j < sizeF b) (h : ¬ valOk op (a.l + i * a.s) (b.l + j * b.s)) : ¬ exOk op a b := fun z => h (z _ _ (at_mem ha i0 i1) (at_mem hb j0 j1))
theorem ls_step {op : Int} {a b : Nm} {p q : Int} (ha : vld a) (hb : vld b) (p0 : 0 ≤ p) (p1 : p < sizeF a) (q0 : 0 ≤ q) (q1 : q < sizeF b) (hk : valOk op (a.l + p * a.s) (b.l + q * b.s)) : YS op a b p (q + 1) = YS op a b p q ++ [vN op (a.l + p * a.s) (b.l + q * b.s)] := by
  rw [YS_step q0 (by rw [memF_len hb]; exact q1), memF_at ha p0 p1, memF_at hb q0 q1, vN_ok hk]
theorem ls_next {op : Int} {a b : Nm} {p q : Int} (ha : vld a) (hb : vld b) (p0 : 0 ≤ p) (p1 : p < sizeF a) (hq : q = sizeF b) : XS op a b (p + 1) = YS op a b p q := XS_step p0 (by rw [memF_len ha]; exact p1) (by rw [memF_len hb]; exact hq)
theorem ls_len {p x y : Int} (p1 : p < x) (y0 : 0 ≤ y) (h : x * y ≤ 4096) : p * y + y ≤ 4096 := by
  have := Int.mul_le_mul_of_nonneg_right (show p + 1 ≤ x by omega) y0
  rw [Int.add_mul, Int.one_mul] at this; omega
theorem ls_mono {p x y : Int} (p1 : p ≤ x) (y0 : 0 ≤ y) (h : x * y ≤ 4096) : p * y ≤ 4096 := Int.le_trans (Int.mul_le_mul_of_nonneg_right p1 y0) h
theorem gv3 {x y z i : Int} (h0 : 0 ≤ i) (h1 : i < 3) : gv [Value.int .i64 x, Value.int .i64 y, Value.int .i64 z] i = Value.int .i64 (gi [x, y, z] i) := by
  have h : i = 0 ∨ i = 1 ∨ i = 2 := by omega
  rcases h with rfl | rfl | rfl <;> rfl
theorem co_no {op : Int} {a b : Nm} (ha : vld a) (hb : vld b) (he : a ≠ nE) (hf : b ≠ nE) {p q : Int} (p0 : 0 ≤ p) (p1 : p < 3) (q0 : 0 ≤ q) (q1 : q < 3) (h : ¬ valOk op (gi (nx a) p) (gi (nx b) q)) : ¬ exOk op a b := fun z => h (z _ _ (nx_mem ha he p0 p1) (nx_mem hb hf q0 q1))
theorem co_ok {op : Int} {a b : Nm} (ha : vld a) (hb : vld b) (he : a ≠ nE) (hf : b ≠ nE) (ho : op = 8 ∨ op = 9 ∨ op = 10) (h : ∀ i j : Int, 0 ≤ i → i < 3 → 0 ≤ j → j < 3 → valOk op (gi (nx a) i) (gi (nx b) j)) : exOk op a b := by
  refine (ar_iff ha hb he hf ho).1.1 ((ar_iff ha hb he hf ho).2.2 ?_)
  rintro n ⟨x, y, hx, hy, rfl⟩
  have h1 : ∃ i : Int, 0 ≤ i ∧ i < 3 ∧ x = gi (nx a) i := by
    rcases hx with h | h | h
    · exact ⟨0, by omega, by omega, h⟩
    · exact ⟨1, by omega, by omega, h⟩
    · exact ⟨2, by omega, by omega, h⟩
  have h2 : ∃ i : Int, 0 ≤ i ∧ i < 3 ∧ y = gi (nx b) i := by
    rcases hy with h | h | h
    · exact ⟨0, by omega, by omega, h⟩
    · exact ⟨1, by omega, by omega, h⟩
    · exact ⟨2, by omega, by omega, h⟩
  obtain ⟨i, i0, i1, rfl⟩ := h1
  obtain ⟨j, j0, j1, rfl⟩ := h2
  exact h i j i0 i1 j0 j1 ho
theorem co_fin {op : Int} {a b : Nm} {p : Int} (ha : vld a) (hb : vld b) (he : a ≠ nE) (hf : b ≠ nE) (ho : op = 8 ∨ op = 9 ∨ op = 10) (h : exOk op a b) (hp : p = 3) : fitAll (coL op a b p 0) = true ∧ ofF (coL op a b p 0) = exF op a b := by
  have hk := (ar_iff ha hb he hf ho).1.2 h
  have hfa : ∀ n ∈ coL op a b p 0, fits n := fun n hn => (ar_iff ha hb he hf ho).2.1 hk n ((co_all hp).1 hn)
  refine ⟨fitAll_mem.2 hfa, ?_⟩
  rw [ar_ex ha hb he hf ho h]
  exact ((least_of hfa).congr fun n => co_all hp).unique (ar_least ha hb he hf ho hk).2
/- two operands -/
def biOk (op : Int) (a b : Nm) : Prop := vld a ∧ vld b ∧ (8 ≤ op ∧ op ≤ 22)
noncomputable def biE (op : Int) (a b : Nm) : Int := if biOk op a b then (if a = nE ∨ b = nE then 0 else exE op a b) else 1
noncomputable def biN (op : Int) (a b : Nm) : Nm :=
  if biOk op a b then (if a = nE ∨ b = nE then nE else if op = 11 ∨ op = 12 ∨ op = 21 ∨ op = 22 then lsF op a b else exN op a b) else ⟨0, 0, 0⟩
theorem biE_1 {op : Int} {a b : Nm} (h : ¬ biOk op a b) : biE op a b = 1 := if_neg h
theorem biE_e {op : Int} {a b : Nm} (h : biOk op a b) (h2 : a = nE ∨ b = nE) : biE op a b = 0 := by unfold biE; rw [if_pos h, if_pos h2]
theorem biE_x {op : Int} {a b : Nm} (h : biOk op a b) (h2 : ¬ (a = nE ∨ b = nE)) : biE op a b = exE op a b := by unfold biE; rw [if_pos h, if_neg h2]
theorem biE_o {op : Int} {a b : Nm} (h : biOk op a b) (h2 : ¬ (a = nE ∨ b = nE)) (h3 : ¬ (op = 8 ∨ op = 9 ∨ op = 10)) : biE op a b = 0 := by rw [biE_x h h2]; exact exE_1 fun x y _ _ => valOk_o h3
theorem biN_1 {op : Int} {a b : Nm} (h : ¬ biOk op a b) : biN op a b = ⟨0, 0, 0⟩ := if_neg h
theorem biN_e {op : Int} {a b : Nm} (h : biOk op a b) (h2 : a = nE ∨ b = nE) : biN op a b = nE := by unfold biN; rw [if_pos h, if_pos h2]
theorem biN_l {op : Int} {a b : Nm} (h : biOk op a b) (h2 : ¬ (a = nE ∨ b = nE)) (h3 : op = 11 ∨ op = 12 ∨ op = 21 ∨ op = 22) : biN op a b = lsF op a b := by unfold biN; rw [if_pos h, if_neg h2, if_pos h3]
theorem biN_x {op : Int} {a b : Nm} (h : biOk op a b) (h2 : ¬ (a = nE ∨ b = nE)) (h3 : ¬ (op = 11 ∨ op = 12 ∨ op = 21 ∨ op = 22)) : biN op a b = exN op a b := by unfold biN; rw [if_pos h, if_neg h2, if_neg h3]
theorem biN_c {op : Int} {a b : Nm} (h : biOk op a b) (h2 : ¬ (a = nE ∨ b = nE)) (h3 : 13 ≤ op ∧ op ≤ 20) : biN op a b = exF op a b := by
  rw [biN_x h h2 (by omega)]; exact exN_1 fun x y _ _ => valOk_o (by omega)
theorem bi_ar {op : Int} {a b : Nm} (h : biOk op a b) (h2 : ¬ (a = nE ∨ b = nE)) (ho : op = 8 ∨ op = 9 ∨ op = 10) (hk : arOk op a b) : biN op a b = arF op a b ∧ biE op a b = 0 := by
  have he : a ≠ nE := fun e => h2 (Or.inl e)
  have hf : b ≠ nE := fun e => h2 (Or.inr e)
  have hx := (ar_iff h.1 h.2.1 he hf ho).1.1 hk
  rw [biN_x h h2 (by omega), biE_x h h2, exN_1 hx, exE_1 hx, ar_ex h.1 h.2.1 he hf ho hx]; exact ⟨rfl, rfl⟩
theorem bi_no {op : Int} {a b : Nm} (h : biOk op a b) (h2 : ¬ (a = nE ∨ b = nE)) (ho : op = 8 ∨ op = 9 ∨ op = 10) (hk : ¬ arOk op a b) : biN op a b = ⟨0, 0, 0⟩ ∧ biE op a b = 3 := by
  have he : a ≠ nE := fun e => h2 (Or.inl e)
  have hf : b ≠ nE := fun e => h2 (Or.inr e)
  have hx : ¬ exOk op a b := fun z => hk ((ar_iff h.1 h.2.1 he hf ho).1.2 z)
  rw [biN_x h h2 (by omega), biE_x h h2, exN_0 hx, exE_0 hx]; exact ⟨rfl, rfl⟩
theorem arF_8 {op : Int} {a b : Nm} (h : op = 8) : arF op a b = spanF (a.l + b.l) (a.h + b.h) (gcdF [a.s, b.s]) := if_pos h
theorem arF_9 {op : Int} {a b : Nm} (h : op = 9) : arF op a b = spanF (a.l - b.h) (a.h - b.l) (gcdF [a.s, b.s]) := by unfold arF; rw [if_neg (by omega), if_pos h]
theorem bi_mul {op : Int} {a b : Nm} (h : biOk op a b) (h2 : ¬ (a = nE ∨ b = nE)) (ho : op = 10) : biN op a b = mulN a b ∧ biE op a b = mulE a b := by
  by_cases hk : mulOk a b
  · have ha : arOk op a b := ⟨fun e => by omega, fun e => by omega, fun _ => hk⟩
    obtain ⟨e1, e2⟩ := bi_ar h h2 (by omega) ha
    rw [e1, e2, mulN_1 hk, mulE_1 hk]; unfold arF; rw [if_neg (by omega), if_neg (by omega)]; exact ⟨rfl, rfl⟩
  · have ha : ¬ arOk op a b := fun z => hk (z.2.2 ho)
    obtain ⟨e1, e2⟩ := bi_no h h2 (by omega) ha
    rw [e1, e2, mulN_0 hk, mulE_0 hk]; exact ⟨rfl, rfl⟩
theorem bi_sml {op : Int} {a b : Nm} (h : biOk op a b) (h2 : ¬ (a = nE ∨ b = nE)) (hs : sml a b) : biN op a b = exN op a b ∧ biE op a b = exE op a b := by
  refine ⟨?_, biE_x h h2⟩
  by_cases ho : op = 11 ∨ op = 12 ∨ op = 21 ∨ op = 22
  · rw [biN_l h h2 ho, lsF_1 hs, exN_1 fun x y _ _ => valOk_o (by omega)]
  · exact biN_x h h2 ho
theorem bi_wide {op : Int} {a b : Nm} (h : biOk op a b) (h2 : ¬ (a = nE ∨ b = nE)) (hs : ¬ sml a b) (ho : op = 11 ∨ op = 12 ∨ op = 21 ∨ op = 22) : biN op a b = wdF op a b ∧ biE op a b = 0 := by
  rw [biN_l h h2 ho, lsF_0 hs]; exact ⟨rfl, biE_o h h2 (by omega)⟩
end Go.Proofs.Ytapkilaikcihgaa
