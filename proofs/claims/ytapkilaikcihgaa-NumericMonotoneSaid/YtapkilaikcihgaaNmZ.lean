/- Strided intervals: the values of the operators, and the least sets that contain them. No program in sight. -/
import Derived.Test.YtapkilaikcihgaaNmX
namespace Go.Proofs.Ytapkilaikcihgaa
open Go.Vc
open Classical
def divF (x y : Int) : Int := if y = 0 then 0 else x.fdiv y
def modF (x y : Int) : Int := if y = 0 then 0 else x - y * x.fdiv y
noncomputable def flg (p : Prop) : Int := if p then 1 else 0
noncomputable def valF (op x y : Int) : Int :=
  if op = 8 then x + y else if op = 9 then x - y else if op = 10 then x * y else if op = 11 then divF x y else if op = 12 then modF x y else if op = 13 then flg (x = y) else if op = 14 then flg (x ≠ y) else
  if op = 15 then flg (x < y) else if op = 16 then flg (x ≤ y) else if op = 17 then flg (y < x) else if op = 18 then flg (y ≤ x) else if op = 19 then flg (x ≠ 0 ∧ y ≠ 0) else if op = 20 then flg (x ≠ 0 ∨ y ≠ 0) else if op = 21 then mn x y else mx x y
theorem divF_0 {x y : Int} (h : y = 0) : divF x y = 0 := if_pos h
theorem divF_n {x y : Int} (h : y ≠ 0) : divF x y = x.fdiv y := if_neg h
theorem modF_0 {x y : Int} (h : y = 0) : modF x y = 0 := if_pos h
theorem modF_n {x y : Int} (h : y ≠ 0) : modF x y = x - y * divF x y := by unfold modF; rw [if_neg h, divF_n h]
/-- Truncated quotients and floors. -/
theorem divF_adj {x y : Int} (hy : y ≠ 0) (h : x.tmod y ≠ 0) (h2 : ¬ ((x < 0) ↔ (y < 0))) : divF x y = x.tdiv y - 1 := by
  have hd : ¬ y ∣ x := fun e => h (Int.dvd_iff_tmod_eq_zero.1 e)
  rw [divF_n hy, Int.fdiv_eq_tdiv, if_neg hd]
  by_cases hx : 0 ≤ x
  · rw [if_pos hx, if_neg (by omega)]
  · rw [if_neg hx, if_pos (by omega), Int.sign_eq_one_of_pos (by omega)]
theorem divF_no {x y : Int} (hy : y ≠ 0) (h : x.tmod y = 0 ∨ ((x < 0) ↔ (y < 0))) : divF x y = x.tdiv y := by
  rw [divF_n hy, Int.fdiv_eq_tdiv]
  by_cases hd : y ∣ x
  · rw [if_pos hd]; omega
  · rw [if_neg hd]
    have h : (x < 0) ↔ (y < 0) := h.resolve_left fun e => hd (Int.dvd_iff_tmod_eq_zero.2 e)
    by_cases hx : 0 ≤ x
    · rw [if_pos hx, if_pos (by omega)]; omega
    · rw [if_neg hx, if_neg (by omega), Int.sign_eq_neg_one_of_neg (by omega)]; omega
theorem tdiv_bd {x y : Int} (hx : fits x) : -1099511627776 ≤ x.tdiv y ∧ x.tdiv y ≤ 1099511627776 := by
  have h : (x.tdiv y).natAbs ≤ x.natAbs := by rw [Int.natAbs_tdiv]; exact Nat.div_le_self ..
  unfold fits at hx
  omega
theorem divF_bd {x y : Int} (hx : fits x) : -1099511627777 ≤ divF x y ∧ divF x y ≤ 1099511627776 := by
  have h := tdiv_bd (y := y) hx
  by_cases hy : y = 0
  · rw [divF_0 hy]; omega
  by_cases h1 : x.tmod y = 0 ∨ ((x < 0) ↔ (y < 0))
  · rw [divF_no hy h1]; omega
  · rw [divF_adj hy (fun e => h1 (Or.inl e)) (fun e => h1 (Or.inr e))]; omega
theorem divF_fits {x y : Int} (hx : fits x) : fits (divF x y) := by
  by_cases hy : y = 0
  · rw [divF_0 hy]; decide
  rw [divF_n hy, Int.fdiv_eq_ediv]
  unfold fits at hx
  have e := Int.emod_add_mul_ediv x y
  have e1 := Int.emod_nonneg x hy
  have hn : (x / y).natAbs ≤ x.natAbs := by
    by_cases h0 : 0 ≤ x
    · have := Int.natAbs_ediv_le_natAbs x y; exact this
    · have := Int.natAbs_ediv_le_natAbs x y; exact this
  unfold fits
  split
  · omega
  · rename_i hh
    have hy0 : y < 0 := by omega
    have hd : ¬ y ∣ x := fun e => hh (Or.inr e)
    have hnz : x % y ≠ 0 := fun e => hd (Int.dvd_of_emod_eq_zero e)
    -- the quotient by a negative number
    have : -1099511627776 < x / y := by
      apply Decidable.not_not.1
      intro q
      have q1 : x / y = -1099511627776 ∨ x / y < -1099511627776 := by omega
      have hlt := Int.emod_lt_of_neg x hy0
      have hx2 : 1099511627776 ≤ x := by
        have := Int.mul_le_mul_of_nonneg_left (show 1099511627776 ≤ -(x / y) by omega) (show 0 ≤ -y by omega)
        rw [Int.neg_mul_neg] at this
        have hm : -y * 1099511627776 ≥ 1099511627776 := by omega
        omega
      have hxe : x = 1099511627776 := by omega
      have := Int.mul_le_mul_of_nonneg_left (show 1099511627776 ≤ -(x / y) by omega) (show 0 ≤ -y by omega)
      rw [Int.neg_mul_neg] at this
      omega
    omega
theorem modF_fits {x y : Int} (hx : fits x) (hy : fits y) : fits (modF x y) := by
  by_cases h0 : y = 0
  · rw [modF_0 h0]; decide
  have e : modF x y = x.fmod y := by rw [modF_n h0, divF_n h0]; have := Int.fmod_add_mul_fdiv x y; omega
  rw [e, Int.fmod_eq_emod]
  have e1 := Int.emod_nonneg x h0
  unfold fits at *
  by_cases hp : 0 < y
  · have e2 := Int.emod_lt_of_pos x hp
    rw [if_pos (Or.inl (by omega))]; omega
  · have e2 := Int.emod_lt_of_neg x (show y < 0 by omega)
    split <;> omega
/- least sets -/
theorem least_span {P : Int → Prop} {L H G : Int} (hL : P L) (hH : P H) (fL : fits L) (fH : fits H) (h0 : 0 ≤ G) (hz : G = 0 → L = H) (hb : ∀ n, P n → L ≤ n ∧ n ≤ H ∧ G ∣ n - L) (hd : ∀ d : Int, (∀ n m, P n → P m → d ∣ n - m) → d ∣ G) : Least P (spanF L H G) := by
  have hLH := (hb H hH).1
  have hG := (hb H hH).2.2
  by_cases e : L = H
  · subst e
    have hs : spanF L L G = sgl L := by
      by_cases g : G = 0
      · exact spanF_2 (by omega) g
      · exact spanF_3 (by omega) g (by rw [Int.sub_self]; simp)
    rw [hs]
    exact (least_sgl fL).congr fun n => ⟨fun q => q ▸ hL, fun q => by have := hb n q; omega⟩
  · have hG1 : 1 ≤ G := by have : G ≠ 0 := fun g => e (hz g); omega
    rw [span_exact (by omega) hG1 hG]
    have hv : vld ⟨L, H, G⟩ := Or.inr ⟨fL, fH, hLH, fun q => absurd q e, fun _ => ⟨hG1, Int.emod_eq_zero_of_dvd hG⟩⟩
    refine ⟨hv, fun n q => hb n q, fun c hc hq => ?_⟩
    refine (sub_iff hv (fun z => by have := congrArg Nm.s z; simp at this; omega)).2 ⟨hq L hL, hq H hH, ?_⟩
    refine hd c.s fun n m hn hm => ?_
    have := Int.dvd_sub (hq n hn).2.2 (hq m hm).2.2
    rwa [show n - c.l - (m - c.l) = n - m by omega] at this
def BinS (op : Int) (a b : Nm) (n : Int) : Prop := ∃ x y, mem a x ∧ mem b y ∧ valF op x y = n
/-- The second element, or the only one. -/
theorem mem_2 {a : Nm} (h : vld a) (he : a ≠ nE) : mem a (a.l + a.s) := by
  obtain ⟨h1, h2, h3, h4, h5⟩ := vld_ne h he
  have hs := step_le h he
  have h6 := (vld_bd h).2.2
  exact ⟨by omega, by omega, by rw [show a.l + a.s - a.l = a.s by omega]; exact Int.dvd_refl _⟩
/-- The nine values at the ends and beside the least elements. -/
def Nine (op : Int) (a b : Nm) (n : Int) : Prop := ∃ x y, (x = a.l ∨ x = a.l + a.s ∨ x = a.h) ∧ (y = b.l ∨ y = b.l + b.s ∨ y = b.h) ∧ valF op x y = n
theorem nine_bin {op : Int} {a b : Nm} (ha : vld a) (hb : vld b) (he : a ≠ nE) (hf : b ≠ nE) {n : Int} (h : Nine op a b n) : BinS op a b n := by
  obtain ⟨x, y, hx, hy, e⟩ := h
  refine ⟨x, y, ?_, ?_, e⟩
  · rcases hx with rfl | rfl | rfl
    · exact mem_l ha he
    · exact mem_2 ha he
    · exact mem_h ha he
  · rcases hy with rfl | rfl | rfl
    · exact mem_l hb hf
    · exact mem_2 hb hf
    · exact mem_h hb hf
theorem two_least {op : Int} {a b : Nm} {L H G : Int} (ha : vld a) (hb : vld b) (he : a ≠ nE) (hf : b ≠ nE) (hL : Nine op a b L) (hH : Nine op a b H) (fL : fits L) (fH : fits H) (h0 : 0 ≤ G) (hz : G = 0 → L = H)
    (hbd : ∀ n, BinS op a b n → L ≤ n ∧ n ≤ H ∧ G ∣ n - L) (hd : ∀ d : Int, (∀ n m, Nine op a b n → Nine op a b m → d ∣ n - m) → d ∣ G) : Least (BinS op a b) (spanF L H G) ∧ Least (Nine op a b) (spanF L H G) :=
  ⟨least_span (nine_bin ha hb he hf hL) (nine_bin ha hb he hf hH) fL fH h0 hz hbd fun d q => hd d fun n m hn hm => q n m (nine_bin ha hb he hf hn) (nine_bin ha hb he hf hm),
   least_span hL hH fL fH h0 hz (fun n hn => hbd n (nine_bin ha hb he hf hn)) hd⟩
theorem val_8 (x y : Int) : valF 8 x y = x + y := rfl
theorem val_9 (x y : Int) : valF 9 x y = x - y := rfl
theorem val_10 (x y : Int) : valF 10 x y = x * y := rfl
/- sums -/
theorem add_least {a b : Nm} (ha : vld a) (hb : vld b) (he : a ≠ nE) (hf : b ≠ nE) (f1 : fits (a.l + b.l)) (f2 : fits (a.h + b.h)) : Least (BinS 8 a b) (spanF (a.l + b.l) (a.h + b.h) (gcdF [a.s, b.s])) ∧ Least (Nine 8 a b) (spanF (a.l + b.l) (a.h + b.h) (gcdF [a.s, b.s])) := by
  have g := (gcdP (a := a.s) (b := b.s) (d := gcdF [a.s, b.s])).1 (Int.dvd_refl _)
  refine two_least ha hb he hf ⟨a.l, b.l, Or.inl rfl, Or.inl rfl, rfl⟩ ⟨a.h, b.h, Or.inr (Or.inr rfl), Or.inr (Or.inr rfl), rfl⟩ f1 f2 (gcdF_nn _) (fun z => ?_) (fun n q => ?_) (fun d q => ?_)
  · rw [z] at g
    have z1 := Int.zero_dvd.1 g.1
    have z2 := Int.zero_dvd.1 g.2
    have d1 := vld_dvd ha he
    have d2 := vld_dvd hb hf
    rw [z1] at d1
    rw [z2] at d2
    have := Int.zero_dvd.1 d1
    have := Int.zero_dvd.1 d2
    omega
  · obtain ⟨x, y, ⟨x1, x2, x3⟩, ⟨y1, y2, y3⟩, rfl⟩ := q
    rw [val_8]
    refine ⟨by omega, by omega, ?_⟩
    have := Int.dvd_add (Int.dvd_trans g.1 x3) (Int.dvd_trans g.2 y3)
    rwa [show x - a.l + (y - b.l) = x + y - (a.l + b.l) by omega] at this
  · refine gcdP.2 ⟨?_, ?_⟩
    · have := q _ _ ⟨a.l + a.s, b.l, Or.inr (Or.inl rfl), Or.inl rfl, rfl⟩ ⟨a.l, b.l, Or.inl rfl, Or.inl rfl, rfl⟩
      rw [val_8, val_8] at this
      rwa [show a.l + a.s + b.l - (a.l + b.l) = a.s by omega] at this
    · have := q _ _ ⟨a.l, b.l + b.s, Or.inl rfl, Or.inr (Or.inl rfl), rfl⟩ ⟨a.l, b.l, Or.inl rfl, Or.inl rfl, rfl⟩
      rw [val_8, val_8] at this
      rwa [show a.l + (b.l + b.s) - (a.l + b.l) = b.s by omega] at this
/- differences -/
theorem sub_least {a b : Nm} (ha : vld a) (hb : vld b) (he : a ≠ nE) (hf : b ≠ nE) (f1 : fits (a.l - b.h)) (f2 : fits (a.h - b.l)) : Least (BinS 9 a b) (spanF (a.l - b.h) (a.h - b.l) (gcdF [a.s, b.s])) ∧ Least (Nine 9 a b) (spanF (a.l - b.h) (a.h - b.l) (gcdF [a.s, b.s])) := by
  have g := (gcdP (a := a.s) (b := b.s) (d := gcdF [a.s, b.s])).1 (Int.dvd_refl _)
  refine two_least ha hb he hf ⟨a.l, b.h, Or.inl rfl, Or.inr (Or.inr rfl), rfl⟩ ⟨a.h, b.l, Or.inr (Or.inr rfl), Or.inl rfl, rfl⟩ f1 f2 (gcdF_nn _) (fun z => ?_) (fun n q => ?_) (fun d q => ?_)
  · rw [z] at g
    have z1 := Int.zero_dvd.1 g.1
    have z2 := Int.zero_dvd.1 g.2
    have d1 := vld_dvd ha he
    have d2 := vld_dvd hb hf
    rw [z1] at d1
    rw [z2] at d2
    have := Int.zero_dvd.1 d1
    have := Int.zero_dvd.1 d2
    omega
  · obtain ⟨x, y, ⟨x1, x2, x3⟩, ⟨y1, y2, y3⟩, rfl⟩ := q
    rw [val_9]
    refine ⟨by omega, by omega, ?_⟩
    have := Int.dvd_add (Int.dvd_trans g.1 x3) (Int.dvd_sub (Int.dvd_trans g.2 (vld_dvd hb hf)) (Int.dvd_trans g.2 y3))
    rwa [show x - a.l + (b.h - b.l - (y - b.l)) = x - y - (a.l - b.h) by omega] at this
  · refine gcdP.2 ⟨?_, ?_⟩
    · have := q _ _ ⟨a.l + a.s, b.l, Or.inr (Or.inl rfl), Or.inl rfl, rfl⟩ ⟨a.l, b.l, Or.inl rfl, Or.inl rfl, rfl⟩
      rw [val_9, val_9] at this
      rwa [show a.l + a.s - b.l - (a.l - b.l) = a.s by omega] at this
    · have := q _ _ ⟨a.l, b.l, Or.inl rfl, Or.inl rfl, rfl⟩ ⟨a.l, b.l + b.s, Or.inl rfl, Or.inr (Or.inl rfl), rfl⟩
      rw [val_9, val_9] at this
      rwa [show a.l - b.l - (a.l - (b.l + b.s)) = b.s by omega] at this
/- products -/
theorem lin_bd {l h x y : Int} (h1 : l ≤ x) (h2 : x ≤ h) : (l * y ≤ x * y ∨ h * y ≤ x * y) ∧ (x * y ≤ l * y ∨ x * y ≤ h * y) := by
  by_cases hy : 0 ≤ y
  · exact ⟨Or.inl (Int.mul_le_mul_of_nonneg_right h1 hy), Or.inr (Int.mul_le_mul_of_nonneg_right h2 hy)⟩
  · have e1 := Int.mul_le_mul_of_nonneg_right h1 (show 0 ≤ -y by omega)
    have e2 := Int.mul_le_mul_of_nonneg_right h2 (show 0 ≤ -y by omega)
    simp only [Int.mul_neg] at e1 e2
    exact ⟨Or.inr (by omega), Or.inl (by omega)⟩
theorem foldl_mn {xs : List Int} : ∀ {o : Int}, (xs.foldl mn o ≤ o) ∧ ∀ x ∈ xs, xs.foldl mn o ≤ x := by
  induction xs with
  | nil => intro o; simp
  | cons y ys ih =>
    intro o
    have h := ih (o := mn o y)
    have := mn_or o y
    simp only [List.foldl_cons]
    refine ⟨by omega, fun x hx => ?_⟩
    rcases List.mem_cons.1 hx with rfl | hx
    · omega
    · exact h.2 x hx
theorem foldl_mx {xs : List Int} : ∀ {o : Int}, (o ≤ xs.foldl mx o) ∧ ∀ x ∈ xs, x ≤ xs.foldl mx o := by
  induction xs with
  | nil => intro o; simp
  | cons y ys ih =>
    intro o
    have h := ih (o := mx o y)
    have := mx_or o y
    simp only [List.foldl_cons]
    refine ⟨by omega, fun x hx => ?_⟩
    rcases List.mem_cons.1 hx with rfl | hx
    · omega
    · exact h.2 x hx
theorem minF_le {xs : List Int} {x : Int} (h : x ∈ xs) : minF xs ≤ x := foldl_mn.2 x h
theorem le_maxF {xs : List Int} {x : Int} (h : x ∈ xs) : x ≤ maxF xs := foldl_mx.2 x h
theorem pl_nine {a b : Nm} {n : Int} (h : n ∈ pl a b) : Nine 10 a b n := by
  simp only [pl, List.mem_cons, List.not_mem_nil, or_false] at h
  rcases h with rfl | rfl | rfl | rfl
  · exact ⟨a.l, b.l, Or.inl rfl, Or.inl rfl, rfl⟩
  · exact ⟨a.l, b.h, Or.inl rfl, Or.inr (Or.inr rfl), rfl⟩
  · exact ⟨a.h, b.l, Or.inr (Or.inr rfl), Or.inl rfl, rfl⟩
  · exact ⟨a.h, b.h, Or.inr (Or.inr rfl), Or.inr (Or.inr rfl), rfl⟩
theorem dvd_mag {d s n : Int} : d ∣ s * mag n ↔ d ∣ s * n := by
  unfold mag; split
  · rw [Int.mul_neg, Int.dvd_neg]
  · exact Iff.rfl
theorem mulG_dvd {a b : Nm} {d : Int} : d ∣ gcdF (mulG a b) ↔ (d ∣ a.s * b.l ∧ d ∣ b.s * a.l ∧ d ∣ a.s * b.s) := by
  unfold mulG; rw [gcd3, dvd_mag, dvd_mag]
theorem mul_least {a b : Nm} (ha : vld a) (hb : vld b) (he : a ≠ nE) (hf : b ≠ nE) (hk : mulOk a b) : Least (BinS 10 a b) (spanF (minF (pl a b)) (maxF (pl a b)) (gcdF (mulG a b))) ∧ Least (Nine 10 a b) (spanF (minF (pl a b)) (maxF (pl a b)) (gcdF (mulG a b))) := by
  have g := (mulG_dvd (a := a) (b := b) (d := gcdF (mulG a b))).1 (Int.dvd_refl _)
  have mL := minF_mem (xs := pl a b) (by simp [pl])
  have mH := maxF_mem (xs := pl a b) (by simp [pl])
  -- all differ from the first product by multiples
  have dif : ∀ n, BinS 10 a b n → gcdF (mulG a b) ∣ n - a.l * b.l := by
    rintro n ⟨x, y, ⟨_, _, i, hi⟩, ⟨_, _, j, hj⟩, rfl⟩
    rw [val_10]
    have ex : x = a.l + a.s * i := by omega
    have ey : y = b.l + b.s * j := by omega
    have e : x * y - a.l * b.l = (a.s * b.l) * i + (b.s * a.l) * j + (a.s * b.s) * (i * j) := by
      rw [ex, ey, Int.add_mul, Int.mul_add, Int.mul_add]
      have e1 : a.l * (b.s * j) = b.s * a.l * j := by rw [← Int.mul_assoc, Int.mul_comm a.l b.s]
      have e2 : a.s * i * b.l = a.s * b.l * i := by rw [Int.mul_assoc, Int.mul_comm i b.l, ← Int.mul_assoc]
      have e3 : a.s * i * (b.s * j) = a.s * b.s * (i * j) := by rw [Int.mul_assoc, ← Int.mul_assoc i, Int.mul_comm i b.s, Int.mul_assoc b.s, ← Int.mul_assoc]
      omega
    rw [e]
    exact Int.dvd_add (Int.dvd_add (Int.dvd_trans g.1 (Int.dvd_mul_right _ _)) (Int.dvd_trans g.2.1 (Int.dvd_mul_right _ _))) (Int.dvd_trans g.2.2 (Int.dvd_mul_right _ _))
  have dif2 : ∀ n m, BinS 10 a b n → BinS 10 a b m → gcdF (mulG a b) ∣ n - m := fun n m hn hm => by
    have := Int.dvd_sub (dif n hn) (dif m hm)
    rwa [show n - a.l * b.l - (m - a.l * b.l) = n - m by omega] at this
  have bL := nine_bin ha hb he hf (pl_nine mL)
  have bH := nine_bin ha hb he hf (pl_nine mH)
  refine two_least ha hb he hf (pl_nine mL) (pl_nine mH) (pl_fits hk mL) (pl_fits hk mH) (gcdF_nn _) (fun z => ?_) (fun n q => ?_) (fun d q => ?_)
  · have := dif2 _ _ bL bH
    rw [z] at this
    have := Int.zero_dvd.1 this
    omega
  · refine ⟨?_, ?_, dif2 n _ q bL⟩
    · obtain ⟨x, y, ⟨x1, x2, _⟩, ⟨y1, y2, _⟩, rfl⟩ := q
      rw [val_10]
      have p1 := minF_le (xs := pl a b) (x := a.l * b.l) (by simp [pl])
      have p2 := minF_le (xs := pl a b) (x := a.l * b.h) (by simp [pl])
      have p3 := minF_le (xs := pl a b) (x := a.h * b.l) (by simp [pl])
      have p4 := minF_le (xs := pl a b) (x := a.h * b.h) (by simp [pl])
      have b1 := (lin_bd (y := y) x1 x2).1
      have b2 := (lin_bd (y := a.l) y1 y2).1
      have b3 := (lin_bd (y := a.h) y1 y2).1
      rw [Int.mul_comm b.l, Int.mul_comm b.h, Int.mul_comm y] at b2 b3
      omega
    · obtain ⟨x, y, ⟨x1, x2, _⟩, ⟨y1, y2, _⟩, rfl⟩ := q
      rw [val_10]
      have p1 := le_maxF (xs := pl a b) (x := a.l * b.l) (by simp [pl])
      have p2 := le_maxF (xs := pl a b) (x := a.l * b.h) (by simp [pl])
      have p3 := le_maxF (xs := pl a b) (x := a.h * b.l) (by simp [pl])
      have p4 := le_maxF (xs := pl a b) (x := a.h * b.h) (by simp [pl])
      have b1 := (lin_bd (y := y) x1 x2).2
      have b2 := (lin_bd (y := a.l) y1 y2).2
      have b3 := (lin_bd (y := a.h) y1 y2).2
      rw [Int.mul_comm b.l, Int.mul_comm b.h, Int.mul_comm y] at b2 b3
      omega
  · refine mulG_dvd.2 ⟨?_, ?_, ?_⟩
    · have := q _ _ ⟨a.l + a.s, b.l, Or.inr (Or.inl rfl), Or.inl rfl, rfl⟩ ⟨a.l, b.l, Or.inl rfl, Or.inl rfl, rfl⟩
      rw [val_10, val_10, Int.add_mul] at this
      rwa [show a.l * b.l + a.s * b.l - a.l * b.l = a.s * b.l by omega] at this
    · have := q _ _ ⟨a.l, b.l + b.s, Or.inl rfl, Or.inr (Or.inl rfl), rfl⟩ ⟨a.l, b.l, Or.inl rfl, Or.inl rfl, rfl⟩
      rw [val_10, val_10, Int.mul_add] at this
      rwa [show a.l * b.l + a.l * b.s - a.l * b.l = a.l * b.s by omega, Int.mul_comm] at this
    · have h1 := q _ _ ⟨a.l + a.s, b.l + b.s, Or.inr (Or.inl rfl), Or.inr (Or.inl rfl), rfl⟩ ⟨a.l + a.s, b.l, Or.inr (Or.inl rfl), Or.inl rfl, rfl⟩
      have h2 := q _ _ ⟨a.l, b.l + b.s, Or.inl rfl, Or.inr (Or.inl rfl), rfl⟩ ⟨a.l, b.l, Or.inl rfl, Or.inl rfl, rfl⟩
      rw [val_10, val_10] at h1 h2
      have := Int.dvd_sub h1 h2
      rw [Int.mul_add, Int.mul_add, Int.add_mul a.l a.s b.s] at this
      rwa [show (a.l + a.s) * b.l + (a.l * b.s + a.s * b.s) - (a.l + a.s) * b.l - (a.l * b.l + a.l * b.s - a.l * b.l) = a.s * b.s by omega] at this
end Go.Proofs.Ytapkilaikcihgaa
