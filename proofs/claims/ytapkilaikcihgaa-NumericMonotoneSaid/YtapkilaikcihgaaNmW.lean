/- Strided intervals: what two sets have in common. No program in sight. -/
import Derived.Test.YtapkilaikcihgaaNmU
namespace Go.Proofs.Ytapkilaikcihgaa
open Go.Vc
open Classical
theorem memF_iff {a : Nm} (h : vld a) {n : Int} : n ∈ memF a ↔ mem a n := by
  unfold memF memP
  simp only [List.mem_map, List.mem_range]
  constructor
  · rintro ⟨i, hi, rfl⟩
    obtain ⟨h1, h2⟩ := size_mul h (i := i) (by omega) (by have := (size_bd h).1; omega)
    exact ⟨by omega, h2, ⟨i, by rw [Int.mul_comm]; omega⟩⟩
  · intro m
    have he : ¬ a = nE := mem_ne m
    obtain ⟨m1, m2, c, hc⟩ := m
    by_cases hs : a.s = 0
    · refine ⟨0, by rw [sizeF_1 he hs]; decide, ?_⟩
      rw [hs] at hc ⊢; simp at hc ⊢; omega
    · have h6 := (vld_bd h).2.2
      have hc0 : 0 ≤ c := by
        apply Decidable.not_not.1
        intro q
        have := Int.mul_le_mul_of_nonneg_left (show c ≤ -1 by omega) h6
        omega
      have hc1 : c ≤ (a.h - a.l) / a.s := Int.le_ediv_of_mul_le (by omega) (by rw [Int.mul_comm]; omega)
      refine ⟨c.toNat, by rw [sizeF_2 he hs]; omega, ?_⟩
      rw [show ((c.toNat : Nat) : Int) = c by omega, Int.mul_comm]; omega
noncomputable def comL (a b : Nm) : List Int := (memF a).filter fun n => decide (mem b n)
noncomputable def meetF (a b : Nm) : Nm := ofF (comL a b)
theorem mem_fits {a : Nm} (h : vld a) {n : Int} (m : mem a n) : fits n := by
  have := vld_bd h
  have := m.1
  have := m.2.1
  unfold fits at *; omega
theorem comL_iff {a b : Nm} (h : vld a) {n : Int} : n ∈ comL a b ↔ (mem a n ∧ mem b n) := by
  unfold comL; rw [List.mem_filter, memF_iff h]; simp
theorem meet_least {a b : Nm} (h : vld a) : Least (fun n => mem a n ∧ mem b n) (meetF a b) :=
  (least_of fun x hx => mem_fits h ((comL_iff h).1 hx).1).congr fun n => comL_iff h
theorem meet_eq {a b m : Nm} (h : vld a) (hm : vld m) (k : ∀ n, mem m n ↔ (mem a n ∧ mem b n)) : meetF a b = m := (meet_least h).unique ((least_self hm).congr k)
theorem meet_comm {a b : Nm} (h : vld a) (k : vld b) : meetF a b = meetF b a := (meet_least h).unique ((meet_least k).congr fun n => and_comm)
theorem meet_none {a b : Nm} (h : vld a) (k : ∀ n, mem a n → ¬ mem b n) : meetF a b = nE := meet_eq h vld_nE fun n => ⟨fun m => absurd m mem_nE, fun m => absurd m.2 (k n m.1)⟩
theorem meet_emp {a b : Nm} (h : vld a) (k : vld b) : meetF a b = nE ↔ ∀ n, ¬ (mem a n ∧ mem b n) := by
  constructor
  · intro e n m; have := (meet_least h).all n m; rw [e] at this; exact mem_nE this
  · intro q; exact meet_none h fun n m1 m2 => q n ⟨m1, m2⟩
theorem meet_sub {a b : Nm} (h : vld a) (k : vld b) : meetF a b = a ↔ sub a b := by
  constructor
  · intro e
    have := (meet_least (b := b) h).min b k fun n m => m.2
    rwa [e] at this
  · intro s; exact meet_eq h h fun n => ⟨fun m => ⟨m, s n m⟩, fun m => m.1⟩
/- inverses -/
structure Inv (x m a b u v : Int) : Prop where
  a0 : 0 ≤ a
  b0 : 2 ≤ b
  ab : a < b
  bm : b ≤ m
  cu : m ∣ u * x - a
  cv : m ∣ v * x - b
  gc : ∀ d : Int, d ∣ a → d ∣ b → d ∣ 1
  bd : (0 ≤ u ∧ v ≤ 0 ∧ u * b - v * a = m) ∨ (u ≤ 0 ∧ 0 ≤ v ∧ v * a - u * b = m)
theorem Inv.start {x m : Int} (x0 : 0 ≤ x) (m1 : 2 ≤ m) (hg : ∀ d : Int, d ∣ x → d ∣ m → d ∣ 1) : Inv x m (x % m) m 1 0 := by
  refine ⟨Int.emod_nonneg _ (by omega), m1, Int.emod_lt_of_pos _ (by omega), Int.le_refl _, ?_, ?_, fun d h1 h2 => hg d ?_ h2, Or.inl ⟨by omega, by omega, by omega⟩⟩
  · refine ⟨x / m, ?_⟩; have := Int.emod_add_mul_ediv x m; omega
  · exact ⟨-1, by omega⟩
  · have := Int.emod_add_mul_ediv x m
    rw [← this]
    exact Int.dvd_add h1 (Int.dvd_trans h2 (Int.dvd_mul_right _ _))
theorem Inv.bnd {x m a b u v : Int} (i : Inv x m a b u v) (m1 : 2 ≤ m) : -m ≤ u ∧ u ≤ m ∧ -m ≤ v * a ∧ v * a ≤ m := by
  obtain ⟨a0, b0, ab, _, _, _, _, bd⟩ := i
  rcases bd with ⟨h1, h2, h3⟩ | ⟨h1, h2, h3⟩
  · have e1 := Int.mul_le_mul_of_nonneg_left (show 1 ≤ b by omega) h1
    have e2 := Int.mul_nonneg (show 0 ≤ -v by omega) a0
    simp only [Int.neg_mul, Int.mul_one] at e2
    have e3 := Int.mul_nonneg h1 (show 0 ≤ b by omega)
    omega
  · have e1 := Int.mul_le_mul_of_nonneg_left (show 1 ≤ b by omega) (show 0 ≤ -u by omega)
    simp only [Int.neg_mul, Int.mul_one] at e1
    have e2 := Int.mul_nonneg h2 a0
    have e3 := Int.mul_nonneg (show 0 ≤ -u by omega) (show 0 ≤ b by omega)
    simp only [Int.neg_mul, Int.mul_one] at e3
    omega
theorem Inv.step {x m a b u v : Int} (i : Inv x m a b u v) (ha : 1 < a) : Inv x m (b - b / a * a) a (v - b / a * u) u := by
  obtain ⟨a0, b0, ab, bm, cu, cv, gc, bd⟩ := i
  have e1 := Int.emod_add_mul_ediv b a
  rw [Int.mul_comm] at e1
  have e2 := Int.emod_nonneg b (show a ≠ 0 by omega)
  have e3 := Int.emod_lt_of_pos b (show 0 < a by omega)
  have e4 := Int.ediv_nonneg (show 0 ≤ b by omega) a0
  generalize hq : b / a = q at *
  refine ⟨by omega, by omega, by omega, by omega, ?_, cu, ?_, ?_⟩
  · have := Int.dvd_sub cv (Int.dvd_trans cu (Int.dvd_mul_left q _))
    rw [Int.mul_sub] at this
    have e5 : (v - q * u) * x = v * x - q * (u * x) := by rw [Int.sub_mul, Int.mul_assoc]
    rw [e5]
    rwa [show v * x - q * (u * x) - (b - q * a) = v * x - b - (q * (u * x) - q * a) by omega]
  · intro d h1 h2
    refine gc d h2 ?_
    have := Int.dvd_add h1 (Int.dvd_trans h2 (Int.dvd_mul_left q a))
    rwa [Int.sub_add_cancel] at this
  · have e6 : (v - q * u) * a = v * a - q * u * a := Int.sub_mul ..
    have e7 : u * (b - q * a) = u * b - q * u * a := by rw [Int.mul_sub, ← Int.mul_assoc, Int.mul_comm u q]
    rcases bd with ⟨h1, h2, h3⟩ | ⟨h1, h2, h3⟩
    · have := Int.mul_nonneg e4 h1
      exact Or.inr ⟨by omega, h1, by rw [e6, e7]; omega⟩
    · have := Int.mul_nonneg e4 (show 0 ≤ -u by omega)
      rw [Int.mul_neg] at this
      exact Or.inl ⟨by omega, h1, by rw [e6, e7]; omega⟩
theorem Inv.done {x m a b u v : Int} (i : Inv x m a b u v) (ha : ¬ 1 < a) : m ∣ u * x - 1 := by
  obtain ⟨a0, b0, ab, bm, cu, cv, gc, bd⟩ := i
  have : a = 1 := by
    apply Decidable.not_not.1
    intro q
    have h0 : a = 0 := by omega
    have := gc b (h0 ▸ Int.dvd_zero _) (Int.dvd_refl _)
    have := Int.le_of_dvd (by omega) this
    omega
  rwa [this] at cu
theorem Inv.vbd {x m a b u v : Int} (i : Inv x m a b u v) (m1 : 2 ≤ m) (ha : 1 < a) : -m ≤ v ∧ v ≤ m := by
  have h := (i.bnd m1).2.2
  constructor
  · apply Decidable.not_not.1
    intro q
    have := Int.mul_le_mul_of_nonneg_left (show 1 ≤ a by omega) (show 0 ≤ -v by omega)
    simp only [Int.neg_mul, Int.mul_one] at this
    omega
  · apply Decidable.not_not.1
    intro q
    have := Int.mul_le_mul_of_nonneg_left (show 1 ≤ a by omega) (show 0 ≤ v by omega)
    omega
noncomputable def invF (x m : Int) : Int := if h : ∃ i : Int, 0 ≤ i ∧ i < m ∧ m ∣ i * x - 1 then h.choose else 0
theorem inv_uni {x m i j : Int} (i0 : 0 ≤ i) (i1 : i < m) (hi : m ∣ i * x - 1) (j0 : 0 ≤ j) (j1 : j < m) (hj : m ∣ j * x - 1) : i = j := by
  have h1 := Int.dvd_trans hi (Int.dvd_mul_left j _)
  have h2 := Int.dvd_trans hj (Int.dvd_mul_left i _)
  have h3 := Int.dvd_sub h2 h1
  have e : i * (j * x - 1) - j * (i * x - 1) = j - i := by
    rw [Int.mul_sub, Int.mul_sub, ← Int.mul_assoc, ← Int.mul_assoc, Int.mul_comm j i]; omega
  rw [e] at h3
  obtain ⟨c, hc⟩ := h3
  have hm : 0 < m := by omega
  have c0 : c = 0 := by
    apply Decidable.not_not.1
    intro q
    have hh : 1 ≤ c ∨ c ≤ -1 := by omega
    rcases hh with q | q
    · have := Int.mul_le_mul_of_nonneg_left q (show 0 ≤ m by omega); omega
    · have := Int.mul_le_mul_of_nonneg_left q (show 0 ≤ m by omega); omega
  rw [c0] at hc; omega
theorem invF_eq {x m i : Int} (i0 : 0 ≤ i) (i1 : i < m) (hi : m ∣ i * x - 1) : invF x m = i := by
  have h : ∃ i : Int, 0 ≤ i ∧ i < m ∧ m ∣ i * x - 1 := ⟨i, i0, i1, hi⟩
  have := h.choose_spec
  unfold invF; rw [dif_pos h]
  exact inv_uni this.1 this.2.1 this.2.2 i0 i1 hi
theorem Inv.fin {x m a b u v : Int} (i : Inv x m a b u v) (m1 : 2 ≤ m) (ha : ¬ 1 < a) : invF x m = u % m := by
  have h := i.done ha
  refine invF_eq (Int.emod_nonneg _ (by omega)) (Int.emod_lt_of_pos _ (by omega)) ?_
  have e := Int.emod_add_mul_ediv u m
  have e2 : u % m = u - m * (u / m) := by omega
  rw [e2, Int.sub_mul]
  have := Int.dvd_sub h (Int.dvd_trans (Int.dvd_mul_right m (u / m)) (Int.dvd_mul_right _ x))
  rwa [show u * x - 1 - m * (u / m) * x = u * x - m * (u / m) * x - 1 by omega] at this
theorem invF_ok {x m : Int} (x0 : 0 ≤ x) (m1 : 2 ≤ m) (hg : ∀ d : Int, d ∣ x → d ∣ m → d ∣ 1) : 0 ≤ invF x m ∧ invF x m < m ∧ m ∣ invF x m * x - 1 := by
  have go : ∀ (n : Nat) (a b u v : Int), a.toNat ≤ n → Inv x m a b u v → ∃ i : Int, 0 ≤ i ∧ i < m ∧ m ∣ i * x - 1 := by
    intro n
    induction n with
    | zero =>
      intro a b u v hn i
      have := i.a0
      have e := i.fin m1 (by omega)
      have h := i.done (by omega)
      refine ⟨u % m, Int.emod_nonneg _ (by omega), Int.emod_lt_of_pos _ (by omega), ?_⟩
      have e := Int.emod_add_mul_ediv u m
      have e2 : u % m = u - m * (u / m) := by omega
      rw [e2, Int.sub_mul]
      have := Int.dvd_sub h (Int.dvd_trans (Int.dvd_mul_right m (u / m)) (Int.dvd_mul_right _ x))
      rwa [show u * x - 1 - m * (u / m) * x = u * x - m * (u / m) * x - 1 by omega] at this
    | succ n ih =>
      intro a b u v hn i
      by_cases ha : 1 < a
      · have s := i.step ha
        have := s.ab
        have := s.a0
        exact ih _ _ _ _ (by omega) s
      · have h := i.done ha
        refine ⟨u % m, Int.emod_nonneg _ (by omega), Int.emod_lt_of_pos _ (by omega), ?_⟩
        have e := Int.emod_add_mul_ediv u m
        have e2 : u % m = u - m * (u / m) := by omega
        rw [e2, Int.sub_mul]
        have := Int.dvd_sub h (Int.dvd_trans (Int.dvd_mul_right m (u / m)) (Int.dvd_mul_right _ x))
        rwa [show u * x - 1 - m * (u / m) * x = u * x - m * (u / m) * x - 1 by omega] at this
  obtain ⟨i, i0, i1, hi⟩ := go _ _ _ _ _ (Nat.le_refl _) (Inv.start x0 m1 hg)
  rw [invF_eq i0 i1 hi]; exact ⟨i0, i1, hi⟩
theorem Inv.ble {x m a b u v : Int} (i : Inv x m a b u v) (m1 : 2 ≤ m) (m2 : m ≤ 2199023255552) : b ≤ 2199023255552 := by
  have := i.ab
  have := i.bm
  omega
theorem dvd_shift {p k k2 t j : Int} (h : k2 = k + j * p) : p ∣ t - k ↔ p ∣ t - k2 := by
  subst h
  have e : t - (k + j * p) = (t - k) - j * p := by omega
  rw [e]
  constructor
  · intro q; exact Int.dvd_sub q (Int.dvd_mul_left j p)
  · intro q; have := Int.dvd_add q (Int.dvd_mul_left j p); rwa [Int.sub_add_cancel] at this
theorem nn2 {a b : Int} (ha : 0 ≤ a) (hb : 0 ≤ b) : ∀ i : Int, 0 ≤ i → i < [a, b].length → 0 ≤ gi [a, b] i := fun i h0 h1 => by
  simp only [List.length_cons, List.length_nil] at h1
  have : i = 0 ∨ i = 1 := by omega
  rcases this with rfl | rfl <;> assumption
theorem ediv_bd {x g : Int} (h1 : -2199023255552 ≤ x) (h2 : x ≤ 2199023255552) (hg : 1 ≤ g) : -9223372036854775808 ≤ x / g ∧ x / g ≤ 9223372036854775807 := by
  have e := Int.emod_add_mul_ediv x g
  have e1 := Int.emod_nonneg x (show g ≠ 0 by omega)
  have e2 := Int.emod_lt_of_pos x (show 0 < g by omega)
  constructor
  · apply Decidable.not_not.1
    intro q
    have := Int.mul_le_mul_of_nonneg_left (show x / g ≤ -9223372036854775808 by omega) (show 0 ≤ g by omega)
    omega
  · apply Decidable.not_not.1
    intro q
    have := Int.mul_le_mul_of_nonneg_left (show 9223372036854775807 ≤ x / g by omega) (show 0 ≤ g by omega)
    omega
theorem tdiv_dvd {x g : Int} (h : g ∣ x) (hg : 0 < g) : x.tdiv g = x / g := by
  obtain ⟨c, rfl⟩ := h
  rw [Int.mul_tdiv_cancel_left _ (by omega), Int.mul_ediv_cancel_left _ (by omega)]
theorem tmod_up {u m : Int} (h : 0 < m) : -m < u.tmod m ∧ u.tmod m < m ∧ (u.tmod m + m) % m = u % m := by
  have h1 : u.tmod m = if 0 ≤ u then u % m else -((-u) % m) := by
    split
    · rename_i q; exact Int.tmod_eq_emod_of_nonneg q
    · rename_i q
      have := Int.neg_tmod (-u) m
      rw [Int.neg_neg] at this
      rw [this, Int.tmod_eq_emod_of_nonneg (by omega)]
  have e1 := Int.emod_nonneg u (show m ≠ 0 by omega)
  have e2 := Int.emod_lt_of_pos u h
  have e3 := Int.emod_nonneg (-u) (show m ≠ 0 by omega)
  have e4 := Int.emod_lt_of_pos (-u) h
  rw [h1]
  split
  · refine ⟨by omega, by omega, ?_⟩
    rw [Int.add_emod_right, Int.emod_emod_of_dvd _ (Int.dvd_refl m)]
  · refine ⟨by omega, by omega, ?_⟩
    rw [Int.add_emod_right]
    have := Int.emod_add_mul_ediv (-u) m
    have e5 : -((-u) % m) = u + m * ((-u) / m) := by omega
    rw [e5, Int.add_mul_emod_self_left]
theorem dvd_tmod {g x : Int} : x.tmod g = 0 ↔ g ∣ x := (Int.dvd_iff_tmod_eq_zero).symm
/- the common elements -/
structure Com (a b : Nm) (g : Int) : Prop where
  va : vld a
  vb : vld b
  na : a ≠ nE
  nb : b ≠ nE
  sa : 1 ≤ a.s
  sb : 1 ≤ b.s
  hg : g = gcdF [a.s, b.s]
theorem gcdP {a b d : Int} : d ∣ gcdF [a, b] ↔ (d ∣ a ∧ d ∣ b) := by
  have e : gcdF [a, b] = (Int.gcd (Int.gcd 0 a : Int) b : Int) := rfl
  rw [e, gcd2, gcd2]; simp
section
variable {a b : Nm} {g : Int}
theorem Com.pos (c : Com a b g) : 1 ≤ g ∧ g ∣ a.s ∧ g ∣ b.s ∧ g ≤ b.s := by
  have h := (gcdP (a := a.s) (b := b.s) (d := g)).1 (c.hg ▸ Int.dvd_refl _)
  have h0 : 0 ≤ g := c.hg ▸ gcdF_nn _
  have := c.sb
  have h1 : g ≠ 0 := fun e => by have := h.2; rw [e] at this; have := Int.zero_dvd.1 this; omega
  exact ⟨by omega, h.1, h.2, Int.le_of_dvd (by omega) h.2⟩
/-- Nothing in common. -/
theorem Com.none (c : Com a b g) (h : mn a.h b.h < mx a.l b.l ∨ ¬ g ∣ b.l - a.l) : meetF a b = nE := by
  refine meet_none c.va fun n m1 m2 => ?_
  rcases h with h | h
  · have := mn_or a.h b.h
    have := mx_or a.l b.l
    have := m1.1; have := m1.2.1; have := m2.1; have := m2.2.1
    omega
  · obtain ⟨_, g1, g2, _⟩ := c.pos
    apply h
    have := Int.dvd_sub (Int.dvd_trans g1 m1.2.2) (Int.dvd_trans g2 m2.2.2)
    rwa [show n - a.l - (n - b.l) = b.l - a.l by omega] at this
theorem Com.cop (c : Com a b g) : ∀ d : Int, d ∣ a.s / g → d ∣ b.s / g → d ∣ 1 := by
  obtain ⟨g0, ⟨x, hx⟩, ⟨y, hy⟩, _⟩ := c.pos
  intro d h1 h2
  rw [hx, Int.mul_ediv_cancel_left _ (by omega)] at h1
  rw [hy, Int.mul_ediv_cancel_left _ (by omega)] at h2
  obtain ⟨p, hp⟩ := h1
  obtain ⟨q, hq⟩ := h2
  have h3 : g * d ∣ g := by
    have : g * d ∣ gcdF [a.s, b.s] := gcdP.2 ⟨⟨p, by rw [hx, hp, Int.mul_assoc]⟩, ⟨q, by rw [hy, hq, Int.mul_assoc]⟩⟩
    rwa [← c.hg] at this
  obtain ⟨t, ht⟩ := h3
  rw [Int.mul_assoc] at ht
  have : g * (d * t) = g * 1 := by omega
  exact ⟨t, (Int.eq_of_mul_eq_mul_left (by omega) this).symm⟩
/-- Which elements of a are elements of b: those whose numbers are k up to multiples of p. -/
theorem Com.key (c : Com a b g) (hd : g ∣ b.l - a.l) {k i : Int} (hi : b.s / g = 1 ∨ b.s / g ∣ i * (a.s / g) - 1) (hk : b.s / g = 1 ∨ b.s / g ∣ k - (b.l - a.l) / g * i) (t : Int) : b.s ∣ a.l + t * a.s - b.l ↔ b.s / g ∣ t - k := by
  obtain ⟨g0, ⟨x, hx⟩, ⟨y, hy⟩, _⟩ := c.pos
  obtain ⟨d, hd⟩ := hd
  have ex : a.s / g = x := by rw [hx]; exact Int.mul_ediv_cancel_left _ (by omega)
  have ey : b.s / g = y := by rw [hy]; exact Int.mul_ediv_cancel_left _ (by omega)
  have ed : (b.l - a.l) / g = d := by rw [hd]; exact Int.mul_ediv_cancel_left _ (by omega)
  rw [ex, ey] at hi
  rw [ey, ed] at hk
  rw [ey]
  have e1 : a.l + t * a.s - b.l = g * (t * x - d) := by
    rw [Int.mul_sub, hx, ← hd]
    have : t * (g * x) = g * (t * x) := by rw [← Int.mul_assoc, Int.mul_comm t g, Int.mul_assoc]
    omega
  rw [e1, hy]
  have e2 : g * y ∣ g * (t * x - d) ↔ y ∣ t * x - d := Int.mul_dvd_mul_iff_left (by omega)
  rw [e2]
  rcases hi with h1 | hi
  · rw [h1]; exact ⟨fun _ => Int.one_dvd _, fun _ => Int.one_dvd _⟩
  rcases hk with h1 | hk
  · rw [h1]; exact ⟨fun _ => Int.one_dvd _, fun _ => Int.one_dvd _⟩
  constructor
  · intro h
    -- t = t x i - .. , d i = k - ..
    have h1 := Int.dvd_trans h (Int.dvd_mul_right _ i)
    rw [Int.sub_mul] at h1
    have h2 := Int.dvd_trans hi (Int.dvd_mul_left t _)
    rw [Int.mul_sub, Int.mul_one] at h2
    have h3 := Int.dvd_sub (Int.dvd_sub h1 h2) hk
    have e3 : t * (i * x) = t * x * i := by rw [Int.mul_comm i x, Int.mul_assoc]
    rwa [show t * x * i - d * i - (t * (i * x) - t) - (k - d * i) = t - k by omega] at h3
  · intro h
    have h1 := Int.dvd_trans (Int.dvd_add h hk) (Int.dvd_mul_right _ x)
    rw [show t - k + (k - d * i) = t - d * i by omega, Int.sub_mul] at h1
    have h2 := Int.dvd_trans hi (Int.dvd_mul_left d _)
    rw [Int.mul_sub, Int.mul_one] at h2
    have e3 : d * (i * x) = d * i * x := by rw [Int.mul_assoc]
    have h3 := Int.dvd_add h1 h2
    rwa [show t * x - d * i * x + (d * (i * x) - d) = t * x - d by omega] at h3
/-- The numbers of the elements in both ranges. -/
structure Win (a b : Nm) (p lo hi k : Int) : Prop where
  va : vld a
  vb : vld b
  sa : 1 ≤ a.s
  p0 : 1 ≤ p
  lh : mx a.l b.l ≤ mn a.h b.h
  hlo : ∀ t : Int, lo ≤ t ↔ mx a.l b.l ≤ a.l + t * a.s
  hhi : ∀ t : Int, t ≤ hi ↔ a.l + t * a.s ≤ mn a.h b.h
  key : ∀ t : Int, b.s ∣ a.l + t * a.s - b.l ↔ p ∣ t - k
  k0 : lo ≤ k
  k1 : k - p < lo
theorem Win.iff {p lo hi k : Int} (w : Win a b p lo hi k) (n : Int) : (mem a n ∧ mem b n) ↔ ∃ j : Int, 0 ≤ j ∧ k + j * p ≤ hi ∧ n = a.l + (k + j * p) * a.s := by
  have x1 := mx_or a.l b.l
  have x2 := mn_or a.h b.h
  constructor
  · rintro ⟨⟨a1, a2, t, ht⟩, ⟨b1, b2, b3⟩⟩
    rw [Int.mul_comm] at ht
    have e : n = a.l + t * a.s := by omega
    have t1 := (w.hlo t).2 (by rw [← e]; omega)
    have t2 := (w.hhi t).2 (by rw [← e]; omega)
    rw [e, w.key] at b3
    obtain ⟨j, hj⟩ := b3
    rw [Int.mul_comm] at hj
    have ej : t = k + j * p := by omega
    refine ⟨j, ?_, by rw [← ej]; exact t2, by rw [← ej]; exact e⟩
    apply Decidable.not_not.1
    intro q
    have := Int.mul_le_mul_of_nonneg_right (show j ≤ -1 by omega) (show 0 ≤ p by have := w.p0; omega)
    have := w.k1
    omega
  · rintro ⟨j, j0, j1, rfl⟩
    have hp := Int.mul_nonneg j0 (show 0 ≤ p by have := w.p0; omega)
    have t1 := (w.hlo (k + j * p)).1 (by have := w.k0; omega)
    have t2 := (w.hhi (k + j * p)).1 j1
    refine ⟨⟨by omega, by omega, ⟨k + j * p, by rw [Int.mul_comm]; omega⟩⟩, ⟨by omega, by omega, (w.key _).2 ⟨j, by rw [Int.mul_comm]; omega⟩⟩⟩
theorem Win.none {p lo hi k : Int} (w : Win a b p lo hi k) (h : hi < k) : meetF a b = nE := by
  refine meet_none w.va fun n m1 m2 => ?_
  obtain ⟨j, j0, j1, _⟩ := (w.iff n).1 ⟨m1, m2⟩
  have := Int.mul_nonneg j0 (show 0 ≤ p by have := w.p0; omega)
  omega
theorem Win.last {p lo hi k : Int} (w : Win a b p lo hi k) (h : ¬ hi < k) : 0 ≤ (hi - k) / p ∧ k + (hi - k) / p * p ≤ hi ∧ ∀ j : Int, 0 ≤ j → k + j * p ≤ hi → j ≤ (hi - k) / p := by
  have hp := w.p0
  refine ⟨Int.ediv_nonneg (by omega) (by omega), ?_, fun j j0 j1 => Int.le_ediv_of_mul_le (by omega) (by omega)⟩
  have := Int.ediv_mul_le (hi - k) (show p ≠ 0 by omega)
  omega
theorem Win.bd {p lo hi k : Int} (w : Win a b p lo hi k) {t : Int} (h1 : lo ≤ t) (h2 : t ≤ hi) : a.l ≤ a.l + t * a.s ∧ a.l + t * a.s ≤ a.h := by
  have x1 := mx_or a.l b.l
  have x2 := mn_or a.h b.h
  have t1 := (w.hlo t).1 h1
  have t2 := (w.hhi t).1 h2
  omega
theorem Win.one {p lo hi k : Int} (w : Win a b p lo hi k) (h : ¬ hi < k) (h1 : k = k + (hi - k) / p * p) : meetF a b = sgl (a.l + k * a.s) := by
  have hb := w.bd w.k0 (by omega)
  have hv := vld_bd w.va
  refine meet_eq w.va (vld_sgl (by unfold fits at *; omega)) fun n => ?_
  rw [mem_sgl, w.iff]
  obtain ⟨l1, l2, l3⟩ := w.last h
  have hz : (hi - k) / p = 0 := by
    have hp := w.p0
    apply Decidable.not_not.1
    intro q
    have := Int.mul_le_mul_of_nonneg_right (show 1 ≤ (hi - k) / p by omega) (show 0 ≤ p by omega)
    omega
  constructor
  · rintro rfl; exact ⟨0, by omega, by omega, by simp⟩
  · rintro ⟨j, j0, j1, rfl⟩
    have : j = 0 := by have := l3 j j0 j1; omega
    subst this; simp
theorem Win.many {p lo hi k : Int} (w : Win a b p lo hi k) (h : ¬ hi < k) (h1 : ¬ k = k + (hi - k) / p * p) : meetF a b = ⟨a.l + k * a.s, a.l + (k + (hi - k) / p * p) * a.s, p * a.s⟩ := by
  have hp := w.p0
  have hs := w.sa
  obtain ⟨l1, l2, l3⟩ := w.last h
  have hb := w.bd w.k0 (by omega)
  have hpp := Int.mul_nonneg l1 (show 0 ≤ p by omega)
  have hb2 := w.bd (t := k + (hi - k) / p * p) (by have := w.k0; omega) l2
  have hv := vld_bd w.va
  have hps : 1 ≤ p * a.s := by have := Int.mul_le_mul hp hs (by omega) (by omega); omega
  generalize hq : (hi - k) / p = q at *
  have e1 : (k + q * p) * a.s = k * a.s + q * (p * a.s) := by rw [Int.add_mul, Int.mul_assoc]
  have q1 : 1 ≤ q := by
    apply Decidable.not_not.1
    intro z
    have : q = 0 := by omega
    rw [this] at h1; simp at h1
  have e2 := Int.mul_le_mul_of_nonneg_right q1 (show 0 ≤ p * a.s by omega)
  refine meet_eq w.va (Or.inr ⟨by unfold fits at *; dsimp only; omega, by unfold fits at *; dsimp only; omega, by dsimp only; omega, fun z => by dsimp only at z; omega, fun _ => ⟨hps, by
    dsimp only; rw [show a.l + (k + q * p) * a.s - (a.l + k * a.s) = q * (p * a.s) by omega]; exact Int.mul_emod_left _ _⟩⟩) fun n => ?_
  rw [w.iff]
  constructor
  · rintro ⟨m1, m2, j, hj⟩
    dsimp only at m1 m2 hj
    rw [Int.mul_comm (p * a.s) j] at hj
    have j0 : 0 ≤ j := by
      apply Decidable.not_not.1
      intro z
      have := Int.mul_le_mul_of_nonneg_right (show j ≤ -1 by omega) (show 0 ≤ p * a.s by omega)
      omega
    have jq : j ≤ q := by
      apply Decidable.not_not.1
      intro z
      have := Int.mul_le_mul_of_nonneg_right (show q + 1 ≤ j by omega) (show 0 ≤ p * a.s by omega)
      rw [Int.add_mul] at this
      omega
    refine ⟨j, j0, ?_, by rw [Int.add_mul, Int.mul_assoc]; omega⟩
    have := Int.mul_le_mul_of_nonneg_right jq (show 0 ≤ p by omega)
    omega
  · rintro ⟨j, j0, j1, rfl⟩
    have jq := l3 j j0 j1
    have e3 : (k + j * p) * a.s = k * a.s + j * (p * a.s) := by rw [Int.add_mul, Int.mul_assoc]
    have := Int.mul_le_mul_of_nonneg_right jq (show 0 ≤ p * a.s by omega)
    have := Int.mul_nonneg j0 (show 0 ≤ p * a.s by omega)
    exact ⟨by dsimp only; omega, by dsimp only; omega, ⟨j, by dsimp only; rw [Int.mul_comm (p * a.s) j]; omega⟩⟩
theorem Win.stp {p lo hi k : Int} (w : Win a b p lo hi k) (h : ¬ hi < k) (h1 : ¬ k = k + (hi - k) / p * p) : 0 ≤ p * a.s ∧ p * a.s ≤ a.h - a.l := by
  have hp := w.p0
  have hs := w.sa
  obtain ⟨l1, l2, l3⟩ := w.last h
  have hb := w.bd w.k0 (by omega)
  have hpp := Int.mul_nonneg l1 (show 0 ≤ p by omega)
  have hb2 := w.bd (t := k + (hi - k) / p * p) (by have := w.k0; omega) l2
  have hps : 0 ≤ p * a.s := Int.mul_nonneg (by omega) (by omega)
  generalize hq : (hi - k) / p = q at *
  have e1 : (k + q * p) * a.s = k * a.s + q * (p * a.s) := by rw [Int.add_mul, Int.mul_assoc]
  have q1 : 1 ≤ q := by
    apply Decidable.not_not.1
    intro z
    have : q = 0 := by omega
    rw [this] at h1; simp at h1
  have e2 := Int.mul_le_mul_of_nonneg_right q1 hps
  omega
/-- The number that is right up to multiples. -/
theorem com_k {A p d i k : Int} (hp : 2 ≤ p) (hi : p ∣ i * (A % p) - 1) (hk : k = (d % p) * i % p) : p ∣ i * A - 1 ∧ p ∣ k - d * i := by
  constructor
  · have e := Int.emod_add_mul_ediv A p
    have h := Int.dvd_add hi (Int.dvd_trans (Int.dvd_mul_right p (A / p)) (Int.dvd_mul_left i _))
    rw [show i * (A % p) - 1 + i * (p * (A / p)) = i * (A % p) + i * (p * (A / p)) - 1 by omega, ← Int.mul_add, e] at h
    exact h
  · have e := Int.emod_add_mul_ediv d p
    have e2 := Int.emod_add_mul_ediv (d % p * i) p
    refine ⟨-(d % p * i / p) - d / p * i, ?_⟩
    rw [hk]
    have e3 : d * i = d % p * i + p * (d / p) * i := by rw [← Int.add_mul, e]
    rw [Int.mul_sub, Int.mul_neg]
    have e4 : p * (d / p * i) = p * (d / p) * i := by rw [Int.mul_assoc]
    omega
theorem ceil_iff {x s t : Int} (hs : 1 ≤ s) : (x + s - 1) / s ≤ t ↔ x ≤ t * s := by
  have h1 := Int.emod_add_mul_ediv (x + s - 1) s
  rw [Int.mul_comm] at h1
  have h2 := Int.emod_nonneg (x + s - 1) (show s ≠ 0 by omega)
  have h3 := Int.emod_lt_of_pos (x + s - 1) (show 0 < s by omega)
  constructor
  · intro h
    have := Int.mul_le_mul_of_nonneg_right h (show 0 ≤ s by omega)
    omega
  · intro h
    apply Decidable.not_not.1
    intro q
    have := Int.mul_le_mul_of_nonneg_right (show t + 1 ≤ (x + s - 1) / s by omega) (show 0 ≤ s by omega)
    rw [Int.add_mul] at this
    omega
theorem floor_iff {x s t : Int} (hs : 1 ≤ s) : t ≤ x / s ↔ t * s ≤ x := Int.le_ediv_iff_mul_le (by omega)
end
theorem meet_e {a b : Nm} (h : vld a) (e : a = nE ∨ b = nE) : meetF a b = nE := meet_none h fun n m1 m2 => by
  rcases e with e | e
  · rw [e] at m1; exact mem_nE m1
  · rw [e] at m2; exact mem_nE m2
theorem pt_mem {a : Nm} (h : vld a) (he : a ≠ nE) (hs : a.s = 0) {n : Int} : mem a n ↔ n = a.l := by
  constructor
  · rintro ⟨_, _, m⟩; rw [hs] at m; have := Int.zero_dvd.1 m; omega
  · rintro rfl; exact mem_l h he
theorem meet_in {a b : Nm} (h : vld a) (k : vld b) (he : a ≠ nE) (hs : a.s = 0) (m : mem b a.l) : meetF a b = a := (meet_sub h k).2 fun n q => by rw [(pt_mem h he hs).1 q]; exact m
theorem meet_out {a b : Nm} (h : vld a) (he : a ≠ nE) (hs : a.s = 0) (m : ¬ mem b a.l) : meetF a b = nE := meet_none h fun n q => by rw [(pt_mem h he hs).1 q]; exact m
theorem com_of {a b : Nm} (h : vld a) (k : vld b) (he : a ≠ nE) (hf : b ≠ nE) (hs : a.s ≠ 0) (ht : b.s ≠ 0) : Com a b (gcdF [a.s, b.s]) :=
  ⟨h, k, he, hf, by have := (vld_bd h).2.2; omega, by have := (vld_bd k).2.2; omega, rfl⟩
noncomputable def mtN (a b : Nm) : Nm := if jOk a b then meetF a b else ⟨0, 0, 0⟩
theorem mtN_1 {a b : Nm} (h : jOk a b) : mtN a b = meetF a b := if_pos h
theorem mtN_0 {a b : Nm} (h : ¬ jOk a b) : mtN a b = ⟨0, 0, 0⟩ := if_neg h
theorem two_step {a b : Nm} (ha : vld a) (hb : vld b) (he : a ≠ nE) (hs : a.s ≠ 0) (m1 : mem b a.l) (m2 : mem b a.h) : 0 < b.s := by
  have h6 := (vld_bd hb).2.2
  apply Decidable.not_not.1
  intro q
  have h0 : b.s = 0 := by omega
  have n1 := (pt_mem hb (mem_ne m1) h0).1 m1
  have n2 := (pt_mem hb (mem_ne m1) h0).1 m2
  exact hs ((vld_ne ha he).2.2.2.1 (by omega))
theorem ofN_com {a b : Nm} (h : vld a) : ofN (comL a b) = meetF a b := by
  rw [ofN_1 (fitAll_mem.2 fun x hx => mem_fits h ((comL_iff h).1 hx).1)]; rfl
theorem com_step {a b : Nm} {i : Int} (i0 : 0 ≤ i) : (memP a (i + 1).toNat).filter (fun n => decide (mem b n)) = if mem b (a.l + i * a.s) then (memP a i.toNat).filter (fun n => decide (mem b n)) ++ [a.l + i * a.s] else (memP a i.toNat).filter (fun n => decide (mem b n)) := by
  rw [memP_succ a i0, List.filter_append]
  split
  · rename_i h; simp [h]
  · rename_i h; simp [h]
end Go.Proofs.Ytapkilaikcihgaa
