/- Counting kinds and runs of a grouping; a proof table bounds every grouping into intervals. No program in sight. -/
import Derived.Test.YtmkbjhligjnagaaMgS
namespace Go.Proofs.Ytmkbjhligjnagaa
open Go.Vc
open Classical

def IsNew (G : List Int) (i : Int) : Prop := ∀ y : Int, 0 ≤ y → y < i → gi G y ≠ gi G i
noncomputable def kindsN (G : List Int) : Nat → Int
  | 0 => 0
  | m + 1 => if IsNew G m then kindsN G m + 1 else kindsN G m
noncomputable def runsN (G : List Int) : Nat → Int
  | 0 => 0
  | m + 1 => if (m : Int) = 0 ∨ gi G m ≠ gi G ((m : Int) - 1) then runsN G m + 1 else runsN G m
theorem kindsN_bd (G : List Int) : ∀ m : Nat, 0 ≤ kindsN G m ∧ kindsN G m ≤ m
  | 0 => by simp [kindsN]
  | m + 1 => by have := kindsN_bd G m; simp only [kindsN]; split <;> omega
theorem runsN_bd (G : List Int) : ∀ m : Nat, 0 ≤ runsN G m ∧ runsN G m ≤ m
  | 0 => by simp [runsN]
  | m + 1 => by have := runsN_bd G m; simp only [runsN]; split <;> omega
theorem kindsN_step (G : List Int) {p : Int} (h : 0 ≤ p) : kindsN G (p + 1).toNat = if IsNew G p then kindsN G p.toNat + 1 else kindsN G p.toNat := by
  rw [show (p + 1).toNat = p.toNat + 1 by omega, kindsN, show ((p.toNat : Nat) : Int) = p by omega]
theorem runsN_step (G : List Int) {p : Int} (h : 0 ≤ p) : runsN G (p + 1).toNat = if p = 0 ∨ gi G p ≠ gi G (p - 1) then runsN G p.toNat + 1 else runsN G p.toNat := by
  rw [show (p + 1).toNat = p.toNat + 1 by omega, runsN, show ((p.toNat : Nat) : Int) = p by omega]
/-- Where as many runs as kinds are, each run begins with a new kind. -/
theorem runs_ge (G : List Int) : ∀ m : Nat, kindsN G m ≤ runsN G m
  | 0 => by simp [kindsN, runsN]
  | m + 1 => by
    have := runs_ge G m
    simp only [kindsN, runsN]
    by_cases h : IsNew G m
    · rw [if_pos h]
      by_cases h0 : (m : Int) = 0
      · rw [if_pos (Or.inl h0)]; omega
      · rw [if_pos (Or.inr (fun e => h (m - 1) (by omega) (by omega) e.symm))]; omega
    · rw [if_neg h]; split <;> omega
theorem runs_new (G : List Int) : ∀ m : Nat, runsN G m = kindsN G m → ∀ p : Int, 0 ≤ p → p < m → (p = 0 ∨ gi G p ≠ gi G (p - 1)) → IsNew G p
  | 0, _, p, h0, h1, _ => by omega
  | m + 1, h, p, h0, h1, h2 => by
    have hge := runs_ge G m
    simp only [kindsN, runsN] at h
    by_cases hp : p = m
    · subst hp
      rw [if_pos h2] at h
      by_cases hn : IsNew G m
      · exact hn
      · rw [if_neg hn] at h; omega
    · refine runs_new G m ?_ p h0 (by omega) h2
      by_cases hn : IsNew G m
      · have hst : (m : Int) = 0 ∨ gi G m ≠ gi G ((m : Int) - 1) := by
          by_cases h0 : (m : Int) = 0
          · exact Or.inl h0
          · exact Or.inr (fun e => hn (m - 1) (by omega) (by omega) e.symm)
        rw [if_pos hn, if_pos hst] at h
        omega
      · rw [if_neg hn] at h
        split at h <;> omega
theorem last_run (G : List Int) : ∀ m : Nat, ∃ h : Int, 0 ≤ h ∧ h ≤ m ∧ (h = 0 ∨ gi G h ≠ gi G (h - 1)) ∧ (∀ y : Int, h ≤ y → y ≤ m → gi G y = gi G m) ∧ runsN G (m + 1) = runsN G h.toNat + 1
  | 0 => ⟨0, by omega, by omega, Or.inl rfl, fun y a b => by rw [show y = ((0 : Nat) : Int) by omega], by simp [runsN]⟩
  | m + 1 => by
    by_cases hc : gi G ((m + 1 : Nat) : Int) ≠ gi G (((m + 1 : Nat) : Int) - 1)
    · refine ⟨((m + 1 : Nat) : Int), by omega, by omega, Or.inr hc, fun y a b => by rw [show y = ((m + 1 : Nat) : Int) by omega], ?_⟩
      rw [runsN, if_pos (Or.inr hc)]; rfl
    · obtain ⟨h, h0, h1, h2, h3, h4⟩ := last_run G m
      have hc' : gi G ((m + 1 : Nat) : Int) = gi G ((m : Nat) : Int) := by
        have := Decidable.not_not.1 hc
        rwa [show ((m + 1 : Nat) : Int) - 1 = (m : Int) by omega] at this
      refine ⟨h, h0, by omega, h2, fun y a b => ?_, ?_⟩
      · by_cases hy : y = ((m + 1 : Nat) : Int)
        · rw [hy]
        · rw [h3 y a (by omega), hc']
      · rw [runsN, if_neg (by rintro (e | e); omega; exact hc e), h4]
theorem csum_run (L : List (List Int)) (G : List Int) {h : Nat} {r : Int} (hr : 0 ≤ r) : ∀ m : Nat, (∀ y : Int, h ≤ y → y < h + m → gi G y = r) → csum L G (h + m) = csum L G h + wsum L r.toNat h m
  | 0, _ => by simp [wsum]
  | m + 1, hy => by
    have ih := csum_run L G hr m (fun y a b => hy y a (by omega))
    have h1 := hy ((h + m : Nat) : Int) (by omega) (by omega)
    rw [show h + (m + 1) = (h + m) + 1 by omega, csum, ih, h1, wsum]
    simp only [gr, gi, Int.toNat_natCast]
    omega
theorem ivTo_le (L : List (List Int)) {h i : Nat} : ∀ (m r : Nat), r < m → ivTo L h i m ≤ wsum L (h + r) h (i - h)
  | 0, r, hr => by omega
  | m + 1, r, hr => by
    simp only [ivTo]
    by_cases e : r = m
    · subst e; split <;> omega
    · have := ivTo_le L (h := h) (i := i) m r (by omega)
      split <;> omega
/-- A grouping: in range, and each report reports itself. -/
structure Grp (L : List (List Int)) (G : List Int) : Prop where
  len : G.length = L.length
  rng : ∀ i : Int, 0 ≤ i → i < L.length → 0 ≤ gi G i ∧ gi G i < L.length
  fix : ∀ i : Int, 0 ≤ i → i < L.length → gi G (gi G i) = gi G i
theorem grp_of {L : List (List Int)} {G : List Int} (h : gE L G = 0) : Grp L G := by
  by_cases h1 : G.length ≠ L.length
  · rw [gE_2 h1] at h; omega
  have h1 : G.length = L.length := by omega
  by_cases h2 : Out L G
  · rw [gE_3 h1 h2] at h; omega
  by_cases h3 : Unfix G
  · rw [gE_15 h1 h2 h3] at h; omega
  refine ⟨h1, fun i a b => ?_, fun i a b => Decidable.not_not.1 fun e => h3 ⟨i, a, by omega, e⟩⟩
  have : ¬ (gi G i < 0 ∨ (L.length : Int) ≤ gi G i) := fun e => h2 ⟨i, a, by omega, e⟩
  omega
/-- The report of a run of a grouping into intervals lies in the run. -/
theorem rep_in {L : List (List Int)} {G : List Int} (g : Grp L G) (hr : runsN G G.length = kindsN G G.length) {h i : Int} (h0 : 0 ≤ h) (h1 : h < i) (h2 : i ≤ L.length) (hs : h = 0 ∨ gi G h ≠ gi G (h - 1))
    (hrun : ∀ y : Int, h ≤ y → y < i → gi G y = gi G h) (he : i = L.length ∨ gi G i ≠ gi G (i - 1)) : h ≤ gi G h ∧ gi G h < i := by
  have hlen := g.len
  have hnew := runs_new G G.length hr
  obtain ⟨r0, r1⟩ := g.rng h h0 (by omega)
  have hf := g.fix h h0 (by omega)
  have a1 : h ≤ gi G h := by
    apply Decidable.not_not.1
    intro e
    exact hnew h h0 (by omega) hs (gi G h) r0 (by omega) hf
  refine ⟨a1, ?_⟩
  apply Decidable.not_not.1
  intro e
  have back : ∀ n : Nat, h ≤ gi G h - n → gi G (gi G h - n) = gi G h := by
    intro n
    induction n with
    | zero => intro _; rw [show gi G h - ((0 : Nat) : Int) = gi G h by omega]; exact hf
    | succ n ih =>
      intro hn
      have hp := ih (by omega)
      apply Decidable.not_not.1
      intro hne
      have := hnew (gi G h - n) (by omega) (by omega) (Or.inr (by rw [hp, show gi G h - (n : Int) - 1 = gi G h - ((n + 1 : Nat) : Int) by omega]; exact fun q => hne q.symm)) h h0 (by omega)
      exact this hp.symm
  rcases he with he | he
  · omega
  · have b1 := back (gi G h - i).toNat (by omega)
    rw [show gi G h - ((gi G h - i).toNat : Int) = i by omega] at b1
    exact he (by rw [b1, hrun (i - 1) (by omega) (by omega)])
/-- What a table that obeys the local conditions says. -/
theorem table_bound {L : List (List Int)} {G : List Int} {T : List (List Int)} {k : Int} (g : Grp L G) (hr : runsN G G.length = kindsN G G.length) (hT : Tab T L.length k) (h00 : gi (gr T 0) 0 = 0) (hH : Holds (ivals L) T) :
    ∀ (m : Nat) (j : Int), (m : Int) ≤ L.length → ((m : Int) = 0 ∨ (m : Int) = L.length ∨ gi G m ≠ gi G ((m : Int) - 1)) → 0 ≤ j → j ≤ k → runsN G m ≤ j → gi (gr T j) m ≤ csum L G m := by
  have hTl := hT.len
  have zero : ∀ j : Nat, (j : Int) ≤ k → gi (gr T j) 0 ≤ 0 := by
    intro j
    induction j with
    | zero => intro _; rw [show ((0 : Nat) : Int) = 0 from rfl, h00]; omega
    | succ j ih =>
      intro hj
      have h1 := ih (by omega)
      have h2 := hH ((j + 1 : Nat) : Int) (by omega) (by omega) (by omega) 0 (by omega) (by have := hT.row ((j + 1 : Nat) : Int) (by omega) (by omega); omega) 0 (by omega) (by omega) (Or.inr rfl)
      rw [RowOK, ivals_el (by omega) (by omega) (by omega), show (((j + 1 : Nat) : Int) - 1) = (j : Int) by omega] at h2
      have : ivTo L (0 : Int).toNat (0 : Int).toNat ((0 : Int).toNat - (0 : Int).toNat) = 0 := rfl
      omega
  intro m
  induction m using Nat.strongRecOn with
  | ind m ih =>
    intro j hm hb h0 hk hruns
    by_cases hm0 : m = 0
    · subst hm0
      have := zero j.toNat (by omega)
      rw [show ((j.toNat : Nat) : Int) = j by omega] at this
      simpa [csum] using this
    obtain ⟨h, a0, a1, a2, a3, a4⟩ := last_run G (m - 1)
    rw [show m - 1 + 1 = m by omega] at a4
    have a1' : h < (m : Int) := by omega
    have hrun : ∀ y : Int, h ≤ y → y < m → gi G y = gi G h := fun y p q => by rw [a3 y p (by omega), a3 h (by omega) (by omega)]
    obtain ⟨r0, r1⟩ := rep_in g hr (i := (m : Int)) a0 a1' hm a2 hrun (by rcases hb with hb | hb | hb; omega; exact Or.inl hb; exact Or.inr hb)
    have hrb := (runsN_bd G h.toNat).1
    have hj1 : 1 ≤ j := by omega
    have hprev : gi (gr T (j - 1)) h ≤ csum L G h.toNat := by
      have := ih h.toNat (by omega) (j - 1) (by omega) (by rw [show ((h.toNat : Nat) : Int) = h by omega]; rcases a2 with e | e; exact Or.inl e; exact Or.inr (Or.inr e)) (by omega) (by omega) (by omega)
      rwa [show ((h.toNat : Nat) : Int) = h by omega] at this
    have hone : 1 < j ∨ h = 0 := by
      by_cases hj : 1 < j
      · exact Or.inl hj
      · right
        apply Decidable.not_not.1
        intro hne
        obtain ⟨h', _, _, _, _, b4⟩ := last_run G (h.toNat - 1)
        rw [show h.toNat - 1 + 1 = h.toNat by omega] at b4
        have := (runsN_bd G h'.toNat).1
        omega
    have hrow := hH j (by omega) (by omega) hj1 (m : Int) (by omega) (by have := hT.row j (by omega) (by omega); omega) h a0 (by omega) hone
    rw [RowOK, ivals_el a0 (by omega) hm] at hrow
    have hle := ivTo_le L (h := h.toNat) (i := (m : Int).toNat) ((m : Int).toNat - h.toNat) ((gi G h).toNat - h.toNat) (by omega)
    rw [show h.toNat + ((gi G h).toNat - h.toNat) = (gi G h).toNat by omega, show (m : Int).toNat = m by omega] at hle
    rw [show (m : Int).toNat = m by omega] at hrow
    have hc := csum_run L G (h := h.toNat) (r := gi G h) (by omega) (m - h.toNat) (fun y p q => hrun y (by omega) (by omega))
    rw [show h.toNat + (m - h.toNat) = m by omega] at hc
    omega
/-- Whatever ProveOrdered accepts bounds every grouping into at most k intervals. -/
theorem proves_bound {L : List (List Int)} {G : List Int} {T : List (List Int)} {k c : Int} (h : poE L k T c = 0) (hg : gE L G = 0) (hr : runsN G G.length = kindsN G G.length) (hk : kindsN G G.length ≤ k) : c ≤ csum L G G.length := by
  by_cases h1 : chk L ≠ 0
  · rw [poE_chk h1] at h; exact absurd h h1
  have h1 : chk L = 0 := by omega
  by_cases h2 : 1 ≤ k ∧ k ≤ 32
  · by_cases h3 : (T.length : Int) ≠ k + 1 ∨ Ragg T L.length
    · rw [poE_2 h1 h2 h3] at h; omega
    obtain ⟨h3, h4⟩ := not_or.1 h3
    have h3 : (T.length : Int) = k + 1 := by omega
    by_cases h5 : Wild T
    · rw [poE_3 h1 h2 h3 h4 h5] at h; omega
    by_cases h6 : gi (gr T 0) 0 ≠ 0 ∨ gi (gr T k) L.length < c ∨ ¬ Holds (ivals L) T
    · rw [poE_13 h1 h2 h3 h4 h5 h6] at h; omega
    obtain ⟨h6, h7⟩ := not_or.1 h6
    obtain ⟨h7, h8⟩ := not_or.1 h7
    have gg := grp_of hg
    have gl := gg.len
    have := table_bound gg hr (tab_of h3 h4 h5) (by omega) (Decidable.not_not.1 h8) L.length k (by omega) (Or.inr (Or.inl rfl)) (by omega) (by omega) (by rw [← gl, hr]; exact hk)
    rw [gl]; omega
  · rw [poE_k h1 h2] at h; omega
theorem poE_good {L : List (List Int)} {T : List (List Int)} {k c : Int} (h : poE L k T c = 0) : chk L = 0 := by
  apply Decidable.not_not.1
  intro h1
  rw [poE_chk h1] at h; exact h1 h
end Go.Proofs.Ytmkbjhligjnagaa
