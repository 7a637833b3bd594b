/- Ordered's grouping is one into at most k intervals and costs what the table says. No program in sight. -/
import Derived.Test.YtmkbjhligjnagaaMgT
namespace Go.Proofs.Ytmkbjhligjnagaa
open Go.Vc
open Classical

theorem gi_left {xs ys : List Int} {p : Int} (h0 : 0 ≤ p) (h1 : p < xs.length) : gi (xs ++ ys) p = gi xs p := by
  simp only [gi, List.getD_eq_getElem?_getD]
  rw [List.getElem?_append_left (by omega)]
theorem gi_rep {xs : List Int} {r : Int} {m : Nat} {p : Int} (h0 : (xs.length : Int) ≤ p) (h1 : p < xs.length + m) : gi (xs ++ List.replicate m r) p = r := by
  simp only [gi, List.getD_eq_getElem?_getD]
  rw [List.getElem?_append_right (by omega), List.getElem?_replicate, if_pos (by omega)]
  rfl
theorem kindsN_congr {A B : List Int} : ∀ m : Nat, (∀ p : Int, 0 ≤ p → p < m → gi A p = gi B p) → kindsN A m = kindsN B m
  | 0, _ => rfl
  | m + 1, h => by
    have ih := kindsN_congr m (fun p a b => h p a (by omega))
    have e : IsNew A m ↔ IsNew B m := by
      unfold IsNew
      constructor
      · intro q y a b; rw [← h y a (by omega), ← h m (by omega) (by omega)]; exact q y a b
      · intro q y a b; rw [h y a (by omega), h m (by omega) (by omega)]; exact q y a b
    simp only [kindsN, ih, e]
theorem runsN_congr {A B : List Int} : ∀ m : Nat, (∀ p : Int, 0 ≤ p → p < m → gi A p = gi B p) → runsN A m = runsN B m
  | 0, _ => rfl
  | m + 1, h => by
    have ih := runsN_congr m (fun p a b => h p a (by omega))
    simp only [runsN, ih]
    by_cases h0 : (m : Int) = 0
    · rw [if_pos (Or.inl h0), if_pos (Or.inl h0)]
    · rw [h m (by omega) (by omega), h ((m : Int) - 1) (by omega) (by omega)]
theorem csum_congr (L : List (List Int)) {A B : List Int} : ∀ m : Nat, (∀ p : Int, 0 ≤ p → p < m → gi A p = gi B p) → csum L A m = csum L B m
  | 0, _ => rfl
  | m + 1, h => by
    have ih := csum_congr L m (fun p a b => h p a (by omega))
    simp only [csum, ih, h m (by omega) (by omega)]
theorem kinds_block {G : List Int} {i : Nat} {r : Int} (hn : ∀ y : Int, 0 ≤ y → y < i → gi G y < i) (hr : (i : Int) ≤ r) : ∀ m : Nat, (∀ p : Int, (i : Int) ≤ p → p < i + (m + 1 : Nat) → gi G p = r) → kindsN G (i + (m + 1)) = kindsN G i + 1
  | 0, h => by
    rw [show i + (0 + 1) = i + 1 by omega, kindsN, if_pos (show IsNew G i from fun y a b => by have := hn y a b; have := h i (by omega) (by omega); omega)]
  | m + 1, h => by
    rw [show i + (m + 1 + 1) = (i + (m + 1)) + 1 by omega, kindsN, if_neg, kinds_block hn hr m (fun p a b => h p a (by omega))]
    intro q
    exact q i (by omega) (by omega) (by rw [h i (by omega) (by omega), h ((i + (m + 1) : Nat) : Int) (by omega) (by omega)])
theorem runs_block {G : List Int} {i : Nat} {r : Int} (hn : ∀ y : Int, 0 ≤ y → y < i → gi G y < i) (hr : (i : Int) ≤ r) : ∀ m : Nat, (∀ p : Int, (i : Int) ≤ p → p < i + (m + 1 : Nat) → gi G p = r) → runsN G (i + (m + 1)) = runsN G i + 1
  | 0, h => by
    rw [show i + (0 + 1) = i + 1 by omega, runsN, if_pos]
    by_cases h0 : (i : Int) = 0
    · exact Or.inl h0
    · have := hn ((i : Int) - 1) (by omega) (by omega)
      have := h i (by omega) (by omega)
      exact Or.inr (by omega)
  | m + 1, h => by
    rw [show i + (m + 1 + 1) = (i + (m + 1)) + 1 by omega, runsN, if_neg, runs_block hn hr m (fun p a b => h p a (by omega))]
    have e1 := h ((i + (m + 1) : Nat) : Int) (by omega) (by omega)
    have e2 := h (((i + (m + 1) : Nat) : Int) - 1) (by omega) (by omega)
    rintro (q | q)
    · omega
    · exact q (e1.trans e2.symm)
/-- What the greedy reading of the table builds. -/
theorem ordG_props {L : List (List Int)} {k : Int} (g : Good L) : ∀ (j : Nat) (i : Int) (xs : List Int), (j : Int) ≤ k → 0 ≤ i → i ≤ L.length → xs.length = i →
    gi (gr (sufs (ivals L) L.length k) j) i < 1152921504606846976 → (∀ p : Int, 0 ≤ p → p < i → 0 ≤ gi xs p ∧ gi xs p < i ∧ gi xs (gi xs p) = gi xs p) → runsN xs i.toNat = kindsN xs i.toNat → kindsN xs i.toNat ≤ k - j →
    (xs ++ ordG L (sufs (ivals L) L.length k) L.length j i).length = L.length ∧
    (∀ p : Int, 0 ≤ p → p < L.length → 0 ≤ gi (xs ++ ordG L (sufs (ivals L) L.length k) L.length j i) p ∧ gi (xs ++ ordG L (sufs (ivals L) L.length k) L.length j i) p < L.length ∧
      gi (xs ++ ordG L (sufs (ivals L) L.length k) L.length j i) (gi (xs ++ ordG L (sufs (ivals L) L.length k) L.length j i) p) = gi (xs ++ ordG L (sufs (ivals L) L.length k) L.length j i) p) ∧
    runsN (xs ++ ordG L (sufs (ivals L) L.length k) L.length j i) L.length = kindsN (xs ++ ordG L (sufs (ivals L) L.length k) L.length j i) L.length ∧
    kindsN (xs ++ ordG L (sufs (ivals L) L.length k) L.length j i) L.length ≤ k ∧
    csum L (xs ++ ordG L (sufs (ivals L) L.length k) L.length j i) L.length = csum L xs i.toNat + gi (gr (sufs (ivals L) L.length k) j) i := by
  intro j
  induction j with
  | zero =>
    intro i xs hj h0 h1 hx hf hA hB hC
    by_cases hi : i < L.length
    · have := (ord_round (L := L) (k := k) rfl h0 hi (j := ((0 : Nat) : Int)) (by omega) hj hf).1
      omega
    · have hin : i = L.length := by omega
      subst hin
      rw [ordG, List.append_nil, sufs_row _ _ _ _ (by omega) hj]
      have hl := sufRow_last (ivals L) ((L.length : Int).toNat) ((0 : Nat) : Int).toNat
      rw [show (((L.length : Int).toNat : Nat) : Int) = (L.length : Int) by omega] at hl
      rw [hl]
      rw [show (L.length : Int).toNat = L.length by omega] at hB hC ⊢
      exact ⟨by omega, hA, hB, by omega, by omega⟩
  | succ j ih =>
    intro i xs hj h0 h1 hx hf hA hB hC
    by_cases hi : i < L.length
    · obtain ⟨q0, q1, q2, q3, q4, q5⟩ := ord_round (L := L) (k := k) rfl h0 hi (j := ((j + 1 : Nat) : Int)) (by omega) hj hf
      rw [show ((j + 1 : Nat) : Int) - 1 = (j : Int) by omega] at q4 q5
      rw [show ((j + 1 : Nat) : Int).toNat = j + 1 by omega, show ((j : Nat) : Int).toNat = j by omega] at q5
      generalize nxt L (sufs (ivals L) L.length k) L.length i ((j + 1 : Nat) : Int) = er at q1 q2 q3 q4 q5
      obtain ⟨e, r⟩ := er
      simp only at q1 q2 q3 q4 q5
      obtain ⟨m, hm⟩ : ∃ m : Nat, (e - i).toNat = m + 1 := ⟨(e - i).toNat - 1, by omega⟩
      have hi' : ((i.toNat : Nat) : Int) = i := by omega
      have left : ∀ p : Int, 0 ≤ p → p < i → gi (xs ++ List.replicate (e - i).toNat r) p = gi xs p := fun p a b => gi_left a (by omega)
      have right : ∀ p : Int, i ≤ p → p < e → gi (xs ++ List.replicate (e - i).toNat r) p = r := fun p a b => gi_rep (by omega) (by omega)
      have ee : e.toNat = i.toNat + (m + 1) := by omega
      have hk1 : kindsN (xs ++ List.replicate (e - i).toNat r) e.toNat = kindsN xs i.toNat + 1 := by
        rw [ee, kinds_block (r := r) (fun y a b => by rw [left y a (by omega)]; have := (hA y a (by omega)).2.1; omega) (by omega) m (fun p a b => right p (by omega) (by omega)),
          kindsN_congr i.toNat (fun p a b => left p a (by omega))]
      have hr1 : runsN (xs ++ List.replicate (e - i).toNat r) e.toNat = runsN xs i.toNat + 1 := by
        rw [ee, runs_block (r := r) (fun y a b => by rw [left y a (by omega)]; have := (hA y a (by omega)).2.1; omega) (by omega) m (fun p a b => right p (by omega) (by omega)),
          runsN_congr i.toNat (fun p a b => left p a (by omega))]
      have hc1 : csum L (xs ++ List.replicate (e - i).toNat r) e.toNat = csum L xs i.toNat + wsum L r.toNat i.toNat (e - i).toNat := by
        rw [ee, csum_run L _ (r := r) (by omega) (m + 1) (fun p a b => right p (by omega) (by omega)), csum_congr L i.toNat (fun p a b => left p a (by omega)), hm]
      have hlt : gi (gr (sufs (ivals L) L.length k) (j : Int)) e < 1152921504606846976 := by
        have hw := (wsum_bd g (r := r.toNat) (h := i.toNat) (by omega) (e - i).toNat (by omega)).1
        omega
      have := ih e (xs ++ List.replicate (e - i).toNat r) (by omega) (by omega) q3 (by simp; omega) hlt
        (fun p a b => by
          by_cases hp : p < i
          · obtain ⟨u1, u2, u3⟩ := hA p a hp
            rw [left p a hp, left _ u1 u2]
            exact ⟨u1, by omega, u3⟩
          · rw [right p (by omega) b, right r q1 q2]
            exact ⟨by omega, q2, rfl⟩)
        (by rw [hk1, hr1, hB]) (by rw [hk1]; omega)
      rw [List.append_assoc, ← q5, hc1] at this
      obtain ⟨t1, t2, t3, t4, t5⟩ := this
      exact ⟨t1, t2, t3, t4, by rw [t5]; omega⟩
    · have hin : i = L.length := by omega
      subst hin
      rw [ordG, if_neg (by omega), List.append_nil, sufs_row _ _ _ _ (by omega) hj]
      have hl := sufRow_last (ivals L) ((L.length : Int).toNat) ((j + 1 : Nat) : Int).toNat
      rw [show (((L.length : Int).toNat : Nat) : Int) = (L.length : Int) by omega] at hl
      rw [hl]
      rw [show (L.length : Int).toNat = L.length by omega] at hB hC ⊢
      exact ⟨by omega, hA, hB, by omega, by omega⟩

/- THE TWO TABLES AGREE -/
theorem mTo_mono {C : List (List Int)} {p q : List Int} {i : Int} : ∀ m : Nat, (∀ x : Int, i < x → x ≤ i + m → gi p x ≤ gi q x) → mTo C p i m ≤ mTo C q i m
  | 0, _ => by simp [mTo]
  | m + 1, h => by
    have ih := mTo_mono (C := C) (p := p) (q := q) m (fun x a b => h x a (by omega))
    have := h (i + 1 + m) (by omega) (by omega)
    simp only [mTo]
    split <;> split <;> omega
theorem sufRow_mono {C : List (List Int)} {n : Int} (c : Costs C n) : ∀ (j : Nat) (x : Int), 0 ≤ x → x ≤ n → gi (sufRow C n.toNat (j + 1)) x ≤ gi (sufRow C n.toNat j) x
  | 0, x, h0, h1 => by
    by_cases hx : x = n
    · have e1 := sufRow_last C n.toNat 1
      have e2 := sufRow_last C n.toNat 0
      rw [show ((n.toNat : Nat) : Int) = x by omega] at e1 e2
      show gi (sufRow C n.toNat 1) x ≤ _
      omega
    · have := (sufRow_bd c 1 x h0 h1).2
      have e : gi (sufRow C n.toNat 0) x = 1152921504606846976 := by rw [sufRow, gi_map_range _ _ _ h0 (by omega), if_pos (by omega)]
      rw [e]; exact this
  | j + 1, x, h0, h1 => by
    rw [sufRow, sufRow, gi_map_range _ _ _ h0 (by omega), gi_map_range _ _ _ h0 (by omega)]
    split
    · exact mTo_mono _ fun y a b => sufRow_mono c j y (by omega) (by omega)
    · omega
theorem sufRow_mono_add {C : List (List Int)} {n : Int} (c : Costs C n) (j : Nat) {x : Int} (h0 : 0 ≤ x) (h1 : x ≤ n) : ∀ d : Nat, gi (sufRow C n.toNat (j + d)) x ≤ gi (sufRow C n.toNat j) x
  | 0 => by simp
  | d + 1 => by
    have := sufRow_mono_add c j h0 h1 d
    have := sufRow_mono c (j + d) x h0 h1
    rw [show j + (d + 1) = j + d + 1 by omega]; omega
theorem suf_pre {C : List (List Int)} {n : Int} (c : Costs C n) : ∀ (j m : Nat) (i : Int), 0 ≤ i → i ≤ n → gi (sufRow C n.toNat (m + j)) 0 ≤ gi (preRow C n.toNat j) i + gi (sufRow C n.toNat m) i
  | 0, m, i, h0, h1 => by
    have n0 := c.n0
    have b1 := (sufRow_bd c m i h0 h1).1
    have b2 := (sufRow_bd c m 0 (by omega) (by omega)).2
    by_cases hi : i = 0
    · subst hi; rw [preRow_first]; simp
    · have e : gi (preRow C n.toNat 0) i = 1152921504606846976 := by rw [preRow, gi_map_range _ _ _ h0 (by omega), if_pos (by omega)]
      rw [e]; simp only [Nat.add_zero]; omega
  | j + 1, m, i, h0, h1 => by
    have n0 := c.n0
    have b1 := (sufRow_bd c m i h0 h1).1
    have b2 := (sufRow_bd c (m + (j + 1)) 0 (by omega) (by omega)).2
    by_cases hi : i = 0
    · subst hi
      have := sufRow_mono_add c m (x := 0) (by omega) n0 (j + 1)
      rw [preRow_first]; omega
    · have e : gi (preRow C n.toNat (j + 1)) i = pTo C (preRow C n.toNat j) ((j : Int) + 1) i (i.toNat + 1) := by
        rw [preRow, gi_map_range _ _ _ h0 (by omega), if_pos (by omega), show ((i.toNat : Nat) : Int) = i by omega]
      rw [e]
      by_cases hf : pTo C (preRow C n.toNat j) ((j : Int) + 1) i (i.toNat + 1) < 1152921504606846976
      · obtain ⟨h, g1, g2, g3⟩ := pTo_att _ hf
        rw [g3]
        have bc := (c.rng h i (by omega) (by omega) h0 h1).1
        by_cases hh : (h : Int) = i
        · have ih := suf_pre c j m i h0 h1
          have := sufRow_mono c (m + j) 0 (by omega) n0
          rw [hh] at bc ⊢
          rw [show m + (j + 1) = m + j + 1 by omega]; omega
        · have ih := suf_pre c j (m + 1) h (by omega) (by omega)
          have hle := mTo_le (C := C) (prev := sufRow C n.toNat m) (i := (h : Int)) (n.toNat - h) i (by omega) (by omega)
          have es : gi (sufRow C n.toNat (m + 1)) h = mTo C (sufRow C n.toNat m) h (n.toNat - h) := by
            rw [sufRow, gi_map_range _ _ _ (by omega) (by omega), if_pos (by omega)]; simp
          rw [es] at ih
          rw [show m + (j + 1) = m + 1 + j by omega]; omega
      · omega
theorem oE_inv {L : List (List Int)} {k : Int} (h : oE L k = 0) : chk L = 0 ∧ 1 ≤ k ∧ k ≤ 32 := by
  by_cases h1 : chk L ≠ 0
  · rw [oE1 h1] at h; exact absurd h h1
  · by_cases h2 : 1 ≤ k ∧ k ≤ 32
    · exact ⟨by omega, h2⟩
    · rw [oE3 (by omega) h2] at h; omega
/-- All that Ordered's answer promises but that it is the first. -/
theorem ord_final {L : List (List Int)} {k : Int} (h : oE L k = 0) : cE L (oG L k) = 0 ∧ cN L (oG L k) = oN L k ∧ runsN (oG L k) (oG L k).length = kindsN (oG L k) (oG L k).length ∧
    kindsN (oG L k) (oG L k).length ≤ k ∧ poE L k (oT L k) (oN L k) = 0 := by
  obtain ⟨h1, h2, h3⟩ := oE_inv h
  have g := good_of_chk h1
  obtain ⟨e1, e2, e3⟩ := ord_good h
  have hk : ((k.toNat : Nat) : Int) = k := by omega
  have hn : (L.length : Int).toNat = L.length := by omega
  have c := costs_ivals g
  have n0 := c.n0
  have P := ordG_props g (k := k) k.toNat 0 [] (by omega) (by omega) (by omega) rfl
    (by rw [hk, sufs_row _ _ _ _ (by omega) (by omega), hn]; exact suf_fin g (by omega)) (fun p a b => by omega) rfl (by simp [kindsN]; omega)
  rw [List.nil_append, ← e1] at P
  obtain ⟨p1, p2, p3, p4, p5⟩ := P
  rw [hk, ← e2] at p5
  simp only [Int.toNat_zero, csum, Int.zero_add] at p5
  have gE0 : gE L (oG L k) = 0 := gE_0 p1 (by rintro ⟨i, a, b, d⟩; have := p2 i a (by omega); omega) (by rintro ⟨i, a, b, d⟩; exact d (p2 i a (by omega)).2.2)
  have c0 : cE L (oG L k) = 0 := by rw [cE_g h1, gE0]
  refine ⟨c0, by rw [cN_good c0, p1, p5], by rw [p1]; exact p3, by rw [p1]; exact p4, ?_⟩
  rw [e3]
  refine poE_0 h1 ⟨h2, h3⟩ (by rw [pres_len]; omega) (ragg_pres c (by omega)) (wild_pres c (by omega)) ?_ ?_ (holds_pres c)
  · rw [pres_row _ _ _ _ (by omega) (by omega)]; exact preRow_first _ _ _
  · rw [e2, pres_row _ _ _ _ (by omega) (by omega), sufs_row _ _ _ _ (by omega) (by omega)]
    have := suf_pre c k.toNat 0 L.length (by omega) (by omega)
    have e := sufRow_last (ivals L) (L.length : Int).toNat 0
    rw [show (((L.length : Int).toNat : Nat) : Int) = (L.length : Int) by omega] at e
    rw [Nat.zero_add, e] at this
    omega
end Go.Proofs.Ytmkbjhligjnagaa
