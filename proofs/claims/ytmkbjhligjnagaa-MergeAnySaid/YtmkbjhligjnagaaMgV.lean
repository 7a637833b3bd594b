/- Ordered's grouping is the first of the best. No program in sight. -/
import Derived.Test.YtmkbjhligjnagaaMgU
namespace Go.Proofs.Ytmkbjhligjnagaa
open Go.Vc
open Classical

def Lex (n : Int) (A B : List Int) : Prop := ∃ p : Int, 0 ≤ p ∧ p < n ∧ (∀ y : Int, 0 ≤ y → y < p → gi A y = gi B y) ∧ gi A p < gi B p
theorem lex_irrefl {n : Int} {A : List Int} : ¬ Lex n A A := fun ⟨_, _, _, _, h⟩ => by omega
theorem lex_trans {n : Int} {A B D : List Int} (h : Lex n A B) (k : Lex n B D) : Lex n A D := by
  obtain ⟨p, p0, p1, p2, p3⟩ := h
  obtain ⟨q, q0, q1, q2, q3⟩ := k
  by_cases h1 : p < q
  · exact ⟨p, p0, p1, fun y a b => by rw [p2 y a b, q2 y a (by omega)], by rw [← q2 p p0 h1]; exact p3⟩
  · by_cases h2 : p = q
    · subst h2; exact ⟨p, p0, p1, fun y a b => by rw [p2 y a b, q2 y a b], by omega⟩
    · exact ⟨q, q0, q1, fun y a b => by rw [p2 y a (by omega), q2 y a b], by rw [p2 q q0 (by omega)]; exact q3⟩
theorem lex_asymm {n : Int} {A B : List Int} (h : Lex n A B) : ¬ Lex n B A := fun k => lex_irrefl (lex_trans h k)
theorem lex_total {n : Nat} {A B : List Int} (ha : A.length = n) (hb : B.length = n) : Lex n A B ∨ A = B ∨ Lex n B A := by
  by_cases h : ∀ x : Int, 0 ≤ x → x < A.length → gi A x = gi B x
  · exact Or.inr (Or.inl (ext_gi (by omega) h))
  · have : ∀ m : Nat, m ≤ n → (∀ x : Int, 0 ≤ x → x < m → gi A x = gi B x) ∨ ∃ p : Int, 0 ≤ p ∧ p < m ∧ (∀ y : Int, 0 ≤ y → y < p → gi A y = gi B y) ∧ gi A p ≠ gi B p := by
      intro m
      induction m with
      | zero => intro _; exact Or.inl fun x a b => by omega
      | succ m ih =>
        intro hm
        rcases ih (by omega) with h1 | ⟨p, a, b, c, d⟩
        · by_cases he : gi A m = gi B m
          · left; intro x a b
            by_cases hx : x = m
            · rw [hx]; exact he
            · exact h1 x a (by omega)
          · exact Or.inr ⟨m, by omega, by omega, h1, he⟩
        · exact Or.inr ⟨p, a, by omega, c, d⟩
    rcases this n (Nat.le_refl _) with h1 | ⟨p, a, b, c, d⟩
    · exact absurd (fun x a b => h1 x a (by omega)) h
    · by_cases hl : gi A p < gi B p
      · exact Or.inl ⟨p, a, b, c, hl⟩
      · exact Or.inr (Or.inr ⟨p, a, b, fun y u v => (c y u v).symm, by omega⟩)

theorem run_end (G : List Int) {i n : Int} : ∀ (d : Nat) (e : Int), i < e → e + d = n → (∀ y : Int, i ≤ y → y < e → gi G y = gi G i) →
    ∃ e : Int, i < e ∧ e ≤ n ∧ (∀ y : Int, i ≤ y → y < e → gi G y = gi G i) ∧ (e = n ∨ gi G e ≠ gi G (e - 1))
  | 0, e, h0, h1, h2 => ⟨e, h0, by omega, h2, Or.inl (by omega)⟩
  | d + 1, e, h0, h1, h2 => by
    by_cases he : gi G e ≠ gi G (e - 1)
    · exact ⟨e, h0, by omega, h2, Or.inr he⟩
    · have he : gi G e = gi G (e - 1) := Decidable.not_not.1 he
      refine run_end G d (e + 1) (by omega) (by omega) fun y a b => ?_
      by_cases hy : y = e
      · rw [hy, he]; exact h2 (e - 1) (by omega) (by omega)
      · exact h2 y a (by omega)
theorem runs_seg {G : List Int} {i : Nat} {r : Int} (hs : (i : Int) = 0 ∨ gi G i ≠ gi G ((i : Int) - 1)) : ∀ m : Nat, (∀ p : Int, (i : Int) ≤ p → p < i + (m + 1 : Nat) → gi G p = r) → runsN G (i + (m + 1)) = runsN G i + 1
  | 0, h => by rw [show i + (0 + 1) = i + 1 by omega, runsN, if_pos hs]
  | m + 1, h => by
    rw [show i + (m + 1 + 1) = (i + (m + 1)) + 1 by omega, runsN, if_neg, runs_seg hs m (fun p a b => h p a (by omega))]
    have e1 := h ((i + (m + 1) : Nat) : Int) (by omega) (by omega)
    have e2 := h (((i + (m + 1) : Nat) : Int) - 1) (by omega) (by omega)
    rintro (q | q)
    · omega
    · exact q (e1.trans e2.symm)
theorem runsN_mono (G : List Int) (a : Nat) : ∀ d : Nat, runsN G a ≤ runsN G (a + d)
  | 0 => by simp
  | d + 1 => by
    have := runsN_mono G a d
    rw [show a + (d + 1) = a + d + 1 by omega, runsN]; split <;> omega

/-- One run of a grouping into intervals, with all that is used of it. -/
theorem run_facts {L : List (List Int)} {G : List Int} (g : Grp L G) (hr : runsN G G.length = kindsN G G.length) {i : Int} (h0 : 0 ≤ i) (h1 : i < L.length) (hb : i = 0 ∨ gi G i ≠ gi G (i - 1)) :
    ∃ e : Int, i < e ∧ e ≤ L.length ∧ (∀ y : Int, i ≤ y → y < e → gi G y = gi G i) ∧ (e = L.length ∨ gi G e ≠ gi G (e - 1)) ∧ i ≤ gi G i ∧ gi G i < e ∧ runsN G e.toNat = runsN G i.toNat + 1 ∧
      csum L G e.toNat = csum L G i.toNat + wsum L (gi G i).toNat i.toNat (e - i).toNat := by
  obtain ⟨e, a1, a2, a3, a4⟩ := run_end G (i := i) (n := L.length) (L.length - i.toNat - 1) (i + 1) (by omega) (by omega) (fun y a b => by rw [show y = i by omega])
  obtain ⟨r0, r1⟩ := rep_in g hr h0 a1 a2 hb a3 a4
  have hi : ((i.toNat : Nat) : Int) = i := by omega
  refine ⟨e, a1, a2, a3, a4, r0, r1, ?_, ?_⟩
  · have := runs_seg (G := G) (i := i.toNat) (r := gi G i) (by rw [hi]; exact hb) (e.toNat - i.toNat - 1) (fun p a b => a3 p (by omega) (by omega))
    rwa [show i.toNat + (e.toNat - i.toNat - 1 + 1) = e.toNat by omega] at this
  · have := csum_run L G (h := i.toNat) (r := gi G i) (by omega) (e - i).toNat (fun y a b => a3 y (by omega) (by omega))
    rwa [show i.toNat + (e - i).toNat = e.toNat by omega] at this

theorem suf_step {L : List (List Int)} {i e r : Int} (h0 : 0 ≤ i) (h1 : i ≤ r) (h2 : r < e) (h3 : e ≤ L.length) (j : Nat) :
    gi (sufRow (ivals L) L.length (j + 1)) i ≤ wsum L r.toNat i.toNat (e - i).toNat + gi (sufRow (ivals L) L.length j) e := by
  rw [sufRow, gi_map_range _ _ _ h0 (by omega), if_pos (by omega), show ((i.toNat : Nat) : Int) = i by omega]
  have a := mTo_le (C := ivals L) (prev := sufRow (ivals L) L.length j) (i := i) (L.length - i.toNat) e (by omega) (by omega)
  rw [ivals_el h0 (by omega) h3] at a
  have b := ivTo_le L (h := i.toNat) (i := e.toNat) (e.toNat - i.toNat) (r.toNat - i.toNat) (by omega)
  rw [show i.toNat + (r.toNat - i.toNat) = r.toNat by omega, show e.toNat - i.toNat = (e - i).toNat by omega] at b
  rw [show e.toNat - i.toNat = (e - i).toNat by omega] at a
  omega
/-- The rest of a grouping costs at least what the table says. -/
theorem suf_bound {L : List (List Int)} {G : List Int} (g : Grp L G) (hr : runsN G G.length = kindsN G G.length) : ∀ (d : Nat) (i : Int) (j : Nat), i + d = L.length → 0 ≤ i → (i = 0 ∨ i = L.length ∨ gi G i ≠ gi G (i - 1)) →
    runsN G L.length - runsN G i.toNat ≤ j → gi (sufRow (ivals L) L.length j) i ≤ csum L G L.length - csum L G i.toNat := by
  intro d
  induction d using Nat.strongRecOn with
  | ind d ih =>
    intro i j hd h0 hb hruns
    by_cases hi : i < L.length
    · obtain ⟨e, a1, a2, a3, a4, a5, a6, a7, a8⟩ := run_facts g hr h0 hi (by rcases hb with h | h | h; exact Or.inl h; omega; exact Or.inr h)
      have hm := runsN_mono G e.toNat (L.length - e.toNat)
      rw [show e.toNat + (L.length - e.toNat) = L.length by omega] at hm
      obtain ⟨j', rfl⟩ : ∃ j', j = j' + 1 := ⟨j - 1, by omega⟩
      have := ih (d - (e - i).toNat) (by omega) e j' (by omega) (by omega) (by rcases a4 with h | h; exact Or.inr (Or.inl h); exact Or.inr (Or.inr h)) (by omega)
      have hs := suf_step (L := L) h0 a5 a6 a2 j'
      omega
    · have e : i = L.length := by omega
      subst e
      have := sufRow_last (ivals L) L.length j
      rw [this, show ((L.length : Int)).toNat = L.length by omega]; omega
theorem scanR_first {L S : List (List Int)} {n i j : Int} : ∀ (m : Nat) (r e : Int), n - m ≤ r → r < e → e ≤ n → Hit L S i j r e →
    (scanR L S n i j m).2 < r ∨ ((scanR L S n i j m).2 = r ∧ e ≤ (scanR L S n i j m).1)
  | 0, r, e, h0, h1, h2, _ => by omega
  | m + 1, r, e, h0, h1, h2, h3 => by
    simp only [scanR]
    cases hs : scanE L S i j (n - m - 1) (m + 1) with
    | some x =>
      simp only [Option.elim]
      by_cases hr : r = n - m - 1
      · right
        refine ⟨hr.symm, ?_⟩
        subst hr
        have : ∀ (q : Nat) (x : Int), scanE L S i j (n - m - 1) q = some x → e ≤ n - m - 1 + q → e ≤ x := by
          intro q
          induction q with
          | zero => intro x hx; cases hx
          | succ q ihq =>
            intro x hx he
            simp only [scanE] at hx
            split at hx
            · cases hx; omega
            · rename_i hn
              by_cases hq : e = n - m - 1 + q + 1
              · subst hq; exact absurd h3 hn
              · exact ihq x hx (by omega)
        exact this (m + 1) x hs (by omega)
      · left; omega
    | none =>
      simp only [Option.elim]
      have hn := scanE_none _ hs
      refine scanR_first m r e ?_ h1 h2 h3
      by_cases hr : r = n - m - 1
      · subst hr; exact absurd h3 (hn e h1 (by omega))
      · omega
theorem nxt_first {L S : List (List Int)} {n i j : Int} (hi : i ≤ n) (r e : Int) (h0 : i ≤ r) (h1 : r < e) (h2 : e ≤ n) (h3 : Hit L S i j r e) : (nxt L S n i j).2 < r ∨ ((nxt L S n i j).2 = r ∧ e ≤ (nxt L S n i j).1) :=
  scanR_first (n - i).toNat r e (by omega) h1 h2 h3

theorem ordG_first {L : List (List Int)} {k : Int} (gd : Good L) {H : List Int} (g : Grp L H) (hr : runsN H H.length = kindsN H H.length) : ∀ (j : Nat) (i : Int) (xs : List Int), (j : Int) ≤ k → 0 ≤ i → i ≤ L.length → xs.length = i →
    gi (gr (sufs (ivals L) L.length k) j) i < 1152921504606846976 → (∀ p : Int, 0 ≤ p → p < i → gi H p = gi xs p) → csum L H L.length ≤ csum L xs i.toNat + gi (gr (sufs (ivals L) L.length k) j) i →
    (i = 0 ∨ i = L.length ∨ gi H i ≠ gi H (i - 1)) → runsN H L.length - runsN H i.toNat ≤ j → ¬ Lex L.length H (xs ++ ordG L (sufs (ivals L) L.length k) L.length j i) := by
  intro j
  induction j with
  | zero =>
    intro i xs hj h0 h1 hx hf hA hB hb hC
    by_cases hi : i < L.length
    · have := (ord_round (L := L) (k := k) rfl h0 hi (j := ((0 : Nat) : Int)) (by omega) hj hf).1
      omega
    · rintro ⟨p, p0, p1, p2, p3⟩
      rw [gi_left p0 (by omega), hA p p0 (by omega)] at p3
      omega
  | succ j ih =>
    intro i xs hj h0 h1 hx hf hA hB hb hC
    by_cases hi : i < L.length
    · obtain ⟨eH, a1, a2, a3, a4, a5, a6, a7, a8⟩ := run_facts g hr h0 hi (by rcases hb with h | h | h; exact Or.inl h; omega; exact Or.inr h)
      obtain ⟨q0, q1, q2, q3, q4, q5⟩ := ord_round (L := L) (k := k) rfl h0 hi (j := ((j + 1 : Nat) : Int)) (by omega) hj hf
      have hn : (L.length : Int).toNat = L.length := by omega
      have rest := suf_bound g hr (L.length - eH.toNat) eH j (by omega) (by omega) (by rcases a4 with h | h; exact Or.inr (Or.inl h); exact Or.inr (Or.inr h)) (by omega)
      have hcH : csum L H i.toNat = csum L xs i.toNat := csum_congr L i.toNat (fun p a b => hA p a (by omega))
      have hrow : gr (sufs (ivals L) L.length k) ((j + 1 : Nat) : Int) = sufRow (ivals L) L.length (j + 1) := by rw [sufs_row _ _ _ _ (by omega) hj, hn]; rfl
      have hrow2 : gr (sufs (ivals L) L.length k) ((j + 1 : Nat) - 1 : Int) = sufRow (ivals L) L.length j := by
        rw [sufs_row _ _ _ _ (by omega) (by omega), hn, show (((j + 1 : Nat) : Int) - 1).toNat = j by omega]
      have step := suf_step (L := L) h0 a5 a6 a2 j
      have hit : Hit L (sufs (ivals L) L.length k) i ((j + 1 : Nat) : Int) (gi H i) eH := by
        rw [Hit, hrow, hrow2]
        rw [hrow] at hB
        omega
      have first := nxt_first (by omega) (gi H i) eH a5 a6 a2 hit
      rw [show ((j + 1 : Nat) : Int).toNat = j + 1 by omega, show (((j + 1 : Nat) : Int) - 1).toNat = j by omega] at q5
      rw [show ((j + 1 : Nat) : Int) - 1 = (j : Int) by omega] at q4
      generalize nxt L (sufs (ivals L) L.length k) L.length i ((j + 1 : Nat) : Int) = er at q1 q2 q3 q4 q5 first
      obtain ⟨e, r⟩ := er
      simp only at q1 q2 q3 q4 q5 first
      have hlen : ((xs ++ List.replicate (e - i).toNat r).length : Int) = e := by simp; omega
      have left : ∀ p : Int, 0 ≤ p → p < i → gi (xs ++ List.replicate (e - i).toNat r) p = gi xs p := fun p a b => gi_left a (by omega)
      have right : ∀ p : Int, i ≤ p → p < e → gi (xs ++ List.replicate (e - i).toNat r) p = r := fun p a b => gi_rep (by omega) (by omega)
      rw [q5, ← List.append_assoc]
      have gl : ∀ p : Int, 0 ≤ p → p < i → gi (xs ++ List.replicate (e - i).toNat r ++ ordG L (sufs (ivals L) L.length k) L.length j e) p = gi xs p := fun p a b => by rw [gi_left a (by omega), left p a b]
      have gm : ∀ p : Int, i ≤ p → p < e → gi (xs ++ List.replicate (e - i).toNat r ++ ordG L (sufs (ivals L) L.length k) L.length j e) p = r := fun p a b => by rw [gi_left (by omega) (by omega), right p a b]
      rcases first with hlt | ⟨heq, hle⟩
      · rintro ⟨p, p0, p1, p2, p3⟩
        by_cases c1 : p < i
        · rw [gl p p0 c1, hA p p0 c1] at p3; omega
        · by_cases c2 : p = i
          · subst c2; rw [gm p (by omega) (by omega)] at p3; omega
          · have := p2 i h0 (by omega)
            rw [gm i (by omega) (by omega)] at this; omega
      · by_cases hee : eH = e
        · subst hee
          have ee : eH.toNat = i.toNat + (eH - i).toNat := by omega
          have hc1 : csum L (xs ++ List.replicate (eH - i).toNat r) eH.toNat = csum L xs i.toNat + wsum L r.toNat i.toNat (eH - i).toNat := by
            rw [ee, csum_run L _ (r := r) (by omega) (eH - i).toNat (fun p a b => right p (by omega) (by omega)), csum_congr L i.toNat (fun p a b => left p a (by omega))]
          have hw := (wsum_bd gd (r := r.toNat) (h := i.toNat) (by omega) (eH - i).toNat (by omega)).1
          exact ih eH (xs ++ List.replicate (eH - i).toNat r) (by omega) (by omega) a2 hlen (by omega)
            (fun p a b => by
              by_cases c1 : p < i
              · rw [left p a c1, hA p a c1]
              · rw [right p (by omega) b, a3 p (by omega) b, heq])
            (by rw [hc1]; omega) (by rcases a4 with h | h; exact Or.inr (Or.inl h); exact Or.inr (Or.inr h)) (by omega)
        · have hlt : eH < e := by omega
          have hne : gi H eH ≠ gi H (eH - 1) := by rcases a4 with h | h; omega; exact h
          obtain ⟨e2, b1, b2, b3, b4, b5, b6, _, _⟩ := run_facts g hr (i := eH) (by omega) (by omega) (Or.inr hne)
          rintro ⟨p, p0, p1, p2, p3⟩
          by_cases c1 : p < i
          · rw [gl p p0 c1, hA p p0 c1] at p3; omega
          · by_cases c2 : p < eH
            · rw [gm p (by omega) (by omega), a3 p (by omega) c2] at p3; omega
            · by_cases c3 : p = eH
              · subst c3; rw [gm p (by omega) (by omega)] at p3; omega
              · have := p2 eH (by omega) (by omega)
                rw [gm eH (by omega) (by omega)] at this; omega
    · rintro ⟨p, p0, p1, p2, p3⟩
      rw [gi_left p0 (by omega), hA p p0 (by omega)] at p3
      omega
theorem ord_first {L : List (List Int)} {k : Int} (h : oE L k = 0) {H : List Int} (hg : gE L H = 0) (hr : runsN H H.length = kindsN H H.length) (hk : kindsN H H.length ≤ k) (hc : csum L H H.length ≤ oN L k) : ¬ Lex L.length H (oG L k) := by
  obtain ⟨h1, h2, h3⟩ := oE_inv h
  have g := good_of_chk h1
  obtain ⟨e1, e2, e3⟩ := ord_good h
  have gg := grp_of hg
  have gl := gg.len
  have hkk : ((k.toNat : Nat) : Int) = k := by omega
  have hn : (L.length : Int).toNat = L.length := by omega
  have := ordG_first (k := k) g gg hr k.toNat 0 [] (by omega) (by omega) (by omega) rfl (by rw [hkk, sufs_row _ _ _ _ (by omega) (by omega), hn]; exact suf_fin g (by omega)) (fun p a b => by omega)
    (by rw [hkk, ← e2, ← gl]; simp only [Int.toNat_zero, csum]; omega) (Or.inl rfl) (by rw [← gl, hr]; simp only [Int.toNat_zero, runsN]; omega)
  rw [List.nil_append, ← e1] at this
  exact this
end Go.Proofs.Ytmkbjhligjnagaa
