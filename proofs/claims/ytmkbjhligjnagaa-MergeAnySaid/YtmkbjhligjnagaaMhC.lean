/- What a table of sets proves: no grouping into as many groups costs less. No program in sight. -/
import Derived.Test.YtmkbjhligjnagaaMhB
namespace Go.Proofs.Ytmkbjhligjnagaa
open Go Go.Vc
open Classical
theorem pw (n : Nat) : (0 : Int) < 2 ^ n := Int.pow_pos (by omega)
theorem pw_mono {a b : Nat} (h : a ≤ b) : (2 : Int) ^ a ≤ 2 ^ b := by
  have h1 := Nat.pow_le_pow_right (n := 2) (by omega) h
  have h2 : ((2 ^ a : Nat) : Int) ≤ ((2 ^ b : Nat) : Int) := by omega
  simpa using h2
theorem pw6 {n : Nat} (h : n ≤ 6) : (1 : Int) ≤ 2 ^ n ∧ (2 : Int) ^ n ≤ 64 := ⟨by have := pw n; omega, pw_mono h⟩
theorem bt_lt {S i : Int} {n : Nat} (h0 : 0 ≤ S) (h1 : S < 2 ^ n) (i0 : 0 ≤ i) (h : bt S i) : i < n := by
  by_cases q : i < n
  · exact q
  · have e := pw_mono (a := n) (b := i.toNat) (by omega)
    have h : S / 2 ^ i.toNat % 2 = 1 := h
    rw [Int.ediv_eq_zero_of_lt h0 (by omega)] at h
    omega
theorem bt_0 {i : Int} : ¬ bt 0 i := fun h => by
  have h : (0 : Int) / 2 ^ i.toNat % 2 = 1 := h
  simp at h
/- costs -/
def gsN (L : List (List Int)) (S r : Int) : Nat → Int
  | 0 => 0
  | m + 1 => if bt S m then gsN L S r m + gi (gr L m) r else gsN L S r m
def bsN (L : List (List Int)) (S : Int) : Nat → Int
  | 0 => -1
  | m + 1 => if bt S m then (if bsN L S m < 0 ∨ gsN L S m L.length < bsN L S m then gsN L S m L.length else bsN L S m) else bsN L S m
/-- The least cost of a set as one group. -/
abbrev grpV (L : List (List Int)) (S : Int) : Int := bsN L S L.length
theorem gsN_bd {L : List (List Int)} (g : Good L) {S r : Int} (r0 : 0 ≤ r) (r1 : r < L.length) : ∀ m : Nat, m ≤ L.length → 0 ≤ gsN L S r m ∧ gsN L S r m ≤ m * 1048576
  | 0, _ => by simp [gsN]
  | m + 1, h => by
    have ih := gsN_bd g (S := S) r0 r1 m (by omega)
    have e := g.el (m : Int) r (by omega) (by omega) r0 r1
    simp only [gsN]
    split <;> omega
theorem bsN_bd {L : List (List Int)} (g : Good L) {S : Int} : ∀ m : Nat, m ≤ L.length → -1 ≤ bsN L S m ∧ bsN L S m ≤ 33554432
  | 0, _ => by simp [bsN]
  | m + 1, h => by
    have ih := bsN_bd g (S := S) m (by omega)
    have e := gsN_bd g (S := S) (r := (m : Int)) (by omega) (by omega) L.length (Nat.le_refl _)
    have hl := g.le
    simp only [bsN]
    split
    · split <;> omega
    · omega
theorem bsN_le {L : List (List Int)} (g : Good L) {S : Int} : ∀ m : Nat, m ≤ L.length → ∀ r : Int, 0 ≤ r → r < m → bt S r → 0 ≤ bsN L S m ∧ bsN L S m ≤ gsN L S r L.length
  | 0, _, r, r0, r1, _ => by omega
  | m + 1, h, r, r0, r1, hb => by
    have e := gsN_bd g (S := S) (r := (m : Int)) (by omega) (by omega) L.length (Nat.le_refl _)
    simp only [bsN]
    by_cases q : r = m
    · subst q
      rw [if_pos hb]
      split <;> omega
    · have ih := bsN_le g m (by omega) r r0 (by omega) hb
      split
      · split <;> omega
      · exact ih
theorem gsN_t {L : List (List Int)} {S r i : Int} (h0 : 0 ≤ i) (h : bt S i) : gsN L S r i.toNat + gi (gr L i) r = gsN L S r (i + 1).toNat := by
  rw [show (i + 1).toNat = i.toNat + 1 by omega]
  show _ = if bt S (i.toNat : Int) then gsN L S r i.toNat + gi (gr L (i.toNat : Int)) r else gsN L S r i.toNat
  rw [show ((i.toNat : Nat) : Int) = i by omega, if_pos h]
theorem gsN_f {L : List (List Int)} {S r i : Int} (h0 : 0 ≤ i) (h : ¬ bt S i) : gsN L S r i.toNat = gsN L S r (i + 1).toNat := by
  rw [show (i + 1).toNat = i.toNat + 1 by omega]
  show _ = if bt S (i.toNat : Int) then gsN L S r i.toNat + gi (gr L (i.toNat : Int)) r else gsN L S r i.toNat
  rw [show ((i.toNat : Nat) : Int) = i by omega, if_neg h]
theorem bsN_s {L : List (List Int)} {S i : Int} (h0 : 0 ≤ i) : bsN L S (i + 1).toNat = if bt S i then (if bsN L S i.toNat < 0 ∨ gsN L S i L.length < bsN L S i.toNat then gsN L S i L.length else bsN L S i.toNat) else bsN L S i.toNat := by
  rw [show (i + 1).toNat = i.toNat + 1 by omega]
  show (if bt S (i.toNat : Int) then (if bsN L S i.toNat < 0 ∨ gsN L S (i.toNat : Int) L.length < bsN L S i.toNat then gsN L S (i.toNat : Int) L.length else bsN L S i.toNat) else bsN L S i.toNat) = _
  rw [show ((i.toNat : Nat) : Int) = i by omega]
theorem bsN_f {L : List (List Int)} {S i : Int} (h0 : 0 ≤ i) (h : ¬ bt S i) : bsN L S i.toNat = bsN L S (i + 1).toNat := by rw [bsN_s h0, if_neg h]
theorem bsN_n {L : List (List Int)} {S i : Int} (h0 : 0 ≤ i) (h : bt S i) (q : bsN L S i.toNat < 0 ∨ gsN L S i L.length < bsN L S i.toNat) : gsN L S i L.length = bsN L S (i + 1).toNat := by rw [bsN_s h0, if_pos h, if_pos q]
theorem bsN_k {L : List (List Int)} {S i : Int} (h0 : 0 ≤ i) (h : bt S i) (q : ¬ (bsN L S i.toNat < 0 ∨ gsN L S i L.length < bsN L S i.toNat)) : bsN L S i.toNat = bsN L S (i + 1).toNat := by rw [bsN_s h0, if_pos h, if_neg q]
/- sums over sets -/
def cS (L : List (List Int)) (G : List Int) (S : Int) : Nat → Int
  | 0 => 0
  | m + 1 => if bt S m then cS L G S m + gi (gr L m) (gi G m) else cS L G S m
noncomputable def kS (G : List Int) (S : Int) : Nat → Int
  | 0 => 0
  | m + 1 => if bt S m ∧ gi G m = m then kS G S m + 1 else kS G S m
theorem cS_split {L : List (List Int)} {G : List Int} {S C E : Int} : ∀ m : Nat, (∀ t : Nat, t < m → (bt S t ↔ bt C t ∨ bt E t) ∧ ¬ (bt C t ∧ bt E t)) → cS L G S m = cS L G C m + cS L G E m
  | 0, _ => by simp [cS]
  | m + 1, h => by
    have ih := cS_split (L := L) (G := G) m fun t ht => h t (by omega)
    obtain ⟨a, b⟩ := h m (by omega)
    simp only [cS, ih]
    by_cases p : bt C m
    · by_cases q : bt E m
      · exact absurd ⟨p, q⟩ b
      · rw [if_pos (a.2 (.inl p)), if_pos p, if_neg q]; omega
    · by_cases q : bt E m
      · rw [if_pos (a.2 (.inr q)), if_neg p, if_pos q]; omega
      · rw [if_neg (fun z => (a.1 z).elim p q), if_neg p, if_neg q]
theorem kS_split {G : List Int} {S C E : Int} : ∀ m : Nat, (∀ t : Nat, t < m → (bt S t ↔ bt C t ∨ bt E t) ∧ ¬ (bt C t ∧ bt E t)) → kS G S m = kS G C m + kS G E m
  | 0, _ => by simp [kS]
  | m + 1, h => by
    have ih := kS_split (G := G) m fun t ht => h t (by omega)
    obtain ⟨a, b⟩ := h m (by omega)
    simp only [kS, ih]
    by_cases f : gi G m = m
    · by_cases p : bt C m
      · by_cases q : bt E m
        · exact absurd ⟨p, q⟩ b
        · rw [if_pos ⟨a.2 (.inl p), f⟩, if_pos ⟨p, f⟩, if_neg fun z => q z.1]; omega
      · by_cases q : bt E m
        · rw [if_pos ⟨a.2 (.inr q), f⟩, if_neg (fun z => p z.1), if_pos ⟨q, f⟩]; omega
        · rw [if_neg (fun z => (a.1 z.1).elim p q), if_neg (fun z => p z.1), if_neg fun z => q z.1]
    · rw [if_neg (fun z => f z.2), if_neg (fun z => f z.2), if_neg fun z => f z.2]
theorem kS_nn (G : List Int) (S : Int) : ∀ m : Nat, 0 ≤ kS G S m
  | 0 => by simp [kS]
  | m + 1 => by have := kS_nn G S m; simp only [kS]; split <;> omega
theorem kS_pos {G : List Int} {S r : Int} (r0 : 0 ≤ r) (hb : bt S r) (hf : gi G r = r) : ∀ m : Nat, r < m → 1 ≤ kS G S m
  | 0, h => by omega
  | m + 1, h => by
    simp only [kS]
    by_cases q : r = m
    · subst q; rw [if_pos ⟨hb, hf⟩]; have := kS_nn G S m; omega
    · have := kS_pos r0 hb hf m (by omega)
      split <;> omega
theorem gsN_cS {L : List (List Int)} {G : List Int} {C r : Int} : ∀ m : Nat, (∀ t : Nat, t < m → bt C t → gi G t = r) → gsN L C r m = cS L G C m
  | 0, _ => rfl
  | m + 1, h => by
    have ih := gsN_cS (L := L) m fun t ht => h t (by omega)
    simp only [gsN, cS, ih]
    by_cases p : bt C m
    · rw [if_pos p, if_pos p, h m (by omega) p]
    · rw [if_neg p, if_neg p]
theorem class_ex (P : Nat → Prop) : ∃ C : Nat, C < 64 ∧ ∀ t : Nat, t < 6 → (bt C t ↔ P t) := by
  have h := sm12 (decide (P 0)) (decide (P 1)) (decide (P 2)) (decide (P 3)) (decide (P 4)) (decide (P 5))
  simp only [decide_eq_true_eq] at h
  generalize ((decide (P 0)).toNat : Int) + 2 * (decide (P 1)).toNat + 4 * (decide (P 2)).toNat + 8 * (decide (P 3)).toNat + 16 * (decide (P 4)).toNat + 32 * (decide (P 5)).toNat = C at h
  obtain ⟨⟨c0, c1⟩, h0, h1, h2, h3, h4, h5⟩ := h
  refine ⟨C.toNat, by omega, fun t ht => ?_⟩
  rw [show ((C.toNat : Nat) : Int) = C by omega]
  rcases (by omega : t = 0 ∨ t = 1 ∨ t = 2 ∨ t = 3 ∨ t = 4 ∨ t = 5) with rfl | rfl | rfl | rfl | rfl | rfl
  · exact h0
  · exact h1
  · exact h2
  · exact h3
  · exact h4
  · exact h5
/- the conditions -/
/-- What an entry owes to one choice of the group of its first element. -/
def cnd (D : Int × Int → Option Int) (L : List (List Int)) (x : Be) (p : Int) : Prop := if p = x.s then x.v ≤ grpV L p else 1 < x.j → ∃ w, D (x.j - 1, aniV x.s p) = some w ∧ x.v ≤ w + grpV L p
def Jst (D : Int × Int → Option Int) (L : List (List Int)) (x : Be) : Prop := ∀ p : Int, 1 ≤ p → p ≤ x.s → aniV p x.s = 0 → andV p (lw x.s) ≠ 0 → cnd D L x p
def Sat (G : List Int) (S : Int) (n : Nat) : Prop := ∀ i : Int, 0 ≤ i → i < n → (bt S i ↔ bt S (gi G i))
theorem sound {L : List (List Int)} {G : List Int} {D : Int × Int → Option Int} (gd : Good L) (h6 : L.length ≤ 6) (gp : Grp L G) (hE : ∀ j s w, D (j, s) = some w → ((1 ≤ s ∧ s < 2 ^ L.length) ∧ 1 ≤ j) ∧ Jst D L ⟨s, j, w⟩) :
    ∀ (k : Nat) (s w : Int), D ((k : Int), s) = some w → Sat G s L.length → kS G s L.length ≤ k → w ≤ cS L G s L.length
  | 0, s, w, h, _, _ => by have := (hE _ _ _ h).1.2; omega
  | k + 1, s, w, h, hs, hk => by
    obtain ⟨⟨⟨s1, s2⟩, _⟩, J⟩ := hE _ _ _ h
    have h64 := pw6 h6
    obtain ⟨S, rfl⟩ : ∃ S : Nat, s = S := ⟨s.toNat, by omega⟩
    obtain ⟨i, hi6, hbi, hC⟩ := sm8 S (by omega) (by omega)
    have hin : (i : Int) < L.length := bt_lt (by omega) s2 (by omega) hbi
    have hr := gp.rng (i : Int) (by omega) hin
    have hrf := gp.fix (i : Int) (by omega) hin
    obtain ⟨C, hC64, hCb⟩ := class_ex fun t => (t : Int) < L.length ∧ gi G t = gi G i
    have hbr : bt S (gi G (i : Int)) := (hs (i : Int) (by omega) hin).1 hbi
    have hsub : ∀ t : Nat, t < 6 → bt C t → bt S t := fun t ht hb => by
      obtain ⟨a, b⟩ := (hCb t ht).1 hb
      rw [hs (t : Int) (by omega) a, b]; exact hbr
    obtain ⟨q1, q2⟩ := sm9 S (by omega) C hC64 hsub
    have hbC : bt C i := (hCb i hi6).2 ⟨hin, rfl⟩
    have hC1 : 1 ≤ C := by
      by_cases q : C = 0
      · subst q; exact absurd hbC bt_0
      · omega
    have hcn := J (C : Int) (by omega) (by show (C : Int) ≤ (S : Int); omega) q1 (hC C hC64 hbC)
    obtain ⟨r, hr2⟩ : ∃ r : Nat, gi G (i : Int) = r := ⟨(gi G (i : Int)).toNat, by omega⟩
    have hbCr : bt C (gi G (i : Int)) := by
      rw [hr2]; exact (hCb r (by omega)).2 ⟨by omega, by rw [← hr2, hrf]⟩
    have hle := (bsN_le gd (S := (C : Int)) L.length (Nat.le_refl _) (gi G (i : Int)) hr.1 hr.2 hbCr).2
    have hgc : gsN L C (gi G (i : Int)) L.length = cS L G C L.length := gsN_cS L.length fun t ht hb => ((hCb t (by omega)).1 hb).2
    rw [hgc] at hle
    unfold cnd at hcn
    by_cases hCS : C = S
    · rw [if_pos (show (C : Int) = (S : Int) by omega)] at hcn
      rw [← hCS]
      have hcn : w ≤ grpV L C := hcn
      have hle : grpV L C ≤ cS L G C L.length := hle
      omega
    · rw [if_neg (show ¬ (C : Int) = (S : Int) by omega)] at hcn
      obtain ⟨⟨e0, e1⟩, hEb⟩ := sm10 S (by omega) C hC64
      generalize hEe : aniV (S : Int) (C : Int) = E at e0 e1 hEb
      have hcn : 1 < ((k + 1 : Nat) : Int) → ∃ w', D (((k + 1 : Nat) : Int) - 1, aniV (S : Int) (C : Int)) = some w' ∧ w ≤ w' + grpV L C := hcn
      rw [hEe] at hcn
      have spl : ∀ t : Nat, t < L.length → (bt S t ↔ bt C t ∨ bt E t) ∧ ¬ (bt C t ∧ bt E t) := fun t ht => by
        have a := hEb t (by omega)
        have b := hsub t (by omega)
        by_cases p : bt C t
        · exact ⟨⟨fun _ => .inl p, fun _ => b p⟩, fun z => (a.1 z.2).2 p⟩
        · exact ⟨⟨fun z => .inr (a.2 ⟨z, p⟩), fun z => z.elim b fun y => (a.1 y).1⟩, fun z => p z.1⟩
      have hcs := cS_split (L := L) (G := G) L.length spl
      have hks := kS_split (G := G) L.length spl
      have hkC := kS_pos (G := G) hr.1 hbCr hrf L.length hr.2
      -- the rest is saturated
      have hCs : ∀ t : Int, 0 ≤ t → t < L.length → (bt C t ↔ bt C (gi G t)) := fun t t0 t1 => by
        have hg := gp.rng t t0 t1
        have hgf := gp.fix t t0 t1
        have a := hCb t.toNat (by omega)
        have b := hCb (gi G t).toNat (by omega)
        rw [show ((t.toNat : Nat) : Int) = t by omega] at a
        rw [show (((gi G t).toNat : Nat) : Int) = gi G t by omega] at b
        rw [a, b, hgf]
        exact ⟨fun z => ⟨hg.2, z.2⟩, fun z => ⟨t1, z.2⟩⟩
      have hEs : Sat G E L.length := fun t t0 t1 => by
        have hg := gp.rng t t0 t1
        have a := hEb t.toNat (by omega)
        have b := hEb (gi G t).toNat (by omega)
        rw [show ((t.toNat : Nat) : Int) = t by omega] at a
        rw [show (((gi G t).toNat : Nat) : Int) = gi G t by omega] at b
        rw [a, b, hs t t0 t1, hCs t t0 t1]
      -- it has an element
      have hEx : ∃ t : Nat, t < 6 ∧ bt E t := Classical.byContradiction fun q => hCS (by
        have := sm11 C hC64 S (by omega) fun t ht => ⟨hsub t ht, fun z => Classical.byContradiction fun y => q ⟨t, ht, (hEb t ht).2 ⟨z, y⟩⟩⟩
        exact this)
      obtain ⟨t, ht6, htb⟩ := hEx
      have htS : bt S t := ((hEb t ht6).1 htb).1
      have htn : (t : Int) < L.length := bt_lt (by omega) s2 (by omega) htS
      have hgt := gp.rng (t : Int) (by omega) htn
      have hkE := kS_pos (G := G) hgt.1 ((hEs (t : Int) (by omega) htn).1 htb) (gp.fix (t : Int) (by omega) htn) L.length hgt.2
      obtain ⟨w', hw', hv⟩ := hcn (by omega)
      rw [show ((k + 1 : Nat) : Int) - 1 = (k : Int) by omega] at hw'
      have ih := sound gd h6 gp hE k E w' hw' hEs (by omega)
      have hle : grpV L C ≤ cS L G C L.length := hle
      omega
/- the whole -/
noncomputable def rps (G : List Int) : Nat → List Int
  | 0 => []
  | m + 1 => if gi G m = m then rps G m ++ [(m : Int)] else rps G m
theorem rps_len (G : List Int) (S : Int) : ∀ m : Nat, (∀ t : Nat, t < m → bt S t) → kS G S m = ((rps G m).length : Int)
  | 0, _ => rfl
  | m + 1, h => by
    have ih := rps_len G S m fun t ht => h t (by omega)
    simp only [kS, rps]
    by_cases q : gi G m = m
    · rw [if_pos ⟨h m (by omega), q⟩, if_pos q, List.length_append, ih]; rfl
    · rw [if_neg (fun z => q z.2), if_neg q, ih]
theorem rps_mem (G : List Int) {x : Int} : ∀ m : Nat, x ∈ rps G m → 0 ≤ x ∧ x < m ∧ gi G x = x
  | 0, h => by simp [rps] at h
  | m + 1, h => by
    simp only [rps] at h
    by_cases q : gi G m = m
    · rw [if_pos q, List.mem_append, List.mem_singleton] at h
      rcases h with h | h
      · have := rps_mem G m h; omega
      · subst h; exact ⟨by omega, by omega, q⟩
    · rw [if_neg q] at h
      have := rps_mem G m h; omega
theorem rps_nod (G : List Int) : ∀ m : Nat, (rps G m).Nodup
  | 0 => List.nodup_nil
  | m + 1 => by
    have ih := rps_nod G m
    simp only [rps]
    by_cases q : gi G m = m
    · rw [if_pos q, List.nodup_append]
      refine ⟨ih, by simp, fun a ha b hb e => ?_⟩
      rw [List.mem_singleton.1 hb] at e
      have := rps_mem G m ha; omega
    · rw [if_neg q]; exact ih
theorem kS_kinds {G : List Int} {S : Int} (h : ∀ t : Nat, t < G.length → bt S t) : kS G S G.length ≤ kindsN G G.length := by
  rw [rps_len G S G.length h, ← frs_len]
  have hp := (List.perm_ext_iff_of_nodup (rps_nod G G.length) ((frs_nod G G.length).filter fun x => decide (x ∈ rps G G.length))).2 fun x => by
    rw [List.mem_filter, decide_eq_true_eq]
    exact ⟨fun z => ⟨(frs_mem G G.length).2 ⟨x, (rps_mem G _ z).1, (rps_mem G _ z).2.1, (rps_mem G _ z).2.2⟩, z⟩, fun z => z.2⟩
  have h1 := hp.length_eq
  have h2 := List.length_filter_le (fun x => decide (x ∈ rps G G.length)) (frs G G.length)
  omega
theorem cS_all {L : List (List Int)} {G : List Int} {S : Int} : ∀ m : Nat, (∀ t : Nat, t < m → bt S t) → cS L G S m = csum L G m
  | 0, _ => rfl
  | m + 1, h => by
    simp only [cS, csum, cS_all m fun t ht => h t (by omega)]
    rw [if_pos (h m (by omega))]
/-- What is accepted bounds every grouping. -/
theorem any_bound {L : List (List Int)} {G : List Int} {D : Int × Int → Option Int} {k w c : Int} (gd : Good L) (h6 : L.length ≤ 6) (hg : gE L G = 0) (hE : ∀ j s w, D (j, s) = some w → ((1 ≤ s ∧ s < 2 ^ L.length) ∧ 1 ≤ j) ∧ Jst D L ⟨s, j, w⟩)
    (hk0 : 1 ≤ k) (hw : D (k, 2 ^ L.length - 1) = some w) (hc : c ≤ w) (hk : kindsN G G.length ≤ k) : c ≤ csum L G G.length := by
  have gp := grp_of hg
  have hall : ∀ t : Nat, t < L.length → bt ((2 : Int) ^ L.length - 1) t := fun t ht => (sm13 L.length (by omega) t (by omega)).2 ht
  obtain ⟨K, rfl⟩ : ∃ K : Nat, k = K := ⟨k.toNat, by omega⟩
  have h1 := kS_kinds (G := G) (S := (2 : Int) ^ L.length - 1) fun t ht => hall t (by rw [← gp.len]; exact ht)
  rw [gp.len] at h1 hk ⊢
  have h2 := sound gd h6 gp hE K _ w hw (fun i i0 i1 => by
    have hgi := gp.rng i i0 i1
    have a := hall i.toNat (by omega)
    have b := hall (gi G i).toNat (by omega)
    rw [show ((i.toNat : Nat) : Int) = i by omega] at a
    rw [show (((gi G i).toNat : Nat) : Int) = gi G i by omega] at b
    exact ⟨fun _ => b, fun _ => a⟩) (by omega)
  rw [cS_all L.length hall] at h2
  omega
end Go.Proofs.Ytmkbjhligjnagaa
