/- The search finds the first grouping that costs so much. No program in sight. -/
import Derived.Test.YtmkbjhligjnagaaMjK
import Derived.Test.YtmkbjhligjnagaaMgX
namespace Go.Proofs.Ytmkbjhligjnagaa
open Go Go.Vc
open Classical
/-- What the search looks for. -/
def Tgt (L : List (List Int)) (k goal : Int) (H : List Int) : Prop := gE L H = 0 ∧ kindsN H H.length ≤ k ∧ csum L H H.length = goal
def Agr (i : Int) (H G : List Int) : Prop := ∀ y : Int, 0 ≤ y → y < i → gi H y = gi G y
/-- What is known of the first i outputs. -/
structure FInv (n : Int) (i : Int) (G Nd : List Int) : Prop where
  lg : (G.length : Int) = n
  ln : (Nd.length : Int) = n
  rng : ∀ x : Int, 0 ≤ x → x < i → 0 ≤ gi G x ∧ gi G x < n
  fix : ∀ x : Int, 0 ≤ x → x < i → gi G x < i → gi G (gi G x) = gi G x
  nd : ∀ y : Int, i ≤ y → y < n → 0 ≤ gi Nd y ∧ (gi Nd y = 0 ↔ ∀ x : Int, 0 ≤ x → x < i → gi G x ≠ y)
section
variable {L : List (List Int)} {k goal i cost kinds r n : Int} {G H Nd : List Int} {m : Nat}
theorem grp_gE {G : List Int} (h : Grp L G) : gE L G = 0 := by
  have hl := h.len
  refine gE_0 hl ?_ ?_
  · rintro ⟨x, a, b, c⟩
    have := h.rng x a (by omega)
    omega
  · rintro ⟨x, a, b, c⟩
    exact c (h.fix x a (by omega))
theorem csum_le (gd : Good L) (h : Grp L H) (a : Nat) : ∀ d : Nat, a + d ≤ L.length → csum L H a ≤ csum L H (a + d)
  | 0, _ => Int.le_refl _
  | d + 1, hd => by
    have ih := csum_le gd h a d (by omega)
    have q := h.rng ((a + d : Nat) : Int) (by omega) (by omega)
    have e := gd.el ((a + d : Nat) : Int) (gi H ((a + d : Nat) : Int)) (by omega) (by omega) q.1 q.2
    have z : csum L H (a + (d + 1)) = csum L H (a + d) + gi (gr L ((a + d : Nat) : Int)) (gi H ((a + d : Nat) : Int)) := rfl
    omega
theorem kinds_le (a : Nat) : ∀ d : Nat, kindsN H a ≤ kindsN H (a + d)
  | 0 => Int.le_refl _
  | d + 1 => by
    have ih := kinds_le a d
    show _ ≤ kindsN H (a + d + 1)
    simp only [kindsN]
    split <;> omega
/-- Cut off: nothing can come of it. -/
theorem f_prune (gd : Good L) (hi : 0 ≤ i) (hn : i ≤ L.length) (hc : cost = csum L G i.toNat) (hk : kinds = kindsN G i.toNat) (h : goal < cost ∨ k < kinds) : ∀ H, Tgt L k goal H → ¬ Agr i H G := by
  rintro H ⟨h1, h2, h3⟩ hA
  have gp := grp_of h1
  have e1 : csum L H i.toNat = csum L G i.toNat := csum_congr L i.toNat fun p a b => hA p a (by omega)
  have e2 : kindsN H i.toNat = kindsN G i.toNat := kindsN_congr i.toNat fun p a b => hA p a (by omega)
  have l1 := csum_le gd gp i.toNat (L.length - i.toNat) (by omega)
  have l2 := kinds_le (H := H) i.toNat (L.length - i.toNat)
  have hl := gp.len
  rw [show i.toNat + (L.length - i.toNat) = L.length by omega] at l1 l2
  rw [hl] at h2 h3
  omega
/-- An output that may not be reported so. -/
theorem f_skip (hv : FInv L.length i G Nd) (hi : 0 ≤ i) (hn : i < L.length) {Gc : List Int} (hg : Agr i Gc G) (hr : 0 ≤ r) (hs : Skp Gc Nd i r) : ∀ H, Tgt L k goal H → Agr i H G → gi H i ≠ r := by
  rintro H ⟨h1, _, _⟩ hA e
  have gp := grp_of h1
  have hf := gp.fix i hi hn
  rw [e] at hf
  rcases hs with ⟨a, b⟩ | ⟨a, b⟩
  · have q := hv.nd i (Int.le_refl _) hn
    have : ¬ ∀ x : Int, 0 ≤ x → x < i → gi G x ≠ i := fun z => by have := q.2.2 z; omega
    apply this
    intro x x0 x1 x2
    have f := gp.fix x x0 (by omega)
    rw [hA x x0 x1, x2, e] at f
    exact a f
  · rw [hA r hr a, ← hg r hr a] at hf
    exact b hf
/-- One more output is reported. -/
theorem f_next (hv : FInv L.length i G Nd) (hi : 0 ≤ i) (hn : i < L.length) {Gc : List Int} (hl : (Gc.length : Int) = L.length) (hg : Agr i Gc G) (hr : 0 ≤ r) (hr1 : r < L.length) (hs : ¬ Skp Gc Nd i r) :
    FInv L.length (i + 1) (Gc.set i.toNat r) (if i < r then Nd.set r.toNat (gi Nd r + 1) else Nd) ∧ csum L (Gc.set i.toNat r) (i + 1).toNat = csum L G i.toNat + gi (gr L i) r ∧
    kindsN (Gc.set i.toNat r) (i + 1).toNat = (if More Nd i r then kindsN G i.toNat + 1 else kindsN G i.toNat) := by
  have hln := hv.ln
  have st : ∀ y : Int, 0 ≤ y → gi (Gc.set i.toNat r) y = if y = i then r else gi Gc y := fun y a => giset hi (by omega) a
  have sl : ∀ y : Int, 0 ≤ y → y < i → gi (Gc.set i.toNat r) y = gi G y := fun y a b => by rw [st y a, if_neg (by omega), hg y a b]
  have si : gi (Gc.set i.toNat r) i = r := by rw [st i hi, if_pos rfl]
  have ns1 : r ≠ i → gi Nd i = 0 := fun a => by
    have := (hv.nd i (Int.le_refl _) hn).1
    have : ¬ 0 < gi Nd i := fun b => hs (.inl ⟨a, b⟩)
    omega
  have ns2 : r < i → gi G r = r := fun a => by
    rw [← hg r hr a]
    exact Decidable.not_not.1 fun b => hs (.inr ⟨a, b⟩)
  refine ⟨⟨by rw [List.length_set]; exact hl, by split <;> simp [hln], ?_, ?_, ?_⟩, ?_, ?_⟩
  · intro x a b
    by_cases e : x = i
    · rw [e, si]; exact ⟨hr, hr1⟩
    · rw [sl x a (by omega)]; exact hv.rng x a (by omega)
  · intro x a b c
    by_cases e : x = i
    · rw [e, si] at c ⊢
      by_cases q : r = i
      · rw [q] at si ⊢; exact si
      · rw [sl r hr (by omega)]; exact ns2 (by omega)
    · rw [sl x a (by omega)] at c ⊢
      have rg := hv.rng x a (by omega)
      by_cases q : gi G x = i
      · rw [q, si]
        apply Decidable.not_not.1
        intro z
        exact ((hv.nd i (Int.le_refl _) hn).2.1 (ns1 z)) x a (by omega) q
      · rw [sl _ rg.1 (by omega)]; exact hv.fix x a (by omega) (by omega)
  · intro y a b
    have q := hv.nd y (by omega) b
    have key : (∀ x : Int, 0 ≤ x → x < i + 1 → gi (Gc.set i.toNat r) x ≠ y) ↔ (∀ x : Int, 0 ≤ x → x < i → gi G x ≠ y) ∧ r ≠ y := by
      constructor
      · intro h
        exact ⟨fun x x0 x1 => by rw [← sl x x0 x1]; exact h x x0 (by omega), by have := h i hi (by omega); rw [si] at this; exact this⟩
      · rintro ⟨h1, h2⟩ x x0 x1
        by_cases e : x = i
        · rw [e, si]; exact h2
        · rw [sl x x0 (by omega)]; exact h1 x x0 (by omega)
    rw [key]
    by_cases c : i < r
    · rw [if_pos c, giset (by omega) (by omega) (by omega)]
      by_cases e : y = r
      · have q' := q.1
        rw [e] at q'
        rw [if_pos e]
        exact ⟨by omega, fun z => by omega, fun z => absurd e.symm z.2⟩
      · rw [if_neg e]
        exact ⟨q.1, fun z => ⟨q.2.1 z, fun w => e w.symm⟩, fun z => q.2.2 z.1⟩
    · rw [if_neg c]
      exact ⟨q.1, fun z => ⟨q.2.1 z, by omega⟩, fun z => q.2.2 z.1⟩
  · rw [show (i + 1).toNat = i.toNat + 1 by omega]
    show csum L _ i.toNat + gi (gr L ((i.toNat : Nat) : Int)) (gi _ ((i.toNat : Nat) : Int)) = _
    rw [show ((i.toNat : Nat) : Int) = i by omega, si, csum_congr L i.toNat fun p a b => sl p a (by omega)]
  · rw [kindsN_step _ hi, kindsN_congr i.toNat fun p a b => sl p a (by omega)]
    have e : IsNew (Gc.set i.toNat r) i ↔ More Nd i r := by
      have e1 : IsNew (Gc.set i.toNat r) i ↔ ∀ x : Int, 0 ≤ x → x < i → gi G x ≠ r := by
        constructor
        · intro h x a b
          have := h x a b
          rw [si, sl x a b] at this
          exact this
        · intro h x a b
          rw [si, sl x a b]
          exact h x a b
      rw [e1]
      unfold More
      by_cases c : r < i
      · exact ⟨fun z => absurd (ns2 c) (z r hr c), fun z => by omega⟩
      · by_cases d : r = i
        · have q := (hv.nd i (Int.le_refl _) hn).2
          rw [d]
          exact ⟨fun z => .inl ⟨rfl, q.2 z⟩, fun z => q.1 (by rcases z with z | z <;> omega)⟩
        · have q := (hv.nd r (by omega) hr1).2
          exact ⟨fun z => .inr ⟨by omega, q.2 z⟩, fun z => q.1 (by rcases z with z | z <;> omega)⟩
    by_cases c : More Nd i r
    · rw [if_pos c, if_pos (e.2 c)]
    · rw [if_neg c, if_neg (fun z => c (e.1 z))]
/-- What the search says of the groupings that go on from G, of those whose output i is reported as r or later. -/
structure FAns (L : List (List Int)) (k goal i r : Int) (G : List Int) (x : Bool × List Int) : Prop where
  len : (x.2.length : Int) = L.length
  agr : Agr i x.2 G
  yes : x.1 = true → Tgt L k goal x.2 ∧ (i < L.length → r ≤ gi x.2 i) ∧ ∀ H, Tgt L k goal H → Agr i H G → (i < L.length → r ≤ gi H i) → ¬ Lex L.length H x.2
  no : x.1 = false → ∀ H, Tgt L k goal H → Agr i H G → ¬ (i < L.length → r ≤ gi H i)
theorem f_loop {rec : Int → Int → List Int → List Int → Bool × List Int} (hv : FInv L.length i G Nd) (hi : 0 ≤ i) (hn : i < L.length) (hc : cost = csum L G i.toNat) (hk : kinds = kindsN G i.toNat)
    (hrec : ∀ a b G1 N1, FInv L.length (i + 1) G1 N1 → a = csum L G1 (i + 1).toNat → b = kindsN G1 (i + 1).toNat → FAns L k goal (i + 1) 0 G1 (rec a b G1 N1)) :
    ∀ (q : Nat) (r : Int) (Gc : List Int), 0 ≤ r → r + q = L.length → (Gc.length : Int) = L.length → Agr i Gc G → FAns L k goal i r G (frL L rec i cost kinds Nd q r Gc)
  | 0, r, Gc, _, hq, hl, hg => by
    refine ⟨hl, hg, fun z => ?_, fun _ H hT _ z => ?_⟩
    · cases z
    · have := (grp_of hT.1).rng i hi hn
      have := z hn
      omega
  | q + 1, r, Gc, hr, hq, hl, hg => by
    by_cases hs : Skp Gc Nd i r
    · rw [show frL L rec i cost kinds Nd (q + 1) r Gc = frL L rec i cost kinds Nd q (r + 1) Gc from if_pos hs]
      have ih := f_loop hv hi hn hc hk hrec q (r + 1) Gc (by omega) (by omega) hl hg
      have sk := f_skip (k := k) (goal := goal) hv hi hn hg hr hs
      refine ⟨ih.len, ih.agr, fun z => ⟨(ih.yes z).1, fun w => by have := (ih.yes z).2.1 w; omega, fun H hT hA w => (ih.yes z).2.2 H hT hA fun w2 => ?_⟩, fun z H hT hA w => ih.no z H hT hA fun w2 => ?_⟩
      · have := sk H hT hA; have := w w2; omega
      · have := sk H hT hA; have := w w2; omega
    · obtain ⟨v1, v2, v3⟩ := f_next hv hi hn hl hg hr (by omega) hs
      have ans := hrec (cost + gi (gr L i) r) (if More Nd i r then kinds + 1 else kinds) (Gc.set i.toNat r) (if i < r then Nd.set r.toNat (gi Nd r + 1) else Nd) v1 (by rw [v2, hc]) (by rw [v3, hk])
      unfold frL
      rw [if_neg hs]
      generalize rec (cost + gi (gr L i) r) (if More Nd i r then kinds + 1 else kinds) (Gc.set i.toNat r) (if i < r then Nd.set r.toNat (gi Nd r + 1) else Nd) = x at ans ⊢
      have sg : ∀ y : Int, 0 ≤ y → gi (Gc.set i.toNat r) y = if y = i then r else gi Gc y := fun y a => giset hi (by omega) a
      have xi : gi x.2 i = r := by rw [ans.agr i hi (by omega), sg i hi, if_pos rfl]
      have xl : Agr i x.2 G := fun y a b => by rw [ans.agr y a (by omega), sg y a, if_neg (by omega), hg y a b]
      have up : ∀ H, Agr i H G → gi H i = r → Agr (i + 1) H (Gc.set i.toNat r) := fun H hA e y a b => by
        rw [sg y a]
        by_cases c : y = i
        · rw [if_pos c, c, e]
        · rw [if_neg c, hA y a (by omega), hg y a (by omega)]
      by_cases hb : x.1 = true
      · rw [if_pos hb]
        obtain ⟨y1, _, y3⟩ := ans.yes hb
        refine ⟨ans.len, xl, fun _ => ⟨y1, fun _ => by rw [xi]; omega, fun H hT hA w => ?_⟩, fun z => by rw [hb] at z; cases z⟩
        by_cases e : gi H i = r
        · exact y3 H hT (up H hA e) fun w2 => (((grp_of hT.1).rng (i + 1) (by omega) w2).1)
        · have := w hn
          exact lex_asymm ⟨i, hi, hn, fun y a b => by rw [xl y a b, hA y a b], by rw [xi]; omega⟩
      · rw [if_neg hb]
        have hb : x.1 = false := by cases h : x.1 with
          | true => exact absurd h hb
          | false => rfl
        have ih := f_loop hv hi hn hc hk hrec q (r + 1) x.2 (by omega) (by omega) ans.len xl
        have sk : ∀ H, Tgt L k goal H → Agr i H G → gi H i ≠ r := fun H hT hA e => ans.no hb H hT (up H hA e) fun w2 => (((grp_of hT.1).rng (i + 1) (by omega) w2).1)
        refine ⟨ih.len, ih.agr, fun z => ⟨(ih.yes z).1, fun w => by have := (ih.yes z).2.1 w; omega, fun H hT hA w => (ih.yes z).2.2 H hT hA fun w2 => ?_⟩, fun z H hT hA w => ih.no z H hT hA fun w2 => ?_⟩
        · have := sk H hT hA; have := w w2; omega
        · have := sk H hT hA; have := w w2; omega
end
theorem f_all {L : List (List Int)} {k goal : Int} (gd : Good L) : ∀ (m : Nat) (i cost kinds : Int) (G Nd : List Int), 0 ≤ i → i + m = L.length → FInv L.length i G Nd → cost = csum L G i.toNat → kinds = kindsN G i.toNat → FAns L k goal i 0 G (fr L k goal m i cost kinds G Nd)
  | m, i, cost, kinds, G, Nd, hi, hm, hv, hc, hk => by
    by_cases hp : goal < cost ∨ k < kinds
    · rw [fr_prune hp]
      refine ⟨hv.lg, fun _ _ _ => rfl, fun z => ?_, fun _ H hT hA => absurd hA (f_prune gd hi (by omega) hc hk hp H hT)⟩
      cases z
    · cases m with
      | zero =>
        rw [fr_0 hp]
        have hlg := hv.lg
        have gp : Grp L G := ⟨by omega, fun x a b => hv.rng x a (by omega), fun x a b => hv.fix x a (by omega) (by have := hv.rng x a (by omega); omega)⟩
        have el : G.length = i.toNat := by omega
        have eq : ∀ H, Tgt L k goal H → Agr i H G → H = G := fun H hT hA => by
          have hl := (grp_of hT.1).len
          exact ext_gi (by omega) fun x a b => hA x a (by omega)
        refine ⟨hv.lg, fun _ _ _ => rfl, fun z => ⟨⟨grp_gE gp, by rw [el, ← hk]; omega, by rw [el, ← hc]; exact of_decide_eq_true z⟩, fun w => by omega, fun H hT hA _ => ?_⟩, fun z H hT hA _ => ?_⟩
        · rw [eq H hT hA]; exact lex_irrefl
        · have e := eq H hT hA
          subst e
          have := hT.2.2
          rw [el, ← hc] at this
          exact of_decide_eq_false z this
      | succ m =>
        rw [fr_s hp]
        exact f_loop hv hi (by omega) hc hk (fun a b G1 N1 h1 h2 h3 => f_all gd m (i + 1) a b G1 N1 (by omega) (by omega) h1 h2 h3) _ 0 G (by omega) (by omega) hv.lg fun _ _ _ => rfl
theorem finv_0 {n : Nat} : FInv n 0 (List.replicate n 0) (List.replicate n 0) :=
  ⟨by simp, by simp, fun x a b => by omega, fun x a b => by omega, fun y a b => by
    have e : gi (List.replicate n (0 : Int)) y = 0 := by unfold gi; simp [List.getElem?_replicate]; split <;> rfl
    rw [e]
    exact ⟨Int.le_refl _, fun _ x a b => by omega, fun _ => rfl⟩⟩
/-- Where there is such a grouping, the search returns the first of them. -/
theorem f_found {L : List (List Int)} {k goal : Int} (gd : Good L) {H0 : List Int} (h0 : Tgt L k goal H0) :
    Tgt L k goal (fr L k goal L.length 0 0 0 (List.replicate L.length 0) (List.replicate L.length 0)).2 ∧ ∀ H, Tgt L k goal H → ¬ Lex L.length H (fr L k goal L.length 0 0 0 (List.replicate L.length 0) (List.replicate L.length 0)).2 := by
  have hp := gd.pos
  have a := f_all (k := k) (goal := goal) gd L.length 0 0 0 _ _ (Int.le_refl _) (by omega) (finv_0 (n := L.length)) rfl rfl
  generalize fr L k goal L.length 0 0 0 (List.replicate L.length 0) (List.replicate L.length 0) = x at a ⊢
  have all : ∀ H, Tgt L k goal H → ((0 : Int) < L.length → 0 ≤ gi H 0) := fun H hT w => ((grp_of hT.1).rng 0 (Int.le_refl _) w).1
  have ag : ∀ H, Agr 0 H (List.replicate L.length 0) := fun H y a b => by omega
  cases hb : x.1 with
  | false => exact absurd (all H0 h0) (a.no hb H0 h0 (ag _))
  | true =>
    obtain ⟨y1, _, y3⟩ := a.yes hb
    exact ⟨y1, fun H hT => y3 H hT (ag _) (all H hT)⟩
end Go.Proofs.Ytmkbjhligjnagaa
