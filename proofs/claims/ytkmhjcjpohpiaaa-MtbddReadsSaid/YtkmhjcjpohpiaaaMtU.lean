/- The builder's leaves and nodes as a graph. No program in sight. -/
import Derived.Test.YtkmhjcjpohpiaaaMtT
namespace Go.Proofs.Ytkmhjcjpohpiaaa
open Go Go.Vc
open Classical
theorem gv_lev {vars : Int} {G G' : Gph} {r : Int} (hl : G'.lf r ↔ G.lf r) (hn : G'.nd r = G.nd r) : lev vars G' r = lev vars G r := by
  by_cases h : G.lf r
  · rw [lev_lf h, lev_lf (hl.2 h)]
  · rw [lev_nd h, lev_nd fun q => h (hl.1 q), hn]
/-- A graph within another one has its values. -/
theorem gv_ext {vars : Int} {G G' : Gph} (f : GRed vars G) (g : GRed vars G') (h : ∀ r, G.ok r → G'.ok r ∧ (G'.lf r ↔ G.lf r) ∧ G'.nd r = G.nd r) (φ : Int → Int) (hk : ∀ r, G.ok r → G.lf r → G'.rk r = φ (G.rk r)) (e : Int → Bool) : ∀ (k : Nat) (r : Int), G.ok r → G.mu r ≤ k → gev G' e r = φ (gev G e r)
  | 0, r, hr, hm => by
    have hl : G.lf r := Classical.byContradiction fun q => by have := (f.lo r hr q).2.1; omega
    rw [gev_lf hl, gev_lf ((h r hr).2.1.2 hl), hk r hr hl]
  | k + 1, r, hr, hm => by
    obtain ⟨a, b, c⟩ := h r hr
    by_cases hl : G.lf r
    · rw [gev_lf hl, gev_lf (b.2 hl), hk r hr hl]
    · have hlo := f.lo r hr hl
      have hhi := f.hi r hr hl
      rw [gev_step f hr hl, gev_step g a fun q => hl (b.1 q), c]
      refine gv_ext f g h φ hk e k _ ?_ ?_
      · split
        · exact hhi.1
        · exact hlo.1
      · split <;> omega
/-- The builder's graph: 2i is the leaf i, 2i + 1 the node i; a leaf's rank is a function of its value. -/
def bG (L : List Int) (N : List Fk) (φ : Int → Int) : Gph where
  ok := fun r => 0 ≤ r ∧ (r % 2 = 0 → r / 2 < L.length) ∧ (r % 2 = 1 → r / 2 < N.length)
  lf := fun r => r % 2 = 0
  rk := fun r => φ (gi L (r / 2))
  nd := fun r => fk N (r / 2)
  mu := fun r => if r % 2 = 0 then 0 else (r / 2).toNat + 1
theorem bG_red {vars : Int} {L : List Int} {N : List Fk} {φ ψ : Int → Int} (f : GRed vars (bG L N φ)) : GRed vars (bG L N ψ) := ⟨f.vr, f.ne, f.lo, f.hi, f.uq⟩
abbrev bV (L : List Int) (N : List Fk) : Gph := bG L N id
structure BOk (vars : Int) (L : List Int) (N : List Fk) : Prop where
  red : GRed vars (bV L N)
  nod : ∀ i j : Int, 0 ≤ i → i < L.length → 0 ≤ j → j < L.length → gi L i = gi L j → i = j
theorem gi_app {L X : List Int} {i : Int} (h0 : 0 ≤ i) (h1 : i < L.length) : gi (L ++ X) i = gi L i := by
  unfold gi
  rw [List.getD_eq_getElem?_getD, List.getD_eq_getElem?_getD, List.getElem?_append_left (by omega)]
theorem gi_last {L : List Int} {z : Int} : gi (L ++ [z]) L.length = z := by
  unfold gi
  rw [List.getD_eq_getElem?_getD, Int.toNat_natCast, List.getElem?_append_right (Nat.le_refl _), Nat.sub_self]; rfl
theorem fk_app {N X : List Fk} {i : Int} (h0 : 0 ≤ i) (h1 : i < N.length) : fk (N ++ X) i = fk N i := by
  unfold fk
  rw [List.getD_eq_getElem?_getD, List.getD_eq_getElem?_getD, List.getElem?_append_left (by omega)]
theorem fk_last {N : List Fk} {n : Fk} : fk (N ++ [n]) N.length = n := by
  unfold fk
  rw [List.getD_eq_getElem?_getD, Int.toNat_natCast, List.getElem?_append_right (Nat.le_refl _), Nat.sub_self]; rfl
theorem bG_sub {L X : List Int} {N Y : List Fk} {φ : Int → Int} {r : Int} (h : (bG L N φ).ok r) : (bG (L ++ X) (N ++ Y) φ).ok r ∧ ((bG (L ++ X) (N ++ Y) φ).lf r ↔ (bG L N φ).lf r) ∧ (r % 2 = 1 → (bG (L ++ X) (N ++ Y) φ).nd r = (bG L N φ).nd r) ∧ (r % 2 = 0 → (bG (L ++ X) (N ++ Y) φ).rk r = (bG L N φ).rk r) := by
  obtain ⟨a, b, c⟩ := h
  refine ⟨⟨a, fun q => ?_, fun q => ?_⟩, Iff.rfl, fun q => ?_, fun q => ?_⟩
  · have := b q; rw [List.length_append]; omega
  · have := c q; rw [List.length_append]; omega
  · exact fk_app (by omega) (c q)
  · show φ (gi (L ++ X) (r / 2)) = φ (gi L (r / 2))
    rw [gi_app (by omega) (b q)]
theorem bG_lev {vars : Int} {L X : List Int} {N Y : List Fk} {φ : Int → Int} {r : Int} (h : (bG L N φ).ok r) : lev vars (bG (L ++ X) (N ++ Y) φ) r = lev vars (bG L N φ) r := by
  have s := bG_sub (X := X) (Y := Y) h
  by_cases hl : r % 2 = 0
  · rw [lev_lf (G := bG L N φ) hl, lev_lf (G := bG (L ++ X) (N ++ Y) φ) hl]
  · rw [lev_nd (G := bG L N φ) hl, lev_nd (G := bG (L ++ X) (N ++ Y) φ) hl, s.2.2.1 (by omega)]
theorem bG_gev {vars : Int} {L X : List Int} {N Y : List Fk} (f : GRed vars (bV L N)) (g : GRed vars (bV (L ++ X) (N ++ Y))) {r : Int} (h : (bV L N).ok r) (e : Int → Bool) : gev (bV (L ++ X) (N ++ Y)) e r = gev (bV L N) e r := by
  suffices H : ∀ (k : Nat) (r : Int), (bV L N).ok r → (bV L N).mu r ≤ k → gev (bV (L ++ X) (N ++ Y)) e r = gev (bV L N) e r from H _ r h (Nat.le_refl _)
  intro k
  induction k with
  | zero =>
    intro r hr hm
    have hl : r % 2 = 0 := Classical.byContradiction fun q => by have := (f.lo r hr q).2.1; omega
    rw [gev_lf (G := bV L N) hl, gev_lf (G := bV (L ++ X) (N ++ Y)) hl, (bG_sub hr).2.2.2 hl]
  | succ k ih =>
    intro r hr hm
    by_cases hl : r % 2 = 0
    · rw [gev_lf (G := bV L N) hl, gev_lf (G := bV (L ++ X) (N ++ Y)) hl, (bG_sub hr).2.2.2 hl]
    · have hlo := f.lo r hr hl
      have hhi := f.hi r hr hl
      rw [gev_step f hr hl, gev_step g (bG_sub hr).1 hl, (bG_sub hr).2.2.1 (by omega)]
      have c1 : (bV L N).mu (if e ((bV L N).nd r).v then ((bV L N).nd r).h else ((bV L N).nd r).l) ≤ k := by split <;> omega
      refine ih _ ?_ c1
      split
      · exact hhi.1
      · exact hlo.1
theorem bok_nil {vars : Int} : BOk vars [] [] where
  red := {
    vr := fun r h hl => by
      have h3 := h.2.2
      have hl : ¬ r % 2 = 0 := hl
      have h3 : r / 2 < ((0 : Nat) : Int) := h3 (by omega)
      have := h.1
      omega
    ne := fun r h hl => by
      have h3 := h.2.2
      have hl : ¬ r % 2 = 0 := hl
      have h3 : r / 2 < ((0 : Nat) : Int) := h3 (by omega)
      have := h.1
      omega
    lo := fun r h hl => by
      have h3 := h.2.2
      have hl : ¬ r % 2 = 0 := hl
      have h3 : r / 2 < ((0 : Nat) : Int) := h3 (by omega)
      have := h.1
      omega
    hi := fun r h hl => by
      have h3 := h.2.2
      have hl : ¬ r % 2 = 0 := hl
      have h3 : r / 2 < ((0 : Nat) : Int) := h3 (by omega)
      have := h.1
      omega
    uq := fun r s h hl => by
      have h3 := h.2.2
      have hl : ¬ r % 2 = 0 := hl
      have h3 : r / 2 < ((0 : Nat) : Int) := h3 (by omega)
      have := h.1
      omega }
  nod := fun i j h0 h1 => by have h1 : i < ((0 : Nat) : Int) := h1; omega
/-- More leaves. -/
theorem bok_leaf {vars z : Int} {L : List Int} {N : List Fk} (b : BOk vars L N) (hz : gx z L = none) : BOk vars (L ++ [z]) N := by
  have key : ∀ r, (bV (L ++ [z]) N).ok r → ¬ r % 2 = 0 → (bV L N).ok r := fun r h hl => ⟨h.1, fun q => absurd q hl, h.2.2⟩
  have lv : ∀ r, (bV L N).ok r → lev vars (bV (L ++ [z]) N) r = lev vars (bV L N) r := fun r h => by
    have := bG_lev (vars := vars) (X := [z]) (Y := []) (φ := id) h
    rw [List.append_nil] at this
    exact this
  have up : ∀ r, (bV L N).ok r → (bV (L ++ [z]) N).ok r := fun r h => ⟨h.1, fun q => by have := h.2.1 q; rw [List.length_append]; omega, h.2.2⟩
  refine ⟨⟨fun r h hl => b.red.vr r (key r h hl) hl, fun r h hl => b.red.ne r (key r h hl) hl, fun r h hl => ?_, fun r h hl => ?_, fun r s h hl h' hl' => b.red.uq r s (key r h hl) hl (key s h' hl') hl'⟩, fun i j i0 i1 j0 j1 q => ?_⟩
  · have w := b.red.lo r (key r h hl) hl
    exact ⟨up _ w.1, w.2.1, (lv _ w.1).symm ▸ w.2.2⟩
  · have w := b.red.hi r (key r h hl) hl
    exact ⟨up _ w.1, w.2.1, (lv _ w.1).symm ▸ w.2.2⟩
  · have hlen : ((L ++ [z]).length : Int) = L.length + 1 := by simp
    have hno : ∀ i : Int, 0 ≤ i → i < L.length → gi L i ≠ z := fun i a c q => gx_none hz i.toNat (by omega) q
    by_cases ei : i = L.length
    · by_cases ej : j = L.length
      · omega
      · rw [ei, gi_last, gi_app j0 (by omega)] at q
        exact absurd q.symm (hno j j0 (by omega))
    · by_cases ej : j = L.length
      · rw [ej, gi_last, gi_app i0 (by omega)] at q
        exact absurd q (hno i i0 (by omega))
      · rw [gi_app i0 (by omega), gi_app j0 (by omega)] at q
        exact b.nod i j i0 (by omega) j0 (by omega) q
/-- What the builder's leaf does. -/
structure LfOk (vars : Int) (L : List Int) (N : List Fk) (z : Int) (x : List Int × Int) : Prop where
  ok : BOk vars x.1 N
  ext : ∃ X, x.1 = L ++ X
  rf : (bV x.1 N).ok x.2
  lf : x.2 % 2 = 0
  vl : gi x.1 (x.2 / 2) = z
theorem leaf_ok {vars z : Int} {L : List Int} {N : List Fk} (b : BOk vars L N) : LfOk vars L N z (lfR L z) := by
  unfold lfR
  cases q : gx z L with
  | some i =>
    obtain ⟨q1, q2, q3⟩ := gx_some q
    refine ⟨b, ⟨[], by simp⟩, ⟨by show 0 ≤ 2 * (i : Int); omega, fun _ => by show 2 * (i : Int) / 2 < (L.length : Int); omega, fun w => by have w : 2 * (i : Int) % 2 = 1 := w; omega⟩, by show 2 * (i : Int) % 2 = 0; omega, ?_⟩
    show gi L (2 * (i : Int) / 2) = z
    rw [show 2 * (i : Int) / 2 = i by omega]; exact q2
  | none =>
    refine ⟨bok_leaf b q, ⟨[z], rfl⟩, ⟨by show 0 ≤ 2 * (L.length : Int); omega, fun _ => by show 2 * (L.length : Int) / 2 < ((L ++ [z]).length : Int); rw [List.length_append]; show _ < ((L.length + 1 : Nat) : Int); omega, fun w => by have w : 2 * (L.length : Int) % 2 = 1 := w; omega⟩, by show 2 * (L.length : Int) % 2 = 0; omega, ?_⟩
    show gi (L ++ [z]) (2 * (L.length : Int) / 2) = z
    rw [show 2 * (L.length : Int) / 2 = L.length by omega, gi_last]
/-- One more node. -/
theorem bok_node {vars v l h : Int} {L : List Int} {N : List Fk} (b : BOk vars L N) (hv : 0 ≤ v) (hv2 : v < vars) (hl : (bV L N).ok l) (hh : (bV L N).ok h) (ll : v < lev vars (bV L N) l) (lh : v < lev vars (bV L N) h) (hne : l ≠ h) (hn : fx ⟨v, l, h⟩ N = none) : BOk vars L (N ++ [⟨v, l, h⟩]) := by
  have hlen : ((N ++ [(⟨v, l, h⟩ : Fk)]).length : Int) = N.length + 1 := by simp
  have up : ∀ r, (bV L N).ok r → (bV L (N ++ [⟨v, l, h⟩])).ok r := fun r h => ⟨h.1, h.2.1, fun q => by have := h.2.2 q; omega⟩
  have lv : ∀ r, (bV L N).ok r → lev vars (bV L (N ++ [⟨v, l, h⟩])) r = lev vars (bV L N) r := fun r h' => by
    have := bG_lev (vars := vars) (X := []) (Y := [⟨v, l, h⟩]) (φ := id) h'
    rw [List.append_nil] at this
    exact this
  have old : ∀ r, (bV L (N ++ [⟨v, l, h⟩])).ok r → ¬ r % 2 = 0 → r / 2 ≠ N.length → (bV L N).ok r ∧ (bV L (N ++ [⟨v, l, h⟩])).nd r = (bV L N).nd r := fun r hr hl' hne' => by
    have h1 : r / 2 < ((N ++ [(⟨v, l, h⟩ : Fk)]).length : Int) := hr.2.2 (by omega)
    have h0 := hr.1
    exact ⟨⟨h0, fun q => absurd q hl', fun _ => by omega⟩, fk_app (by omega) (by omega)⟩
  have new : ∀ r : Int, r / 2 = N.length → (bV L (N ++ [⟨v, l, h⟩])).nd r = ⟨v, l, h⟩ := fun r e => by
    show fk (N ++ [⟨v, l, h⟩]) (r / 2) = _
    rw [e, fk_last]
  have mu0 : ∀ r : Int, ¬ r % 2 = 0 → (bV L (N ++ [⟨v, l, h⟩])).mu r = (r / 2).toNat + 1 := fun r q => if_neg q
  have muo : ∀ r : Int, (bV L N).ok r → r / 2 < N.length ∨ r % 2 = 0 := fun r q => by
    by_cases z : r % 2 = 0
    · exact .inr z
    · exact .inl (q.2.2 (by omega))
  have mu1 : ∀ r q : Int, (bV L N).ok q → ¬ r % 2 = 0 → r / 2 = N.length → (bV L (N ++ [⟨v, l, h⟩])).mu q < (bV L (N ++ [⟨v, l, h⟩])).mu r := fun r q hq hr e => by
    rw [mu0 r hr]
    have hq0 := hq.1
    rcases muo q hq with z | z
    · by_cases y : q % 2 = 0
      · show (if q % 2 = 0 then 0 else (q / 2).toNat + 1) < _
        rw [if_pos y]; omega
      · rw [mu0 q y]; omega
    · show (if q % 2 = 0 then 0 else (q / 2).toNat + 1) < _
      rw [if_pos z]; omega
  have hno : ∀ i : Int, 0 ≤ i → i < N.length → fk N i ≠ ⟨v, l, h⟩ := fun i a c q => fx_none hn i.toNat (by omega) q
  refine ⟨⟨fun r hr hrl => ?_, fun r hr hrl => ?_, fun r hr hrl => ?_, fun r hr hrl => ?_, fun r s hr hrl hs hsl q => ?_⟩, b.nod⟩
  · by_cases e : r / 2 = N.length
    · rw [new r e]; exact ⟨hv, hv2⟩
    · obtain ⟨o1, o2⟩ := old r hr hrl e
      rw [o2]; exact b.red.vr r o1 hrl
  · by_cases e : r / 2 = N.length
    · rw [new r e]; exact hne
    · obtain ⟨o1, o2⟩ := old r hr hrl e
      rw [o2]; exact b.red.ne r o1 hrl
  · by_cases e : r / 2 = N.length
    · rw [new r e]; exact ⟨up _ hl, mu1 r l hl hrl e, by rw [lv l hl]; exact ll⟩
    · obtain ⟨o1, o2⟩ := old r hr hrl e
      have w := b.red.lo r o1 hrl
      rw [o2]; exact ⟨up _ w.1, w.2.1, by rw [lv _ w.1]; exact w.2.2⟩
  · by_cases e : r / 2 = N.length
    · rw [new r e]; exact ⟨up _ hh, mu1 r h hh hrl e, by rw [lv h hh]; exact lh⟩
    · obtain ⟨o1, o2⟩ := old r hr hrl e
      have w := b.red.hi r o1 hrl
      rw [o2]; exact ⟨up _ w.1, w.2.1, by rw [lv _ w.1]; exact w.2.2⟩
  · have hrl : ¬ r % 2 = 0 := hrl
    have hsl : ¬ s % 2 = 0 := hsl
    have hr0 := hr.1
    have hs0 := hs.1
    by_cases e : r / 2 = N.length
    · by_cases e' : s / 2 = N.length
      · omega
      · obtain ⟨o1, o2⟩ := old s hs hsl e'
        rw [new r e, o2] at q
        exact absurd q.symm (hno (s / 2) (by omega) (o1.2.2 (by omega)))
    · obtain ⟨o1, o2⟩ := old r hr hrl e
      by_cases e' : s / 2 = N.length
      · rw [new s e', o2] at q
        exact absurd q (hno (r / 2) (by omega) (o1.2.2 (by omega)))
      · obtain ⟨p1, p2⟩ := old s hs hsl e'
        rw [o2, p2] at q
        exact b.red.uq r s o1 hrl p1 hsl q
/-- What the builder's node does. -/
structure NdOk (vars : Int) (L : List Int) (N : List Fk) (v l h : Int) (x : List Fk × Int) : Prop where
  ok : BOk vars L x.1
  ext : ∃ Y, x.1 = N ++ Y
  rf : (bV L x.1).ok x.2
  lv : v ≤ lev vars (bV L x.1) x.2
  vl : ∀ e, gev (bV L x.1) e x.2 = if e v then gev (bV L N) e h else gev (bV L N) e l
theorem node_ok {vars v l h : Int} {L : List Int} {N : List Fk} (b : BOk vars L N) (hv : 0 ≤ v) (hv2 : v < vars) (hl : (bV L N).ok l) (hh : (bV L N).ok h) (ll : v < lev vars (bV L N) l) (lh : v < lev vars (bV L N) h) : NdOk vars L N v l h (ndR N v l h) := by
  by_cases e : l = h
  · rw [nd_eq e]
    subst e
    exact ⟨b, ⟨[], by simp⟩, hl, by show v ≤ lev vars (bV L N) l; omega, fun e => by show gev (bV L N) e l = _; split <;> rfl⟩
  · unfold ndR
    rw [if_neg e]
    cases q : fx ⟨v, l, h⟩ N with
    | some i =>
      obtain ⟨q1, q2, q3⟩ := fx_some q
      have hi : (bV L N).nd (2 * (i : Int) + 1) = ⟨v, l, h⟩ := by
        show fk N ((2 * (i : Int) + 1) / 2) = _
        rw [show (2 * (i : Int) + 1) / 2 = i by omega]; exact q2
      have hr : (bV L N).ok (2 * (i : Int) + 1) := ⟨by omega, fun w => by omega, fun _ => by omega⟩
      have hlf : ¬ (bV L N).lf (2 * (i : Int) + 1) := by show ¬ (2 * (i : Int) + 1) % 2 = 0; omega
      refine ⟨b, ⟨[], by simp⟩, hr, ?_, fun e => ?_⟩
      · show v ≤ lev vars (bV L N) (2 * (i : Int) + 1)
        rw [lev_nd hlf, hi]; exact Int.le_refl _
      · show gev (bV L N) e (2 * (i : Int) + 1) = _
        rw [gev_step b.red hr hlf, hi]
        show gev (bV L N) e (if e v = true then h else l) = _
        split <;> rfl
    | none =>
      have g := bok_node b hv hv2 hl hh ll lh e q
      have hi : (bV L (N ++ [⟨v, l, h⟩])).nd (2 * (N.length : Int) + 1) = ⟨v, l, h⟩ := by
        show fk (N ++ [⟨v, l, h⟩]) ((2 * (N.length : Int) + 1) / 2) = _
        rw [show (2 * (N.length : Int) + 1) / 2 = N.length by omega, fk_last]
      have hlen : ((N ++ [(⟨v, l, h⟩ : Fk)]).length : Int) = N.length + 1 := by simp
      have hr : (bV L (N ++ [⟨v, l, h⟩])).ok (2 * (N.length : Int) + 1) := ⟨by omega, fun w => by omega, fun _ => by omega⟩
      have hlf : ¬ (bV L (N ++ [⟨v, l, h⟩])).lf (2 * (N.length : Int) + 1) := by show ¬ (2 * (N.length : Int) + 1) % 2 = 0; omega
      have ex : ∀ (e : Int → Bool) (r : Int), (bV L N).ok r → gev (bV L (N ++ [⟨v, l, h⟩])) e r = gev (bV L N) e r := fun e r h' => by
        have g' : GRed vars (bV (L ++ []) (N ++ [⟨v, l, h⟩])) := by rw [List.append_nil]; exact g.red
        have := bG_gev b.red g' h' e
        rw [List.append_nil] at this
        exact this
      refine ⟨g, ⟨[⟨v, l, h⟩], rfl⟩, hr, ?_, fun e => ?_⟩
      · show v ≤ lev vars (bV L (N ++ [⟨v, l, h⟩])) (2 * (N.length : Int) + 1)
        rw [lev_nd hlf, hi]; exact Int.le_refl _
      · show gev (bV L (N ++ [⟨v, l, h⟩])) e (2 * (N.length : Int) + 1) = _
        rw [gev_step g.red hr hlf, hi]
        show gev _ e (if e v = true then h else l) = _
        split
        · exact ex e h hh
        · exact ex e l hl
end Go.Proofs.Ytkmhjcjpohpiaaa
