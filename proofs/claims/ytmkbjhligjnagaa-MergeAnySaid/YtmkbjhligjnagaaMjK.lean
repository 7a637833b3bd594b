/- The search for the first grouping that costs so much: what the code computes. No program in sight. -/
import Derived.Test.YtmkbjhligjnagaaMjG
namespace Go.Proofs.Ytmkbjhligjnagaa
open Go Go.Vc
open Classical
/-- An output i may not be reported as r. -/
def Skp (G Nd : List Int) (i r : Int) : Prop := (r ≠ i ∧ 0 < gi Nd i) ∨ (r < i ∧ gi G r ≠ r)
/-- One more output is reported. -/
def More (Nd : List Int) (i r : Int) : Prop := (r = i ∧ gi Nd i = 0) ∨ (i < r ∧ gi Nd r = 0)
noncomputable def frL (L : List (List Int)) (rec : Int → Int → List Int → List Int → Bool × List Int) (i cost kinds : Int) (Nd : List Int) : Nat → Int → List Int → Bool × List Int
  | 0, _, G => (false, G)
  | q + 1, r, G => if Skp G Nd i r then frL L rec i cost kinds Nd q (r + 1) G else
      if (rec (cost + gi (gr L i) r) (if More Nd i r then kinds + 1 else kinds) (G.set i.toNat r) (if i < r then Nd.set r.toNat (gi Nd r + 1) else Nd)).1 then rec (cost + gi (gr L i) r) (if More Nd i r then kinds + 1 else kinds) (G.set i.toNat r) (if i < r then Nd.set r.toNat (gi Nd r + 1) else Nd)
      else frL L rec i cost kinds Nd q (r + 1) (rec (cost + gi (gr L i) r) (if More Nd i r then kinds + 1 else kinds) (G.set i.toNat r) (if i < r then Nd.set r.toNat (gi Nd r + 1) else Nd)).2
noncomputable def fr (L : List (List Int)) (k goal : Int) : Nat → Int → Int → Int → List Int → List Int → Bool × List Int
  | 0, _, cost, kinds, G, _ => if goal < cost ∨ k < kinds then (false, G) else (decide (cost = goal), G)
  | m + 1, i, cost, kinds, G, Nd => if goal < cost ∨ k < kinds then (false, G) else frL L (fr L k goal m (i + 1)) i cost kinds Nd L.length 0 G
section
variable {L : List (List Int)} {k goal i cost kinds r : Int} {G H Nd : List Int} {m : Nat} {rec : Int → Int → List Int → List Int → Bool × List Int}
theorem fr_prune (h : goal < cost ∨ k < kinds) : fr L k goal m i cost kinds G Nd = (false, G) := by
  cases m with
  | zero => exact if_pos h
  | succ m => exact if_pos h
theorem fr_0 (h : ¬ (goal < cost ∨ k < kinds)) : fr L k goal 0 i cost kinds G Nd = (decide (cost = goal), G) := if_neg h
theorem fr_s (h : ¬ (goal < cost ∨ k < kinds)) : fr L k goal (m + 1) i cost kinds G Nd = frL L (fr L k goal m (i + 1)) i cost kinds Nd (L.length - (0 : Int).toNat) 0 G := if_neg h
theorem frL_end (h : ¬ r < L.length) : frL L rec i cost kinds Nd (L.length - r.toNat) r H = (false, H) := by
  rw [show L.length - r.toNat = 0 by omega]; rfl
theorem frL_skip (h0 : 0 ≤ r) (h : r < L.length) (hs : Skp H Nd i r) : frL L rec i cost kinds Nd (L.length - r.toNat) r H = frL L rec i cost kinds Nd (L.length - (r + 1).toNat) (r + 1) H := by
  rw [show L.length - r.toNat = (L.length - (r + 1).toNat) + 1 by omega]
  exact if_pos hs
theorem frL_go {mo : Int} {N1 : List Int} {x : Bool × List Int} (h0 : 0 ≤ r) (h : r < L.length) (hs : ¬ Skp H Nd i r) (hm : (if More Nd i r then kinds + 1 else kinds) = mo) (hN : (if i < r then Nd.set r.toNat (gi Nd r + 1) else Nd) = N1) (hx : x = rec (cost + gi (gr L i) r) mo (H.set i.toNat r) N1) :
    frL L rec i cost kinds Nd (L.length - r.toNat) r H = if x.1 then x else frL L rec i cost kinds Nd (L.length - (r + 1).toNat) (r + 1) x.2 := by
  rw [show L.length - r.toNat = (L.length - (r + 1).toNat) + 1 by omega]
  subst hm; subst hN; subst hx
  exact if_neg hs
theorem frL_len (hrec : ∀ a b G N, (rec a b G N).2.length = G.length) : ∀ (q : Nat) (r : Int) (G : List Int), (frL L rec i cost kinds Nd q r G).2.length = G.length
  | 0, _, _ => rfl
  | q + 1, r, G => by
    by_cases hs : Skp G Nd i r
    · rw [show frL L rec i cost kinds Nd (q + 1) r G = frL L rec i cost kinds Nd q (r + 1) G from if_pos hs]
      exact frL_len hrec q _ _
    · have hl := hrec (cost + gi (gr L i) r) (if More Nd i r then kinds + 1 else kinds) (G.set i.toNat r) (if i < r then Nd.set r.toNat (gi Nd r + 1) else Nd)
      unfold frL
      rw [if_neg hs]
      generalize rec (cost + gi (gr L i) r) (if More Nd i r then kinds + 1 else kinds) (G.set i.toNat r) (if i < r then Nd.set r.toNat (gi Nd r + 1) else Nd) = x at hl ⊢
      rw [List.length_set] at hl
      by_cases hb : x.1 = true
      · rw [if_pos hb]; exact hl
      · rw [if_neg hb, frL_len hrec q, hl]
end
theorem fr_len {L : List (List Int)} {k goal : Int} : ∀ (m : Nat) (i cost kinds : Int) (G Nd : List Int), (fr L k goal m i cost kinds G Nd).2.length = G.length
  | 0, _, _, _, _, _ => by simp only [fr]; split <;> rfl
  | m + 1, _, _, _, _, _ => by
    simp only [fr]
    split
    · rfl
    · exact frL_len (fun a b G N => fr_len m _ a b G N) _ _ _
theorem nd_set {Nd : List Int} {r i n : Int} (h0 : 0 ≤ r) (h1 : r < Nd.length) (hb : ∀ y : Int, 0 ≤ y → y < n → 0 ≤ gi Nd y ∧ gi Nd y ≤ i) (hn : (Nd.length : Int) = n) : ∀ y : Int, 0 ≤ y → y < n → 0 ≤ gi (Nd.set r.toNat (gi Nd r + 1)) y ∧ gi (Nd.set r.toNat (gi Nd r + 1)) y ≤ i + 1 := fun y a b => by
  rw [giset h0 h1 a]
  have := hb y a b
  have := hb r h0 (by omega)
  split <;> omega
theorem nd_keep {Nd : List Int} {i n : Int} (hb : ∀ y : Int, 0 ≤ y → y < n → 0 ≤ gi Nd y ∧ gi Nd y ≤ i) : ∀ y : Int, 0 ≤ y → y < n → 0 ≤ gi Nd y ∧ gi Nd y ≤ i + 1 := fun y a b => by
  have := hb y a b; omega
theorem nd_back {Nd N2 : List Int} {r : Int} (h0 : 0 ≤ r) (h1 : r < Nd.length) (h : N2 = Nd.set r.toNat (gi Nd r + 1)) : (N2.map (Value.int .i64)).set r.toNat (.int .i64 (gi N2 r - 1)) = Nd.map (Value.int .i64) := by
  subst h
  rw [mset, giset h0 h1 h0, if_pos rfl, List.set_set, show gi Nd r + 1 - 1 = gi Nd r by omega]
  congr 1
  unfold gi
  rw [List.getD_eq_getElem?_getD, List.getElem?_eq_getElem (by omega)]
  exact List.set_getElem_self (by omega)
end Go.Proofs.Ytmkbjhligjnagaa
