/- Ws. -/
import Derived.Test.YtbchkopkgpfkgaaGreatDoorVcRw
import Derived.Test.YtbchkopkgpfkgaaGreatDoorWz
import Derived.Test.YtbchkopkgpfkgaaGreatDoorWg
import Derived.Test.YtbchkopkgpfkgaaGreatDoorWq
namespace Go.Proofs.YtbchkopkgpfkgaaGreatDoor
open Go Go.Vc
open Classical
def rwP (p : Int → Int) (n y : Nat) : List Int := (List.range n).map fun j : Nat => if j < y then p j else 0
def tabP (rows cols : Nat) (p : Int → Int → Int) : List (List Int) := (List.range rows).map fun x : Nat => (List.range cols).map fun y : Nat => p x y
theorem rwP_len (p : Int → Int) (n y : Nat) : (rwP p n y).length = n := by simp [rwP]
theorem rwP_0 (p : Int → Int) (n : Nat) : List.replicate n (Value.int .i64 0) = (rwP p n 0).map (Value.int .i64) := replicate_map_range n _ _ fun j _ => by simp
theorem rwP_step (p : Int → Int) (n : Nat) {y : Int} (h : 0 ≤ y) : (rwP p n y.toNat).set y.toNat (p y) = rwP p n (y + 1).toNat := by
  unfold rwP
  rw [set_map_range]
  apply List.map_congr_left
  intro j _
  by_cases e : j = y.toNat
  · subst e; rw [if_pos rfl, if_pos (by omega), show ((y.toNat : Nat) : Int) = y by omega]
  · rw [if_neg e]
    by_cases e2 : j < y.toNat
    · rw [if_pos e2, if_pos (by omega)]
    · rw [if_neg e2, if_neg (by omega)]
theorem rwP_end (p : Int → Int) (n : Nat) {y : Nat} (h : n ≤ y) : rwP p n y = (List.range n).map fun j : Nat => p j := by
  unfold rwP
  apply List.map_congr_left
  intro j hj
  rw [if_pos (by have := List.mem_range.1 hj; omega)]
theorem tabP_len (r c : Nat) (p : Int → Int → Int) : (tabP r c p).length = r := by simp [tabP]
theorem tabP_snoc (c : Nat) (p : Int → Int → Int) {x : Int} (h : 0 ≤ x) : tabP x.toNat c p ++ [(List.range c).map fun y : Nat => p x y] = tabP (x + 1).toNat c p := by
  unfold tabP
  rw [show (x + 1).toNat = x.toNat + 1 by omega, List.range_succ, List.map_append]
  simp only [List.map_cons, List.map_nil]
  rw [show ((x.toNat : Nat) : Int) = x by omega]
/-- A row whose entries are added up in the columns G. -/
def mrgR (G row : List Int) (k : Nat) : Nat → List Int
  | 0 => List.replicate k 0
  | y + 1 => (mrgR G row k y).set (gi G y).toNat (gi (mrgR G row k y) (gi G y) + gi row y)
def mrgM (L : List (List Int)) (G : List Int) : List (List Int) := L.map fun row => mrgR G row (gr L 0).length row.length
theorem mrgR_len (G row : List Int) (k : Nat) : ∀ y, (mrgR G row k y).length = k
  | 0 => by simp [mrgR]
  | y + 1 => by simp [mrgR, mrgR_len G row k y]
theorem mrgR_step (G row : List Int) (k : Nat) {y : Int} (h : 0 ≤ y) : (mrgR G row k y.toNat).set (gi G y).toNat (gi (mrgR G row k y.toNat) (gi G y) + gi row y) = mrgR G row k (y + 1).toNat := by
  rw [show (y + 1).toNat = y.toNat + 1 by omega, mrgR, show ((y.toNat : Nat) : Int) = y by omega]
theorem gi_set {xs : List Int} {i : Nat} {j : Int} {v : Int} (h : 0 ≤ j) (hi : i < xs.length) : gi (xs.set i v) j = if j.toNat = i then v else gi xs j := by
  unfold gi
  by_cases e : j.toNat = i
  · rw [if_pos e, e]; simp [List.getD, hi]
  · rw [if_neg e]; simp [List.getD, List.getElem?_set_ne (Ne.symm e)]
theorem mrgR_bd {G row : List Int} {k : Nat} {B : Int} (hG : ∀ y : Int, 0 ≤ y → y < row.length → 0 ≤ gi G y ∧ gi G y < k) (hb : ∀ y : Int, 0 ≤ y → y < row.length → 0 ≤ gi row y ∧ gi row y ≤ B) :
    ∀ y : Nat, y ≤ row.length → ∀ t : Int, 0 ≤ t → t < k → 0 ≤ gi (mrgR G row k y) t ∧ gi (mrgR G row k y) t ≤ y * B
  | 0, _, t, h0, h1 => by
    have e : gi (mrgR G row k 0) t = 0 := by
      simp only [mrgR, gi, List.getD]
      by_cases q : t.toNat < k
      · simp [q]
      · omega
    rw [e]; simp
  | y + 1, hy, t, h0, h1 => by
    have ih := mrgR_bd hG hb y (by omega)
    have g := hG y (by omega) (by omega)
    have b := hb y (by omega) (by omega)
    rw [mrgR, gi_set h0 (by rw [mrgR_len]; omega)]
    have e : ((y + 1 : Nat) : Int) * B = y * B + B := by rw [Int.natCast_add, Int.add_mul]; simp
    rw [e]
    split
    · have := ih (gi G y) g.1 g.2; omega
    · have := ih t h0 h1; have : 0 ≤ B := by omega
      omega
theorem mrgM_len (L : List (List Int)) (G : List Int) : (mrgM L G).length = L.length := by simp [mrgM]
theorem mrgM_gr {L : List (List Int)} {G : List Int} {x : Int} (h0 : 0 ≤ x) (h1 : x < L.length) : gr (mrgM L G) x = mrgR G (gr L x) (gr L 0).length (gr L x).length := by
  unfold mrgM gr
  have h : x.toNat < L.length := by omega
  simp [List.getD, h]
theorem tab0_drop {r c : Nat} {x : Int} (h0 : 0 ≤ x) (h1 : x < r) : (tabP r c fun _ _ => 0).drop x.toNat = List.replicate c 0 :: (tabP r c fun _ _ => 0).drop (x + 1).toNat := by
  have e : x.toNat < (tabP r c fun _ _ => 0).length := by rw [tabP_len]; omega
  rw [show (x + 1).toNat = x.toNat + 1 by omega, ← List.getElem_cons_drop e]
  congr 1
  simp only [tabP, List.getElem_map, List.getElem_range]
  rw [List.map_const', List.length_range]
theorem drop_gv {rv : List Value} {x : Int} (h0 : 0 ≤ x) (h1 : x < rv.length) : rv.drop x.toNat = gv rv x :: rv.drop (x + 1).toNat := by
  have e : x.toNat < rv.length := by omega
  rw [show (x + 1).toNat = x.toNat + 1 by omega, ← List.getElem_cons_drop e]
  congr 1
  simp [gv, List.getD, e]
theorem tabP_mem {r c : Nat} {p : Int → Int → Int} {l : List Int} (h : l ∈ tabP r c p) : l.length = c := by
  unfold tabP at h
  obtain ⟨x, _, rfl⟩ := List.mem_map.1 h
  simp
end Go.Proofs.YtbchkopkgpfkgaaGreatDoor

namespace Go.Proofs.YtbchkopkgpfkgaaGreatDoor
open Go Go.Vc
open Classical
theorem mrgR_el {G row : List Int} {k : Nat} : ∀ y : Nat, (∀ p : Nat, p < y → 0 ≤ gi G p ∧ gi G p < k) → ∀ t : Int, 0 ≤ t → t < k → gi (mrgR G row k y) t = sumN (fun p => if gi G p = t then gi row p else 0) y
  | 0, _, t, h0, h1 => by
    show gi (List.replicate k 0) t = 0
    unfold gi
    by_cases q : t.toNat < k
    · simp [List.getD, q]
    · omega
  | y + 1, hG, t, h0, h1 => by
    have ih := mrgR_el (G := G) (row := row) y (fun p hp => hG p (by omega))
    have g := hG y (by omega)
    show gi ((mrgR G row k y).set (gi G y).toNat (gi (mrgR G row k y) (gi G y) + gi row y)) t = sumN (fun p => if gi G p = t then gi row p else 0) y + (if gi G y = t then gi row y else 0)
    rw [gi_set h0 (by rw [mrgR_len]; omega)]
    by_cases e : gi G y = t
    · rw [if_pos (by omega), if_pos e, ← ih t h0 h1, e]
    · rw [if_neg (by omega), if_neg e, ih t h0 h1, Int.add_zero]
theorem sumN_pick {g : Nat → Int} {v : Int} {k : Nat} (h : 0 ≤ v) (h1 : v < k) : sumN (fun t => if v = (t : Int) then g t else 0) k = g v.toNat := by
  rw [sumN_one (x := v.toNat) (fun i _ hi => if_neg (by omega)), if_pos (by omega), if_pos (by omega)]
/-- Sums over the merged columns are sums over the columns. -/
theorem sumN_merge {G : List Int} {f : Nat → Int} {k n : Nat} (hG : ∀ p : Nat, p < n → 0 ≤ gi G p ∧ gi G p < k) : sumN (fun t => sumN (fun p => if gi G p = (t : Int) then f p else 0) n) k = sumN f n := by
  rw [sumN_comm (f := fun t p => if gi G p = (t : Int) then f p else 0)]
  exact sumN_congr fun p hp => sumN_pick (g := fun _ => f p) (hG p hp).1 (hG p hp).2
section
variable {L : List (List Int)} {G : List Int} (hc : Chn L) (hG : G.length = (gr L 0).length) (hr : ∀ y : Int, 0 ≤ y → y < G.length → 0 ≤ gi G y ∧ gi G y < (gr L 0).length)
include hc hG hr
theorem mrg_rg : ∀ p : Nat, p < wdt L → 0 ≤ gi G p ∧ gi G p < (wdt L : Nat) := fun p hp => by
  have h := hr p (by omega) (by rw [hG]; exact_mod_cast hp)
  rw [hc.wd] at h; exact h
theorem mrg_el {x t : Nat} (hx : x < L.length) (ht : t < wdt L) : ((mrgM L G).getD x []).getD t 0 = sumN (fun p => if gi G p = (t : Int) then (L.getD x []).getD p 0 else 0) (wdt L) := by
  have e := mrgM_gr (L := L) (G := G) (x := x) (by omega) (by omega)
  have e2 : (gr L (x : Int)).length = wdt L := by rw [hc.rl (by omega) (by omega)]; rfl
  have e3 := mrgR_el (G := G) (row := gr L (x : Int)) (k := (gr L 0).length) (wdt L) (mrg_rg hc hG hr) t (by omega) (by rw [hc.wd]; omega)
  rw [e2] at e
  have e4 : ((mrgM L G).getD x []).getD t 0 = gi (gr (mrgM L G) x) t := rfl
  rw [e4, e, e3]
  exact sumN_congr fun p _ => rfl
set_option linter.unusedSectionVars false in
theorem mrg_rlen {x : Nat} (hx : x < L.length) : ((mrgM L G).getD x []).length = wdt L := by
  have e := mrgM_gr (L := L) (G := G) (x := x) (by omega) (by omega)
  have e4 : (mrgM L G).getD x [] = gr (mrgM L G) x := rfl
  rw [e4, e, mrgR_len]; rfl
theorem mrg_wdt : wdt (mrgM L G) = wdt L := mrg_rlen hc hG hr hc.pos
theorem mrg_tot {x : Nat} (hx : x < L.length) : tot ((mrgM L G).getD x []) = tot (L.getD x []) := by
  unfold tot
  rw [mrg_rlen hc hG hr hx, (hc.row x hx).1, sumN_congr (fun t ht => mrg_el hc hG hr hx ht)]
  exact sumN_merge (mrg_rg hc hG hr)
theorem mrg_nn {x t : Nat} (hx : x < L.length) (ht : t < wdt L) : 0 ≤ ((mrgM L G).getD x []).getD t 0 := by
  rw [mrg_el hc hG hr hx ht]
  refine sumN_nn fun p hp => ?_
  show 0 ≤ if gi G p = (t : Int) then (L.getD x []).getD p 0 else 0
  split
  · exact hc.nn hx hp
  · exact Int.le_refl _
theorem mrg_chn : Chn (mrgM L G) := by
  have p0 : 0 < L.length := hc.pos
  refine ⟨by rw [mrgM_len]; exact hc.pos, by rw [mrgM_len]; exact hc.le, ?_, ?_, ?_, fun x hx => ?_⟩
  · rw [mrg_rlen hc hG hr p0]; exact hc.wpos
  · rw [mrg_rlen hc hG hr p0]; exact hc.wle
  · rw [mrg_tot hc hG hr p0]; exact hc.tpos
  · rw [mrgM_len] at hx
    refine ⟨by rw [mrg_rlen hc hG hr hx, mrg_rlen hc hG hr p0], ⟨fun i hi => ?_, ?_⟩, by rw [mrg_tot hc hG hr hx, mrg_tot hc hG hr p0]; exact (hc.row x hx).2.2⟩
    · rw [mrg_rlen hc hG hr hx] at hi; exact mrg_nn hc hG hr hx hi
    · rw [mrg_tot hc hG hr hx]; exact (hc.row x hx).2.1.2
theorem mrg_totC : totC (mrgM L G) = totC L := mrg_tot hc hG hr hc.pos
theorem mrg_cmax {t : Nat} (ht : t < wdt L) : cmaxF (mrgM L G) t ≤ sumN (fun p => if gi G p = (t : Int) then cmaxF L p else 0) (wdt L) := by
  unfold cmaxF
  refine maxN_le (sumN_nn fun p _ => ?_) fun x hx => ?_
  · show 0 ≤ if gi G p = (t : Int) then maxN (fun x => (L.getD x []).getD p 0) L.length else 0
    split
    · exact maxN_nn
    · exact Int.le_refl _
  rw [mrgM_len] at hx
  rw [mrg_el hc hG hr hx ht]
  refine sumN_le fun p _ => ?_
  split
  · exact maxN_el (f := fun x => (L.getD x []).getD p 0) hx
  · omega
/-- Merged, a channel's greatest entries add up to no more. -/
theorem mrg_tops : topsF (mrgM L G) ≤ topsF L := by
  unfold topsF
  rw [mrg_wdt hc hG hr]
  exact Int.le_trans (sumN_le fun t ht => mrg_cmax hc hG hr ht) (Int.le_of_eq (sumN_merge (mrg_rg hc hG hr)))
end
/-- How many of the first numbers have a property. -/
noncomputable def cntN (P : Int → Prop) : Nat → Int
  | 0 => 0
  | w + 1 => if P w then cntN P w + 1 else cntN P w
theorem cntN_bd (P : Int → Prop) : ∀ w : Nat, 0 ≤ cntN P w ∧ cntN P w ≤ w
  | 0 => by simp [cntN]
  | w + 1 => by
    have := cntN_bd P w
    simp only [cntN]; split <;> omega
theorem cntN_step {P : Int → Prop} {y : Int} (h : 0 ≤ y) : cntN P (y + 1).toNat = if P y then cntN P y.toNat + 1 else cntN P y.toNat := by
  rw [show (y + 1).toNat = y.toNat + 1 by omega, cntN, show ((y.toNat : Nat) : Int) = y by omega]
theorem cntN_le {P Q : Int → Prop} : ∀ {w : Nat}, (∀ i : Int, 0 ≤ i → i < w → P i → Q i) → cntN P w ≤ cntN Q w
  | 0, _ => Int.le_refl _
  | w + 1, h => by
    have ih := cntN_le (P := P) (Q := Q) (w := w) fun i a b => h i a (by omega)
    have hw := h w (by omega) (by omega)
    simp only [cntN]
    by_cases p : P w
    · rw [if_pos p, if_pos (hw p)]; omega
    · rw [if_neg p]; split <;> omega
theorem cntN_or1 {P : Int → Prop} {a : Int} : ∀ w : Nat, cntN (fun i => P i ∨ i = a) w ≤ cntN P w + (if 0 ≤ a ∧ a < w then 1 else 0)
  | 0 => by simp [cntN]; split <;> omega
  | w + 1 => by
    have ih := cntN_or1 (P := P) (a := a) w
    simp only [cntN]
    by_cases e : (w : Int) = a
    · rw [if_pos (Or.inr e), if_pos (show 0 ≤ a ∧ a < ((w + 1 : Nat) : Int) by omega)]
      rw [if_neg (show ¬ (0 ≤ a ∧ a < (w : Int)) by omega)] at ih
      split <;> omega
    · have e2 : (0 ≤ a ∧ a < ((w + 1 : Nat) : Int)) ↔ (0 ≤ a ∧ a < (w : Int)) := by omega
      simp only [e2]
      by_cases p : P w
      · rw [if_pos (Or.inl p), if_pos p]; omega
      · rw [if_neg (fun z => z.elim p e), if_neg p]; omega
/-- The values of a grouping are as many as its kinds. -/
theorem cnt_kinds (G : List Int) (w : Nat) : ∀ n : Nat, cntN (fun t => ∃ p : Int, 0 ≤ p ∧ p < n ∧ gi G p = t) w ≤ Mg.kindsN G n
  | 0 => by
    have : ∀ w : Nat, cntN (fun t => ∃ p : Int, 0 ≤ p ∧ p < ((0 : Nat) : Int) ∧ gi G p = t) w = 0 := by
      intro w
      induction w with
      | zero => rfl
      | succ w ih => simp only [cntN]; rw [if_neg (fun ⟨p, a, b, _⟩ => by omega)]; exact ih
    rw [this w]; exact Int.le_refl _
  | n + 1 => by
    have ih := cnt_kinds G w n
    have st := Mg.kindsN_step G (p := n) (by omega)
    rw [show ((n : Int) + 1).toNat = n + 1 by omega, show ((n : Nat) : Int).toNat = n by omega] at st
    rw [st]
    by_cases q : Mg.IsNew G n
    · rw [if_pos q]
      have h1 := cntN_le (w := w) (P := fun t => ∃ p : Int, 0 ≤ p ∧ p < ((n + 1 : Nat) : Int) ∧ gi G p = t) (Q := fun t => (∃ p : Int, 0 ≤ p ∧ p < n ∧ gi G p = t) ∨ t = gi G n) fun i _ _ ⟨p, a, b, c⟩ => by
        by_cases e : p = n
        · exact .inr (by rw [← c, e])
        · exact .inl ⟨p, a, by omega, c⟩
      have h2 := cntN_or1 (P := fun t => ∃ p : Int, 0 ≤ p ∧ p < n ∧ gi G p = t) (a := gi G n) w
      have h3 : (if 0 ≤ gi G n ∧ gi G n < (w : Int) then (1 : Int) else 0) ≤ 1 := by split <;> omega
      omega
    · rw [if_neg q]
      refine Int.le_trans (cntN_le fun i _ _ ⟨p, a, b, c⟩ => ?_) ih
      by_cases e : p = n
      · have : ∃ y : Int, 0 ≤ y ∧ y < n ∧ gi G y = gi G n := Classical.byContradiction fun z => q fun y y0 y1 e => z ⟨y, y0, y1, e⟩
        obtain ⟨y, y0, y1, e1⟩ := this
        exact ⟨y, y0, y1, by rw [e1, ← c, e]⟩
      · exact ⟨p, a, by omega, c⟩
/-- A column that is not zero. -/
def DcP (L : List (List Int)) (y : Int) : Prop := 0 < gcN (fun i => (gr (trn L) y).getD i 0) (gr (trn L) y).length
theorem gcN_zero {f : Nat → Int} : ∀ n, (∀ i, i < n → f i = 0) → gcN f n = 0
  | 0, _ => rfl
  | n + 1, h => by
    show ((Int.gcd (gcN f n) (f n) : Nat) : Int) = 0
    rw [gcN_zero n (fun i hi => h i (by omega)), h n (by omega)]; rfl
theorem sumN_cnt {P : Int → Prop} {B : Int} : ∀ w : Nat, sumN (fun t => if P t then B else 0) w = cntN P w * B
  | 0 => by simp [sumN, cntN]
  | w + 1 => by
    show sumN (fun t => if P t then B else 0) w + (if P w then B else 0) = cntN P (w + 1) * B
    rw [sumN_cnt w]
    simp only [cntN]
    split
    · rw [Int.add_mul, Int.one_mul]
    · rw [Int.add_zero]
section
variable {L : List (List Int)} {G : List Int} (hc : Chn L) (hG : G.length = (gr L 0).length) (hr : ∀ y : Int, 0 ≤ y → y < G.length → 0 ≤ gi G y ∧ gi G y < (gr L 0).length)
include hc hG hr
theorem mrg_hit {x t : Nat} (hx : x < L.length) (ht : t < wdt L) (h : ((mrgM L G).getD x []).getD t 0 ≠ 0) : ∃ p : Int, 0 ≤ p ∧ p < G.length ∧ gi G p = t := by
  refine Classical.byContradiction fun z => h ?_
  rw [mrg_el hc hG hr hx ht, sumN_congr (g := fun _ => 0) (fun p hp => if_neg fun e => z ⟨p, by omega, by rw [hG]; exact_mod_cast hp, e⟩), sumN_zero]
theorem mrg_dst {y : Int} (y0 : 0 ≤ y) (y1 : y < (wdt L : Nat)) (h : DcP (mrgM L G) y) : ∃ p : Int, 0 ≤ p ∧ p < G.length ∧ gi G p = y := by
  refine Classical.byContradiction fun z => ?_
  have hw := mrg_wdt hc hG hr
  unfold DcP at h
  rw [trn_gr y0 (by rw [hw]; exact y1)] at h
  rw [gcN_zero] at h
  · omega
  · intro i hi
    refine Classical.byContradiction fun e => z ?_
    have hi2 : i < L.length := by simpa [clmn, mrgM_len] using hi
    have e2 : (clmn (mrgM L G) y.toNat).getD i 0 = ((mrgM L G).getD i []).getD y.toNat 0 := by
      unfold clmn; rw [List.getD_eq_getElem?_getD]; simp [mrgM_len, hi2]
    obtain ⟨p, a, b, c⟩ := mrg_hit hc hG hr (t := y.toNat) hi2 (by omega) (by rw [← e2]; exact e)
    exact ⟨p, a, b, by rw [c]; omega⟩
theorem mrg_distinct : cntN (DcP (mrgM L G)) (wdt L) ≤ Mg.kindsN G G.length :=
  Int.le_trans (cntN_le fun y a b h => mrg_dst hc hG hr a b h) (cnt_kinds G (wdt L) G.length)
theorem mrg_topk {k : Int} (hk : Mg.kindsN G G.length ≤ k) : topsF (mrgM L G) ≤ k * totC (mrgM L G) := by
  rw [mrg_totC hc hG hr]
  have ht : 1 ≤ totC L := hc.tpos
  have h1 : topsF (mrgM L G) ≤ sumN (fun t => if ∃ p : Int, 0 ≤ p ∧ p < G.length ∧ gi G p = (t : Int) then totC L else 0) (wdt L) := by
    unfold topsF
    rw [mrg_wdt hc hG hr]
    refine sumN_le fun t htt => ?_
    split
    · refine maxN_le (by omega) fun x hx => ?_
      have := (mrg_chn hc hG hr).ele (x := x) (y := t) hx (by rw [mrg_wdt hc hG hr]; exact htt)
      rw [mrg_totC hc hG hr] at this; exact this
    · rename_i z
      refine maxN_le (Int.le_refl _) fun x hx => ?_
      rw [mrgM_len] at hx
      refine Classical.byContradiction fun e => z (mrg_hit hc hG hr hx htt (by omega))
  rw [sumN_cnt (P := fun t => ∃ p : Int, 0 ≤ p ∧ p < G.length ∧ gi G p = t)] at h1
  have h2 := cnt_kinds G (wdt L) G.length
  exact Int.le_trans h1 (Int.mul_le_mul_of_nonneg_right (by omega) (by omega))
end
theorem fr_lek {a b k : Int} (hb : 1 ≤ b) (h : a ≤ k * b) : frN a b ≤ k * frD a b := by
  have g := (gcd_pos (n := a) hb).1
  exact Int.le_of_mul_le_mul_right (show frN a b * (Int.gcd a b : Int) ≤ k * frD a b * (Int.gcd a b : Int) by rw [Int.mul_assoc, fr_mulN, fr_mulD]; exact h) (show (0 : Int) < (Int.gcd a b : Int) by omega)
end Go.Proofs.YtbchkopkgpfkgaaGreatDoor

namespace Go.Vc
open Go
/-- The bits that two numbers share. -/
def andI (m n : Int) : Int := IntKind.i64.wrap ((BitVec.ofInt 64 m &&& BitVec.ofInt 64 n).toNat : Int)
theorem andI_bd {m n : Int} (h0 : 0 ≤ n) (h1 : n ≤ 4611686018427387903) : 0 ≤ andI m n ∧ andI m n ≤ n := by
  have e : (BitVec.ofInt 64 n).toNat = n.toNat := by rw [BitVec.toNat_ofInt]; omega
  have h : (BitVec.ofInt 64 m &&& BitVec.ofInt 64 n).toNat ≤ n.toNat := by
    rw [BitVec.toNat_and, e]; exact Nat.and_le_right
  unfold andI
  rw [IntWalk.i64_in _ (by omega)]
  omega
section
variable {P : Program} {C : Cx} {env : Env} {V : HV} {σ : Res} {dst : Option Nat} {x y : Operand} {t T T' : TypeId} {pos : String} {af : Array Edge} {g : Option (Nat × Bool)} {m n : Int}
theorem qv_andi (hx : ev env x = .int .i64 m) (hy : ev env y = .int .i64 n) : QV P C ⟨dst, .binOp .and T x y T', t, pos, af, g⟩ env V σ (.int .i64 (andI m n)) := qv_run fun w _ => by
  have e' : (Op.intBits .and .i64 m n).run P w = .ok (.int .i64 (andI m n)) w := rfl
  simp [execOp, hx, hy, eqGuard, binOp, e']
end
end Go.Vc
namespace Go.Proofs.YtbchkopkgpfkgaaGreatDoor
open Go Go.Vc
open Classical
/-- A loss. -/
def lsE (n : Nat) (Z : List Int) (i j : Int) : Int := if i = j then 0 else andI (gi Z ((i * n + j) % Z.length)) 1023
def lsM (n : Nat) (Z : List Int) : List (List Int) := tabP n n (lsE n Z)
theorem tabP_gr {r c : Nat} {p : Int → Int → Int} {x : Int} (h0 : 0 ≤ x) (h1 : x < r) : gr (tabP r c p) x = (List.range c).map fun y : Nat => p x y := by
  unfold gr tabP
  have h : x.toNat < r := by omega
  simp [List.getD, h, show ((x.toNat : Nat) : Int) = x by omega]
theorem tabP_gi {r c : Nat} {p : Int → Int → Int} {x y : Int} (h0 : 0 ≤ x) (h1 : x < r) (y0 : 0 ≤ y) (y1 : y < c) : gi (gr (tabP r c p) x) y = p x y := by
  rw [tabP_gr h0 h1]
  have h : y.toNat < c := by omega
  unfold gi
  simp [List.getD, h, show ((y.toNat : Nat) : Int) = y by omega]
theorem lsE_bd (n : Nat) (Z : List Int) (i j : Int) : 0 ≤ lsE n Z i j ∧ lsE n Z i j ≤ 1023 := by
  unfold lsE
  split
  · omega
  · exact andI_bd (by omega) (by omega)
theorem lsM_len (n : Nat) (Z : List Int) : (lsM n Z).length = n := tabP_len _ _ _
theorem lsM_good {n : Nat} (Z : List Int) (h1 : 1 ≤ n) (h2 : n ≤ 12) : Mg.Good (lsM n Z) := by
  have hl := lsM_len n Z
  refine ⟨by omega, by omega, fun i hi => ?_, fun i j hi hj => ?_, fun i hi => ?_⟩
  · have e := tabP_gr (r := n) (c := n) (p := lsE n Z) (x := i) (by omega) (by omega)
    have e2 : (lsM n Z).getD i [] = gr (tabP n n (lsE n Z)) i := rfl
    rw [e2, e, hl]; simp
  · have e := tabP_gi (r := n) (c := n) (p := lsE n Z) (x := i) (y := j) (by omega) (by omega) (by omega) (by omega)
    have e2 : ((lsM n Z).getD i []).getD j 0 = gi (gr (tabP n n (lsE n Z)) i) j := rfl
    have := lsE_bd n Z i j
    rw [e2, e]; omega
  · have e := tabP_gi (r := n) (c := n) (p := lsE n Z) (x := i) (y := i) (by omega) (by omega) (by omega) (by omega)
    have e2 : ((lsM n Z).getD i []).getD i 0 = gi (gr (tabP n n (lsE n Z)) i) i := rfl
    rw [e2, e]; simp [lsE]
/-- Whether the rival's output i joins the one before it. -/
def rvJ (Z : List Int) (i : Int) : Prop := 0 < i ∧ andI (gi Z (i % Z.length)) 16 ≠ 0
/-- The rival grouping: its first m outputs. -/
noncomputable def rvG (Z : List Int) : Nat → List Int
  | 0 => []
  | m + 1 => rvG Z m ++ [if rvJ Z m then gi (rvG Z m) ((m : Int) - 1) else (m : Int)]
noncomputable def rvR (Z : List Int) : Nat → Int
  | 0 => 0
  | m + 1 => if rvJ Z m then rvR Z m else rvR Z m + 1
theorem rvR_1 {Z : List Int} {q : Int} (h0 : 0 ≤ q) (h : rvJ Z q) : rvR Z q.toNat = rvR Z (q + 1).toNat := by
  rw [show (q + 1).toNat = q.toNat + 1 by omega]
  simp only [rvR]
  rw [show ((q.toNat : Nat) : Int) = q by omega, if_pos h]
theorem rvR_0 {Z : List Int} {q : Int} (h0 : 0 ≤ q) (h : ¬ rvJ Z q) : rvR Z q.toNat + 1 = rvR Z (q + 1).toNat := by
  rw [show (q + 1).toNat = q.toNat + 1 by omega]
  simp only [rvR]
  rw [show ((q.toNat : Nat) : Int) = q by omega, if_neg h]
theorem rvG_len (Z : List Int) : ∀ m, (rvG Z m).length = m
  | 0 => rfl
  | m + 1 => by simp [rvG, rvG_len Z m]
theorem rvR_bd (Z : List Int) : ∀ m : Nat, 0 ≤ rvR Z m ∧ rvR Z m ≤ m
  | 0 => by simp [rvR]
  | m + 1 => by
    have := rvR_bd Z m
    simp only [rvR]; split <;> omega
theorem rvG_old (Z : List Int) {m : Nat} {p : Int} (h0 : 0 ≤ p) (h1 : p < m) : gi (rvG Z (m + 1)) p = gi (rvG Z m) p := Mg.gi_left h0 (by rw [rvG_len]; exact h1)
theorem rvG_new (Z : List Int) (m : Nat) : gi (rvG Z (m + 1)) m = if rvJ Z m then gi (rvG Z m) ((m : Int) - 1) else (m : Int) := by
  unfold gi
  simp only [rvG, Int.toNat_natCast]
  rw [List.getD_eq_getElem?_getD, List.getElem?_append_right (by rw [rvG_len]; omega), rvG_len]
  simp
/-- What a rival grouping is. -/
theorem rvG_props (Z : List Int) : ∀ m : Nat, (∀ p : Int, 0 ≤ p → p < m → 0 ≤ gi (rvG Z m) p ∧ gi (rvG Z m) p ≤ p ∧ gi (rvG Z m) (gi (rvG Z m) p) = gi (rvG Z m) p) ∧
    Mg.runsN (rvG Z m) m = rvR Z m ∧ Mg.kindsN (rvG Z m) m = rvR Z m
  | 0 => ⟨fun p a b => by omega, rfl, rfl⟩
  | m + 1 => by
    obtain ⟨h1, h2, h3⟩ := rvG_props Z m
    have ho : ∀ p : Int, 0 ≤ p → p < m → gi (rvG Z (m + 1)) p = gi (rvG Z m) p := fun p a b => rvG_old Z a b
    have hn := rvG_new Z m
    have e1 : Mg.runsN (rvG Z (m + 1)) m = rvR Z m := by rw [Mg.runsN_congr (B := rvG Z m) m ho]; exact h2
    have e2 : Mg.kindsN (rvG Z (m + 1)) m = rvR Z m := by rw [Mg.kindsN_congr (B := rvG Z m) m ho]; exact h3
    refine ⟨fun p a b => ?_, ?_, ?_⟩
    · by_cases e : p < m
      · have q := h1 p a e
        rw [ho p a e, ho _ q.1 (by omega)]; exact q
      · obtain rfl : p = m := by omega
        rw [hn]
        by_cases j : rvJ Z m
        · have q := h1 ((m : Int) - 1) (by have := j.1; omega) (by omega)
          rw [if_pos j, ho _ q.1 (by omega)]
          exact ⟨q.1, by omega, q.2.2⟩
        · rw [if_neg j]; exact ⟨by omega, by omega, by rw [hn, if_neg j]⟩
    · show (if (m : Int) = 0 ∨ gi (rvG Z (m + 1)) m ≠ gi (rvG Z (m + 1)) ((m : Int) - 1) then Mg.runsN (rvG Z (m + 1)) m + 1 else Mg.runsN (rvG Z (m + 1)) m) = if rvJ Z m then rvR Z m else rvR Z m + 1
      rw [e1]
      by_cases j : rvJ Z m
      · rw [if_pos j, if_neg]
        intro z
        rw [ho ((m : Int) - 1) (by have := j.1; omega) (by omega), hn, if_pos j] at z
        rcases z with z | z
        · have := j.1; omega
        · exact z rfl
      · rw [if_neg j, if_pos]
        by_cases z : (m : Int) = 0
        · exact .inl z
        · refine .inr ?_
          have q := h1 ((m : Int) - 1) (by omega) (by omega)
          rw [hn, if_neg j, ho ((m : Int) - 1) (by omega) (by omega)]; omega
    · show (if Mg.IsNew (rvG Z (m + 1)) m then Mg.kindsN (rvG Z (m + 1)) m + 1 else Mg.kindsN (rvG Z (m + 1)) m) = if rvJ Z m then rvR Z m else rvR Z m + 1
      rw [e2]
      by_cases j : rvJ Z m
      · rw [if_pos j, if_neg]
        intro z
        refine z ((m : Int) - 1) (by have := j.1; omega) (by omega) ?_
        rw [hn, if_pos j, ho ((m : Int) - 1) (by have := j.1; omega) (by omega)]
      · rw [if_neg j, if_pos]
        intro y y0 y1
        have q := h1 y y0 y1
        rw [hn, if_neg j, ho y y0 y1]; omega
theorem rvG_gE {n : Nat} {L : List (List Int)} (Z : List Int) (hl : L.length = n) : Mg.gE L (rvG Z n) = 0 := by
  have h := (rvG_props Z n).1
  have e := rvG_len Z n
  refine Mg.gE_0 (by omega) ?_ ?_
  · rintro ⟨p, a, b, c⟩
    have := h p a (by omega)
    omega
  · rintro ⟨p, a, b, c⟩
    exact c (h p a (by omega)).2.2
/-- No rival of at most k groups loses less. -/
theorem rival_law {n : Nat} (Z : List Int) {k : Int} (h1 : 1 ≤ n) (h2 : n ≤ 12) (k1 : 1 ≤ k) (k2 : k ≤ 32) (hk : rvR Z n ≤ k) :
    Mg.oN (lsM n Z) k ≤ Mg.csum (lsM n Z) (rvG Z n) (rvG Z n).length := by
  have hg := lsM_good Z h1 h2
  obtain ⟨_, _, _, _, hp⟩ := Mg.ord_final (Mg.oE0 hg.chk ⟨k1, k2⟩)
  obtain ⟨_, q1, q2⟩ := rvG_props Z n
  have e := rvG_len Z n
  exact Mg.proves_bound hp (rvG_gE Z (lsM_len n Z)) (by rw [e, q1, q2]) (by rw [e, q2]; exact hk)
theorem rwP_same (p : Int → Int) (n : Nat) {y : Int} (h : 0 ≤ y) (h0 : p y = 0) : rwP p n y.toNat = rwP p n (y + 1).toNat := by
  unfold rwP
  apply List.map_congr_left
  intro j _
  by_cases e : j = y.toNat
  · subst e; rw [if_neg (by omega), if_pos (by omega), show ((y.toNat : Nat) : Int) = y by omega, h0]
  · by_cases e2 : j < y.toNat
    · rw [if_pos e2, if_pos (by omega)]
    · rw [if_neg e2, if_neg (by omega)]
theorem lsM_gr {n : Nat} {Z : List Int} {i : Int} (h0 : 0 ≤ i) (h1 : i < n) : gr (lsM n Z) i = rwP (lsE n Z i) n n := by
  have e := tabP_gr (r := n) (c := n) (p := lsE n Z) h0 h1
  rw [rwP_end _ _ (Nat.le_refl _)]; exact e
/-- The rival as far as it is written, and zeros behind. -/
noncomputable def rvT (Z : List Int) (n i : Nat) : List Int := rvG Z i ++ List.replicate (n - i) 0
theorem rvT_len {Z : List Int} {n i : Nat} (h : i ≤ n) : (rvT Z n i).length = n := by
  unfold rvT; rw [List.length_append, rvG_len, List.length_replicate]; omega
theorem rvT_0 (Z : List Int) (n : Nat) : List.replicate n (Value.int .i64 0) = (rvT Z n 0).map (Value.int .i64) := by
  unfold rvT; simp [rvG]
theorem rvT_end (Z : List Int) (n : Nat) : rvT Z n n = rvG Z n := by unfold rvT; simp
theorem rvT_set {Z : List Int} {n : Nat} {i : Int} {v : Int} (h0 : 0 ≤ i) (h1 : i < n) (hv : v = if rvJ Z i then gi (rvG Z i.toNat) (i - 1) else i) : (rvT Z n i.toNat).set i.toNat v = rvT Z n (i + 1).toNat := by
  unfold rvT
  rw [show (i + 1).toNat = i.toNat + 1 by omega, List.set_append_right _ _ (by rw [rvG_len]; exact Nat.le_refl _), rvG_len, show n - i.toNat = (n - (i.toNat + 1)) + 1 by omega, List.replicate_succ, Nat.sub_self, List.set_cons_zero]
  simp only [rvG]
  rw [show ((i.toNat : Nat) : Int) = i by omega, ← hv, List.append_assoc]; rfl
theorem rvT_gi {Z : List Int} {n : Nat} {i p : Int} (h0 : 0 ≤ p) (h1 : p < i) : gi (rvT Z n i.toNat) p = gi (rvG Z i.toNat) p := Mg.gi_left h0 (by rw [rvG_len]; omega)
end Go.Proofs.YtbchkopkgpfkgaaGreatDoor

namespace Go.Proofs.YtbchkopkgpfkgaaGreatDoor
open Go Go.Vc
open Classical
def tF1 : Tm := .mk 24 0 []
def vF1 : Vr := ⟨⟨#[120]⟩, 1, 0, 1, 0⟩
def sF1 : St := .mk 1 0 0 0 tF1 [] [] []
def F1 : Fl := ⟨[vF1], [], [sF1]⟩
theorem F1_vs : VarsOk F1.vs where
  each i a b := by
    obtain rfl := one_i a b
    refine ⟨⟨by decide, fun i a b => ?_⟩, fun j a b => by omega, by show ¬ ((1 : Int) ≠ 0 ∧ (1 : Int) ≠ 1 ∧ (1 : Int) ≠ 2 ∧ (1 : Int) ≠ 3); omega, by show (0 : Int) ≤ 1 ∧ -1048576 ≤ (0 : Int) ∧ (1 : Int) ≤ 1048576; omega, by show ¬ (((1 : Int) = 0 ∧ ((0 : Int) < 0 ∨ (1 : Int) < 0)) ∨ ((1 : Int) ≠ 0 ∧ (0 : Int) ≠ 0)); omega⟩
    have : i = 0 := by have : i < ((1 : Nat) : Int) := b; omega
    subst this; exact .inl (by unfold lett; decide)
  s1 := by decide
  s2 := by decide
  s3 := by decide
theorem F1_td : tds F1.bd := by
  simp [F1, sF1, tds, St.td, tF1]
  decide
theorem F1_valid : Valid F1 where
  sz := ⟨by decide, fun i a b => absurd b (by show ¬ i < ((0 : Nat) : Int); omega), by decide, by decide, F1_td⟩
  vs := F1_vs
  hs i a b := absurd b (by show ¬ i < ((0 : Nat) : Int); omega)
  bd := by
    refine ⟨⟨⟨?_, ?_, ?_, ?_⟩, trivial, trivial⟩, trivial⟩
    · unfold shpP
      rw [if_neg (by decide), if_pos (by decide)]
      exact ⟨⟨⟨⟨rfl, rfl⟩, rfl⟩, rfl⟩, rfl⟩
    · unfold nmBad limC; decide
    · unfold bdBad; decide
    · refine ⟨⟨?_, ?_, trivial⟩, trivial, ?_⟩
      · unfold kBad knR; decide
      · unfold nBad; decide
      · unfold wiM; decide
  uS := by decide
  uO := by decide
  uT := by decide
theorem F1_fl : vfl F1.vs 1 = [vF1] ∧ vfl F1.vs 2 = [] ∧ vfl F1.vs 3 = [] := ⟨rfl, rfl, rfl⟩
theorem F1_oK (x : Nat) (h : x < 2) : oK F1 [] false x 0 = ([(x : Int)], 0) := by
  rcases (show x = 0 ∨ x = 1 by omega) with rfl | rfl <;> rfl
theorem F1_cls : (clsK (fun x : Nat => keyO (oK F1 [] false x 0)) 2).length = 2 := by
  have e1 : clsK (fun x : Nat => keyO (oK F1 [] false x 0)) 1 = [keyO (oK F1 [] false ((0 : Nat) : Int) 0)] := clsK_new (by simp [clsK])
  have e2 : clsK (fun x : Nat => keyO (oK F1 [] false x 0)) 2 = [keyO (oK F1 [] false ((0 : Nat) : Int) 0), keyO (oK F1 [] false ((1 : Nat) : Int) 0)] := by
    rw [show 2 = 1 + 1 from rfl, clsK_new (by rw [e1]; show keyO (oK F1 [] false ((1 : Nat) : Int) 0) ∉ _; rw [F1_oK 0 (by omega), F1_oK 1 (by omega), key0, key1]; exact fun h => key01 (List.mem_singleton.1 h).symm), e1]; rfl
  rw [e2]; rfl
theorem F1_rows {A : List Ob} {d : List Int} {f : ByteArray → Option Int} {g : Int × Int → Option Int} (hch : ChI (oK F1 [] false) 1 2 0 A f g) (hd : d.Perm (iota A.length)) (hs : Srt (fun x y => cmO (ob A x) (ob A y)) d) (hA : A.length = 2) :
    gr (chM (oK F1 [] false) 2 1 A d) 0 = [1, 0] ∧ gr (chM (oK F1 [] false) 2 1 A d) 1 = [0, 1] := by
  have hl : d.length = 2 := by rw [hd.length_eq, hA]; rfl
  obtain ⟨a, b, rfl⟩ : ∃ a b, d = [a, b] := by
    match d, hl with
    | [a, b], _ => exact ⟨a, b, rfl⟩
  have ha := perm_in hd (y := 0) (by omega) (by omega)
  have hb := perm_in hd (y := 1) (by omega) (by omega)
  have ha : 0 ≤ a ∧ a < A.length := ha
  have hb : 0 ≤ b ∧ b < A.length := hb
  have hab : a ≠ b := by
    have := hd.nodup_iff.2 (by rw [hA]; decide)
    simpa using this
  have h := hs 0 1 (by omega) (by simp)
  have h : ¬ cmO (ob A b) (ob A a) < 0 := h
  have one : ∀ j : Int, 0 ≤ j → j < A.length → ob A j = ([((0 : Nat) : Int)], 0) ∨ ob A j = ([((1 : Nat) : Int)], 0) := fun j j0 j1 => by
    obtain ⟨s', r', hp, e⟩ := hch.src j j0 j1
    obtain ⟨p1, p2, p3, p4⟩ := hp
    have hr : r' = 0 := by omega
    subst hr
    rcases (show s' = 0 ∨ s' = 1 by omega) with rfl | rfl
    · left; rw [e]; exact F1_oK 0 (by omega)
    · right; rw [e]; exact F1_oK 1 (by omega)
  have dif : ob A a ≠ ob A b := fun e => by
    have q1 := hch.hf2 a ha.1 ha.2
    have q2 := hch.hf2 b hb.1 hb.2
    rw [e, q2] at q1
    exact hab (Option.some.inj q1).symm
  have ord : ob A a = ([((0 : Nat) : Int)], 0) ∧ ob A b = ([((1 : Nat) : Int)], 0) := by
    rcases one a ha.1 ha.2 with e | e <;> rcases one b hb.1 hb.2 with e' | e'
    · exact absurd (e.trans e'.symm) dif
    · exact ⟨e, e'⟩
    · rw [e, e'] at h; exact absurd (by decide) h
    · exact absurd (e.trans e'.symm) dif
  have k1 : ∀ s : Int, ∀ k, cntK (oK F1 [] false) s k (Int.toNat 1) = if keyO (oK F1 [] false s 0) = k then 1 else 0 := fun s k => by
    show cntK (oK F1 [] false) s k 1 = _
    simp [cntK]
  constructor
  · rw [chM_gr (by omega) (by omega)]
    simp only [rowM, List.map_cons, List.map_nil]
    rw [k1, k1, ord.1, ord.2, show oK F1 [] false 0 0 = ([((0 : Nat) : Int)], 0) from F1_oK 0 (by omega), if_pos rfl, if_neg (by rw [key0, key1]; exact key01)]
  · rw [chM_gr (by omega) (by omega)]
    simp only [rowM, List.map_cons, List.map_nil]
    rw [k1, k1, ord.1, ord.2, show oK F1 [] false 1 0 = ([((1 : Nat) : Int)], 0) from F1_oK 1 (by omega), if_pos rfl, if_neg (by rw [key0, key1]; exact key01.symm)]
theorem F1_fls {V : HV} {b1 b3 : Nat} (h1 : Cells V b1 [.string ⟨#[120]⟩, .int .i64 1, .int .i64 0, .int .i64 1, .int .i64 0])
    (h3 : Cells V b3 [.int .i64 1, .int .i64 0, .int .i64 0, .int .i64 0, .int .i64 24, .int .i64 0, nilV, nilV, nilV, nilV]) : Fls V (.slice (some ⟨b1, 0, none⟩) 1 1) nilV (.slice (some ⟨b3, 0, none⟩) 1 1) F1 where
  v := cells_sls h1 rfl (Nat.le_refl _) (by omega)
  h := ⟨[], SlS.nil, fun i a b => absurd b (by show ¬ i < ((0 : Nat) : Int); omega)⟩
  b := by
    have one : ∀ i : Int, 0 ≤ i → i < ([sF1].length : Nat) → i = 0 := fun i a b => by simp at b; omega
    refine .mk [nilV] [nilV] [nilV] [nilV] (cells_sls h3 rfl (Nat.le_refl _) (by omega)) (fun i a b => ?_) (fun i a b => ?_) (fun i a b => ?_) (fun i a b => ?_)
    · obtain rfl := one i a b; exact Tms.none
    · obtain rfl := one i a b; exact Sts.none
    · obtain rfl := one i a b; exact Sts.none
    · obtain rfl := one i a b; exact Ints.nil
/-- Its channel. -/
def L1 : List (List Int) := [[1, 0], [0, 1]]
def P1 : List (List Int) := [[1, 0, 0, 0], [0, 0, 0, 1]]
theorem L1_chn : Chn L1 := by
  refine ⟨by decide, by decide, by decide, by decide, by decide, fun x hx => ?_⟩
  have hx : x < 2 := hx
  rcases (show x = 0 ∨ x = 1 by omega) with rfl | rfl
  · refine ⟨rfl, ⟨fun i hi => ?_, by decide⟩, rfl⟩
    have hi : i < 2 := hi
    rcases (show i = 0 ∨ i = 1 by omega) with rfl | rfl <;> decide
  · refine ⟨rfl, ⟨fun i hi => ?_, by decide⟩, rfl⟩
    have hi : i < 2 := hi
    rcases (show i = 0 ∨ i = 1 by omega) with rfl | rfl <;> decide
theorem F1_ch {A : List Ob} {d : List Int} {f : ByteArray → Option Int} {g : Int × Int → Option Int} (hch : ChI (oK F1 [] false) 1 2 0 A f g) (hd : d.Perm (iota A.length)) (hs : Srt (fun x y => cmO (ob A x) (ob A y)) d) (hA : A.length = 2) :
    chM (oK F1 [] false) 2 1 A d = L1 := by
  obtain ⟨h0, h1⟩ := F1_rows hch hd hs hA
  have hl : (chM (oK F1 [] false) 2 1 A d).length = 2 := by rw [chM_len]; rfl
  match e : chM (oK F1 [] false) 2 1 A d, hl with
  | [a, b], _ =>
    rw [e] at h0 h1
    have h0 : a = [1, 0] := h0
    have h1 : b = [0, 1] := h1
    rw [h0, h1]; rfl
end Go.Proofs.YtbchkopkgpfkgaaGreatDoor
