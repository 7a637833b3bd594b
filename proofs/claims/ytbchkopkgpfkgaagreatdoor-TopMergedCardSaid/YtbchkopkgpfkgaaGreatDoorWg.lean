import Derived.Test.YtbchkopkgpfkgaaGreatDoorWa
/- Merging: what the parts compute, and its laws. No program in sight. -/
/- Plain functions for merging: what the program's parts compute. No program in sight. -/
namespace Go.Proofs.YtbchkopkgpfkgaaGreatDoor.Mg
open Go.Vc

/-- The sum of column r over the rows h, h+1, .. (n of them). -/
def wsum (L : List (List Int)) (r h : Nat) : Nat → Int
  | 0 => 0
  | n + 1 => wsum L r h n + (L.getD (h + n) []).getD r 0

/-- A valid table of losses. -/
structure Good (L : List (List Int)) : Prop where
  pos : 1 ≤ L.length
  le : L.length ≤ 32
  sq : ∀ i : Nat, i < L.length → (L.getD i []).length = L.length
  rng : ∀ i j : Nat, i < L.length → j < L.length → 0 ≤ (L.getD i []).getD j 0 ∧ (L.getD i []).getD j 0 ≤ 1048576
  diag : ∀ i : Nat, i < L.length → (L.getD i []).getD i 0 = 0

theorem wsum_bd {L : List (List Int)} (g : Good L) {r h : Nat} (hr : r < L.length) : ∀ n, h + n ≤ L.length → 0 ≤ wsum L r h n ∧ wsum L r h n ≤ n * 1048576
  | 0, _ => by simp [wsum]
  | n + 1, hn => by
    have ih := wsum_bd g (h := h) hr n (by omega)
    have := g.rng (h + n) r (by omega) hr
    simp only [wsum]; omega

/-- The least cost of the rows h .. i-1 as one group, of the first m reports. -/
def ivTo (L : List (List Int)) (h i : Nat) : Nat → Int
  | 0 => 0
  | m + 1 => if m = 0 ∨ wsum L (h + m) h (i - h) < ivTo L h i m then wsum L (h + m) h (i - h) else ivTo L h i m

theorem ivTo_bd {L : List (List Int)} (g : Good L) {h i : Nat} (hi : i ≤ L.length) : ∀ m, h + m ≤ i → 0 ≤ ivTo L h i m ∧ ivTo L h i m ≤ 33554432
  | 0, _ => by simp [ivTo]
  | m + 1, hm => by
    have ih := ivTo_bd g (h := h) hi m (by omega)
    have := wsum_bd g (r := h + m) (h := h) (by omega) (i - h) (by omega)
    have := g.le
    simp only [ivTo]; split <;> omega

theorem ivTo_step (L : List (List Int)) {h i r : Int} (h0 : 0 ≤ h) (h1 : h ≤ r) (_h2 : r < i) : ivTo L h.toNat i.toNat (r + 1 - h).toNat =
    if r = h ∨ wsum L r.toNat h.toNat (i - h).toNat < ivTo L h.toNat i.toNat (r - h).toNat then wsum L r.toNat h.toNat (i - h).toNat else ivTo L h.toNat i.toNat (r - h).toNat := by
  rw [show (r + 1 - h).toNat = (r - h).toNat + 1 by omega, ivTo, show h.toNat + (r - h).toNat = r.toNat by omega, show i.toNat - h.toNat = (i - h).toNat by omega]
  congr 1
  rw [show ((r - h).toNat = 0) = (r = h) from propext ⟨fun _ => by omega, fun _ => by omega⟩]

theorem Good.row {L : List (List Int)} (g : Good L) (i : Int) (h0 : 0 ≤ i) (h1 : i < L.length) : (gr L i).length = L.length := g.sq i.toNat (by omega)
theorem Good.el {L : List (List Int)} (g : Good L) (i j : Int) (h0 : 0 ≤ i) (h1 : i < L.length) (h2 : 0 ≤ j) (h3 : j < L.length) : 0 ≤ gi (gr L i) j ∧ gi (gr L i) j ≤ 1048576 := g.rng i.toNat j.toNat (by omega) (by omega)

/-- A number out of range, or not 0 on the diagonal. -/
def Bad (L : List (List Int)) (i j : Int) : Prop := gi (gr L i) j < 0 ∨ 1048576 < gi (gr L i) j ∨ (i = j ∧ gi (gr L i) j ≠ 0)

def Ragged (L : List (List Int)) : Prop := ∃ i : Int, 0 ≤ i ∧ i < L.length ∧ (gr L i).length ≠ L.length
def Spoilt (L : List (List Int)) : Prop := ∃ i j : Int, 0 ≤ i ∧ i < L.length ∧ 0 ≤ j ∧ j < L.length ∧ Bad L i j

open Classical in
/-- The code of a table of losses. -/
noncomputable def chk (L : List (List Int)) : Int :=
  if L.length < 1 then 1 else if 32 < L.length then 4 else if Ragged L then 2 else if Spoilt L then 3 else 0

theorem chk1 {L : List (List Int)} (h : (L.length : Int) < 1) : chk L = 1 := by unfold chk; rw [if_pos (by omega)]
theorem chk4 {L : List (List Int)} (h : (32 : Int) < L.length) : chk L = 4 := by unfold chk; rw [if_neg (by omega), if_pos (by omega)]
theorem chk2 {L : List (List Int)} (h1 : ¬ (L.length : Int) < 1) (h2 : ¬ (32 : Int) < L.length) (h : Ragged L) : chk L = 2 := by unfold chk; rw [if_neg (by omega), if_neg (by omega), if_pos h]
theorem chk3 {L : List (List Int)} (h1 : ¬ (L.length : Int) < 1) (h2 : ¬ (32 : Int) < L.length) (h3 : ¬ Ragged L) (h : Spoilt L) : chk L = 3 := by
  unfold chk; rw [if_neg (by omega), if_neg (by omega), if_neg h3, if_pos h]
theorem chk0 {L : List (List Int)} (h1 : ¬ (L.length : Int) < 1) (h2 : ¬ (32 : Int) < L.length) (h3 : ¬ Ragged L) (h : ¬ Spoilt L) : chk L = 0 := by
  unfold chk; rw [if_neg (by omega), if_neg (by omega), if_neg h3, if_neg h]
theorem Good.chk {L : List (List Int)} (g : Good L) : chk L = 0 := by
  refine chk0 (by have := g.pos; omega) (by have := g.le; omega) ?_ ?_
  · rintro ⟨i, h0, h1, h2⟩; exact h2 (g.row i h0 h1)
  · rintro ⟨i, j, h0, h1, h2, h3, h4⟩
    have := g.el i j h0 h1 h2 h3
    rcases h4 with h | h | ⟨rfl, h⟩
    · omega
    · omega
    · exact h (g.diag i.toNat (by omega))
theorem good_of_chk {L : List (List Int)} (h : chk L = 0) : Good L := by
  unfold chk at h
  split at h
  · omega
  split at h
  · omega
  split at h
  · omega
  split at h
  · omega
  rename_i h1 h2 h3 h4
  have row : ∀ i : Nat, i < L.length → (L.getD i []).length = L.length := fun i hi => by
    by_cases e : (L.getD i []).length = L.length
    · exact e
    · exact absurd ⟨(i : Int), by omega, by omega, by simpa [gr] using e⟩ h3
  have bad : ∀ i j : Nat, i < L.length → j < L.length → ¬ Bad L i j := fun i j hi hj hb => h4 ⟨i, j, by omega, by omega, by omega, by omega, hb⟩
  refine ⟨by omega, by omega, row, fun i j hi hj => ?_, fun i hi => ?_⟩
  · have := bad i j hi hj
    simp only [Bad, gi, gr, Int.toNat_natCast, not_or] at this
    omega
  · exact Decidable.not_not.1 fun hne => bad i i hi hi (Or.inr (Or.inr ⟨rfl, by simpa [gi, gr] using hne⟩))

/- THE COSTS OF ALL INTERVALS -/
def cF (L : List (List Int)) (h i : Nat) : Int := ivTo L h i (i - h)
/-- Row h of the table, filled below i. -/
def ivPart (L : List (List Int)) (h i : Nat) : List Int := (List.range (L.length + 1)).map fun j => if h ≤ j ∧ j < i then cF L h j else 0
def ivRow (L : List (List Int)) (h : Nat) : List Int := ivPart L h (L.length + 1)
def ivals (L : List (List Int)) : List (List Int) := (List.range (L.length + 1)).map (ivRow L)

theorem ivPart_step (L : List (List Int)) {h i : Nat} (h1 : h ≤ i) : (ivPart L h i).set i (cF L h i) = ivPart L h (i + 1) := by
  unfold ivPart
  rw [set_map_range]
  apply List.map_congr_left
  intro j _
  by_cases e : j = i
  · subst e; rw [if_pos rfl, if_pos (by omega)]
  · rw [if_neg e]
    by_cases c : h ≤ j ∧ j < i
    · rw [if_pos c, if_pos (by omega)]
    · rw [if_neg c, if_neg (by omega)]
theorem ivPart_start (L : List (List Int)) (h : Nat) : List.replicate (L.length + 1) (Value.int .i64 0) = (ivPart L h h).map (Value.int .i64) :=
  replicate_map_range _ _ _ fun j _ => by rw [if_neg (by omega)]
theorem ivPart_len (L : List (List Int)) (h i : Nat) : (ivPart L h i).length = L.length + 1 := by simp [ivPart]
theorem ivals_len (L : List (List Int)) : (ivals L).length = L.length + 1 := by simp [ivals]
theorem ivals_row (L : List (List Int)) (h : Int) (h0 : 0 ≤ h) (h1 : h ≤ L.length) : gr (ivals L) h = ivRow L h.toNat := gr_map_range _ _ _ h0 (by omega)

/- THE TABLES OF ORDERED -/
structure Costs (C : List (List Int)) (n : Int) : Prop where
  n0 : 0 ≤ n
  n1 : n ≤ 32
  len : C.length = n + 1
  row : ∀ i : Int, 0 ≤ i → i ≤ n → (gr C i).length = n + 1
  rng : ∀ i j : Int, 0 ≤ i → i ≤ n → 0 ≤ j → j ≤ n → 0 ≤ gi (gr C i) j ∧ gi (gr C i) j ≤ 33554432

theorem costs_ivals {L : List (List Int)} (g : Good L) : Costs (ivals L) L.length := by
  have := g.le
  refine ⟨by omega, by omega, by rw [ivals_len]; omega, fun i h0 h1 => ?_, fun i j h0 h1 h2 h3 => ?_⟩
  · rw [ivals_row L i h0 h1, ivRow, ivPart_len]; omega
  · rw [ivals_row L i h0 h1, ivRow, ivPart, gi_map_range _ _ _ h2 (by omega)]
    split
    · exact ivTo_bd g (by omega) _ (by omega)
    · omega

/-- The least of Never and the first m sums. -/
def mTo (C : List (List Int)) (prev : List Int) (i : Int) : Nat → Int
  | 0 => 1152921504606846976
  | m + 1 => if gi (gr C i) (i + 1 + m) + gi prev (i + 1 + m) < mTo C prev i m then gi (gr C i) (i + 1 + m) + gi prev (i + 1 + m) else mTo C prev i m
/-- The least costs of the outputs from i on, in at most j groups. -/
def sufRow (C : List (List Int)) (n : Nat) : Nat → List Int
  | 0 => (List.range (n + 1)).map fun i => if i < n then 1152921504606846976 else 0
  | j + 1 => (List.range (n + 1)).map fun i => if i < n then mTo C (sufRow C n j) i (n - i) else 0
def sV (C : List (List Int)) (n j i e : Int) : Int := if j = 0 then 1152921504606846976 else mTo C (sufRow C n.toNat (j - 1).toNat) i (e - i - 1).toNat
/-- A row whose entries from p on are done. -/
def sufPart (C : List (List Int)) (n j p : Int) : List Int := (List.range (n.toNat + 1)).map fun x : Nat => if p ≤ (x : Int) then gi (sufRow C n.toNat j.toNat) x else 0
def sufs (C : List (List Int)) (n k : Int) : List (List Int) := (List.range (k.toNat + 1)).map (sufRow C n.toNat)

theorem sufRow_len (C : List (List Int)) (n : Nat) : ∀ j, (sufRow C n j).length = n + 1
  | 0 => by simp [sufRow]
  | j + 1 => by simp [sufRow]
theorem sufPart_len (C : List (List Int)) (n j p : Int) : (sufPart C n j p).length = n.toNat + 1 := by simp [sufPart]
theorem sV_start (C : List (List Int)) (n j i : Int) : sV C n j i (i + 1) = 1152921504606846976 := by
  unfold sV; split
  · rfl
  · rw [show (i + 1 - i - 1).toNat = 0 by omega]; rfl
theorem sV_step (C : List (List Int)) {n j i e : Int} (hj : 0 < j) (he : i + 1 ≤ e) : sV C n j i (e + 1) =
    if gi (gr C i) e + gi (sufRow C n.toNat (j - 1).toNat) e < sV C n j i e then gi (gr C i) e + gi (sufRow C n.toNat (j - 1).toNat) e else sV C n j i e := by
  unfold sV
  rw [if_neg (show ¬ j = 0 by omega), if_neg (show ¬ j = 0 by omega), show (e + 1 - i - 1).toNat = (e - i - 1).toNat + 1 by omega, mTo, show i + 1 + ((e - i - 1).toNat : Int) = e by omega]
theorem mTo_bd {C : List (List Int)} {n : Int} (c : Costs C n) {prev : List Int} (hp : ∀ x : Int, 0 ≤ x → x ≤ n → 0 ≤ gi prev x) {i : Int} (h0 : 0 ≤ i) (h1 : i ≤ n) : ∀ m : Nat, i + m ≤ n → 0 ≤ mTo C prev i m ∧ mTo C prev i m ≤ 1152921504606846976
  | 0, _ => by simp [mTo]
  | m + 1, h => by
    have ih := mTo_bd c hp h0 h1 m (by omega)
    have := (c.rng i (i + 1 + m) h0 h1 (by omega) (by omega)).1
    have := hp (i + 1 + m) (by omega) (by omega)
    simp only [mTo]; split <;> omega
theorem sufRow_bd {C : List (List Int)} {n : Int} (c : Costs C n) : ∀ (j : Nat) (x : Int), 0 ≤ x → x ≤ n → 0 ≤ gi (sufRow C n.toNat j) x ∧ gi (sufRow C n.toNat j) x ≤ 1152921504606846976
  | 0, x, h0, h1 => by
    have := c.n0
    rw [sufRow, gi_map_range _ _ _ h0 (by omega)]; split <;> omega
  | j + 1, x, h0, h1 => by
    have := c.n0
    rw [sufRow, gi_map_range _ _ _ h0 (by omega)]
    split
    · have e : ((x.toNat : Nat) : Int) = x := by omega
      rw [e]
      exact mTo_bd c (fun y a b => (sufRow_bd c j y a b).1) h0 h1 _ (by omega)
    · omega
theorem sufPart_step (C : List (List Int)) {n j i v : Int} (h0 : 0 ≤ i) (h1 : i < n) (hv : v = gi (sufRow C n.toNat j.toNat) i) : (sufPart C n j (i + 1)).set i.toNat v = sufPart C n j i := by
  unfold sufPart
  rw [set_map_range]
  apply List.map_congr_left
  intro x _
  by_cases e : x = i.toNat
  · subst e; rw [if_pos rfl, if_pos (by omega), hv, show ((i.toNat : Nat) : Int) = i by omega]
  · rw [if_neg e]
    by_cases h : i + 1 ≤ (x : Int)
    · rw [if_pos h, if_pos (by omega)]
    · rw [if_neg h, if_neg (by omega)]
theorem sufRow_last (C : List (List Int)) (n : Nat) : ∀ j : Nat, gi (sufRow C n j) n = 0
  | 0 => by rw [sufRow, gi_map_range _ _ _ (by omega) (by omega), if_neg (by omega)]
  | j + 1 => by rw [sufRow, gi_map_range _ _ _ (by omega) (by omega), if_neg (by omega)]
theorem sufPart_start (C : List (List Int)) {n j : Int} (h : 0 ≤ n) : List.replicate (n.toNat + 1) (Value.int .i64 0) = (sufPart C n j n).map (Value.int .i64) :=
  replicate_map_range _ _ _ fun x hx => by
    by_cases e : n ≤ (x : Int)
    · rw [if_pos e]
      have := sufRow_last C n.toNat j.toNat
      rw [show ((x : Nat) : Int) = (n.toNat : Int) by omega, this]
    · rw [if_neg e]
theorem sufPart_end (C : List (List Int)) (n j : Int) : sufPart C n j 0 = sufRow C n.toNat j.toNat := by
  apply List.ext_getElem?
  intro x
  by_cases h : x < n.toNat + 1
  · have hl := sufRow_len C n.toNat j.toNat
    simp only [sufPart, List.getElem?_map, List.getElem?_range h, Option.map_some]
    rw [if_pos (by omega), List.getElem?_eq_getElem (by omega)]
    simp [gi, List.getD_eq_getElem?_getD, List.getElem?_eq_getElem (show x < (sufRow C n.toNat j.toNat).length by omega)]
  · rw [List.getElem?_eq_none (by rw [sufPart_len]; omega), List.getElem?_eq_none (by rw [sufRow_len]; omega)]
theorem sV_end (C : List (List Int)) {n j i e : Int} (h0 : 0 ≤ i) (h1 : i < n) (hj : 0 ≤ j) (he : ¬ (0 < j) ∨ e = n + 1) : sV C n j i e = gi (sufRow C n.toNat j.toNat) i := by
  unfold sV
  by_cases h : j = 0
  · subst h
    rw [if_pos rfl, show (0 : Int).toNat = 0 from rfl, sufRow, gi_map_range _ _ _ h0 (by omega), if_pos (by omega)]
  · rw [if_neg h, show j.toNat = (j - 1).toNat + 1 by omega, sufRow, gi_map_range _ _ _ h0 (by omega), if_pos (by omega), show ((i.toNat : Nat) : Int) = i by omega, show (e - i - 1).toNat = n.toNat - i.toNat by omega]
theorem sufs_len (C : List (List Int)) (n k : Int) : (sufs C n k).length = k.toNat + 1 := by simp [sufs]
theorem sufs_row (C : List (List Int)) (n k j : Int) (h0 : 0 ≤ j) (h1 : j ≤ k) : gr (sufs C n k) j = sufRow C n.toNat j.toNat := gr_map_range _ _ _ h0 (by omega)

/-- The least of Never and the first m sums of a prefix. -/
def pTo (C : List (List Int)) (prev : List Int) (j i : Int) : Nat → Int
  | 0 => 1152921504606846976
  | m + 1 => if 1 < j ∨ (m : Int) = 0 then (if gi prev m + gi (gr C m) i < pTo C prev j i m then gi prev m + gi (gr C m) i else pTo C prev j i m) else pTo C prev j i m
def preRow (C : List (List Int)) (n : Nat) : Nat → List Int
  | 0 => (List.range (n + 1)).map fun i : Nat => if 0 < i then 1152921504606846976 else 0
  | j + 1 => (List.range (n + 1)).map fun i : Nat => if 0 < i then pTo C (preRow C n j) ((j : Int) + 1) i (i + 1) else 0
def pV (C : List (List Int)) (n j i e : Int) : Int := if j = 0 then 1152921504606846976 else pTo C (preRow C n.toNat (j - 1).toNat) j i e.toNat
def prePart (C : List (List Int)) (n j p : Int) : List Int := (List.range (n.toNat + 1)).map fun x : Nat => if (x : Int) < p then gi (preRow C n.toNat j.toNat) x else 0
def pres (C : List (List Int)) (n k : Int) : List (List Int) := (List.range (k.toNat + 1)).map (preRow C n.toNat)

theorem preRow_len (C : List (List Int)) (n : Nat) : ∀ j, (preRow C n j).length = n + 1
  | 0 => by simp [preRow]
  | j + 1 => by simp [preRow]
theorem prePart_len (C : List (List Int)) (n j p : Int) : (prePart C n j p).length = n.toNat + 1 := by simp [prePart]
theorem pres_len (C : List (List Int)) (n k : Int) : (pres C n k).length = k.toNat + 1 := by simp [pres]
theorem pres_row (C : List (List Int)) (n k j : Int) (h0 : 0 ≤ j) (h1 : j ≤ k) : gr (pres C n k) j = preRow C n.toNat j.toNat := gr_map_range _ _ _ h0 (by omega)
theorem preRow_first (C : List (List Int)) (n : Nat) : ∀ j : Nat, gi (preRow C n j) 0 = 0
  | 0 => by rw [preRow, gi_map_range _ _ _ (by omega) (by omega)]; rfl
  | j + 1 => by rw [preRow, gi_map_range _ _ _ (by omega) (by omega)]; rfl
theorem pV_start (C : List (List Int)) (n j i : Int) : pV C n j i 0 = 1152921504606846976 := by
  unfold pV; split
  · rfl
  · rfl
theorem pV_skip (C : List (List Int)) {n j i e : Int} (h0 : 0 ≤ e) (hj : ¬ (1 < j ∨ e = 0)) : pV C n j i (e + 1) = pV C n j i e := by
  unfold pV; split
  · rfl
  · rw [show (e + 1).toNat = e.toNat + 1 by omega, pTo, if_neg (show ¬ (1 < j ∨ ((e.toNat : Nat) : Int) = 0) by omega)]
theorem pV_step (C : List (List Int)) {n j i e : Int} (h0 : 0 ≤ e) (hj : 0 < j) (h : 1 < j ∨ e = 0) : pV C n j i (e + 1) =
    if gi (preRow C n.toNat (j - 1).toNat) e + gi (gr C e) i < pV C n j i e then gi (preRow C n.toNat (j - 1).toNat) e + gi (gr C e) i else pV C n j i e := by
  unfold pV
  rw [if_neg (show ¬ j = 0 by omega), if_neg (show ¬ j = 0 by omega), show (e + 1).toNat = e.toNat + 1 by omega, pTo, if_pos (show 1 < j ∨ ((e.toNat : Nat) : Int) = 0 by omega), show ((e.toNat : Nat) : Int) = e by omega]
theorem pTo_bd {C : List (List Int)} {n : Int} (c : Costs C n) {prev : List Int} (hp : ∀ x : Int, 0 ≤ x → x ≤ n → 0 ≤ gi prev x) (j : Int) {i : Int} (h0 : 0 ≤ i) (h1 : i ≤ n) : ∀ m : Nat, (m : Int) ≤ n + 1 → 0 ≤ pTo C prev j i m ∧ pTo C prev j i m ≤ 1152921504606846976
  | 0, _ => by simp [pTo]
  | m + 1, h => by
    have ih := pTo_bd c hp j h0 h1 m (by omega)
    have := (c.rng m i (by omega) (by omega) h0 h1).1
    have := hp m (by omega) (by omega)
    simp only [pTo]; split
    · split <;> omega
    · omega
theorem preRow_bd {C : List (List Int)} {n : Int} (c : Costs C n) : ∀ (j : Nat) (x : Int), 0 ≤ x → x ≤ n → 0 ≤ gi (preRow C n.toNat j) x ∧ gi (preRow C n.toNat j) x ≤ 1152921504606846976
  | 0, x, h0, h1 => by
    have := c.n0
    rw [preRow, gi_map_range _ _ _ h0 (by omega)]; split <;> omega
  | j + 1, x, h0, h1 => by
    have := c.n0
    rw [preRow, gi_map_range _ _ _ h0 (by omega)]
    split
    · have e : ((x.toNat : Nat) : Int) = x := by omega
      rw [e]
      exact pTo_bd c (fun y a b => (preRow_bd c j y a b).1) _ h0 h1 _ (by omega)
    · omega
theorem prePart_step (C : List (List Int)) {n j i v : Int} (h0 : 1 ≤ i) (h1 : i ≤ n) (hv : v = gi (preRow C n.toNat j.toNat) i) : (prePart C n j i).set i.toNat v = prePart C n j (i + 1) := by
  unfold prePart
  rw [set_map_range]
  apply List.map_congr_left
  intro x _
  by_cases e : x = i.toNat
  · subst e; rw [if_pos rfl, if_pos (by omega), hv, show ((i.toNat : Nat) : Int) = i by omega]
  · rw [if_neg e]
    by_cases h : (x : Int) < i
    · rw [if_pos h, if_pos (by omega)]
    · rw [if_neg h, if_neg (by omega)]
theorem prePart_start (C : List (List Int)) {n j : Int} (h : 0 ≤ n) : List.replicate (n.toNat + 1) (Value.int .i64 0) = (prePart C n j 1).map (Value.int .i64) :=
  replicate_map_range _ _ _ fun x hx => by
    by_cases e : (x : Int) < 1
    · rw [if_pos e]
      have := preRow_first C n.toNat j.toNat
      rw [show ((x : Nat) : Int) = 0 by omega, this]
    · rw [if_neg e]
theorem prePart_end (C : List (List Int)) (n j : Int) (h : 0 ≤ n) : prePart C n j (n + 1) = preRow C n.toNat j.toNat := by
  apply List.ext_getElem?
  intro x
  by_cases h : x < n.toNat + 1
  · have hl := preRow_len C n.toNat j.toNat
    simp only [prePart, List.getElem?_map, List.getElem?_range h, Option.map_some]
    rw [if_pos (by omega), List.getElem?_eq_getElem (by omega)]
    simp [gi, List.getD_eq_getElem?_getD, List.getElem?_eq_getElem (show x < (preRow C n.toNat j.toNat).length by omega)]
  · rw [List.getElem?_eq_none (by rw [prePart_len]; omega), List.getElem?_eq_none (by rw [preRow_len]; omega)]
theorem pV_end (C : List (List Int)) {n j i e : Int} (h0 : 1 ≤ i) (h1 : i ≤ n) (hj : 0 ≤ j) (he : ¬ (0 < j) ∨ e = i + 1) : pV C n j i e = gi (preRow C n.toNat j.toNat) i := by
  unfold pV
  by_cases h : j = 0
  · subst h
    rw [if_pos rfl, show (0 : Int).toNat = 0 from rfl, preRow, gi_map_range _ _ _ (by omega) (by omega), if_pos (by omega)]
  · rw [if_neg h, show j.toNat = (j - 1).toNat + 1 by omega, preRow, gi_map_range _ _ _ (by omega) (by omega), if_pos (by omega), show ((i.toNat : Nat) : Int) = i by omega, show (((j - 1).toNat : Nat) : Int) + 1 = j by omega, show e.toNat = i.toNat + 1 by omega]
/- THE FIRST GROUP OF THE FIRST OPTIMUM -/
structure Tab (S : List (List Int)) (n k : Int) : Prop where
  len : S.length = k + 1
  row : ∀ j : Int, 0 ≤ j → j ≤ k → (gr S j).length = n + 1
  rng : ∀ j i : Int, 0 ≤ j → j ≤ k → 0 ≤ i → i ≤ n → 0 ≤ gi (gr S j) i ∧ gi (gr S j) i ≤ 1152921504606846976
theorem tab_sufs {C : List (List Int)} {n k : Int} (c : Costs C n) (hk : 0 ≤ k) : Tab (sufs C n k) n k := by
  have := c.n0
  refine ⟨by rw [sufs_len]; omega, fun j h0 h1 => ?_, fun j i h0 h1 h2 h3 => ?_⟩
  · rw [sufs_row C n k j h0 h1, sufRow_len]; omega
  · rw [sufs_row C n k j h0 h1]; exact sufRow_bd c _ _ h2 h3
def Hit (L S : List (List Int)) (i j r e : Int) : Prop := wsum L r.toNat i.toNat (e - i).toNat + gi (gr S (j - 1)) e = gi (gr S j) i
instance (L S : List (List Int)) (i j r e : Int) : Decidable (Hit L S i j r e) := inferInstanceAs (Decidable (_ = _))
def scanE (L S : List (List Int)) (i j r : Int) : Nat → Option Int
  | 0 => none
  | m + 1 => if Hit L S i j r (r + m + 1) then some (r + m + 1) else scanE L S i j r m
def scanR (L S : List (List Int)) (n i j : Int) : Nat → Int × Int
  | 0 => (n, i)
  | m + 1 => (scanE L S i j (n - m - 1) (m + 1)).elim (scanR L S n i j m) fun e => (e, n - m - 1)
def nxt (L S : List (List Int)) (n i j : Int) : Int × Int := scanR L S n i j (n - i).toNat
def ordG (L S : List (List Int)) (n : Int) : Nat → Int → List Int
  | 0, _ => []
  | j + 1, i => if i < n then List.replicate ((nxt L S n i (j + 1)).1 - i).toNat (nxt L S n i (j + 1)).2 ++ ordG L S n j (nxt L S n i (j + 1)).1 else []

theorem scanE_hit {L S : List (List Int)} {i j r e : Int} (h : r < e) (hh : Hit L S i j r e) : scanE L S i j r (e - r).toNat = some e := by
  rw [show (e - r).toNat = (e - r - 1).toNat + 1 by omega, scanE, show r + ((e - r - 1).toNat : Int) + 1 = e by omega, if_pos hh]
theorem scanE_miss {L S : List (List Int)} {i j r e : Int} (h : r < e) (hh : ¬ Hit L S i j r e) : scanE L S i j r (e - r).toNat = scanE L S i j r (e - 1 - r).toNat := by
  rw [show (e - r).toNat = (e - 1 - r).toNat + 1 by omega, scanE, show r + ((e - 1 - r).toNat : Int) + 1 = e by omega, if_neg hh]
theorem scanR_step {L S : List (List Int)} {n i j r : Int} (h : r < n) : scanR L S n i j (n - r).toNat = (scanE L S i j r (n - r).toNat).elim (scanR L S n i j (n - (r + 1)).toNat) fun e => (e, r) := by
  have e : (n - r).toNat = (n - (r + 1)).toNat + 1 := by omega
  rw [e, scanR, show n - ((n - (r + 1)).toNat : Int) - 1 = r by omega]
theorem scanE_some {L S : List (List Int)} {i j r : Int} : ∀ (m : Nat) (e : Int), scanE L S i j r m = some e → r < e ∧ e ≤ r + m ∧ Hit L S i j r e
  | 0, e, h => by cases h
  | m + 1, e, h => by
    simp only [scanE] at h
    split at h
    · cases h; exact ⟨by omega, by omega, by assumption⟩
    · have := scanE_some m e h; exact ⟨this.1, by omega, this.2.2⟩
theorem scanE_none {L S : List (List Int)} {i j r : Int} : ∀ m : Nat, scanE L S i j r m = none → ∀ e : Int, r < e → e ≤ r + m → ¬ Hit L S i j r e
  | 0, _, e, _, _ => by omega
  | m + 1, h, e, h1, h2 => by
    simp only [scanE] at h
    split at h
    · cases h
    · by_cases he : e = r + m + 1
      · subst he; assumption
      · exact scanE_none m h e h1 (by omega)
/-- The search ends at a hit if there is one. -/
theorem scanR_hit {L S : List (List Int)} {n i j : Int} : ∀ m : Nat, (∃ r e : Int, n - m ≤ r ∧ r < e ∧ e ≤ n ∧ Hit L S i j r e) →
    n - m ≤ (scanR L S n i j m).2 ∧ (scanR L S n i j m).2 < (scanR L S n i j m).1 ∧ (scanR L S n i j m).1 ≤ n ∧ Hit L S i j (scanR L S n i j m).2 (scanR L S n i j m).1
  | 0, ⟨r, e, h0, h1, h2, _⟩ => by omega
  | m + 1, ⟨r, e, h0, h1, h2, h3⟩ => by
    simp only [scanR]
    cases hs : scanE L S i j (n - m - 1) (m + 1) with
    | some x =>
      have := scanE_some _ _ hs
      simp only [Option.elim]
      exact ⟨by omega, by omega, by omega, this.2.2⟩
    | none =>
      have hn := scanE_none _ hs
      simp only [Option.elim]
      have ih := scanR_hit (L := L) (S := S) (n := n) (i := i) (j := j) m ⟨r, e, (by
        by_cases hr : r = n - m - 1
        · subst hr; exact absurd h3 (hn e h1 (by omega))
        · omega), h1, h2, h3⟩
      exact ⟨by omega, ih.2⟩
theorem nxt_hit {L S : List (List Int)} {n i j : Int} (hi : i ≤ n) (h : ∃ r e : Int, i ≤ r ∧ r < e ∧ e ≤ n ∧ Hit L S i j r e) :
    i ≤ (nxt L S n i j).2 ∧ (nxt L S n i j).2 < (nxt L S n i j).1 ∧ (nxt L S n i j).1 ≤ n ∧ Hit L S i j (nxt L S n i j).2 (nxt L S n i j).1 := by
  have := scanR_hit (L := L) (S := S) (n := n) (i := i) (j := j) (n - i).toNat (by obtain ⟨r, e, h⟩ := h; exact ⟨r, e, by omega, h.2⟩)
  exact ⟨by have := this.1; unfold nxt; omega, this.2⟩

theorem ivTo_att (L : List (List Int)) (h i : Nat) : ∀ m, 0 < m → ∃ r, r < m ∧ ivTo L h i m = wsum L (h + r) h (i - h)
  | 0, h0 => by omega
  | m + 1, _ => by
    simp only [ivTo]
    split
    · exact ⟨m, by omega, rfl⟩
    · rename_i hn
      obtain ⟨r, h1, h2⟩ := ivTo_att L h i m (by omega)
      exact ⟨r, by omega, h2⟩
theorem mTo_att {C : List (List Int)} {prev : List Int} {i : Int} : ∀ m : Nat, mTo C prev i m < 1152921504606846976 → ∃ x : Int, i < x ∧ x ≤ i + m ∧ mTo C prev i m = gi (gr C i) x + gi prev x
  | 0, h => by simp [mTo] at h
  | m + 1, h => by
    simp only [mTo] at h ⊢
    split
    · exact ⟨i + 1 + m, by omega, by omega, rfl⟩
    · rename_i hn
      rw [if_neg hn] at h
      obtain ⟨x, h1, h2, h3⟩ := mTo_att m h
      exact ⟨x, h1, by omega, h3⟩
theorem mTo_le {C : List (List Int)} {prev : List Int} {i : Int} : ∀ (m : Nat) (x : Int), i < x → x ≤ i + m → mTo C prev i m ≤ gi (gr C i) x + gi prev x
  | 0, x, h1, h2 => by omega
  | m + 1, x, h1, h2 => by
    simp only [mTo]
    by_cases hx : x = i + 1 + m
    · subst hx; split <;> omega
    · have := mTo_le (C := C) (prev := prev) m x h1 (by omega)
      split <;> omega
theorem ivals_el {L : List (List Int)} {h i : Int} (h0 : 0 ≤ h) (h1 : h ≤ i) (h2 : i ≤ L.length) : gi (gr (ivals L) h) i = ivTo L h.toNat i.toNat (i.toNat - h.toNat) := by
  rw [ivals_row L h h0 (by omega), ivRow, ivPart, gi_map_range _ _ _ (by omega) (by omega), if_pos (by omega), cF]
/-- Where the least cost is finite, a first group reaches it. -/
theorem suf_hit {L : List (List Int)} {j : Nat} {i : Int} (h0 : 0 ≤ i) (h1 : i < L.length) (hf : gi (sufRow (ivals L) L.length j) i < 1152921504606846976) :
    ∃ m, j = m + 1 ∧ ∃ r e : Int, i ≤ r ∧ r < e ∧ e ≤ L.length ∧ wsum L r.toNat i.toNat (e - i).toNat + gi (sufRow (ivals L) L.length m) e = gi (sufRow (ivals L) L.length j) i := by
  cases j with
  | zero => rw [sufRow, gi_map_range _ _ _ h0 (by omega), if_pos (by omega)] at hf; omega
  | succ m =>
    refine ⟨m, rfl, ?_⟩
    rw [sufRow, gi_map_range _ _ _ h0 (by omega), if_pos (by omega), show ((i.toNat : Nat) : Int) = i by omega] at hf ⊢
    obtain ⟨x, g1, g2, g3⟩ := mTo_att _ hf
    rw [g3, ivals_el h0 (by omega) (by omega)]
    obtain ⟨r, f1, f2⟩ := ivTo_att L i.toNat x.toNat (x.toNat - i.toNat) (by omega)
    refine ⟨i + r, x, by omega, by omega, by omega, ?_⟩
    rw [f2, show (i + (r : Int)).toNat = i.toNat + r by omega, show (x - i).toNat = x.toNat - i.toNat by omega]
theorem suf_fin {L : List (List Int)} (g : Good L) {k : Nat} (hk : 0 < k) : gi (sufRow (ivals L) L.length k) 0 < 1152921504606846976 := by
  obtain ⟨m, rfl⟩ : ∃ m, k = m + 1 := ⟨k - 1, by omega⟩
  have := g.pos
  rw [sufRow, gi_map_range _ _ _ (by omega) (by omega), if_pos (by omega)]
  have h1 := mTo_le (C := ivals L) (prev := sufRow (ivals L) L.length m) (i := 0) (L.length - (0 : Int).toNat) L.length (by omega) (by simp)
  have h2 := ((costs_ivals g).rng 0 L.length (by omega) (by omega) (by omega) (by omega)).2
  have h3 := sufRow_last (ivals L) L.length m
  simp only [Int.toNat_zero] at h1 ⊢
  rw [h3] at h1
  have e : ((0 : Nat) : Int) = 0 := rfl
  rw [e]; omega
/-- One round of Ordered. -/
theorem ord_round {L : List (List Int)} {n : Int} {k i j : Int} (hn : n = L.length) (h0 : 0 ≤ i) (h1 : i < n) (h2 : 0 ≤ j) (h3 : j ≤ k) (hf : gi (gr (sufs (ivals L) n k) j) i < 1152921504606846976) :
    1 ≤ j ∧ i ≤ (nxt L (sufs (ivals L) n k) n i j).2 ∧ (nxt L (sufs (ivals L) n k) n i j).2 < (nxt L (sufs (ivals L) n k) n i j).1 ∧ (nxt L (sufs (ivals L) n k) n i j).1 ≤ n ∧
      gi (gr (sufs (ivals L) n k) (j - 1)) (nxt L (sufs (ivals L) n k) n i j).1 + wsum L (nxt L (sufs (ivals L) n k) n i j).2.toNat i.toNat ((nxt L (sufs (ivals L) n k) n i j).1 - i).toNat = gi (gr (sufs (ivals L) n k) j) i ∧
      ordG L (sufs (ivals L) n k) n j.toNat i = List.replicate ((nxt L (sufs (ivals L) n k) n i j).1 - i).toNat (nxt L (sufs (ivals L) n k) n i j).2 ++ ordG L (sufs (ivals L) n k) n (j - 1).toNat (nxt L (sufs (ivals L) n k) n i j).1 := by
  rw [sufs_row _ _ _ _ h2 h3] at hf
  have hn' : n.toNat = L.length := by omega
  rw [hn'] at hf
  obtain ⟨m, hm, r, e, g0, g1, g2, g3⟩ := suf_hit h0 (by omega) hf
  have hj : 1 ≤ j := by omega
  obtain ⟨q0, q1, q2, q3⟩ := nxt_hit (L := L) (S := sufs (ivals L) n k) (n := n) (i := i) (j := j) (by omega)
    ⟨r, e, g0, g1, by omega, by rw [Hit, sufs_row _ _ _ _ (by omega) (by omega), sufs_row _ _ _ _ h2 h3, hn', show (j - 1).toNat = m by omega]; exact g3⟩
  refine ⟨hj, q0, q1, q2, ?_, ?_⟩
  · rw [Hit] at q3; omega
  · rw [show j.toNat = (j - 1).toNat + 1 by omega, ordG, if_pos h1, show (((j - 1).toNat : Nat) : Int) + 1 = j by omega]
noncomputable def oE (L : List (List Int)) (k : Int) : Int := if chk L ≠ 0 then chk L else if 1 ≤ k ∧ k ≤ 32 then 0 else 3
open Classical in
noncomputable def oG (L : List (List Int)) (k : Int) : List Int := if oE L k = 0 then ordG L (sufs (ivals L) L.length k) L.length k.toNat 0 else []
open Classical in
noncomputable def oN (L : List (List Int)) (k : Int) : Int := if oE L k = 0 then gi (gr (sufs (ivals L) L.length k) k) 0 else 0
open Classical in
noncomputable def oT (L : List (List Int)) (k : Int) : List (List Int) := if oE L k = 0 then pres (ivals L) L.length k else []
theorem ord_bad {L : List (List Int)} {k : Int} (h : oE L k ≠ 0) : oG L k = [] ∧ oN L k = 0 ∧ oT L k = [] := by
  unfold oG oN oT; rw [if_neg h, if_neg h, if_neg h]; exact ⟨rfl, rfl, rfl⟩
theorem ord_good {L : List (List Int)} {k : Int} (h : oE L k = 0) : oG L k = ordG L (sufs (ivals L) L.length k) L.length k.toNat 0 ∧ oN L k = gi (gr (sufs (ivals L) L.length k) k) 0 ∧ oT L k = pres (ivals L) L.length k := by
  unfold oG oN oT; rw [if_pos h, if_pos h, if_pos h]; exact ⟨rfl, rfl, rfl⟩
theorem oE1 {L : List (List Int)} {k : Int} (h : chk L ≠ 0) : oE L k = chk L := by unfold oE; rw [if_pos h]
theorem oE3 {L : List (List Int)} {k : Int} (h : chk L = 0) (h2 : ¬ (1 ≤ k ∧ k ≤ 32)) : oE L k = 3 := by unfold oE; rw [if_neg (by omega), if_neg h2]
theorem oE0 {L : List (List Int)} {k : Int} (h : chk L = 0) (h2 : 1 ≤ k ∧ k ≤ 32) : oE L k = 0 := by unfold oE; rw [if_neg (by omega), if_pos h2]
/- PROOFS OF A BOUND -/
def RowOK (C T : List (List Int)) (j i h : Int) : Prop := gi (gr T j) i ≤ gi (gr T (j - 1)) h + gi (gr C h) i
def Holds (C T : List (List Int)) : Prop := ∀ j : Int, 0 ≤ j → j < T.length → 1 ≤ j → ∀ i : Int, 0 ≤ i → i < (gr T j).length → ∀ h : Int, 0 ≤ h → h ≤ i → (1 < j ∨ h = 0) → RowOK C T j i h
def Ragg (T : List (List Int)) (n : Int) : Prop := ∃ i : Int, 0 ≤ i ∧ i < T.length ∧ (gr T i).length ≠ n + 1
def Wild (T : List (List Int)) : Prop := ∃ j i : Int, 0 ≤ j ∧ j < T.length ∧ 0 ≤ i ∧ i < (gr T j).length ∧ (gi (gr T j) i < 0 ∨ 1152921504606846976 < gi (gr T j) i)
open Classical in
/-- The code of ProveOrdered. -/
noncomputable def poE (L : List (List Int)) (k : Int) (T : List (List Int)) (c : Int) : Int :=
  if chk L ≠ 0 then chk L else if ¬ (1 ≤ k ∧ k ≤ 32) then 3 else if (T.length : Int) ≠ k + 1 ∨ Ragg T L.length then 2 else if Wild T then 3
  else if gi (gr T 0) 0 ≠ 0 ∨ gi (gr T k) L.length < c ∨ ¬ Holds (ivals L) T then 13 else 0
theorem poE_chk {L : List (List Int)} {k : Int} {T : List (List Int)} {c : Int} (h : chk L ≠ 0) : poE L k T c = chk L := by unfold poE; rw [if_pos h]
theorem poE_k {L : List (List Int)} {k : Int} {T : List (List Int)} {c : Int} (h : chk L = 0) (h2 : ¬ (1 ≤ k ∧ k ≤ 32)) : poE L k T c = 3 := by unfold poE; rw [if_neg (by omega), if_pos h2]
theorem poE_2 {L : List (List Int)} {k : Int} {T : List (List Int)} {c : Int} (h : chk L = 0) (h2 : 1 ≤ k ∧ k ≤ 32) (h3 : (T.length : Int) ≠ k + 1 ∨ Ragg T L.length) : poE L k T c = 2 := by
  unfold poE; rw [if_neg (by omega), if_neg (by omega), if_pos h3]
theorem poE_3 {L : List (List Int)} {k : Int} {T : List (List Int)} {c : Int} (h : chk L = 0) (h2 : 1 ≤ k ∧ k ≤ 32) (h3 : (T.length : Int) = k + 1) (h4 : ¬ Ragg T L.length) (h5 : Wild T) : poE L k T c = 3 := by
  unfold poE; rw [if_neg (by omega), if_neg (by omega), if_neg (fun x => x.elim (fun y => y h3) h4), if_pos h5]
theorem poE_13 {L : List (List Int)} {k : Int} {T : List (List Int)} {c : Int} (h : chk L = 0) (h2 : 1 ≤ k ∧ k ≤ 32) (h3 : (T.length : Int) = k + 1) (h4 : ¬ Ragg T L.length) (h5 : ¬ Wild T)
    (h6 : gi (gr T 0) 0 ≠ 0 ∨ gi (gr T k) L.length < c ∨ ¬ Holds (ivals L) T) : poE L k T c = 13 := by
  unfold poE; rw [if_neg (by omega), if_neg (by omega), if_neg (fun x => x.elim (fun y => y h3) h4), if_neg h5, if_pos h6]
theorem poE_0 {L : List (List Int)} {k : Int} {T : List (List Int)} {c : Int} (h : chk L = 0) (h2 : 1 ≤ k ∧ k ≤ 32) (h3 : (T.length : Int) = k + 1) (h4 : ¬ Ragg T L.length) (h5 : ¬ Wild T)
    (h6 : gi (gr T 0) 0 = 0) (h7 : ¬ gi (gr T k) L.length < c) (h8 : Holds (ivals L) T) : poE L k T c = 0 := by
  unfold poE; rw [if_neg (by omega), if_neg (by omega), if_neg (fun x => x.elim (fun y => y h3) h4), if_neg h5, if_neg (fun x => x.elim (fun y => y h6) fun y => y.elim h7 fun z => z h8)]
theorem tab_of {T : List (List Int)} {n k : Int} (h3 : (T.length : Int) = k + 1) (h4 : ¬ Ragg T n) (h5 : ¬ Wild T) : Tab T n k := by
  have row : ∀ j : Int, 0 ≤ j → j ≤ k → (gr T j).length = n + 1 := fun j h0 h1 => Decidable.not_not.1 fun e => h4 ⟨j, h0, by omega, e⟩
  exact ⟨h3, row, fun j i a b c d => by
    have : ¬ (gi (gr T j) i < 0 ∨ 1152921504606846976 < gi (gr T j) i) := fun e => h5 ⟨j, i, a, by omega, c, by have := row j a b; omega, e⟩
    omega⟩
/- THE COST OF A GROUPING -/
def csum (L : List (List Int)) (G : List Int) : Nat → Int
  | 0 => 0
  | m + 1 => csum L G m + gi (gr L m) (gi G m)
def Out (L : List (List Int)) (G : List Int) : Prop := ∃ i : Int, 0 ≤ i ∧ i < G.length ∧ (gi G i < 0 ∨ (L.length : Int) ≤ gi G i)
def Unfix (G : List Int) : Prop := ∃ i : Int, 0 ≤ i ∧ i < G.length ∧ gi G (gi G i) ≠ gi G i
open Classical in
noncomputable def gE (L : List (List Int)) (G : List Int) : Int := if G.length ≠ L.length then 2 else if Out L G then 3 else if Unfix G then 15 else 0
noncomputable def cE (L : List (List Int)) (G : List Int) : Int := if chk L ≠ 0 then chk L else gE L G
noncomputable def cN (L : List (List Int)) (G : List Int) : Int := if cE L G = 0 then csum L G G.length else 0
theorem gE_2 {L : List (List Int)} {G : List Int} (h : G.length ≠ L.length) : gE L G = 2 := by unfold gE; rw [if_pos h]
theorem gE_3 {L : List (List Int)} {G : List Int} (h : G.length = L.length) (h1 : Out L G) : gE L G = 3 := by unfold gE; rw [if_neg (by omega), if_pos h1]
theorem gE_15 {L : List (List Int)} {G : List Int} (h : G.length = L.length) (h1 : ¬ Out L G) (h2 : Unfix G) : gE L G = 15 := by unfold gE; rw [if_neg (by omega), if_neg h1, if_pos h2]
theorem gE_0 {L : List (List Int)} {G : List Int} (h : G.length = L.length) (h1 : ¬ Out L G) (h2 : ¬ Unfix G) : gE L G = 0 := by unfold gE; rw [if_neg (by omega), if_neg h1, if_neg h2]
theorem cE_chk {L : List (List Int)} {G : List Int} (h : chk L ≠ 0) : cE L G = chk L := by unfold cE; rw [if_pos h]
theorem cE_g {L : List (List Int)} {G : List Int} (h : chk L = 0) : cE L G = gE L G := by unfold cE; rw [if_neg (by omega)]
theorem cN_bad {L : List (List Int)} {G : List Int} (h : cE L G ≠ 0) : cN L G = 0 := by unfold cN; rw [if_neg h]
theorem cN_good {L : List (List Int)} {G : List Int} (h : cE L G = 0) : cN L G = csum L G G.length := by unfold cN; rw [if_pos h]
theorem csum_bd {L : List (List Int)} {G : List Int} (g : Good L) (ho : ¬ Out L G) : ∀ m : Nat, m ≤ G.length → m ≤ L.length → 0 ≤ csum L G m ∧ csum L G m ≤ m * 1048576
  | 0, _, _ => by simp [csum]
  | m + 1, h, h2 => by
    have ih := csum_bd g ho m (by omega) (by omega)
    have h1 : ¬ (gi G m < 0 ∨ (L.length : Int) ≤ gi G m) := fun e => ho ⟨m, by omega, by omega, e⟩
    have := g.el m (gi G m) (by omega) (by omega) (by omega) (by omega)
    simp only [csum]; omega
theorem csum_step (L : List (List Int)) (G : List Int) {p : Int} (h : 0 ≤ p) : csum L G (p + 1).toNat = csum L G p.toNat + gi (gr L p) (gi G p) := by
  rw [show (p + 1).toNat = p.toNat + 1 by omega, csum, show ((p.toNat : Nat) : Int) = p by omega]
theorem ext_gi {A B : List Int} (h : A.length = B.length) (h1 : ∀ x : Int, 0 ≤ x → x < A.length → gi A x = gi B x) : A = B := by
  apply List.ext_getElem h
  intro i hi hj
  have := h1 i (by omega) (by omega)
  simpa [gi, List.getD_eq_getElem?_getD, List.getElem?_eq_getElem hi, List.getElem?_eq_getElem hj] using this

/- THE TABLE OF ORDERED IS A PROOF -/
theorem pTo_le {C : List (List Int)} {prev : List Int} {j i : Int} : ∀ (m h : Nat), h < m → (1 < j ∨ (h : Int) = 0) → pTo C prev j i m ≤ gi prev h + gi (gr C h) i
  | 0, h, h1, _ => by omega
  | m + 1, h, h1, h2 => by
    simp only [pTo]
    by_cases hx : h = m
    · subst hx; rw [if_pos h2]; split <;> omega
    · have := pTo_le (C := C) (prev := prev) (j := j) (i := i) m h (by omega) h2
      split
      · split <;> omega
      · omega
theorem pTo_att {C : List (List Int)} {prev : List Int} {j i : Int} : ∀ m : Nat, pTo C prev j i m < 1152921504606846976 → ∃ h : Nat, h < m ∧ (1 < j ∨ (h : Int) = 0) ∧ pTo C prev j i m = gi prev h + gi (gr C h) i
  | 0, h => by simp [pTo] at h
  | m + 1, h => by
    simp only [pTo] at h ⊢
    split
    · rename_i hc
      rw [if_pos hc] at h
      split
      · exact ⟨m, by omega, hc, rfl⟩
      · rename_i hn
        rw [if_neg hn] at h
        obtain ⟨x, h1, h2, h3⟩ := pTo_att m h
        exact ⟨x, by omega, h2, h3⟩
    · rename_i hc
      rw [if_neg hc] at h
      obtain ⟨x, h1, h2, h3⟩ := pTo_att m h
      exact ⟨x, by omega, h2, h3⟩
theorem ragg_pres {C : List (List Int)} {n k : Int} (c : Costs C n) (hk : 0 ≤ k) : ¬ Ragg (pres C n k) n := by
  have := c.n0
  rintro ⟨i, h0, h1, h2⟩
  rw [pres_len] at h1
  rw [pres_row _ _ _ _ h0 (by omega), preRow_len] at h2
  omega
theorem wild_pres {C : List (List Int)} {n k : Int} (c : Costs C n) (hk : 0 ≤ k) : ¬ Wild (pres C n k) := by
  have := c.n0
  rintro ⟨j, i, h0, h1, h2, h3, h4⟩
  rw [pres_len] at h1
  rw [pres_row _ _ _ _ h0 (by omega), preRow_len] at h3
  rw [pres_row _ _ _ _ h0 (by omega)] at h4
  have := preRow_bd c j.toNat i h2 (by omega)
  omega
theorem holds_pres {C : List (List Int)} {n k : Int} (c : Costs C n) : Holds C (pres C n k) := by
  have := c.n0
  intro j h0 h1 h2 i h3 h4 h h5 h6 h7
  rw [pres_len] at h1
  rw [pres_row _ _ _ _ h0 (by omega), preRow_len] at h4
  rw [RowOK, pres_row _ _ _ _ h0 (by omega), pres_row _ _ _ _ (by omega) (by omega)]
  have b1 := (preRow_bd c (j - 1).toNat h h5 (by omega)).1
  have b2 := (c.rng h i h5 (by omega) h3 (by omega)).1
  rw [show j.toNat = (j - 1).toNat + 1 by omega, preRow, gi_map_range _ _ _ h3 (by omega)]
  split
  · have := pTo_le (C := C) (prev := preRow C n.toNat (j - 1).toNat) (j := ((j - 1).toNat : Int) + 1) (i := (i.toNat : Int)) (i.toNat + 1) h.toNat (by omega) (by omega)
    rw [show ((h.toNat : Nat) : Int) = h by omega, show ((i.toNat : Nat) : Int) = i by omega] at this
    rw [show ((i.toNat : Nat) : Int) = i by omega]
    exact this
  · omega
end Go.Proofs.YtbchkopkgpfkgaaGreatDoor.Mg

/- The first example of the merge chapter: what its answers are. No program in sight. -/
namespace Go.Proofs.YtbchkopkgpfkgaaGreatDoor.Mg
open Go.Vc

def L0 : List (List Int) := [[0, 1, 5], [1, 0, 2], [5, 2, 0]]
theorem good0 : Good L0 := by
  refine ⟨by decide, by decide, by decide, fun i j hi hj => ?_, by decide⟩
  have hi : i < 3 := hi
  have hj : j < 3 := hj
  have h1 : i = 0 ∨ i = 1 ∨ i = 2 := by omega
  have h2 : j = 0 ∨ j = 1 ∨ j = 2 := by omega
  rcases h1 with rfl | rfl | rfl <;> rcases h2 with rfl | rfl | rfl <;> decide
theorem oE_0 : oE L0 2 = 0 := oE0 good0.chk (by omega)
theorem oN_0 : oN L0 2 = 1 := by rw [(ord_good oE_0).2.1]; exact (by kernel_rfl)
theorem oG_0 : oG L0 2 = [0, 0, 2] := by rw [(ord_good oE_0).1]; exact (by kernel_rfl)
theorem oT_0 : oT L0 2 = pres (ivals L0) 3 2 := (ord_good oE_0).2.2
theorem costs0 : Costs (ivals L0) 3 := costs_ivals good0
theorem po_1 : poE L0 2 (oT L0 2) 1 = 0 := by
  rw [oT_0]
  exact poE_0 good0.chk (by omega) (by kernel_rfl) (ragg_pres costs0 (by omega)) (wild_pres costs0 (by omega)) (by kernel_rfl) (by decide) (holds_pres costs0)
end Go.Proofs.YtbchkopkgpfkgaaGreatDoor.Mg

/- Counting kinds and runs of a grouping; a proof table bounds every grouping into intervals. No program in sight. -/
namespace Go.Proofs.YtbchkopkgpfkgaaGreatDoor.Mg
open Go.Vc
open Classical

def IsNew (G : List Int) (i : Int) : Prop := ∀ y : Int, 0 ≤ y → y < i → gi G y ≠ gi G i
noncomputable def kindsN (G : List Int) : Nat → Int
  | 0 => 0
  | m + 1 => if IsNew G m then kindsN G m + 1 else kindsN G m
noncomputable def runsN (G : List Int) : Nat → Int
  | 0 => 0
  | m + 1 => if (m : Int) = 0 ∨ gi G m ≠ gi G ((m : Int) - 1) then runsN G m + 1 else runsN G m
theorem runsN_bd (G : List Int) : ∀ m : Nat, 0 ≤ runsN G m ∧ runsN G m ≤ m
  | 0 => by simp [runsN]
  | m + 1 => by have := runsN_bd G m; simp only [runsN]; split <;> omega
theorem kindsN_step (G : List Int) {p : Int} (h : 0 ≤ p) : kindsN G (p + 1).toNat = if IsNew G p then kindsN G p.toNat + 1 else kindsN G p.toNat := by
  rw [show (p + 1).toNat = p.toNat + 1 by omega, kindsN, show ((p.toNat : Nat) : Int) = p by omega]
/-- Where as many runs as kinds are, each run begins with a new kind. -/
theorem runs_ge (G : List Int) : ∀ m : Nat, kindsN G m ≤ runsN G m
  | 0 => by simp [kindsN, runsN]
  | m + 1 => by
    have := runs_ge G m
    simp only [kindsN, runsN]
    by_cases h : IsNew G m
    · rw [if_pos h]
      by_cases h0 : (m : Int) = 0
      · rw [if_pos (Or.inl h0)]; omega
      · rw [if_pos (Or.inr (fun e => h (m - 1) (by omega) (by omega) e.symm))]; omega
    · rw [if_neg h]; split <;> omega
theorem runs_new (G : List Int) : ∀ m : Nat, runsN G m = kindsN G m → ∀ p : Int, 0 ≤ p → p < m → (p = 0 ∨ gi G p ≠ gi G (p - 1)) → IsNew G p
  | 0, _, p, h0, h1, _ => by omega
  | m + 1, h, p, h0, h1, h2 => by
    have hge := runs_ge G m
    simp only [kindsN, runsN] at h
    by_cases hp : p = m
    · subst hp
      rw [if_pos h2] at h
      by_cases hn : IsNew G m
      · exact hn
      · rw [if_neg hn] at h; omega
    · refine runs_new G m ?_ p h0 (by omega) h2
      by_cases hn : IsNew G m
      · have hst : (m : Int) = 0 ∨ gi G m ≠ gi G ((m : Int) - 1) := by
          by_cases h0 : (m : Int) = 0
          · exact Or.inl h0
          · exact Or.inr (fun e => hn (m - 1) (by omega) (by omega) e.symm)
        rw [if_pos hn, if_pos hst] at h
        omega
      · rw [if_neg hn] at h
        split at h <;> omega
theorem last_run (G : List Int) : ∀ m : Nat, ∃ h : Int, 0 ≤ h ∧ h ≤ m ∧ (h = 0 ∨ gi G h ≠ gi G (h - 1)) ∧ (∀ y : Int, h ≤ y → y ≤ m → gi G y = gi G m) ∧ runsN G (m + 1) = runsN G h.toNat + 1
  | 0 => ⟨0, by omega, by omega, Or.inl rfl, fun y a b => by rw [show y = ((0 : Nat) : Int) by omega], by simp [runsN]⟩
  | m + 1 => by
    by_cases hc : gi G ((m + 1 : Nat) : Int) ≠ gi G (((m + 1 : Nat) : Int) - 1)
    · refine ⟨((m + 1 : Nat) : Int), by omega, by omega, Or.inr hc, fun y a b => by rw [show y = ((m + 1 : Nat) : Int) by omega], ?_⟩
      rw [runsN, if_pos (Or.inr hc)]; rfl
    · obtain ⟨h, h0, h1, h2, h3, h4⟩ := last_run G m
      have hc' : gi G ((m + 1 : Nat) : Int) = gi G ((m : Nat) : Int) := by
        have := Decidable.not_not.1 hc
        rwa [show ((m + 1 : Nat) : Int) - 1 = (m : Int) by omega] at this
      refine ⟨h, h0, by omega, h2, fun y a b => ?_, ?_⟩
      · by_cases hy : y = ((m + 1 : Nat) : Int)
        · rw [hy]
        · rw [h3 y a (by omega), hc']
      · rw [runsN, if_neg (by rintro (e | e); omega; exact hc e), h4]
theorem csum_run (L : List (List Int)) (G : List Int) {h : Nat} {r : Int} (hr : 0 ≤ r) : ∀ m : Nat, (∀ y : Int, h ≤ y → y < h + m → gi G y = r) → csum L G (h + m) = csum L G h + wsum L r.toNat h m
  | 0, _ => by simp [wsum]
  | m + 1, hy => by
    have ih := csum_run L G hr m (fun y a b => hy y a (by omega))
    have h1 := hy ((h + m : Nat) : Int) (by omega) (by omega)
    rw [show h + (m + 1) = (h + m) + 1 by omega, csum, ih, h1, wsum]
    simp only [gr, gi, Int.toNat_natCast]
    omega
theorem ivTo_le (L : List (List Int)) {h i : Nat} : ∀ (m r : Nat), r < m → ivTo L h i m ≤ wsum L (h + r) h (i - h)
  | 0, r, hr => by omega
  | m + 1, r, hr => by
    simp only [ivTo]
    by_cases e : r = m
    · subst e; split <;> omega
    · have := ivTo_le L (h := h) (i := i) m r (by omega)
      split <;> omega
/-- A grouping: in range, and each report reports itself. -/
structure Grp (L : List (List Int)) (G : List Int) : Prop where
  len : G.length = L.length
  rng : ∀ i : Int, 0 ≤ i → i < L.length → 0 ≤ gi G i ∧ gi G i < L.length
  fix : ∀ i : Int, 0 ≤ i → i < L.length → gi G (gi G i) = gi G i
theorem grp_of {L : List (List Int)} {G : List Int} (h : gE L G = 0) : Grp L G := by
  by_cases h1 : G.length ≠ L.length
  · rw [gE_2 h1] at h; omega
  have h1 : G.length = L.length := by omega
  by_cases h2 : Out L G
  · rw [gE_3 h1 h2] at h; omega
  by_cases h3 : Unfix G
  · rw [gE_15 h1 h2 h3] at h; omega
  refine ⟨h1, fun i a b => ?_, fun i a b => Decidable.not_not.1 fun e => h3 ⟨i, a, by omega, e⟩⟩
  have : ¬ (gi G i < 0 ∨ (L.length : Int) ≤ gi G i) := fun e => h2 ⟨i, a, by omega, e⟩
  omega
/-- The report of a run of a grouping into intervals lies in the run. -/
theorem rep_in {L : List (List Int)} {G : List Int} (g : Grp L G) (hr : runsN G G.length = kindsN G G.length) {h i : Int} (h0 : 0 ≤ h) (h1 : h < i) (h2 : i ≤ L.length) (hs : h = 0 ∨ gi G h ≠ gi G (h - 1))
    (hrun : ∀ y : Int, h ≤ y → y < i → gi G y = gi G h) (he : i = L.length ∨ gi G i ≠ gi G (i - 1)) : h ≤ gi G h ∧ gi G h < i := by
  have hlen := g.len
  have hnew := runs_new G G.length hr
  obtain ⟨r0, r1⟩ := g.rng h h0 (by omega)
  have hf := g.fix h h0 (by omega)
  have a1 : h ≤ gi G h := by
    apply Decidable.not_not.1
    intro e
    exact hnew h h0 (by omega) hs (gi G h) r0 (by omega) hf
  refine ⟨a1, ?_⟩
  apply Decidable.not_not.1
  intro e
  have back : ∀ n : Nat, h ≤ gi G h - n → gi G (gi G h - n) = gi G h := by
    intro n
    induction n with
    | zero => intro _; rw [show gi G h - ((0 : Nat) : Int) = gi G h by omega]; exact hf
    | succ n ih =>
      intro hn
      have hp := ih (by omega)
      apply Decidable.not_not.1
      intro hne
      have := hnew (gi G h - n) (by omega) (by omega) (Or.inr (by rw [hp, show gi G h - (n : Int) - 1 = gi G h - ((n + 1 : Nat) : Int) by omega]; exact fun q => hne q.symm)) h h0 (by omega)
      exact this hp.symm
  rcases he with he | he
  · omega
  · have b1 := back (gi G h - i).toNat (by omega)
    rw [show gi G h - ((gi G h - i).toNat : Int) = i by omega] at b1
    exact he (by rw [b1, hrun (i - 1) (by omega) (by omega)])
/-- What a table that obeys the local conditions says. -/
theorem table_bound {L : List (List Int)} {G : List Int} {T : List (List Int)} {k : Int} (g : Grp L G) (hr : runsN G G.length = kindsN G G.length) (hT : Tab T L.length k) (h00 : gi (gr T 0) 0 = 0) (hH : Holds (ivals L) T) :
    ∀ (m : Nat) (j : Int), (m : Int) ≤ L.length → ((m : Int) = 0 ∨ (m : Int) = L.length ∨ gi G m ≠ gi G ((m : Int) - 1)) → 0 ≤ j → j ≤ k → runsN G m ≤ j → gi (gr T j) m ≤ csum L G m := by
  have hTl := hT.len
  have zero : ∀ j : Nat, (j : Int) ≤ k → gi (gr T j) 0 ≤ 0 := by
    intro j
    induction j with
    | zero => intro _; rw [show ((0 : Nat) : Int) = 0 from rfl, h00]; omega
    | succ j ih =>
      intro hj
      have h1 := ih (by omega)
      have h2 := hH ((j + 1 : Nat) : Int) (by omega) (by omega) (by omega) 0 (by omega) (by have := hT.row ((j + 1 : Nat) : Int) (by omega) (by omega); omega) 0 (by omega) (by omega) (Or.inr rfl)
      rw [RowOK, ivals_el (by omega) (by omega) (by omega), show (((j + 1 : Nat) : Int) - 1) = (j : Int) by omega] at h2
      have : ivTo L (0 : Int).toNat (0 : Int).toNat ((0 : Int).toNat - (0 : Int).toNat) = 0 := rfl
      omega
  intro m
  induction m using Nat.strongRecOn with
  | ind m ih =>
    intro j hm hb h0 hk hruns
    by_cases hm0 : m = 0
    · subst hm0
      have := zero j.toNat (by omega)
      rw [show ((j.toNat : Nat) : Int) = j by omega] at this
      simpa [csum] using this
    obtain ⟨h, a0, a1, a2, a3, a4⟩ := last_run G (m - 1)
    rw [show m - 1 + 1 = m by omega] at a4
    have a1' : h < (m : Int) := by omega
    have hrun : ∀ y : Int, h ≤ y → y < m → gi G y = gi G h := fun y p q => by rw [a3 y p (by omega), a3 h (by omega) (by omega)]
    obtain ⟨r0, r1⟩ := rep_in g hr (i := (m : Int)) a0 a1' hm a2 hrun (by rcases hb with hb | hb | hb; omega; exact Or.inl hb; exact Or.inr hb)
    have hrb := (runsN_bd G h.toNat).1
    have hj1 : 1 ≤ j := by omega
    have hprev : gi (gr T (j - 1)) h ≤ csum L G h.toNat := by
      have := ih h.toNat (by omega) (j - 1) (by omega) (by rw [show ((h.toNat : Nat) : Int) = h by omega]; rcases a2 with e | e; exact Or.inl e; exact Or.inr (Or.inr e)) (by omega) (by omega) (by omega)
      rwa [show ((h.toNat : Nat) : Int) = h by omega] at this
    have hone : 1 < j ∨ h = 0 := by
      by_cases hj : 1 < j
      · exact Or.inl hj
      · right
        apply Decidable.not_not.1
        intro hne
        obtain ⟨h', _, _, _, _, b4⟩ := last_run G (h.toNat - 1)
        rw [show h.toNat - 1 + 1 = h.toNat by omega] at b4
        have := (runsN_bd G h'.toNat).1
        omega
    have hrow := hH j (by omega) (by omega) hj1 (m : Int) (by omega) (by have := hT.row j (by omega) (by omega); omega) h a0 (by omega) hone
    rw [RowOK, ivals_el a0 (by omega) hm] at hrow
    have hle := ivTo_le L (h := h.toNat) (i := (m : Int).toNat) ((m : Int).toNat - h.toNat) ((gi G h).toNat - h.toNat) (by omega)
    rw [show h.toNat + ((gi G h).toNat - h.toNat) = (gi G h).toNat by omega, show (m : Int).toNat = m by omega] at hle
    rw [show (m : Int).toNat = m by omega] at hrow
    have hc := csum_run L G (h := h.toNat) (r := gi G h) (by omega) (m - h.toNat) (fun y p q => hrun y (by omega) (by omega))
    rw [show h.toNat + (m - h.toNat) = m by omega] at hc
    omega
/-- Whatever ProveOrdered accepts bounds every grouping into at most k intervals. -/
theorem proves_bound {L : List (List Int)} {G : List Int} {T : List (List Int)} {k c : Int} (h : poE L k T c = 0) (hg : gE L G = 0) (hr : runsN G G.length = kindsN G G.length) (hk : kindsN G G.length ≤ k) : c ≤ csum L G G.length := by
  by_cases h1 : chk L ≠ 0
  · rw [poE_chk h1] at h; exact absurd h h1
  have h1 : chk L = 0 := by omega
  by_cases h2 : 1 ≤ k ∧ k ≤ 32
  · by_cases h3 : (T.length : Int) ≠ k + 1 ∨ Ragg T L.length
    · rw [poE_2 h1 h2 h3] at h; omega
    obtain ⟨h3, h4⟩ := not_or.1 h3
    have h3 : (T.length : Int) = k + 1 := by omega
    by_cases h5 : Wild T
    · rw [poE_3 h1 h2 h3 h4 h5] at h; omega
    by_cases h6 : gi (gr T 0) 0 ≠ 0 ∨ gi (gr T k) L.length < c ∨ ¬ Holds (ivals L) T
    · rw [poE_13 h1 h2 h3 h4 h5 h6] at h; omega
    obtain ⟨h6, h7⟩ := not_or.1 h6
    obtain ⟨h7, h8⟩ := not_or.1 h7
    have gg := grp_of hg
    have gl := gg.len
    have := table_bound gg hr (tab_of h3 h4 h5) (by omega) (Decidable.not_not.1 h8) L.length k (by omega) (Or.inr (Or.inl rfl)) (by omega) (by omega) (by rw [← gl, hr]; exact hk)
    rw [gl]; omega
  · rw [poE_k h1 h2] at h; omega
end Go.Proofs.YtbchkopkgpfkgaaGreatDoor.Mg

/- Ordered's grouping is one into at most k intervals and costs what the table says. No program in sight. -/
namespace Go.Proofs.YtbchkopkgpfkgaaGreatDoor.Mg
open Go.Vc
open Classical

theorem gi_left {xs ys : List Int} {p : Int} (h0 : 0 ≤ p) (h1 : p < xs.length) : gi (xs ++ ys) p = gi xs p := by
  simp only [gi, List.getD_eq_getElem?_getD]
  rw [List.getElem?_append_left (by omega)]
theorem gi_rep {xs : List Int} {r : Int} {m : Nat} {p : Int} (h0 : (xs.length : Int) ≤ p) (h1 : p < xs.length + m) : gi (xs ++ List.replicate m r) p = r := by
  simp only [gi, List.getD_eq_getElem?_getD]
  rw [List.getElem?_append_right (by omega), List.getElem?_replicate, if_pos (by omega)]
  rfl
theorem kindsN_congr {A B : List Int} : ∀ m : Nat, (∀ p : Int, 0 ≤ p → p < m → gi A p = gi B p) → kindsN A m = kindsN B m
  | 0, _ => rfl
  | m + 1, h => by
    have ih := kindsN_congr m (fun p a b => h p a (by omega))
    have e : IsNew A m ↔ IsNew B m := by
      unfold IsNew
      constructor
      · intro q y a b; rw [← h y a (by omega), ← h m (by omega) (by omega)]; exact q y a b
      · intro q y a b; rw [h y a (by omega), h m (by omega) (by omega)]; exact q y a b
    simp only [kindsN, ih, e]
theorem runsN_congr {A B : List Int} : ∀ m : Nat, (∀ p : Int, 0 ≤ p → p < m → gi A p = gi B p) → runsN A m = runsN B m
  | 0, _ => rfl
  | m + 1, h => by
    have ih := runsN_congr m (fun p a b => h p a (by omega))
    simp only [runsN, ih]
    by_cases h0 : (m : Int) = 0
    · rw [if_pos (Or.inl h0), if_pos (Or.inl h0)]
    · rw [h m (by omega) (by omega), h ((m : Int) - 1) (by omega) (by omega)]
theorem csum_congr (L : List (List Int)) {A B : List Int} : ∀ m : Nat, (∀ p : Int, 0 ≤ p → p < m → gi A p = gi B p) → csum L A m = csum L B m
  | 0, _ => rfl
  | m + 1, h => by
    have ih := csum_congr L m (fun p a b => h p a (by omega))
    simp only [csum, ih, h m (by omega) (by omega)]
theorem kinds_block {G : List Int} {i : Nat} {r : Int} (hn : ∀ y : Int, 0 ≤ y → y < i → gi G y < i) (hr : (i : Int) ≤ r) : ∀ m : Nat, (∀ p : Int, (i : Int) ≤ p → p < i + (m + 1 : Nat) → gi G p = r) → kindsN G (i + (m + 1)) = kindsN G i + 1
  | 0, h => by
    rw [show i + (0 + 1) = i + 1 by omega, kindsN, if_pos (show IsNew G i from fun y a b => by have := hn y a b; have := h i (by omega) (by omega); omega)]
  | m + 1, h => by
    rw [show i + (m + 1 + 1) = (i + (m + 1)) + 1 by omega, kindsN, if_neg, kinds_block hn hr m (fun p a b => h p a (by omega))]
    intro q
    exact q i (by omega) (by omega) (by rw [h i (by omega) (by omega), h ((i + (m + 1) : Nat) : Int) (by omega) (by omega)])
theorem runs_block {G : List Int} {i : Nat} {r : Int} (hn : ∀ y : Int, 0 ≤ y → y < i → gi G y < i) (hr : (i : Int) ≤ r) : ∀ m : Nat, (∀ p : Int, (i : Int) ≤ p → p < i + (m + 1 : Nat) → gi G p = r) → runsN G (i + (m + 1)) = runsN G i + 1
  | 0, h => by
    rw [show i + (0 + 1) = i + 1 by omega, runsN, if_pos]
    by_cases h0 : (i : Int) = 0
    · exact Or.inl h0
    · have := hn ((i : Int) - 1) (by omega) (by omega)
      have := h i (by omega) (by omega)
      exact Or.inr (by omega)
  | m + 1, h => by
    rw [show i + (m + 1 + 1) = (i + (m + 1)) + 1 by omega, runsN, if_neg, runs_block hn hr m (fun p a b => h p a (by omega))]
    have e1 := h ((i + (m + 1) : Nat) : Int) (by omega) (by omega)
    have e2 := h (((i + (m + 1) : Nat) : Int) - 1) (by omega) (by omega)
    rintro (q | q)
    · omega
    · exact q (e1.trans e2.symm)
/-- What the greedy reading of the table builds. -/
theorem ordG_props {L : List (List Int)} {k : Int} (g : Good L) : ∀ (j : Nat) (i : Int) (xs : List Int), (j : Int) ≤ k → 0 ≤ i → i ≤ L.length → xs.length = i →
    gi (gr (sufs (ivals L) L.length k) j) i < 1152921504606846976 → (∀ p : Int, 0 ≤ p → p < i → 0 ≤ gi xs p ∧ gi xs p < i ∧ gi xs (gi xs p) = gi xs p) → runsN xs i.toNat = kindsN xs i.toNat → kindsN xs i.toNat ≤ k - j →
    (xs ++ ordG L (sufs (ivals L) L.length k) L.length j i).length = L.length ∧
    (∀ p : Int, 0 ≤ p → p < L.length → 0 ≤ gi (xs ++ ordG L (sufs (ivals L) L.length k) L.length j i) p ∧ gi (xs ++ ordG L (sufs (ivals L) L.length k) L.length j i) p < L.length ∧
      gi (xs ++ ordG L (sufs (ivals L) L.length k) L.length j i) (gi (xs ++ ordG L (sufs (ivals L) L.length k) L.length j i) p) = gi (xs ++ ordG L (sufs (ivals L) L.length k) L.length j i) p) ∧
    runsN (xs ++ ordG L (sufs (ivals L) L.length k) L.length j i) L.length = kindsN (xs ++ ordG L (sufs (ivals L) L.length k) L.length j i) L.length ∧
    kindsN (xs ++ ordG L (sufs (ivals L) L.length k) L.length j i) L.length ≤ k ∧
    csum L (xs ++ ordG L (sufs (ivals L) L.length k) L.length j i) L.length = csum L xs i.toNat + gi (gr (sufs (ivals L) L.length k) j) i := by
  intro j
  induction j with
  | zero =>
    intro i xs hj h0 h1 hx hf hA hB hC
    by_cases hi : i < L.length
    · have := (ord_round (L := L) (k := k) rfl h0 hi (j := ((0 : Nat) : Int)) (by omega) hj hf).1
      omega
    · have hin : i = L.length := by omega
      subst hin
      rw [ordG, List.append_nil, sufs_row _ _ _ _ (by omega) hj]
      have hl := sufRow_last (ivals L) ((L.length : Int).toNat) ((0 : Nat) : Int).toNat
      rw [show (((L.length : Int).toNat : Nat) : Int) = (L.length : Int) by omega] at hl
      rw [hl]
      rw [show (L.length : Int).toNat = L.length by omega] at hB hC ⊢
      exact ⟨by omega, hA, hB, by omega, by omega⟩
  | succ j ih =>
    intro i xs hj h0 h1 hx hf hA hB hC
    by_cases hi : i < L.length
    · obtain ⟨q0, q1, q2, q3, q4, q5⟩ := ord_round (L := L) (k := k) rfl h0 hi (j := ((j + 1 : Nat) : Int)) (by omega) hj hf
      rw [show ((j + 1 : Nat) : Int) - 1 = (j : Int) by omega] at q4 q5
      rw [show ((j + 1 : Nat) : Int).toNat = j + 1 by omega, show ((j : Nat) : Int).toNat = j by omega] at q5
      generalize nxt L (sufs (ivals L) L.length k) L.length i ((j + 1 : Nat) : Int) = er at q1 q2 q3 q4 q5
      obtain ⟨e, r⟩ := er
      simp only at q1 q2 q3 q4 q5
      obtain ⟨m, hm⟩ : ∃ m : Nat, (e - i).toNat = m + 1 := ⟨(e - i).toNat - 1, by omega⟩
      have hi' : ((i.toNat : Nat) : Int) = i := by omega
      have left : ∀ p : Int, 0 ≤ p → p < i → gi (xs ++ List.replicate (e - i).toNat r) p = gi xs p := fun p a b => gi_left a (by omega)
      have right : ∀ p : Int, i ≤ p → p < e → gi (xs ++ List.replicate (e - i).toNat r) p = r := fun p a b => gi_rep (by omega) (by omega)
      have ee : e.toNat = i.toNat + (m + 1) := by omega
      have hk1 : kindsN (xs ++ List.replicate (e - i).toNat r) e.toNat = kindsN xs i.toNat + 1 := by
        rw [ee, kinds_block (r := r) (fun y a b => by rw [left y a (by omega)]; have := (hA y a (by omega)).2.1; omega) (by omega) m (fun p a b => right p (by omega) (by omega)),
          kindsN_congr i.toNat (fun p a b => left p a (by omega))]
      have hr1 : runsN (xs ++ List.replicate (e - i).toNat r) e.toNat = runsN xs i.toNat + 1 := by
        rw [ee, runs_block (r := r) (fun y a b => by rw [left y a (by omega)]; have := (hA y a (by omega)).2.1; omega) (by omega) m (fun p a b => right p (by omega) (by omega)),
          runsN_congr i.toNat (fun p a b => left p a (by omega))]
      have hc1 : csum L (xs ++ List.replicate (e - i).toNat r) e.toNat = csum L xs i.toNat + wsum L r.toNat i.toNat (e - i).toNat := by
        rw [ee, csum_run L _ (r := r) (by omega) (m + 1) (fun p a b => right p (by omega) (by omega)), csum_congr L i.toNat (fun p a b => left p a (by omega)), hm]
      have hlt : gi (gr (sufs (ivals L) L.length k) (j : Int)) e < 1152921504606846976 := by
        have hw := (wsum_bd g (r := r.toNat) (h := i.toNat) (by omega) (e - i).toNat (by omega)).1
        omega
      have := ih e (xs ++ List.replicate (e - i).toNat r) (by omega) (by omega) q3 (by simp; omega) hlt
        (fun p a b => by
          by_cases hp : p < i
          · obtain ⟨u1, u2, u3⟩ := hA p a hp
            rw [left p a hp, left _ u1 u2]
            exact ⟨u1, by omega, u3⟩
          · rw [right p (by omega) b, right r q1 q2]
            exact ⟨by omega, q2, rfl⟩)
        (by rw [hk1, hr1, hB]) (by rw [hk1]; omega)
      rw [List.append_assoc, ← q5, hc1] at this
      obtain ⟨t1, t2, t3, t4, t5⟩ := this
      exact ⟨t1, t2, t3, t4, by rw [t5]; omega⟩
    · have hin : i = L.length := by omega
      subst hin
      rw [ordG, if_neg (by omega), List.append_nil, sufs_row _ _ _ _ (by omega) hj]
      have hl := sufRow_last (ivals L) ((L.length : Int).toNat) ((j + 1 : Nat) : Int).toNat
      rw [show (((L.length : Int).toNat : Nat) : Int) = (L.length : Int) by omega] at hl
      rw [hl]
      rw [show (L.length : Int).toNat = L.length by omega] at hB hC ⊢
      exact ⟨by omega, hA, hB, by omega, by omega⟩

/- THE TWO TABLES AGREE -/
theorem mTo_mono {C : List (List Int)} {p q : List Int} {i : Int} : ∀ m : Nat, (∀ x : Int, i < x → x ≤ i + m → gi p x ≤ gi q x) → mTo C p i m ≤ mTo C q i m
  | 0, _ => by simp [mTo]
  | m + 1, h => by
    have ih := mTo_mono (C := C) (p := p) (q := q) m (fun x a b => h x a (by omega))
    have := h (i + 1 + m) (by omega) (by omega)
    simp only [mTo]
    split <;> split <;> omega
theorem sufRow_mono {C : List (List Int)} {n : Int} (c : Costs C n) : ∀ (j : Nat) (x : Int), 0 ≤ x → x ≤ n → gi (sufRow C n.toNat (j + 1)) x ≤ gi (sufRow C n.toNat j) x
  | 0, x, h0, h1 => by
    by_cases hx : x = n
    · have e1 := sufRow_last C n.toNat 1
      have e2 := sufRow_last C n.toNat 0
      rw [show ((n.toNat : Nat) : Int) = x by omega] at e1 e2
      show gi (sufRow C n.toNat 1) x ≤ _
      omega
    · have := (sufRow_bd c 1 x h0 h1).2
      have e : gi (sufRow C n.toNat 0) x = 1152921504606846976 := by rw [sufRow, gi_map_range _ _ _ h0 (by omega), if_pos (by omega)]
      rw [e]; exact this
  | j + 1, x, h0, h1 => by
    rw [sufRow, sufRow, gi_map_range _ _ _ h0 (by omega), gi_map_range _ _ _ h0 (by omega)]
    split
    · exact mTo_mono _ fun y a b => sufRow_mono c j y (by omega) (by omega)
    · omega
theorem sufRow_mono_add {C : List (List Int)} {n : Int} (c : Costs C n) (j : Nat) {x : Int} (h0 : 0 ≤ x) (h1 : x ≤ n) : ∀ d : Nat, gi (sufRow C n.toNat (j + d)) x ≤ gi (sufRow C n.toNat j) x
  | 0 => by simp
  | d + 1 => by
    have := sufRow_mono_add c j h0 h1 d
    have := sufRow_mono c (j + d) x h0 h1
    rw [show j + (d + 1) = j + d + 1 by omega]; omega
theorem suf_pre {C : List (List Int)} {n : Int} (c : Costs C n) : ∀ (j m : Nat) (i : Int), 0 ≤ i → i ≤ n → gi (sufRow C n.toNat (m + j)) 0 ≤ gi (preRow C n.toNat j) i + gi (sufRow C n.toNat m) i
  | 0, m, i, h0, h1 => by
    have n0 := c.n0
    have b1 := (sufRow_bd c m i h0 h1).1
    have b2 := (sufRow_bd c m 0 (by omega) (by omega)).2
    by_cases hi : i = 0
    · subst hi; rw [preRow_first]; simp
    · have e : gi (preRow C n.toNat 0) i = 1152921504606846976 := by rw [preRow, gi_map_range _ _ _ h0 (by omega), if_pos (by omega)]
      rw [e]; simp only [Nat.add_zero]; omega
  | j + 1, m, i, h0, h1 => by
    have n0 := c.n0
    have b1 := (sufRow_bd c m i h0 h1).1
    have b2 := (sufRow_bd c (m + (j + 1)) 0 (by omega) (by omega)).2
    by_cases hi : i = 0
    · subst hi
      have := sufRow_mono_add c m (x := 0) (by omega) n0 (j + 1)
      rw [preRow_first]; omega
    · have e : gi (preRow C n.toNat (j + 1)) i = pTo C (preRow C n.toNat j) ((j : Int) + 1) i (i.toNat + 1) := by
        rw [preRow, gi_map_range _ _ _ h0 (by omega), if_pos (by omega), show ((i.toNat : Nat) : Int) = i by omega]
      rw [e]
      by_cases hf : pTo C (preRow C n.toNat j) ((j : Int) + 1) i (i.toNat + 1) < 1152921504606846976
      · obtain ⟨h, g1, g2, g3⟩ := pTo_att _ hf
        rw [g3]
        have bc := (c.rng h i (by omega) (by omega) h0 h1).1
        by_cases hh : (h : Int) = i
        · have ih := suf_pre c j m i h0 h1
          have := sufRow_mono c (m + j) 0 (by omega) n0
          rw [hh] at bc ⊢
          rw [show m + (j + 1) = m + j + 1 by omega]; omega
        · have ih := suf_pre c j (m + 1) h (by omega) (by omega)
          have hle := mTo_le (C := C) (prev := sufRow C n.toNat m) (i := (h : Int)) (n.toNat - h) i (by omega) (by omega)
          have es : gi (sufRow C n.toNat (m + 1)) h = mTo C (sufRow C n.toNat m) h (n.toNat - h) := by
            rw [sufRow, gi_map_range _ _ _ (by omega) (by omega), if_pos (by omega)]; simp
          rw [es] at ih
          rw [show m + (j + 1) = m + 1 + j by omega]; omega
      · omega
theorem oE_inv {L : List (List Int)} {k : Int} (h : oE L k = 0) : chk L = 0 ∧ 1 ≤ k ∧ k ≤ 32 := by
  by_cases h1 : chk L ≠ 0
  · rw [oE1 h1] at h; exact absurd h h1
  · by_cases h2 : 1 ≤ k ∧ k ≤ 32
    · exact ⟨by omega, h2⟩
    · rw [oE3 (by omega) h2] at h; omega
/-- All that Ordered's answer promises but that it is the first. -/
theorem ord_final {L : List (List Int)} {k : Int} (h : oE L k = 0) : cE L (oG L k) = 0 ∧ cN L (oG L k) = oN L k ∧ runsN (oG L k) (oG L k).length = kindsN (oG L k) (oG L k).length ∧
    kindsN (oG L k) (oG L k).length ≤ k ∧ poE L k (oT L k) (oN L k) = 0 := by
  obtain ⟨h1, h2, h3⟩ := oE_inv h
  have g := good_of_chk h1
  obtain ⟨e1, e2, e3⟩ := ord_good h
  have hk : ((k.toNat : Nat) : Int) = k := by omega
  have hn : (L.length : Int).toNat = L.length := by omega
  have c := costs_ivals g
  have n0 := c.n0
  have P := ordG_props g (k := k) k.toNat 0 [] (by omega) (by omega) (by omega) rfl
    (by rw [hk, sufs_row _ _ _ _ (by omega) (by omega), hn]; exact suf_fin g (by omega)) (fun p a b => by omega) rfl (by simp [kindsN]; omega)
  rw [List.nil_append, ← e1] at P
  obtain ⟨p1, p2, p3, p4, p5⟩ := P
  rw [hk, ← e2] at p5
  simp only [Int.toNat_zero, csum, Int.zero_add] at p5
  have gE0 : gE L (oG L k) = 0 := gE_0 p1 (by rintro ⟨i, a, b, d⟩; have := p2 i a (by omega); omega) (by rintro ⟨i, a, b, d⟩; exact d (p2 i a (by omega)).2.2)
  have c0 : cE L (oG L k) = 0 := by rw [cE_g h1, gE0]
  refine ⟨c0, by rw [cN_good c0, p1, p5], by rw [p1]; exact p3, by rw [p1]; exact p4, ?_⟩
  rw [e3]
  refine poE_0 h1 ⟨h2, h3⟩ (by rw [pres_len]; omega) (ragg_pres c (by omega)) (wild_pres c (by omega)) ?_ ?_ (holds_pres c)
  · rw [pres_row _ _ _ _ (by omega) (by omega)]; exact preRow_first _ _ _
  · rw [e2, pres_row _ _ _ _ (by omega) (by omega), sufs_row _ _ _ _ (by omega) (by omega)]
    have := suf_pre c k.toNat 0 L.length (by omega) (by omega)
    have e := sufRow_last (ivals L) (L.length : Int).toNat 0
    rw [show (((L.length : Int).toNat : Nat) : Int) = (L.length : Int) by omega] at e
    rw [Nat.zero_add, e] at this
    omega
end Go.Proofs.YtbchkopkgpfkgaaGreatDoor.Mg
