/- Wu. -/
import Derived.Test.YtbchkopkgpfkgaaGreatDoorWa
import Derived.KernelRfl
namespace Go.Proofs.YtbchkopkgpfkgaaGreatDoor
open Go.Vc
open Classical
def sumN (f : Nat → Int) : Nat → Int
  | 0 => 0
  | n + 1 => sumN f n + f n
def maxN (f : Nat → Int) : Nat → Int
  | 0 => 0
  | n + 1 => if maxN f n < f n then f n else maxN f n
theorem sumN_step {f : Nat → Int} {j : Int} (h : 0 ≤ j) : sumN f (j + 1).toNat = sumN f j.toNat + f j.toNat := by
  rw [show (j + 1).toNat = j.toNat + 1 by omega]; rfl
theorem maxN_step {f : Nat → Int} {j : Int} (h : 0 ≤ j) : maxN f (j + 1).toNat = if maxN f j.toNat < f j.toNat then f j.toNat else maxN f j.toNat := by
  rw [show (j + 1).toNat = j.toNat + 1 by omega]; rfl
theorem sumN_congr {f g : Nat → Int} : ∀ {n : Nat}, (∀ i, i < n → f i = g i) → sumN f n = sumN g n
  | 0, _ => rfl
  | n + 1, h => by
    show sumN f n + f n = sumN g n + g n
    rw [sumN_congr (n := n) fun i hi => h i (by omega), h n (by omega)]
theorem maxN_congr {f g : Nat → Int} : ∀ {n : Nat}, (∀ i, i < n → f i = g i) → maxN f n = maxN g n
  | 0, _ => rfl
  | n + 1, h => by
    show (if maxN f n < f n then f n else maxN f n) = (if maxN g n < g n then g n else maxN g n)
    rw [maxN_congr (n := n) fun i hi => h i (by omega), h n (by omega)]
theorem sumN_le {f g : Nat → Int} : ∀ {n : Nat}, (∀ i, i < n → f i ≤ g i) → sumN f n ≤ sumN g n
  | 0, _ => Int.le_refl _
  | n + 1, h => by
    show sumN f n + f n ≤ sumN g n + g n
    have h1 := sumN_le (n := n) fun i hi => h i (by omega)
    have h2 := h n (by omega)
    omega
theorem sumN_zero : ∀ {n : Nat}, sumN (fun _ => 0) n = 0
  | 0 => rfl
  | n + 1 => by show sumN (fun _ => 0) n + 0 = 0; rw [sumN_zero (n := n)]; rfl
theorem sumN_const (c : Int) : ∀ {n : Nat}, sumN (fun _ => c) n = n * c
  | 0 => by simp [sumN]
  | n + 1 => by
    show sumN (fun _ => c) n + c = _
    rw [sumN_const c (n := n)]
    have : ((n + 1 : Nat) : Int) * c = n * c + c := by rw [show ((n + 1 : Nat) : Int) = n + 1 by omega, Int.add_mul, Int.one_mul]
    omega
theorem sumN_add {f g : Nat → Int} : ∀ {n : Nat}, sumN (fun i => f i + g i) n = sumN f n + sumN g n
  | 0 => rfl
  | n + 1 => by
    show sumN (fun i => f i + g i) n + (f n + g n) = sumN f n + f n + (sumN g n + g n)
    rw [sumN_add (n := n)]; omega
theorem sumN_comm {f : Nat → Nat → Int} {m : Nat} : ∀ {n : Nat}, sumN (fun i => sumN (fun j => f i j) m) n = sumN (fun j => sumN (fun i => f i j) n) m
  | 0 => by
    show 0 = sumN (fun _ => 0) m
    rw [sumN_zero]
  | n + 1 => by
    show sumN (fun i => sumN (fun j => f i j) m) n + sumN (fun j => f n j) m = sumN (fun j => sumN (fun i => f i j) n + f n j) m
    rw [sumN_comm (n := n), sumN_add]
theorem sumN_nn {f : Nat → Int} {n : Nat} (h : ∀ i, i < n → 0 ≤ f i) : 0 ≤ sumN f n := by
  have := sumN_le (f := fun _ => 0) (g := f) (n := n) h
  rwa [sumN_zero] at this
theorem sumN_bd {f : Nat → Int} {n : Nat} {B : Int} (h : ∀ i, i < n → f i ≤ B) : sumN f n ≤ n * B := by
  have := sumN_le (f := f) (g := fun _ => B) (n := n) h
  rwa [sumN_const] at this
theorem sumN_mono {f : Nat → Int} {m : Nat} : ∀ {n : Nat}, (∀ i, i < n → 0 ≤ f i) → m ≤ n → sumN f m ≤ sumN f n
  | 0, _, hm => by rw [show m = 0 by omega]; exact Int.le_refl _
  | n + 1, h, hm => by
    by_cases e : m = n + 1
    · rw [e]; exact Int.le_refl _
    · have h1 := sumN_mono (m := m) (n := n) (fun i hi => h i (by omega)) (by omega)
      have h2 := h n (by omega)
      show sumN f m ≤ sumN f n + f n
      omega
theorem sumN_el {f : Nat → Int} {n i : Nat} (h : ∀ i, i < n → 0 ≤ f i) (hi : i < n) : f i ≤ sumN f n := by
  have h1 := sumN_mono (m := i + 1) h (by omega)
  have h2 := sumN_nn (f := f) (n := i) fun j hj => h j (by omega)
  have h3 : sumN f (i + 1) = sumN f i + f i := rfl
  omega
theorem sumN_one {f : Nat → Int} {x : Nat} : ∀ {n : Nat}, (∀ i, i < n → i ≠ x → f i = 0) → sumN f n = if x < n then f x else 0
  | 0, _ => by simp [sumN]
  | n + 1, h => by
    show sumN f n + f n = _
    rw [sumN_one (n := n) fun i hi => h i (by omega)]
    by_cases e : x = n
    · subst e; rw [if_neg (by omega), if_pos (by omega)]; omega
    · rw [h n (by omega) (fun q => e q.symm)]
      by_cases e2 : x < n
      · rw [if_pos e2, if_pos (by omega)]; omega
      · rw [if_neg e2, if_neg (by omega)]; omega
theorem maxN_nn {f : Nat → Int} : ∀ {n : Nat}, 0 ≤ maxN f n
  | 0 => Int.le_refl _
  | n + 1 => by
    have := maxN_nn (f := f) (n := n)
    show 0 ≤ if maxN f n < f n then f n else maxN f n
    split <;> omega
theorem maxN_el {f : Nat → Int} : ∀ {n i : Nat}, i < n → f i ≤ maxN f n
  | 0, _, h => by omega
  | n + 1, i, h => by
    show f i ≤ if maxN f n < f n then f n else maxN f n
    by_cases e : i = n
    · subst e; split <;> omega
    · have := maxN_el (f := f) (n := n) (i := i) (by omega)
      split <;> omega
theorem maxN_le {f : Nat → Int} {B : Int} (hB : 0 ≤ B) : ∀ {n : Nat}, (∀ i, i < n → f i ≤ B) → maxN f n ≤ B
  | 0, _ => hB
  | n + 1, h => by
    have h1 := maxN_le hB (n := n) fun i hi => h i (by omega)
    have h2 := h n (by omega)
    show (if maxN f n < f n then f n else maxN f n) ≤ B
    split <;> omega
def tot (xs : List Int) : Int := sumN (fun i => xs.getD i 0) xs.length
def rowOK (r : List Int) : Prop := (∀ i : Nat, i < r.length → 0 ≤ r.getD i 0) ∧ tot r ≤ 1048576
/-- What the sum of a row of a channel is said to be. -/
noncomputable def csum (r : List Int) : Int := if rowOK r then tot r else -1
theorem csum_1 {r : List Int} (h : rowOK r) : csum r = tot r := if_pos h
theorem csum_0 {r : List Int} (h : ¬ rowOK r) : csum r = -1 := if_neg h
theorem tot_nn {r : List Int} (h : ∀ i : Nat, i < r.length → 0 ≤ r.getD i 0) : 0 ≤ tot r := sumN_nn h
theorem csum_bd (r : List Int) : -1 ≤ csum r ∧ csum r ≤ 1048576 := by
  by_cases h : rowOK r
  · rw [csum_1 h]; have := tot_nn h.1; have := h.2; omega
  · rw [csum_0 h]; omega
theorem csum_neg {r : List Int} {j : Int} (h0 : 0 ≤ j) (h1 : j < r.length) (h : gi r j < 0) : csum r = -1 := csum_0 fun q => by
  have := q.1 j.toNat (by omega)
  have e : gi r j = r.getD j.toNat 0 := rfl
  omega
theorem csum_big {r : List Int} {j : Int} (h0 : 0 ≤ j) (h1 : j < r.length) (h : 1048576 < sumN (fun i => r.getD i 0) j.toNat + gi r j) : csum r = -1 := csum_0 fun q => by
  have e : sumN (fun i => r.getD i 0) (j.toNat + 1) = sumN (fun i => r.getD i 0) j.toNat + gi r j := rfl
  have := sumN_mono (f := fun i => r.getD i 0) (m := j.toNat + 1) (n := r.length) q.1 (by omega)
  have := q.2
  unfold tot at this
  omega
theorem csum_end {r : List Int} (h : ∀ i : Int, 0 ≤ i → i < r.length → 0 ≤ gi r i) (h2 : sumN (fun i => r.getD i 0) r.length ≤ 1048576) : csum r = sumN (fun i => r.getD i 0) r.length := csum_1 ⟨fun i hi => by
  have := h i (by omega) (by omega)
  exact this, h2⟩
/-- Channels. -/
structure Chn (L : List (List Int)) : Prop where
  pos : 1 ≤ L.length
  le : L.length ≤ 256
  wpos : 1 ≤ (L.getD 0 []).length
  wle : (L.getD 0 []).length ≤ 256
  tpos : 1 ≤ tot (L.getD 0 [])
  row : ∀ x : Nat, x < L.length → (L.getD x []).length = (L.getD 0 []).length ∧ rowOK (L.getD x []) ∧ tot (L.getD x []) = tot (L.getD 0 [])
/-- Priors. -/
def Pri (p : List Int) (n : Int) : Prop := 1 ≤ n ∧ p.length = n ∧ (∀ i : Nat, i < p.length → 0 ≤ p.getD i 0) ∧ tot p ≤ 65536 ∧ 0 < tot p
/-- Gain functions. -/
def Gai (G : List (List Int)) (n : Int) : Prop := 1 ≤ n ∧ 1 ≤ G.length ∧ G.length ≤ 64 ∧ ∀ a : Nat, a < G.length → (G.getD a []).length = n ∧ ∀ i : Nat, i < (G.getD a []).length → 0 ≤ (G.getD a []).getD i 0 ∧ (G.getD a []).getD i 0 ≤ 1024
def colF (L : List (List Int)) (p : List Int) (y : Nat) : List Int := (List.range L.length).map fun x => p.getD x 0 * (L.getD x []).getD y 0
def wdt (L : List (List Int)) : Nat := (L.getD 0 []).length
def cmaxF (L : List (List Int)) (y : Nat) : Int := maxN (fun x => (L.getD x []).getD y 0) L.length
def topsF (L : List (List Int)) : Int := sumN (cmaxF L) (wdt L)
def totC (L : List (List Int)) : Int := tot (L.getD 0 [])
def frN (n d : Int) : Int := n / (Int.gcd n d : Int)
def frD (n d : Int) : Int := d / (Int.gcd n d : Int)
theorem colF_len {L : List (List Int)} {p : List Int} {y : Nat} : (colF L p y).length = L.length := by simp [colF]
theorem colF_el {L : List (List Int)} {p : List Int} {y x : Nat} (h : x < L.length) : (colF L p y).getD x 0 = p.getD x 0 * (L.getD x []).getD y 0 := by
  unfold colF; rw [List.getD_eq_getElem?_getD]; simp [h]
/-- Weights: numbers from 0 with a bounded sum. -/
structure Wts (w : List Int) (B : Int) : Prop where
  nn : ∀ i : Nat, i < w.length → 0 ≤ w.getD i 0
  le : tot w ≤ B
theorem Wts.el {w : List Int} {B : Int} (h : Wts w B) {i : Nat} (hi : i < w.length) : w.getD i 0 ≤ B := Int.le_trans (sumN_el h.nn hi) h.le
theorem Chn.nn {L : List (List Int)} (c : Chn L) {x y : Nat} (hx : x < L.length) (hy : y < wdt L) : 0 ≤ (L.getD x []).getD y 0 := (c.row x hx).2.1.1 y (by rw [(c.row x hx).1]; exact hy)
theorem Chn.ele {L : List (List Int)} (c : Chn L) {x y : Nat} (hx : x < L.length) (hy : y < wdt L) : (L.getD x []).getD y 0 ≤ totC L := by
  have r := c.row x hx
  have := sumN_el (f := fun i => (L.getD x []).getD i 0) r.2.1.1 (i := y) (by rw [r.1]; exact hy)
  have e : sumN (fun i => (L.getD x []).getD i 0) (L.getD x []).length = tot (L.getD x []) := rfl
  rw [e, r.2.2] at this; exact this
theorem Chn.tle {L : List (List Int)} (c : Chn L) : totC L ≤ 1048576 := (c.row 0 c.pos).2.1.2
theorem Pri.wts {p : List Int} {n : Int} (h : Pri p n) : Wts p 65536 := ⟨h.2.2.1, h.2.2.2.1⟩
theorem cmax_bd {L : List (List Int)} (c : Chn L) {y : Nat} (hy : y < wdt L) : 0 ≤ cmaxF L y ∧ cmaxF L y ≤ 1048576 := by
  refine ⟨maxN_nn, maxN_le (by omega) fun x hx => ?_⟩
  have := c.ele hx hy; have := c.tle; omega
theorem tops_bd {L : List (List Int)} (c : Chn L) {m : Nat} (hm : m ≤ wdt L) : 0 ≤ sumN (cmaxF L) m ∧ sumN (cmaxF L) m ≤ m * 1048576 :=
  ⟨sumN_nn fun y hy => (cmax_bd c (by omega)).1, sumN_bd fun y hy => (cmax_bd c (by omega)).2⟩
theorem gcd_step {o n : Int} (ho : 0 ≤ o) (hn : 0 < n) : Int.gcd n (o % n) = Int.gcd o n := by
  have e1 : (o % n).natAbs = o.natAbs % n.natAbs := by rw [← Int.natAbs_emod_of_nonneg ho]
  unfold Int.gcd
  rw [e1, Nat.gcd_comm o.natAbs n.natAbs, Nat.gcd_rec n.natAbs o.natAbs, Nat.gcd_comm]
theorem gcd_pos {n d : Int} (h : 1 ≤ d) : 1 ≤ (Int.gcd n d : Int) ∧ (Int.gcd n d : Int) ≤ d := by
  have h1 := Int.gcd_pos_of_ne_zero_right n (show d ≠ 0 by omega)
  have h2 := Int.le_of_dvd (by omega) (Int.gcd_dvd_right n d)
  omega
theorem fr_mulN {n d : Int} : frN n d * (Int.gcd n d : Int) = n := Int.ediv_mul_cancel (Int.gcd_dvd_left n d)
theorem fr_mulD {n d : Int} : frD n d * (Int.gcd n d : Int) = d := Int.ediv_mul_cancel (Int.gcd_dvd_right n d)
theorem chn_row {L : List (List Int)} {x : Int} (x0 : 0 ≤ x) (x1 : x < L.length) (c : Chn L) : (gr L x).length = (gr L 0).length ∧ csum (gr L x) = csum (gr L 0) ∧ 1 ≤ csum (gr L 0) := by
  have r := c.row x.toNat (by omega)
  have r0 := c.row 0 c.pos
  have e : gr L x = L.getD x.toNat [] := rfl
  have e0 : gr L 0 = L.getD 0 [] := rfl
  rw [e, e0, csum_1 r.2.1, csum_1 r0.2.1]
  exact ⟨r.1, r.2.2, c.tpos⟩
theorem chn_end {L : List (List Int)} (h0 : 1 ≤ L.length) (h1 : L.length ≤ 256) (h2 : 1 ≤ (gr L 0).length) (h3 : (gr L 0).length ≤ 256) (h4 : 1 ≤ csum (gr L 0)) (h : ∀ x : Int, 0 ≤ x → x < L.length → (gr L x).length = (gr L 0).length ∧ csum (gr L x) = csum (gr L 0)) : Chn L := by
  have ok : ∀ x : Nat, x < L.length → rowOK (L.getD x []) := fun x hx => Classical.byContradiction fun q => by
    have := (h x (by omega) (by omega)).2
    have e : gr L (x : Int) = L.getD x [] := by unfold gr; rw [Int.toNat_natCast]
    rw [e, csum_0 q] at this; omega
  have e0 : gr L 0 = L.getD 0 [] := rfl
  have r0 := ok 0 h0
  refine ⟨h0, h1, h2, h3, by rw [e0, csum_1 r0] at h4; exact h4, fun x hx => ?_⟩
  have := h x (by omega) (by omega)
  have e : gr L (x : Int) = L.getD x [] := by unfold gr; rw [Int.toNat_natCast]
  rw [e, e0, csum_1 (ok x hx), csum_1 r0] at this
  exact ⟨this.1, ok x hx, this.2⟩
theorem Chn.rl {L : List (List Int)} (c : Chn L) {x : Int} (x0 : 0 ≤ x) (x1 : x < L.length) : (gr L x).length = (gr L 0).length := (chn_row x0 x1 c).1
theorem Chn.wd {L : List (List Int)} (_c : Chn L) : (gr L 0).length = wdt L := rfl
theorem wts_step {w : List Int} {B j : Int} (h : Wts w B) (j0 : 0 ≤ j) (j1 : j < w.length) : 0 ≤ sumN (fun i => w.getD i 0) j.toNat ∧ 0 ≤ gi w j ∧ sumN (fun i => w.getD i 0) j.toNat + gi w j ≤ B := by
  have e : sumN (fun i => w.getD i 0) (j.toNat + 1) = sumN (fun i => w.getD i 0) j.toNat + gi w j := rfl
  have h1 := sumN_mono (f := fun i => w.getD i 0) (m := j.toNat + 1) (n := w.length) h.nn (by omega)
  have h2 := sumN_nn (f := fun i => w.getD i 0) (n := j.toNat) fun i hi => h.nn i (by omega)
  have h3 : 0 ≤ gi w j := h.nn j.toNat (by omega)
  have h4 := h.le
  unfold tot at h4
  exact ⟨h2, h3, by omega⟩
theorem Gai.bd {G : List (List Int)} {n a : Int} (h : Gai G n) (a0 : 0 ≤ a) (a1 : a < G.length) : ((gr G a).length : Int) = n ∧ ∀ i : Nat, i < (gr G a).length → 0 ≤ (gr G a).getD i 0 ∧ (gr G a).getD i 0 ≤ 1024 := h.2.2.2 a.toNat (by omega)
def jnt (L : List (List Int)) (p : List Int) (y x : Nat) : List Int := (List.range p.length).map fun i => if i < x then p.getD i 0 * (L.getD i []).getD y 0 else p.getD i 0
theorem jnt_len {L : List (List Int)} {p : List Int} {y x : Nat} : (jnt L p y x).length = p.length := by simp [jnt]
theorem jnt_0 {L : List (List Int)} {p : List Int} {y : Nat} : jnt L p y 0 = p := by
  apply List.ext_getElem
  · simp [jnt]
  · intro i h1 h2; simp [jnt, h2]
theorem jnt_el {L : List (List Int)} {p : List Int} {y : Nat} {x : Int} (x0 : 0 ≤ x) (x1 : x < p.length) : gi (jnt L p y x.toNat) x = gi p x := by
  unfold jnt
  rw [gi_map_range _ _ _ x0 (by omega), if_neg (by omega)]
theorem jnt_step {L : List (List Int)} {p : List Int} {y x : Int} (x0 : 0 ≤ x) (_x1 : x < p.length) : (jnt L p y.toNat x.toNat).set x.toNat (gi p x * gi (gr L x) y) = jnt L p y.toNat (x + 1).toNat := by
  unfold jnt
  rw [set_map_range]
  apply List.map_congr_left
  intro i hi
  by_cases e : i = x.toNat
  · subst e; rw [if_pos rfl, if_pos (by omega)]
  · rw [if_neg e]
    by_cases h : i < x.toNat
    · rw [if_pos h, if_pos (by omega)]
    · rw [if_neg h, if_neg (by omega)]
theorem jnt_end {L : List (List Int)} {p : List Int} {y : Nat} (h : p.length = L.length) : jnt L p y p.length = colF L p y := by
  unfold jnt colF
  rw [h]
  apply List.map_congr_left
  intro i hi
  rw [if_pos (by simpa using hi)]
def repP (n t : Nat) : List Value := List.replicate t (Value.int .i64 1) ++ List.replicate (n - t) (Value.int .i64 0)
theorem repP_len {n t : Nat} (h : t ≤ n) : (repP n t).length = n := by simp [repP]; omega
theorem repP_1 {n : Nat} (h : 1 ≤ n) : (List.replicate n (Value.int .i64 0)).take 0 ++ [Value.int .i64 1] ++ (List.replicate n (Value.int .i64 0)).drop (0 + [Value.int .i64 1].length) = repP n 1 := by
  simp [repP]
theorem repP_step {n t k : Nat} (h : t + k ≤ n) : (repP n t).take t ++ List.replicate k (Value.int .i64 1) ++ (repP n t).drop (t + k) = repP n (t + k) := by
  unfold repP
  have e1 : (List.replicate t (Value.int .i64 1) ++ List.replicate (n - t) (Value.int .i64 0)).take t = List.replicate t (Value.int .i64 1) := by
    rw [List.take_append_of_le_length (by simp)]; simp
  have e2 : (List.replicate t (Value.int .i64 1) ++ List.replicate (n - t) (Value.int .i64 0)).drop (t + k) = List.replicate (n - (t + k)) (Value.int .i64 0) := by
    rw [List.drop_append]
    simp
    omega
  rw [e1, e2, List.replicate_append_replicate]
theorem repP_end {n : Nat} : repP n n = (List.replicate n (1 : Int)).map (Value.int .i64) := by simp [repP]
theorem ones_pri {n : Nat} (h : 1 ≤ n) (h2 : n ≤ 256) : Pri (List.replicate n 1) n := by
  have e : ∀ m, m ≤ n → sumN (fun i => (List.replicate n (1 : Int)).getD i 0) m = m := fun m hm => by
    have := sumN_congr (f := fun i => (List.replicate n (1 : Int)).getD i 0) (g := fun _ => (1 : Int)) (n := m) (fun i hi => by
      have : i < n := by omega
      simp [List.getD_eq_getElem?_getD, List.getElem?_replicate, this])
    rw [this, sumN_const]; omega
  have t : tot (List.replicate n (1 : Int)) = n := by unfold tot; rw [List.length_replicate]; exact e n (Nat.le_refl _)
  refine ⟨by omega, by simp, fun i hi => ?_, by rw [t]; omega, by rw [t]; omega⟩
  rw [List.length_replicate] at hi
  simp [List.getD_eq_getElem?_getD, List.getElem?_replicate, hi]
theorem max_ones {L : List (List Int)} {y : Nat} : maxN (fun x => (colF L (List.replicate L.length 1) y).getD x 0) L.length = cmaxF L y := maxN_congr fun x hx => by
  rw [colF_el hx]
  simp [List.getD_eq_getElem?_getD, List.getElem?_replicate, hx]
noncomputable def iN (c : Prop) (x : Int) : Int := if c then x else 0
noncomputable def iE (c : Prop) : Int := if c then 0 else 1
theorem iN_t {c : Prop} {x : Int} (h : c) : iN c x = x := if_pos h
theorem iN_f {c : Prop} {x : Int} (h : ¬ c) : iN c x = 0 := if_neg h
theorem iE_t {c : Prop} (h : c) : iE c = 0 := if_pos h
theorem iE_f {c : Prop} (h : ¬ c) : iE c = 1 := if_neg h
theorem min1 {n : Int} (h : 1 ≤ n) : [Value.int .i64 1].length = Nat.min 1 n.toNat := by
  show 1 = min 1 n.toNat
  omega
theorem repP_src {C : Cx} {V : HV} {σ : Res} {w : World} {k b n t m : Nat} {E : TypeId} (hm : Mem C V σ w) (hk : σ[k]? = some (Arr E b (repP n t))) (h : m ≤ t) {j : Nat} {u : Value} (hu : (List.replicate m (Value.int .i64 1))[j]? = some u) :
    w.cell? ((⟨b, 0, none⟩ : Addr).add j) = some u := by
  have hj : j < m := by have := (List.getElem?_eq_some_iff.1 hu).1; simpa using this
  have e : (repP n t)[j]? = some u := by
    rw [← hu]
    unfold repP
    rw [List.getElem?_append_left (by simp; omega)]
    simp [List.getElem?_replicate, hj, show j < t by omega]
  exact news_own hk w hm j u e
end Go.Proofs.YtbchkopkgpfkgaaGreatDoor

namespace Go.Proofs.YtbchkopkgpfkgaaGreatDoor
open Go.Vc
def desc (r : List Int) : List Int := r.mergeSort fun x y => decide (y ≤ x)
end Go.Proofs.YtbchkopkgpfkgaaGreatDoor

namespace Go.Proofs.YtbchkopkgpfkgaaGreatDoor
open Go.Vc
open Classical
theorem fr_bd {n d : Int} (h0 : 0 ≤ n) (h1 : 1 ≤ d) : 0 ≤ frN n d ∧ frN n d ≤ n ∧ 1 ≤ frD n d ∧ frD n d ≤ d := by
  have g := gcd_pos (n := n) h1
  have a := fr_mulN (n := n) (d := d)
  have b := fr_mulD (n := n) (d := d)
  have a0 : 0 ≤ frN n d := Int.ediv_nonneg h0 (by omega)
  have b0 : 0 ≤ frD n d := Int.ediv_nonneg (by omega) (by omega)
  have a1 : frN n d * 1 ≤ frN n d * (Int.gcd n d : Int) := Int.mul_le_mul_of_nonneg_left g.1 a0
  have b1 : frD n d * 1 ≤ frD n d * (Int.gcd n d : Int) := Int.mul_le_mul_of_nonneg_left g.1 b0
  have b2 : frD n d ≠ 0 := fun e => by rw [e, Int.zero_mul] at b; omega
  omega
/-- Fractions are compared by their numerators and denominators before they were reduced. -/
theorem fr_cross {a b c d : Int} (_ha : 0 ≤ a) (hb : 1 ≤ b) (_hc : 0 ≤ c) (hd : 1 ≤ d) (h : a * d ≤ c * b) : frN a b * frD c d ≤ frN c d * frD a b := by
  have g1 := (gcd_pos (n := a) hb).1
  have g2 := (gcd_pos (n := c) hd).1
  have e1 : frN a b * frD c d * ((Int.gcd a b : Int) * (Int.gcd c d : Int)) = a * d := by
    rw [show frN a b * frD c d * ((Int.gcd a b : Int) * (Int.gcd c d : Int)) = (frN a b * (Int.gcd a b : Int)) * (frD c d * (Int.gcd c d : Int)) by simp only [Int.mul_assoc, Int.mul_left_comm, Int.mul_comm], fr_mulN, fr_mulD]
  have e2 : frN c d * frD a b * ((Int.gcd a b : Int) * (Int.gcd c d : Int)) = c * b := by
    rw [show frN c d * frD a b * ((Int.gcd a b : Int) * (Int.gcd c d : Int)) = (frN c d * (Int.gcd c d : Int)) * (frD a b * (Int.gcd a b : Int)) by simp only [Int.mul_assoc, Int.mul_left_comm, Int.mul_comm], fr_mulN, fr_mulD]
  have g3 := Int.mul_pos (show 0 < (Int.gcd a b : Int) by omega) (show 0 < (Int.gcd c d : Int) by omega)
  exact Int.le_of_mul_le_mul_right (by rw [e1, e2]; exact h) g3
section
variable {L : List (List Int)} {p : List Int} {G : List (List Int)}
theorem tops_small (c : Chn L) : topsF L ≤ wdt L * totC L := sumN_bd fun y hy => maxN_le (by have := c.tpos; have e : totC L = tot (L.getD 0 []) := rfl; omega) fun x hx => c.ele hx hy
end
section
variable {L : List (List Int)} {p : List Int} {G : List (List Int)}
end
section
variable {L : List (List Int)} {p : List Int} {t : Int}
end
section
variable {L : List (List Int)} {p : List Int} {t : Int}
end
end Go.Proofs.YtbchkopkgpfkgaaGreatDoor

namespace Go.Proofs.YtbchkopkgpfkgaaGreatDoor
open Go.Vc
/-- The shift that fills the word. -/
theorem mul32 {a b : Int} (a0 : 0 ≤ a) (a1 : a < 4294967296) (b0 : 0 ≤ b) (b1 : b < 4294967296) : 0 ≤ a * b ∧ a * b ≤ 18446744065119617025 := by
  refine ⟨Int.mul_nonneg a0 b0, ?_⟩
  have h1 := Int.mul_le_mul_of_nonneg_right (show a ≤ 4294967295 by omega) b0
  omega
theorem mul_parts {x y a b c d : Int} (hx : x = a * 4294967296 + b) (hy : y = c * 4294967296 + d) : x * y = a * c * 18446744073709551616 + (a * d + b * c) * 4294967296 + b * d := by
  subst hx hy
  rw [Int.add_mul, Int.mul_add, Int.mul_add, Int.add_mul]
  have e1 : a * 4294967296 * (c * 4294967296) = a * c * 18446744073709551616 := by rw [Int.mul_assoc, ← Int.mul_assoc 4294967296 c, Int.mul_comm 4294967296 c, Int.mul_assoc c, ← Int.mul_assoc]; rfl
  have e2 : a * 4294967296 * d = a * d * 4294967296 := by rw [Int.mul_assoc, Int.mul_comm 4294967296 d, ← Int.mul_assoc]
  have e3 : b * (c * 4294967296) = b * c * 4294967296 := by rw [← Int.mul_assoc]
  omega
end Go.Proofs.YtbchkopkgpfkgaaGreatDoor
