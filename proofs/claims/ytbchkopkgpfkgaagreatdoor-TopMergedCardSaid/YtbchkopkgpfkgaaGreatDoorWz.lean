/- Wz. -/
import Derived.Test.YtbchkopkgpfkgaaGreatDoorWq
import Derived.Test.YtbchkopkgpfkgaaGreatDoorWu
namespace Go.Proofs.YtbchkopkgpfkgaaGreatDoor
open Go Go.Vc
open Classical
def clmn (L : List (List Int)) (y : Nat) : List Int := L.map fun r => r.getD y 0
def trn (L : List (List Int)) : List (List Int) := (List.range (wdt L)).map (clmn L)
theorem clmn_len {L : List (List Int)} {y : Nat} : (clmn L y).length = L.length := by simp [clmn]
theorem trn_len {L : List (List Int)} : (trn L).length = wdt L := by simp [trn]
theorem clmn_el {L : List (List Int)} {y x : Nat} (h : x < L.length) : (clmn L y).getD x 0 = (L.getD x []).getD y 0 := by
  unfold clmn
  rw [List.getD_eq_getElem?_getD, List.getElem?_map, List.getElem?_eq_getElem h, List.getD_eq_getElem?_getD (l := L), List.getElem?_eq_getElem h]; rfl
theorem trn_gr {L : List (List Int)} {y : Int} (h0 : 0 ≤ y) (h1 : y < wdt L) : gr (trn L) y = clmn L y.toNat := by
  unfold trn gr
  rw [List.getD_eq_getElem?_getD, List.getElem?_map, List.getElem?_range (by omega)]; rfl
/-- The greatest common divisor of the first numbers of a list. -/
def gcN (f : Nat → Int) : Nat → Int
  | 0 => 0
  | n + 1 => (Int.gcd (gcN f n) (f n) : Int)
theorem gcN_nn {f : Nat → Int} : ∀ n, 0 ≤ gcN f n
  | 0 => Int.le_refl _
  | _ + 1 => Int.natCast_nonneg _
theorem gcN_le {f : Nat → Int} {B : Int} (hB : 0 ≤ B) : ∀ n, (∀ i, i < n → 0 ≤ f i ∧ f i ≤ B) → gcN f n ≤ B
  | 0, _ => hB
  | n + 1, h => by
    have h1 := gcN_le hB n fun i hi => h i (by omega)
    have h2 := h n (by omega)
    have h3 := gcN_nn (f := f) n
    show ((Int.gcd (gcN f n) (f n) : Nat) : Int) ≤ B
    by_cases e : f n = 0
    · rw [e, Int.gcd_zero_right]; omega
    · have := (gcd_pos (n := gcN f n) (d := f n) (by omega)).2; omega
section
variable {α : Type}
/-- The keys of the first n places, each once, in the order in which they are met. -/
noncomputable def clsK (ky : Nat → α) : Nat → List α
  | 0 => []
  | n + 1 => if ky n ∈ clsK ky n then clsK ky n else clsK ky n ++ [ky n]
theorem clsK_old {ky : Nat → α} {n : Nat} (h : ky n ∈ clsK ky n) : clsK ky (n + 1) = clsK ky n := if_pos h
theorem clsK_new {ky : Nat → α} {n : Nat} (h : ky n ∉ clsK ky n) : clsK ky (n + 1) = clsK ky n ++ [ky n] := if_neg h
theorem clsK_mem {ky : Nat → α} {k : α} : ∀ n, k ∈ clsK ky n ↔ ∃ i, i < n ∧ ky i = k
  | 0 => ⟨fun h => (by cases h), fun ⟨_, h, _⟩ => (by omega)⟩
  | n + 1 => by
    have ih := clsK_mem (ky := ky) (k := k) n
    have st : (∃ i, i < n + 1 ∧ ky i = k) ↔ (∃ i, i < n ∧ ky i = k) ∨ ky n = k := by
      constructor
      · rintro ⟨i, a, b⟩
        by_cases e : i = n
        · subst e; exact .inr b
        · exact .inl ⟨i, by omega, b⟩
      · rintro (⟨i, a, b⟩ | b)
        · exact ⟨i, by omega, b⟩
        · exact ⟨n, by omega, b⟩
    rw [st, ← ih]
    by_cases h : ky n ∈ clsK ky n
    · rw [clsK_old h]
      exact ⟨.inl, fun q => q.elim id fun e => e ▸ h⟩
    · rw [clsK_new h, List.mem_append, List.mem_singleton]
      exact ⟨fun q => q.imp id Eq.symm, fun q => q.imp id Eq.symm⟩
theorem clsK_nodup {ky : Nat → α} : ∀ n, (clsK ky n).Nodup
  | 0 => List.nodup_nil
  | n + 1 => by
    have ih := clsK_nodup (ky := ky) n
    by_cases h : ky n ∈ clsK ky n
    · rw [clsK_old h]; exact ih
    · rw [clsK_new h, List.nodup_append]
      refine ⟨ih, by simp, fun a ha b hb e => ?_⟩
      rw [List.mem_singleton] at hb
      subst hb; subst e; exact h ha
/-- Equally parted places have equally many classes. -/
theorem clsK_same {β : Type} {k1 : Nat → α} {k2 : Nat → β} : ∀ n, (∀ x y, x < n → y < n → (k1 x = k1 y ↔ k2 x = k2 y)) → (clsK k1 n).length = (clsK k2 n).length
  | 0, _ => rfl
  | n + 1, h => by
    have ih := clsK_same n fun x y a b => h x y (by omega) (by omega)
    have e : k1 n ∈ clsK k1 n ↔ k2 n ∈ clsK k2 n := by
      rw [clsK_mem, clsK_mem]
      exact ⟨fun ⟨i, a, b⟩ => ⟨i, a, (h i n (by omega) (by omega)).1 b⟩, fun ⟨i, a, b⟩ => ⟨i, a, (h i n (by omega) (by omega)).2 b⟩⟩
    by_cases q : k1 n ∈ clsK k1 n
    · rw [clsK_old q, clsK_old (e.1 q), ih]
    · rw [clsK_new q, clsK_new (fun z => q (e.2 z)), List.length_append, List.length_append, ih]; rfl
/-- What the loop over the places keeps: the map of the keys to their classes, the classes of the first places. -/
structure ClI (ky : Nat → α) (n : Nat) (f : α → Option Int) (Z : List Int) : Prop where
  keys : KeysOf f (clsK ky n)
  bd : ∀ k j, f k = some j → 0 ≤ j ∧ j < (clsK ky n).length
  inj : ∀ k k' j, f k = some j → f k' = some j → k = k'
  at_ : ∀ x : Int, 0 ≤ x → x < n → f (ky x.toNat) = some (gi Z x)
  first : ∀ x : Int, 0 ≤ x → x < n → gi Z x < (clsK ky (x.toNat + 1)).length
  new_ : ∀ x : Int, 0 ≤ x → x < n → ky x.toNat ∉ clsK ky x.toNat → gi Z x = (clsK ky x.toNat).length
variable {ky : Nat → α} {n : Nat} {f : α → Option Int} {Z : List Int}
theorem ClI.init {Z : List Int} : ClI ky 0 (fun _ => none) Z :=
  ⟨⟨List.nodup_nil, fun _ => ⟨fun h => absurd rfl h, fun h => (by cases h)⟩⟩, fun _ _ h => (by cases h), fun _ _ _ h => (by cases h), fun x a b => (by omega), fun x a b => (by omega), fun x a b => (by omega)⟩
theorem ClI.old (h : ClI ky n f Z) {Z' : List Int} {j : Int} (hj : f (ky n) = some j) (hz : ∀ x : Int, 0 ≤ x → x < n → gi Z' x = gi Z x) (hn : gi Z' n = j) : ClI ky (n + 1) f Z' := by
  have hm : ky n ∈ clsK ky n := (h.keys.2 _).1 (by rw [hj]; simp)
  have e := clsK_old hm
  refine ⟨by rw [e]; exact h.keys, by rw [e]; exact h.bd, h.inj, fun x a b => ?_, fun x a b => ?_, fun x a b c => ?_⟩
  · by_cases q : x = n
    · rw [q, hn]; exact hj
    · rw [hz x a (by omega)]; exact h.at_ x a (by omega)
  · by_cases q : x = n
    · rw [q, hn, show ((n : Int)).toNat = n by omega, e]; exact (h.bd _ _ hj).2
    · rw [hz x a (by omega)]; exact h.first x a (by omega)
  · by_cases q : x = n
    · rw [q, show ((n : Int)).toNat = n by omega] at c; exact absurd hm c
    · rw [hz x a (by omega)]; exact h.new_ x a (by omega) c
theorem ClI.new (h : ClI ky n f Z) {Z' : List Int} (hj : f (ky n) = none) (hz : ∀ x : Int, 0 ≤ x → x < n → gi Z' x = gi Z x) (hn : gi Z' n = (clsK ky n).length) : ClI ky (n + 1) (setF f (ky n) ((clsK ky n).length : Int)) Z' := by
  have hm : ky n ∉ clsK ky n := fun q => absurd hj ((h.keys.2 _).2 q)
  have e := clsK_new hm
  have el : (((clsK ky (n + 1)).length : Nat) : Int) = (clsK ky n).length + 1 := by rw [e, List.length_append]; rfl
  have nk : ∀ k j, k ≠ ky n → setF f (ky n) ((clsK ky n).length : Int) k = some j → f k = some j := fun k j a b => by rwa [setF_other a] at b
  refine ⟨⟨clsK_nodup _, fun k => ?_⟩, fun k j q => ?_, fun k k' j q q' => ?_, fun x a b => ?_, fun x a b => ?_, fun x a b c => ?_⟩
  · rw [e, List.mem_append, List.mem_singleton]
    by_cases z : k = ky n
    · subst z; rw [setF_same]; simp
    · rw [setF_other z, h.keys.2 k]; simp [z]
  · rw [el]
    by_cases z : k = ky n
    · subst z; rw [setF_same] at q; have := Option.some.inj q; omega
    · have := h.bd k j (nk k j z q); omega
  · by_cases z : k = ky n
    · by_cases z' : k' = ky n
      · rw [z, z']
      · subst z; rw [setF_same] at q
        have := Option.some.inj q
        have := h.bd k' j (nk k' j z' q'); omega
    · by_cases z' : k' = ky n
      · subst z'; rw [setF_same] at q'
        have := Option.some.inj q'
        have := h.bd k j (nk k j z q); omega
      · exact h.inj k k' j (nk k j z q) (nk k' j z' q')
  · by_cases q : x = n
    · rw [q, hn, show ((n : Int)).toNat = n by omega, setF_same]
    · have t := h.at_ x a (by omega)
      rw [hz x a (by omega), setF_other (fun c => by rw [c, hj] at t; cases t)]; exact t
  · by_cases q : x = n
    · rw [q, hn, show ((n : Int)).toNat = n by omega]; omega
    · rw [hz x a (by omega)]; exact h.first x a (by omega)
  · by_cases q : x = n
    · rw [q, hn, show ((n : Int)).toNat = n by omega]
    · rw [hz x a (by omega)]; exact h.new_ x a (by omega) c
/-- What the loop leaves: numbers of classes. -/
structure Lab (ky : Nat → α) (n : Nat) (Z : List Int) : Prop where
  len : Z.length = n
  eqv : ∀ x y : Nat, x < n → y < n → (Z.getD x 0 = Z.getD y 0 ↔ ky x = ky y)
  nn : ∀ x : Nat, x < n → 0 ≤ Z.getD x 0
  first : ∀ x : Nat, x < n → Z.getD x 0 < (clsK ky (x + 1)).length
  new_ : ∀ x : Nat, x < n → ky x ∉ clsK ky x → Z.getD x 0 = (clsK ky x).length
theorem Lab.at_ (h : Lab ky n Z) {j : Int} (j0 : 0 ≤ j) (j1 : j < n) : 0 ≤ gi Z j ∧ gi Z j ≤ (clsK ky j.toNat).length ∧ (gi Z j = (clsK ky j.toNat).length → (clsK ky (j.toNat + 1)).length = (clsK ky j.toNat).length + 1) ∧ (gi Z j ≠ (clsK ky j.toNat).length → (clsK ky (j.toNat + 1)).length = (clsK ky j.toNat).length) := by
  have e : gi Z j = Z.getD j.toNat 0 := rfl
  have h1 := h.nn j.toNat (by omega)
  have h2 := h.first j.toNat (by omega)
  rw [e]
  by_cases q : ky j.toNat ∈ clsK ky j.toNat
  · rw [clsK_old q] at h2 ⊢
    obtain ⟨i, a, b⟩ := (clsK_mem _).1 q
    exact ⟨h1, by omega, fun c => by omega, fun _ => rfl⟩
  · have h3 := h.new_ j.toNat (by omega) q
    rw [clsK_new q, List.length_append, List.length_singleton] at h2 ⊢
    exact ⟨h1, by omega, fun c => rfl, fun c => absurd h3 c⟩
theorem Lab.cls (h : Lab ky n Z) {m : Nat} (hm : m ≤ n) : (clsK (fun x => Z.getD x 0) m).length = (clsK ky m).length := clsK_same m fun x y a b => h.eqv x y (by omega) (by omega)
end
abbrev FI := Int → Option Int
theorem Lab.trans {α : Type} {ky : Nat → α} {n : Nat} {Z P : List Int} (h : Lab ky n Z) (h' : Lab (fun x => Z.getD x 0) Z.length P) : Lab ky n P := by
  have hl := h.len
  have mem : ∀ x : Nat, x < n → (ky x ∈ clsK ky x ↔ Z.getD x 0 ∈ clsK (fun x => Z.getD x 0) x) := fun x a => by
    rw [clsK_mem, clsK_mem]
    exact ⟨fun ⟨i, b, c⟩ => ⟨i, b, (h.eqv i x (by omega) a).2 c⟩, fun ⟨i, b, c⟩ => ⟨i, b, (h.eqv i x (by omega) a).1 c⟩⟩
  refine ⟨by rw [h'.len, hl], fun x y a b => (h'.eqv x y (by omega) (by omega)).trans (h.eqv x y a b), fun x a => h'.nn x (by omega), fun x a => ?_, fun x a c => ?_⟩
  · rw [← h.cls (by omega)]; exact h'.first x (by omega)
  · rw [← h.cls (by omega)]; exact h'.new_ x (by omega) fun q => c ((mem x a).2 q)
end Go.Proofs.YtbchkopkgpfkgaaGreatDoor

namespace Go.Proofs.YtbchkopkgpfkgaaGreatDoor
open Go Go.Vc
open Classical
theorem clm_take {L : List (List Int)} {y x : Int} (x0 : 0 ≤ x) (x1 : x < L.length) (y0 : 0 ≤ y) : ((clmn L y.toNat).take (x + 1).toNat).map (Value.int .i64) = ((clmn L y.toNat).take x.toNat).map (Value.int .i64) ++ [.int .i64 (gi (gr L x) y)] := by
  have e : (x + 1).toNat = x.toNat + 1 := by omega
  rw [e, List.take_add_one, List.map_append]
  congr 1
  have hx : x.toNat < (clmn L y.toNat).length := by rw [clmn_len]; omega
  rw [List.getElem?_eq_getElem hx]
  have : (clmn L y.toNat)[x.toNat] = gi (gr L x) y := by
    have := clmn_el (L := L) (y := y.toNat) (x := x.toNat) (by omega)
    rwa [List.getD_eq_getElem?_getD, List.getElem?_eq_getElem hx] at this
  rw [this]; rfl
theorem trn_bd {L : List (List Int)} (c : Chn L) {y : Int} (y0 : 0 ≤ y) (y1 : y < wdt L) : ∀ i : Int, 0 ≤ i → i < (gr (trn L) y).length → 0 ≤ gi (gr (trn L) y) i ∧ gi (gr (trn L) y) i ≤ 1048576 := fun i a b => by
  rw [trn_gr y0 y1, clmn_len] at b
  rw [trn_gr y0 y1]
  have e : gi (clmn L y.toNat) i = (L.getD i.toNat []).getD y.toNat 0 := clmn_el (by omega)
  rw [e]
  have h1 := c.nn (x := i.toNat) (y := y.toNat) (by omega) (by omega)
  have h2 := c.ele (x := i.toNat) (y := y.toNat) (by omega) (by omega)
  have := c.tle
  omega
/-- Each column has an element above 0. -/
def Pos (L : List (List Int)) : Prop := ∀ y : Nat, y < wdt L → ∃ x, x < L.length ∧ (L.getD x []).getD y 0 ≠ 0
theorem iota_getD {n x : Nat} (h : x < n) : (iota n)[x]? = some (x : Int) := by
  unfold iota
  rw [List.getElem?_map, List.getElem?_range h]; rfl
theorem chM_el {o : Int → Int → Ob} {NS NR : Int} {A : List Ob} {d : List Int} {x : Nat} (h : x < NS.toNat) : (chM o NS NR A d).getD x [] = rowM o NR A d x := by
  unfold chM
  rw [List.getD_eq_getElem?_getD, List.getElem?_map, iota_getD h]; rfl
theorem rowM_el {o : Int → Int → Ob} {NR : Int} {A : List Ob} {d : List Int} {s : Int} {y : Nat} (h : y < d.length) : (rowM o NR A d s).getD y 0 = cntK o s (keyO (ob A (d.getD y 0))) NR.toNat := by
  unfold rowM
  rw [List.getD_eq_getElem?_getD, List.getElem?_map, List.getD_eq_getElem?_getD (l := d), List.getElem?_eq_getElem h]; rfl
theorem sumN_perm {d e : List Int} (h : d.Perm e) (F : Int → Int) : sumN (fun i => (d.map F).getD i 0) d.length = sumN (fun i => (e.map F).getD i 0) e.length := by
  have e1 : ∀ l : List Int, sumN (fun i => l.getD i 0) l.length = l.sum := fun l => by
    induction l with
    | nil => rfl
    | cons a l ih =>
      have st : ∀ (f : Nat → Int) (n : Nat), sumN f (n + 1) = f 0 + sumN (fun i => f (i + 1)) n := fun f n => by
        induction n with
        | zero => show 0 + f 0 = f 0 + 0; omega
        | succ n ih => show sumN f (n + 1) + f (n + 1) = f 0 + (sumN (fun i => f (i + 1)) n + f (n + 1)); rw [ih]; omega
      rw [List.length_cons, st, List.sum_cons, ← ih]; rfl
  have e2 : ∀ l : List Int, sumN (fun i => (l.map F).getD i 0) l.length = (l.map F).sum := fun l => by
    rw [← e1 (l.map F), List.length_map]
  rw [e2, e2]
  have := h.map F
  generalize d.map F = a at this ⊢
  generalize e.map F = b at this ⊢
  induction this with
  | nil => rfl
  | cons _ _ ih => rw [List.sum_cons, List.sum_cons, ih]
  | swap x y l => simp only [List.sum_cons]; omega
  | trans _ _ a b => exact a.trans b
section
variable {o : Int → Int → Ob} {NR NS : Int} {A : List Ob} {f : FK} {g : GK} {d : List Int}
/-- The keys of a row add up to the number of the random vectors. -/
theorem row_sum (h : ChI o NR NS 0 A f g) {s : Int} (s0 : 0 ≤ s) (s1 : s < NS) : ∀ n : Nat, n ≤ NR.toNat → sumN (fun j => cntK o s (keyO (ob A j)) n) A.length = n
  | 0, _ => (show sumN (fun _ => (0 : Int)) _ = 0 from sumN_zero)
  | n + 1, hn => by
    have ih := row_sum h s0 s1 n (by omega)
    have hc := h.cov s n ⟨s0, by omega, by omega, .inl s1⟩
    cases hj : f (keyO (o s n)) with
    | none => exact absurd hj hc
    | some j =>
      obtain ⟨j0, j1, jk⟩ := h.hf _ _ hj
      have e : ∀ i, i < A.length → cntK o s (keyO (ob A (i : Nat))) (n + 1) = cntK o s (keyO (ob A (i : Nat))) n + (if i = j.toNat then 1 else 0) := fun i hi => by
        show _ + _ = _
        congr 1
        by_cases q : i = j.toNat
        · rw [if_pos q, if_pos (by rw [q, show ((j.toNat : Nat) : Int) = j by omega]; exact jk.symm)]
        · rw [if_neg q, if_neg fun c => ?_]
          have h2 := h.hf2 i (by omega) (by omega)
          rw [← c, hj] at h2
          exact q (by have := Option.some.inj h2; omega)
      rw [sumN_congr e, sumN_add, ih, sumN_one (f := fun i => if i = j.toNat then (1 : Int) else 0) (x := j.toNat) (fun i _ q => if_neg q), if_pos (by omega), if_pos rfl]; rfl
variable (h : ChI o NR NS 0 A f g) (hd : d.Perm (iota A.length))
include h hd
theorem chM_tot {s : Int} (s0 : 0 ≤ s) (s1 : s < NS) (n0 : 0 ≤ NR) : tot (rowM o NR A d s) = NR := by
  unfold tot
  rw [rowM_len]
  show sumN (fun i => (d.map fun j => cntK o s (keyO (ob A j)) NR.toNat).getD i 0) d.length = NR
  rw [sumN_perm hd, iota_len]
  have e : ∀ i, i < A.length → ((iota A.length).map fun j => cntK o s (keyO (ob A j)) NR.toNat).getD i 0 = cntK o s (keyO (ob A (i : Nat))) NR.toNat := fun i hi => by
    rw [List.getD_eq_getElem?_getD, List.getElem?_map, iota_getD hi]; rfl
  rw [sumN_congr e, row_sum h s0 s1 _ (Nat.le_refl _)]; omega
set_option linter.unusedSectionVars false in
theorem chM_wdt (n1 : 1 ≤ NS) : wdt (chM o NS NR A d) = A.length := by
  have := hd.length_eq
  rw [iota_len] at this
  unfold wdt
  rw [chM_el (by omega), rowM_len, this]
theorem chM_totC (n1 : 1 ≤ NS) (n0 : 0 ≤ NR) : totC (chM o NS NR A d) = NR := by
  unfold totC
  rw [chM_el (by omega)]
  exact chM_tot h hd (by omega) (by omega) n0
theorem chM_chn (n1 : 1 ≤ NS) (n2 : NS ≤ 256) (m1 : 1 ≤ NR) (m2 : NR ≤ 1048576) (a2 : A.length ≤ 256) : Chn (chM o NS NR A d) := by
  have hw : ((chM o NS NR A d).getD 0 []).length = A.length := chM_wdt h hd n1
  have ht : tot ((chM o NS NR A d).getD 0 []) = NR := chM_totC h hd n1 (by omega)
  have hdl := hd.length_eq
  rw [iota_len] at hdl
  have a1 : 1 ≤ A.length := by
    cases hj : f (keyO (o 0 0)) with
    | none => exact absurd hj (h.cov 0 0 ⟨by omega, by omega, by omega, .inl (by omega)⟩)
    | some j => have := h.hf _ _ hj; omega
  refine ⟨by rw [chM_len]; omega, by rw [chM_len]; omega, by omega, by omega, by omega, fun x hx => ?_⟩
  rw [chM_len] at hx
  rw [hw, ht, chM_el hx, rowM_len]
  have t := chM_tot h hd (s := x) (by omega) (by omega) (by omega)
  refine ⟨hdl, ⟨fun i hi => ?_, by omega⟩, t⟩
  rw [rowM_len] at hi
  rw [rowM_el hi]; exact (cntK_bd _).1
theorem chM_pos (n1 : 1 ≤ NS) : Pos (chM o NS NR A d) := fun y hy => by
  rw [chM_wdt h hd n1] at hy
  have hdl := hd.length_eq
  rw [iota_len] at hdl
  have hp := perm_in hd (y := y) (by omega) (by omega)
  have e : gi d (y : Int) = d.getD y 0 := by unfold gi; rw [show ((y : Int)).toNat = y by omega]
  obtain ⟨s', r', ⟨p1, p2, p3, p4⟩, q⟩ := h.src (gi d y) hp.1 hp.2
  refine ⟨s'.toNat, by rw [chM_len]; omega, ?_⟩
  rw [chM_el (by omega), rowM_el (by omega), ← e, q, show ((s'.toNat : Nat) : Int) = s' by omega]
  have := cntK_pos (o := o) (s := s') (k := keyO (o s' r')) rfl p2 NR.toNat (by omega)
  omega
theorem chM_tops (n1 : 1 ≤ NS) (n2 : NS ≤ 256) (m1 : NR = 1) (a2 : A.length ≤ 256) : topsF (chM o NS NR A d) = A.length := by
  have c := chM_chn h hd n1 n2 (by omega) (by omega) a2
  have hp := chM_pos h hd n1
  have ht := chM_totC h hd n1 (by omega)
  have e : ∀ y, y < wdt (chM o NS NR A d) → cmaxF (chM o NS NR A d) y = 1 := fun y hy => by
    obtain ⟨x, a, b⟩ := hp y hy
    have h1 := c.nn a hy
    have h2 : ((chM o NS NR A d).getD x []).getD y 0 ≤ cmaxF (chM o NS NR A d) y := maxN_el (f := fun x => ((chM o NS NR A d).getD x []).getD y 0) a
    have h3 : cmaxF (chM o NS NR A d) y ≤ 1 := maxN_le (by omega) fun x hx => by have := c.ele hx hy; omega
    omega
  unfold topsF
  rw [sumN_congr e, sumN_const, chM_wdt h hd n1]; omega
omit hd in
theorem chM_cls (m1 : NR = 1) (n0 : 0 ≤ NS) : (clsK (fun x : Nat => keyO (o x 0)) NS.toNat).length = A.length := by
  have hn : (A.map keyO).Nodup := by
    rw [List.nodup_iff_pairwise_ne, List.pairwise_iff_getElem]
    intro i j hi hj lt e
    rw [List.length_map] at hi hj
    rw [List.getElem_map, List.getElem_map] at e
    have e1 : ob A (i : Nat) = A[i] := by unfold ob; rw [show ((i : Int)).toNat = i by omega, List.getD_eq_getElem?_getD, List.getElem?_eq_getElem hi]; rfl
    have e2 : ob A (j : Nat) = A[j] := by unfold ob; rw [show ((j : Int)).toNat = j by omega, List.getD_eq_getElem?_getD, List.getElem?_eq_getElem hj]; rfl
    have h1 := h.hf2 i (by omega) (by omega)
    have h2 := h.hf2 j (by omega) (by omega)
    rw [e1, e, ← e2, h2] at h1
    have := Option.some.inj h1; omega
  rw [show A.length = (A.map keyO).length from (List.length_map keyO).symm]
  refine perm_len (clsK_nodup _) hn fun k => ?_
  rw [clsK_mem]
  constructor
  · rintro ⟨x, hx, rfl⟩
    cases hj : f (keyO (o x 0)) with
    | none => exact absurd hj (h.cov x 0 ⟨by omega, by omega, by omega, .inl (by omega)⟩)
    | some j =>
      obtain ⟨j0, j1, jk⟩ := h.hf _ _ hj
      rw [← jk]
      refine List.mem_map_of_mem ?_
      unfold ob
      rw [List.getD_eq_getElem?_getD, List.getElem?_eq_getElem (by omega)]
      exact List.getElem_mem _
  · intro hk
    obtain ⟨q, hq, rfl⟩ := List.mem_map.1 hk
    obtain ⟨i, hi, rfl⟩ := List.mem_iff_getElem.1 hq
    obtain ⟨s', r', ⟨p1, p2, p3, p4⟩, e⟩ := h.src i (by omega) (by omega)
    have e1 : ob A (i : Nat) = A[i] := by unfold ob; rw [show ((i : Int)).toNat = i by omega, List.getD_eq_getElem?_getD, List.getElem?_eq_getElem hi]; rfl
    refine ⟨s'.toNat, by omega, ?_⟩
    rw [← e1, e, show ((s'.toNat : Nat) : Int) = s' by omega, show r' = 0 by omega]
end
end Go.Proofs.YtbchkopkgpfkgaaGreatDoor

namespace Go.Proofs.YtbchkopkgpfkgaaGreatDoor
open Go Go.Vc
open Classical
def BetS (p : List Int) (G : List (List Int)) (n : Int) : Prop :=
  (p.length : Int) = n ∧ 1 ≤ G.length ∧ G.length ≤ 12 ∧ (∀ i : Int, 0 ≤ i → i < p.length → 0 ≤ gi p i) ∧ sumN (fun i => p.getD i 0) p.length ≤ 64 ∧
    (∀ x : Int, 0 ≤ x → x < G.length → ((gr G x).length : Int) = n ∧ ∀ i : Int, 0 ≤ i → i < (gr G x).length → 0 ≤ gi (gr G x) i ∧ gi (gr G x) i ≤ 64) ∧ 0 < sumN (fun i => p.getD i 0) p.length
theorem BetS.tot {p : List Int} {G : List (List Int)} {n : Int} (h : BetS p G n) : tot p ≤ 64 := h.2.2.2.2.1
section
variable {L : List (List Int)} {p : List Int} {G : List (List Int)}
theorem capT_bd (c : Chn L) (h1 : totC L ≤ 16) : 0 ≤ frN (topsF L) (totC L) ∧ frN (topsF L) (totC L) ≤ 4096 ∧ 1 ≤ frD (topsF L) (totC L) ∧ frD (topsF L) (totC L) ≤ 16 := by
  have htc : 1 ≤ totC L := c.tpos
  have h6 := tops_small c
  have hw : wdt L ≤ 256 := c.wle
  have h7 : (wdt L : Int) * totC L ≤ 256 * 16 := Int.mul_le_mul (by omega) h1 (by omega) (by omega)
  have h8 : 0 ≤ topsF L := sumN_nn fun y _ => maxN_nn
  have f3 := fr_bd (n := topsF L) (d := totC L) h8 htc
  omega
end
theorem rkE_nil : rkE [] [] = 0 := by
  unfold rkE
  rw [if_neg (fun q => q rfl), if_pos (show inR [] [] from fun i a b => absurd b (by show ¬ i < ((0 : Nat) : Int); omega))]
theorem fit_ok {F : Fl} {a b c : Int} (h : FitP F a b c) : Valid F := chkR_0 h.2.1
end Go.Proofs.YtbchkopkgpfkgaaGreatDoor

namespace Go.Proofs.YtbchkopkgpfkgaaGreatDoor
open Go Go.Vc
open Classical
def vF0 : Vr := ⟨⟨#[120]⟩, 1, 0, 3, 0⟩
theorem one_i {i : Int} (a : 0 ≤ i) (b : i < ([vF0].length : Nat)) : i = 0 := by simp at b; omega
theorem it0 : Lib.itoa 0 = [48] := by unfold Lib.itoa; rw [if_neg (by omega), Lib.decDigits]; rfl
theorem it1 : Lib.itoa 1 = [49] := by unfold Lib.itoa; rw [if_neg (by omega), Lib.decDigits]; rfl
theorem key0 : keyO ([((0 : Nat) : Int)], 0) = ⟨#[48, 32, 48, 32]⟩ := by
  show spl [0, 0] = _
  unfold spl splB
  simp only [List.flatMap_cons, List.flatMap_nil, it0]; rfl
theorem key1 : keyO ([((1 : Nat) : Int)], 0) = ⟨#[48, 32, 49, 32]⟩ := by
  show spl [0, 1] = _
  unfold spl splB
  simp only [List.flatMap_cons, List.flatMap_nil, it0, it1]; rfl
theorem key01 : (⟨#[48, 32, 48, 32]⟩ : ByteArray) ≠ ⟨#[48, 32, 49, 32]⟩ := fun h => absurd (congrArg ByteArray.data h) (by decide)
abbrev nilV : Value := .slice none 0 0
theorem Tms.none {H : HV} : Tms H nilV [] := .mk [] SlS.nil fun i a b => absurd b (by show ¬ i < ((0 : Nat) : Int); omega)
theorem Sts.none {H : HV} : Sts H nilV [] := .mk [] [] [] [] SlS.nil (fun i a b => absurd b (by show ¬ i < ((0 : Nat) : Int); omega)) (fun i a b => absurd b (by show ¬ i < ((0 : Nat) : Int); omega)) (fun i a b => absurd b (by show ¬ i < ((0 : Nat) : Int); omega)) (fun i a b => absurd b (by show ¬ i < ((0 : Nat) : Int); omega))
end Go.Proofs.YtbchkopkgpfkgaaGreatDoor
