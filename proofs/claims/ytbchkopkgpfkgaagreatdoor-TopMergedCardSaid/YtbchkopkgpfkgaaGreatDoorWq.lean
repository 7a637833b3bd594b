/- Wq. -/
import Derived.Test.YtbchkopkgpfkgaaGreatDoorWp
import Derived.Sort.Statements
import Derived.Test.YtbchkopkgpfkgaaGreatDoorWm
import Derived.Test.YtbchkopkgpfkgaaGreatDoorTy
import Derived.Test.YtbchkopkgpfkgaaGreatDoorSh
import Derived.Lib.ItoaLen
import Derived.Test.YtbchkopkgpfkgaaGreatDoorWa
import Derived.Walk
import Derived.Test.YtbchkopkgpfkgaaGreatDoorWb
namespace Go.Proofs.YtbchkopkgpfkgaaGreatDoor
open Go Go.Vc
def cmI (a b : Int) : Int := if a < b then -1 else if b < a then 1 else 0
def cmL : List Int → List Int → Int
  | [], [] => 0
  | [], _ :: _ => -1
  | _ :: _, [] => 1
  | a :: r, b :: s => if cmI a b ≠ 0 then cmI a b else cmL r s
def cmO (a b : List Int × Int) : Int := if cmL a.1 b.1 ≠ 0 then cmL a.1 b.1 else cmI a.2 b.2
theorem cmI_in (a b : Int) : (cmI a b = -1 ∧ a < b) ∨ (cmI a b = 0 ∧ a = b) ∨ (cmI a b = 1 ∧ b < a) := by unfold cmI; (repeat' split) <;> omega
theorem cmL_in : ∀ a b, cmL a b = -1 ∨ cmL a b = 0 ∨ cmL a b = 1
  | [], [] => .inr (.inl rfl)
  | [], _ :: _ => .inl rfl
  | _ :: _, [] => .inr (.inr rfl)
  | a :: r, b :: s => by
    have h := cmI_in a b
    have := cmL_in r s
    unfold cmL
    split <;> omega
section
variable {A B : List Int} {i : Int}
theorem cm_nil (h : i = A.length) (hb : i ≤ B.length) : cmL (A.drop i.toNat) (B.drop i.toNat) = if (A.length : Int) < B.length then -1 else 0 := by
  rw [List.drop_eq_nil_of_le (show A.length ≤ i.toNat by omega)]
  by_cases q : i < B.length
  · rw [drop_cons (d := (0 : Int)) (by omega) q, if_pos (by omega)]; rfl
  · rw [List.drop_eq_nil_of_le (show B.length ≤ i.toNat by omega), if_neg (by omega)]; rfl
theorem cm_one (h0 : 0 ≤ i) (ha : i < A.length) (hb : (B.length : Int) ≤ i) : cmL (A.drop i.toNat) (B.drop i.toNat) = 1 := by
  rw [List.drop_eq_nil_of_le (show B.length ≤ i.toNat by omega), drop_cons (d := (0 : Int)) h0 ha]; rfl
theorem cm_hit (h0 : 0 ≤ i) (ha : i < A.length) (hb : i < B.length) (h : cmI (gi A i) (gi B i) ≠ 0) : cmL (A.drop i.toNat) (B.drop i.toNat) = cmI (gi A i) (gi B i) := by
  rw [drop_cons (d := (0 : Int)) h0 ha, drop_cons (d := (0 : Int)) h0 hb]
  exact if_pos h
theorem cm_on (h0 : 0 ≤ i) (ha : i < A.length) (hb : i < B.length) (h : ¬ cmI (gi A i) (gi B i) ≠ 0) : cmL (A.drop i.toNat) (B.drop i.toNat) = cmL (A.drop (i + 1).toNat) (B.drop (i + 1).toNat) := by
  rw [drop_cons (d := (0 : Int)) h0 ha, drop_cons (d := (0 : Int)) h0 hb]
  exact if_neg h
end
theorem cmL_trans : ∀ a b c, cmL a b ≤ 0 → cmL b c ≤ 0 → cmL a c ≤ 0 ∧ ((cmL a b < 0 ∨ cmL b c < 0) → cmL a c < 0)
  | [], [], c, _, h2 => ⟨h2, fun h => h.elim (fun q => absurd q (by show ¬ ((0 : Int) < 0); omega)) id⟩
  | [], _ :: _, [], _, h2 => absurd h2 (by show ¬ ((1 : Int) ≤ 0); omega)
  | [], _ :: _, _ :: _, _, _ => ⟨by show (-1 : Int) ≤ 0; omega, fun _ => by show (-1 : Int) < 0; omega⟩
  | _ :: _, [], _, h1, _ => absurd h1 (by show ¬ ((1 : Int) ≤ 0); omega)
  | _ :: _, _ :: _, [], _, h2 => absurd h2 (by show ¬ ((1 : Int) ≤ 0); omega)
  | a :: r, b :: s, c :: t, h1, h2 => by
    have ih := cmL_trans r s t
    have x := cmI_in a b
    have y := cmI_in b c
    have z := cmI_in a c
    unfold cmL at h1 h2 ⊢
    by_cases e1 : cmI a b ≠ 0
    · rw [if_pos e1] at h1 ⊢
      have hz : cmI a c < 0 := by
        by_cases e2 : cmI b c ≠ 0
        · rw [if_pos e2] at h2; omega
        · omega
      rw [if_pos (by omega)]
      exact ⟨by omega, fun _ => hz⟩
    · rw [if_neg e1] at h1 ⊢
      by_cases e2 : cmI b c ≠ 0
      · rw [if_pos e2] at h2 ⊢
        rw [if_pos (by omega)]
        exact ⟨by omega, fun _ => by omega⟩
      · rw [if_neg e2] at h2 ⊢
        rw [if_neg (by omega)]
        exact ih h1 h2
theorem cmL_anti : ∀ a b, cmL b a = -cmL a b
  | [], [] => rfl
  | [], _ :: _ => rfl
  | _ :: _, [] => rfl
  | a :: r, b :: s => by
    have ih := cmL_anti r s
    have x := cmI_in a b
    have y := cmI_in b a
    unfold cmL
    by_cases e : cmI a b ≠ 0
    · rw [if_pos e, if_pos (by omega)]; omega
    · rw [if_neg e, if_neg (by omega)]; exact ih
theorem cmO_trans (a b c : List Int × Int) (h1 : cmO a b ≤ 0) (h2 : cmO b c ≤ 0) : cmO a c ≤ 0 ∧ ((cmO a b < 0 ∨ cmO b c < 0) → cmO a c < 0) := by
  have l1 := cmL_in a.1 b.1
  have l2 := cmL_in b.1 c.1
  have l3 := cmL_in a.1 c.1
  have x := cmI_in a.2 b.2
  have y := cmI_in b.2 c.2
  have z := cmI_in a.2 c.2
  unfold cmO at h1 h2 ⊢
  by_cases e1 : cmL a.1 b.1 ≠ 0
  · rw [if_pos e1] at h1 ⊢
    have t := cmL_trans a.1 b.1 c.1 h1
    by_cases e2 : cmL b.1 c.1 ≠ 0
    · rw [if_pos e2] at h2 ⊢
      have t := t h2
      rw [if_pos (by omega)]
      exact ⟨by omega, fun _ => by omega⟩
    · rw [if_neg e2] at h2 ⊢
      have t := t (by omega)
      rw [if_pos (by omega)]
      exact ⟨by omega, fun _ => by omega⟩
  · rw [if_neg e1] at h1 ⊢
    by_cases e2 : cmL b.1 c.1 ≠ 0
    · rw [if_pos e2] at h2 ⊢
      have t := cmL_trans a.1 b.1 c.1 (by omega) h2
      rw [if_pos (by omega)]
      exact ⟨by omega, fun _ => by omega⟩
    · rw [if_neg e2] at h2 ⊢
      have t := cmL_trans a.1 b.1 c.1 (by omega) (by omega)
      have t2 := cmL_trans c.1 b.1 a.1 (by rw [cmL_anti]; omega) (by rw [cmL_anti]; omega)
      rw [cmL_anti a.1 c.1] at t2
      rw [if_neg (by omega)]
      omega
theorem cmO_anti (a b : List Int × Int) : cmO b a = -cmO a b := by
  have l := cmL_anti a.1 b.1
  have x := cmI_in a.2 b.2
  have y := cmI_in b.2 a.2
  unfold cmO
  by_cases e : cmL a.1 b.1 ≠ 0
  · rw [if_pos e, if_pos (by omega)]; omega
  · rw [if_neg e, if_neg (by omega)]; omega
theorem cmO_refl (a : List Int × Int) : cmO a a = 0 := by have := cmO_anti a a; omega
theorem swo_of {α : Type} (f : α → List Int × Int) : Sort.SWO (fun x y : α => decide (cmO (f x) (f y) < 0)) where
  irrefl := fun x => decide_eq_false (by rw [cmO_refl]; omega)
  trans := fun x y z h1 h2 => by
    have h1 := of_decide_eq_true h1
    have h2 := of_decide_eq_true h2
    have := cmO_trans (f x) (f y) (f z) (by omega) (by omega)
    exact decide_eq_true (this.2 (.inl h1))
  ntrans := fun x y z h1 h2 => by
    have h1 := of_decide_eq_false h1
    have h2 := of_decide_eq_false h2
    have a1 := cmO_anti (f x) (f y)
    have a2 := cmO_anti (f y) (f z)
    have a3 := cmO_anti (f x) (f z)
    have := cmO_trans (f z) (f y) (f x) (by omega) (by omega)
    exact decide_eq_false (by omega)
end Go.Proofs.YtbchkopkgpfkgaaGreatDoor

namespace Go.Vc
open Go Go.RowKit Go.Lib
theorem mem_start {V0 : HV} {hs0 : List HV} {w0 : World} {σ0 : Res} (h1 : Sat σ0 hs0) (h2 : hs0.Pairwise Disj) (h3 : Vc.Sub V0 (hv w0)) (h4 : ∀ h ∈ hs0, Vc.Sub h (hv w0) ∧ Disj h V0) : Mem ⟨w0, V0, dom hs0⟩ V0 σ0 w0 :=
  ⟨rfl, rfl, rfl, Nat.le_refl _, Nat.le_refl _, fun _ _ _ => rfl, .refl _, h3, fun _ _ _ => rfl, hs0, h1, h2, fun h hh => ⟨(h4 h hh).1, (h4 h hh).2, fun b _ hne => ⟨h, hh, hne⟩⟩⟩
theorem ext_grow (w : World) (os : Array Obj) : Ext w (Go.Sort.grow w os) := ⟨⟨rfl, rfl, rfl, by simp [Go.Sort.grow], fun k hk => by simp [Go.Sort.grow, Array.getElem?_append, hk]⟩, Nat.le_refl _⟩
/-- The table of the powers of ten lies in what is known. -/
def TabV (P : Program) (V : HV) : Prop := ∃ g E fz, P.globalNamed "internal/strconv.uint64pow10" = some g ∧ V g = some (.cells (pow10Tab.map fun z => Value.int .u64 z).toArray E fz)
theorem TabV.mono {P : Program} {V V' : HV} (h : TabV P V) (s : Vc.Sub V V') : TabV P V' := by
  obtain ⟨g, E, fz, h1, h2⟩ := h
  exact ⟨g, E, fz, h1, s _ _ h2⟩
theorem TabV.is {P : Program} {V : HV} {w : World} (h : TabV P V) (s : Vc.Sub V (hv w)) : TabIs P w "internal/strconv.uint64pow10" .u64 pow10Tab := by
  obtain ⟨g, E, fz, h1, h2⟩ := h
  have h3 : w.heap[g]? = _ := s _ _ h2
  simp [TabIs, World.var?, h1, h3]
end Go.Vc
namespace Go.Proofs.YtbchkopkgpfkgaaGreatDoor
open Go Go.Vc Go.RowKit
theorem Itoa_c {V : HV} {n : Int} (ht : TabV Tryz.prog V) (h0 : -9223372036854775808 ≤ n) (h1 : n ≤ 9223372036854775807) : FnC Tryz.prog 97 [.int .i64 n] V [] (fun v _ _ => v = .string ⟨(Lib.itoa n).toArray⟩) := by
  refine ⟨⟨_, Tryz.func97, by rfl, by rfl⟩, fun w0 hs0 q1 q2 q3 q4 => ?_⟩
  have m0 := mem_start q1 q2 q3 q4
  refine (Tryz.strconv_Itoa n h0 h1 w0 (ht.is q3)).mono fun e w' ⟨he, k, os, hw⟩ => ?_
  subst hw
  exact ⟨_, V, [], he, rfl, (m0.drawn (w0.drawn + k)).ext (ext_grow _ os)⟩
/-- The bytes of numbers, a blank behind each; the string. -/
def splB (l : List Int) : List UInt8 := l.flatMap fun n => Lib.itoa n ++ [32]
def spl (l : List Int) : ByteArray := ⟨(splB l).toArray⟩
theorem splB_take {l : List Int} {i : Int} (h0 : 0 ≤ i) (h1 : i < l.length) : splB (l.take (i + 1).toNat) = splB (l.take i.toNat) ++ (Lib.itoa (gi l i) ++ [32]) := by
  rw [show (i + 1).toNat = i.toNat + 1 by omega, take_snoc (d := (0 : Int)) h0 h1]
  unfold splB gi
  rw [List.flatMap_append]; simp
theorem splB_ne {l : List Int} (h : 1 ≤ l.length) : splB l ≠ [] := by
  cases l with
  | nil => simp at h
  | cons a r => unfold splB; simp
end Go.Proofs.YtbchkopkgpfkgaaGreatDoor

namespace Go.Proofs.YtbchkopkgpfkgaaGreatDoor
open Go Go.Vc
open Classical
abbrev Ob := List Int × Int
def keyO (q : Ob) : ByteArray := spl (q.2 :: q.1)
abbrev ob (A : List Ob) (i : Int) : Ob := A.getD i.toNat ([], 0)
/-- How many of the first random vectors give a key. -/
noncomputable def cntK (o : Int → Int → Ob) (s : Int) (k : ByteArray) : Nat → Int
  | 0 => 0
  | n + 1 => cntK o s k n + if keyO (o s n) = k then 1 else 0
theorem cntK_bd {o : Int → Int → Ob} {s : Int} {k : ByteArray} : ∀ n : Nat, 0 ≤ cntK o s k n ∧ cntK o s k n ≤ n
  | 0 => ⟨Int.le_refl _, Int.le_refl _⟩
  | n + 1 => by have := cntK_bd (o := o) (s := s) (k := k) n; unfold cntK; split <;> omega
theorem cntK_0 {o : Int → Int → Ob} {s : Int} {k : ByteArray} : ∀ n : Nat, (∀ r : Int, 0 ≤ r → r < n → keyO (o s r) ≠ k) → cntK o s k n = 0
  | 0, _ => rfl
  | n + 1, h => by
    unfold cntK
    rw [if_neg (h n (by omega) (by omega)), cntK_0 n fun r a b => h r a (by omega)]; rfl
theorem cntK_pos {o : Int → Int → Ob} {s : Int} {k : ByteArray} {r : Int} (h : keyO (o s r) = k) (r0 : 0 ≤ r) : ∀ n : Nat, r < n → 1 ≤ cntK o s k n
  | 0, hr => by omega
  | n + 1, hr => by
    have b := cntK_bd (o := o) (s := s) (k := k) n
    unfold cntK
    by_cases e : r = n
    · subst e; rw [if_pos h]; omega
    · have := cntK_pos h r0 n (by omega)
      split <;> omega
def prc (NR s r s' r' : Int) : Prop := 0 ≤ s' ∧ 0 ≤ r' ∧ r' < NR ∧ (s' < s ∨ (s' = s ∧ r' < r))
def upt (NR s r s' : Int) : Nat := if s' < s then NR.toNat else if s' = s then r.toNat else 0
/-- What the loops keep: A the observations in the order in which they were met, f their numbers, g how often. -/
structure ChI (o : Int → Int → Ob) (NR s r : Int) (A : List Ob) (f : ByteArray → Option Int) (g : Int × Int → Option Int) : Prop where
  hf : ∀ k j, f k = some j → 0 ≤ j ∧ j < A.length ∧ keyO (ob A j) = k
  hf2 : ∀ j : Int, 0 ≤ j → j < A.length → f (keyO (ob A j)) = some j
  cov : ∀ s' r', prc NR s r s' r' → f (keyO (o s' r')) ≠ none
  src : ∀ j : Int, 0 ≤ j → j < A.length → ∃ s' r', prc NR s r s' r' ∧ ob A j = o s' r'
  hg : ∀ s' j : Int, 0 ≤ s' → 0 ≤ j → j < A.length → (g (s', j)).getD 0 = cntK o s' (keyO (ob A j)) (upt NR s r s')
  hg0 : ∀ s' j : Int, ¬ (0 ≤ j ∧ j < A.length) → g (s', j) = none
  len : (A.length : Int) ≤ s * NR + r
section
variable {o : Int → Int → Ob} {NR s r : Int} {A : List Ob} {f : ByteArray → Option Int} {g : Int × Int → Option Int}
theorem ob_l {q : Ob} {j : Int} (h : j < A.length) (h0 : 0 ≤ j) : ob (A ++ [q]) j = ob A j := by
  unfold ob; rw [List.getD_eq_getElem?_getD, List.getElem?_append_left (by omega), ← List.getD_eq_getElem?_getD]
theorem ob_r {q : Ob} {j : Int} (h : j = A.length) : ob (A ++ [q]) j = q := by
  subst h; unfold ob; rw [List.getD_eq_getElem?_getD, List.getElem?_append_right (by omega)]; simp
theorem ChI.init : ChI o NR 0 0 [] (fun _ => none) (fun _ => none) :=
  ⟨fun _ _ h => (by cases h), fun j a b => by simp at b; omega, fun s' r' h => by obtain ⟨a, b, c, d⟩ := h; omega, fun j a b => by simp at b; omega, fun s' j _ a b => by simp at b; omega, fun _ _ _ => rfl, by simp⟩
theorem prc_next {s' r' : Int} (h : prc NR s (r + 1) s' r') : prc NR s r s' r' ∨ (s' = s ∧ r' = r) := by
  obtain ⟨a, b, c, d⟩ := h
  by_cases e : s' = s ∧ r' = r
  · exact .inr e
  · exact .inl ⟨a, b, c, by omega⟩
theorem prc_mono {s' r' : Int} (h : prc NR s r s' r') : prc NR s (r + 1) s' r' := ⟨h.1, h.2.1, h.2.2.1, by have := h.2.2.2; omega⟩
theorem upt_s (r0 : 0 ≤ r) : upt NR s (r + 1) s = upt NR s r s + 1 := by unfold upt; rw [if_neg (by omega), if_pos rfl, if_neg (by omega), if_pos rfl]; omega
theorem upt_o {s' : Int} (h : s' ≠ s) : upt NR s (r + 1) s' = upt NR s r s' := by unfold upt; rw [if_neg h, if_neg h]
theorem upt_e (r0 : 0 ≤ r) : upt NR s r s = r.toNat := by unfold upt; rw [if_neg (by omega), if_pos rfl]
theorem ChI.count (h : ChI o NR s r A f g) (r0 : 0 ≤ r) {j : Int} (j0 : 0 ≤ j) (j1 : j < A.length) (hk : keyO (ob A j) = keyO (o s r)) {z : Int} :
    ∀ s' j' : Int, 0 ≤ s' → 0 ≤ j' → j' < A.length → (setF (setF g (s, j) z) (s, j) ((g (s, j)).getD 0 + 1) (s', j')).getD 0 = cntK o s' (keyO (ob A j')) (upt NR s (r + 1) s') := fun s' j' c a b => by
  have hq := h.hg s' j' c a b
  by_cases e : (s', j') = (s, j)
  · have e1 : s' = s := congrArg Prod.fst e
    have e2 : j' = j := congrArg Prod.snd e
    subst e1; subst e2
    rw [setF_same, Option.getD_some, hq, upt_s r0, upt_e r0, cntK, show ((r.toNat : Nat) : Int) = r by omega, if_pos hk.symm]
  · rw [setF_other e, setF_other e, hq]
    by_cases e1 : s' = s
    · subst e1
      rw [upt_s r0, upt_e r0, cntK, show ((r.toNat : Nat) : Int) = r by omega, if_neg (fun q => ?_), Int.add_zero]
      have h1 := h.hf2 j' a b
      have h2 := h.hf2 j j0 j1
      rw [← q, ← hk, h2] at h1
      exact e (by rw [Option.some.inj h1])
    · rw [upt_o e1]
theorem ChI.old (h : ChI o NR s r A f g) (s0 : 0 ≤ s) (r0 : 0 ≤ r) (r1 : r < NR) {j z : Int} (hj : f (keyO (o s r)) = some j) : ChI o NR s (r + 1) A f (setF (setF g (s, j) z) (s, j) ((g (s, j)).getD 0 + 1)) := by
  obtain ⟨j0, j1, hk⟩ := h.hf _ _ hj
  refine ⟨h.hf, h.hf2, fun s' r' q => ?_, fun x a b => ?_, h.count r0 j0 j1 hk, fun s' x q => ?_, by have := h.len; omega⟩
  · rcases prc_next q with q | ⟨e1, e2⟩
    · exact h.cov s' r' q
    · rw [e1, e2, hj]; simp
  · obtain ⟨s', r', q, e⟩ := h.src x a b
    exact ⟨s', r', prc_mono q, e⟩
  · have e : (s', x) ≠ (s, j) := fun e => q (by rw [show x = j from congrArg Prod.snd e]; exact ⟨j0, j1⟩)
    rw [setF_other e, setF_other e]; exact h.hg0 s' x q
theorem ChI.ext (h : ChI o NR s r A f g) (s0 : 0 ≤ s) (r0 : 0 ≤ r) (r1 : r < NR) (hn : f (keyO (o s r)) = none) {z : Int} :
    ChI o NR s (r + 1) (A ++ [o s r]) (setF f (keyO (o s r)) (A.length : Int)) (setF (setF g (s, (A.length : Int)) z) (s, (A.length : Int)) ((g (s, (A.length : Int))).getD 0 + 1)) := by
  have hl : (((A ++ [o s r]).length : Nat) : Int) = A.length + 1 := by simp
  have fresh : ∀ j : Int, 0 ≤ j → j < A.length → keyO (ob A j) ≠ keyO (o s r) := fun j a b e => by
    have := h.hf2 j a b; rw [e, hn] at this; cases this
  refine ⟨fun k j q => ?_, fun j a b => ?_, fun s' r' q => ?_, fun x a b => ?_, fun s' j' n0 a b => ?_, fun s' x q => ?_, by have := h.len; omega⟩
  · rw [hl]
    by_cases e : k = keyO (o s r)
    · subst e; rw [setF_same] at q
      have q := Option.some.inj q
      rw [ob_r q.symm]; exact ⟨by omega, by omega, rfl⟩
    · rw [setF_other e] at q
      obtain ⟨a, b, c⟩ := h.hf k j q
      rw [ob_l b a]; exact ⟨a, by omega, c⟩
  · rw [hl] at b
    by_cases e : j = A.length
    · rw [ob_r e, setF_same, e]
    · rw [ob_l (by omega) a, setF_other (fresh j a (by omega))]; exact h.hf2 j a (by omega)
  · by_cases e : keyO (o s' r') = keyO (o s r)
    · rw [e, setF_same]; simp
    · rw [setF_other e]
      rcases prc_next q with q | ⟨e1, e2⟩
      · exact h.cov s' r' q
      · exact absurd (by rw [e1, e2]) e
  · rw [hl] at b
    by_cases e : x = A.length
    · exact ⟨s, r, ⟨s0, r0, r1, .inr ⟨rfl, by omega⟩⟩, ob_r e⟩
    · obtain ⟨s', r', q, e2⟩ := h.src x a (by omega)
      exact ⟨s', r', prc_mono q, by rw [ob_l (by omega) a]; exact e2⟩
  · rw [hl] at b
    by_cases e : j' = A.length
    · rw [ob_r e]
      have g0 : g (s', j') = none := h.hg0 s' j' (by omega)
      have zero : ∀ n : Nat, (∀ x : Int, 0 ≤ x → x < n → prc NR s r s' x) → cntK o s' (keyO (o s r)) n = 0 := fun n hp =>
        cntK_0 _ fun x x0 x1 q => h.cov s' x (hp x x0 x1) (by rw [q]; exact hn)
      by_cases e1 : s' = s
      · subst e1
        rw [e, setF_same, Option.getD_some, h.hg0 s' A.length (by omega), upt_s r0, upt_e r0, cntK, show ((r.toNat : Nat) : Int) = r by omega, if_pos rfl, zero _ fun x x0 x1 => ⟨n0, x0, by omega, .inr ⟨rfl, by omega⟩⟩]; rfl
      · have e2 : (s', j') ≠ (s, (A.length : Int)) := fun q => e1 (congrArg Prod.fst q)
        rw [setF_other e2, setF_other e2, g0, upt_o e1, zero _ fun x x0 x1 => ?_]
        · rfl
        · unfold upt at x1
          by_cases lt : s' < s
          · rw [if_pos lt] at x1; exact ⟨n0, x0, by omega, .inl lt⟩
          · rw [if_neg lt, if_neg e1] at x1; omega
    · have e2 : (s', j') ≠ (s, (A.length : Int)) := fun q => e (congrArg Prod.snd q)
      rw [ob_l (by omega) a, setF_other e2, setF_other e2, h.hg s' j' n0 a (by omega)]
      by_cases e1 : s' = s
      · subst e1
        rw [upt_s r0, upt_e r0, cntK, show ((r.toNat : Nat) : Int) = r by omega, if_neg (fun q => fresh j' a (by omega) q.symm), Int.add_zero]
      · rw [upt_o e1]
  · rw [hl] at q
    have e : (s', x) ≠ (s, (A.length : Int)) := fun e => q (by rw [show x = A.length from congrArg Prod.snd e]; omega)
    rw [setF_other e, setF_other e]; exact h.hg0 s' x (by omega)
theorem ChI.row (h : ChI o NR s NR A f g) (n0 : 0 ≤ NR) : ChI o NR (s + 1) 0 A f g := by
  have pe : ∀ s' r', prc NR (s + 1) 0 s' r' ↔ prc NR s NR s' r' := fun s' r' => by unfold prc; omega
  have ue : ∀ s', upt NR (s + 1) 0 s' = upt NR s NR s' := fun s' => by
    unfold upt
    by_cases a : s' < s
    · rw [if_pos (by omega), if_pos a]
    · by_cases b : s' = s
      · rw [if_pos (by omega), if_neg a, if_pos b]
      · rw [if_neg (by omega), if_neg a, if_neg b]
        split <;> rfl
  exact ⟨h.hf, h.hf2, fun s' r' q => h.cov s' r' ((pe s' r').1 q), fun j a b => (h.src j a b).imp fun s' => Exists.imp fun r' q => ⟨(pe s' r').2 q.1, q.2⟩, fun s' j c a b => by rw [ue]; exact h.hg s' j c a b, h.hg0, by have := h.len; rw [Int.add_mul, Int.one_mul]; omega⟩
theorem ChI.full (h : ChI o NR s 0 A f g) {s' j : Int} (a : 0 ≤ s') (b : s' < s) (c : 0 ≤ j) (d : j < A.length) : (g (s', j)).getD 0 = cntK o s' (keyO (ob A j)) NR.toNat := by
  have := h.hg s' j a c d
  unfold upt at this
  rwa [if_pos b] at this
end
def obc (ws : List Value) (A : List Ob) (i : Nat) : List Value := [gv ws i, .int .i64 (ob A i).2]
def obcs (ws : List Value) (A : List Ob) : List Value := (List.range A.length).flatMap (obc ws A)
theorem obcs_snoc {ws : List Value} {A : List Ob} {w : Value} {q : Ob} (hl : ws.length = A.length) : obcs (ws ++ [w]) (A ++ [q]) = obcs ws A ++ [w, .int .i64 q.2] := by
  unfold obcs
  rw [List.length_append, List.length_singleton, List.range_succ, List.flatMap_append]
  congr 1
  · rw [List.flatMap_def, List.flatMap_def, List.map_congr_left]
    intro i hi
    have := List.mem_range.1 hi
    unfold obc
    rw [ob_l (j := (i : Int)) (by omega) (by omega)]
    congr 1
    unfold gv
    rw [List.getD_eq_getElem?_getD, List.getElem?_append_left (by omega), ← List.getD_eq_getElem?_getD]
  · show obc _ _ _ ++ [] = _
    rw [List.append_nil]
    unfold obc
    rw [ob_r rfl]
    congr 1
    unfold gv
    rw [List.getD_eq_getElem?_getD, List.getElem?_append_right (by omega)]; simp [hl]
theorem obcs_at {ws : List Value} {A : List Ob} {i : Int} (h0 : 0 ≤ i) (h1 : i < A.length) : ((obcs ws A).drop (i.toNat * 2)).take 2 = [gv ws i, .int .i64 (ob A i).2] := by
  have := fl_at (s := 2) (f := obc ws A) (fun _ => rfl) (n := A.length) (i := i.toNat) (by omega)
  rw [obcs, this, obc, show ((i.toNat : Nat) : Int) = i by omega]
def iota (n : Nat) : List Int := (List.range n).map fun i : Nat => (i : Int)
theorem iota_len (n : Nat) : (iota n).length = n := by simp [iota]
theorem iota_gi {n : Nat} {i : Int} (h0 : 0 ≤ i) (h1 : i < n) : gi (iota n) i = i := by
  unfold iota gi
  rw [List.getD_eq_getElem?_getD, List.getElem?_map, List.getElem?_range (by omega)]
  show ((i.toNat : Nat) : Int) = i
  omega
theorem iota_mem {n : Nat} {x : Int} : x ∈ iota n ↔ 0 ≤ x ∧ x < n := by
  unfold iota
  rw [List.mem_map]
  constructor
  · rintro ⟨i, h, rfl⟩; have := List.mem_range.1 h; omega
  · intro h; exact ⟨x.toNat, List.mem_range.2 (by omega), by omega⟩
theorem perm_in {n : Nat} {d : List Int} (h : d.Perm (iota n)) {y : Int} (h0 : 0 ≤ y) (h1 : y < n) : 0 ≤ gi d y ∧ gi d y < n := by
  have hl := h.length_eq
  rw [iota_len] at hl
  refine iota_mem.1 (h.subset ?_)
  unfold gi
  rw [List.getD_eq_getElem?_getD, List.getElem?_eq_getElem (by omega)]
  exact List.getElem_mem _
/-- A row of the channel; the channel. -/
noncomputable def rowM (o : Int → Int → Ob) (NR : Int) (A : List Ob) (d : List Int) (s : Int) : List Int := d.map fun j => cntK o s (keyO (ob A j)) NR.toNat
noncomputable def chM (o : Int → Int → Ob) (NS NR : Int) (A : List Ob) (d : List Int) : List (List Int) := (iota NS.toNat).map (rowM o NR A d)
theorem rowM_len {o : Int → Int → Ob} {NR : Int} {A : List Ob} {d : List Int} {s : Int} : (rowM o NR A d s).length = d.length := by simp [rowM]
theorem rowM_gi {o : Int → Int → Ob} {NR : Int} {A : List Ob} {d : List Int} {s y : Int} (h0 : 0 ≤ y) (h1 : y < d.length) : gi (rowM o NR A d s) y = cntK o s (keyO (ob A (gi d y))) NR.toNat := by
  unfold rowM gi
  rw [List.getD_eq_getElem?_getD, List.getElem?_map, List.getD_eq_getElem?_getD, List.getElem?_eq_getElem (by omega)]; rfl
theorem chM_len {o : Int → Int → Ob} {NS NR : Int} {A : List Ob} {d : List Int} : (chM o NS NR A d).length = NS.toNat := by simp [chM, iota_len]
theorem chM_gr {o : Int → Int → Ob} {NS NR : Int} {A : List Ob} {d : List Int} {s : Int} (h0 : 0 ≤ s) (h1 : s < NS) : gr (chM o NS NR A d) s = rowM o NR A d s := by
  unfold chM gr
  rw [List.getD_eq_getElem?_getD, List.getElem?_map]
  have : (iota NS.toNat)[s.toNat]? = some s := by
    unfold iota
    rw [List.getElem?_map, List.getElem?_range (by omega)]
    show some ((s.toNat : Nat) : Int) = _
    rw [show ((s.toNat : Nat) : Int) = s by omega]
  rw [this]; rfl
theorem set_upto {Z : List Int} {W : Int → Int} {j n : Int} (hz : (Z.length : Int) = n) (h0 : 0 ≤ j) (h1 : j < n) (ha : ∀ x : Int, 0 ≤ x → x < j → gi Z x = W x) : ∀ x : Int, 0 ≤ x → x < j + 1 → gi (Z.set j.toNat (W j)) x = W x := fun x a b => by
  unfold gi at *
  by_cases e : x = j
  · subst e
    rw [List.getD_eq_getElem?_getD, List.getElem?_set_self (by omega)]; rfl
  · have := ha x a (by omega)
    rw [List.getD_eq_getElem?_getD, List.getElem?_set_ne (by omega), ← List.getD_eq_getElem?_getD]
    exact this
end Go.Proofs.YtbchkopkgpfkgaaGreatDoor

namespace Go.Vc
open Go Go.RowKit Go.Sort
theorem put_heap {w : World} {g n : Nat} {zs : List Int} {E : TypeId} {cur : Array Value} (hb : w.heap[g]? = some (.cells cur E (0, 0))) :
    putRow (Value.int .i64) (Sort.ahead w n) g 0 zs.toArray = { ({ w with drawn := w.drawn + n } : World) with heap := w.heap.setIfInBounds g (.cells (putCells (Value.int .i64) 0 zs.toArray cur) E (0, 0)) } := by
  have hlt : g < w.heap.size := hv_lt (w := w) hb
  have hg : w.heap[g] = .cells cur E (0, 0) := by rw [Array.getElem?_eq_getElem hlt] at hb; exact Option.some.inj hb
  unfold putRow mapBlock Sort.ahead
  congr 1
  apply Array.ext
  · simp
  · intro i h1 h2
    simp only [Array.getElem_modify]
    by_cases hi : g = i
    · subst hi; simp [hg, onCells]
    · rw [if_neg hi, Array.getElem_setIfInBounds_ne _ hi]
theorem putCells_take {zs : List Int} {cur : Array Value} {n : Nat} (hn : zs.length = n) (hc : n ≤ cur.size) : (putCells (Value.int .i64) 0 zs.toArray cur).toList.take n = zs.map (Value.int .i64) := by
  apply List.ext_getElem
  · simp [putCells]; omega
  · intro i h1 h2
    simp at h1 h2
    have hi : i < zs.length := by omega
    simp [putCells, List.getElem_take, hi]
section
variable {zs : List Int}
abbrev Mem1 (zs : List Int) := { n : Int // n ∈ zs }
def enM (x : Mem1 zs) : Value := .int .i64 x.val
theorem put_map [Inhabited (Mem1 zs)] (ds : List (Mem1 zs)) (c : Array Value) : putCells enM 0 ds.toArray c = putCells (Value.int .i64) 0 (ds.map (·.val)).toArray c := by
  unfold putCells
  apply Array.ext
  · simp
  · intro k h1 h2
    simp only [Array.getElem_mapIdx, List.size_toArray, List.length_map]
    split
    · rename_i h
      have hk : k < ds.length := by simpa using h.2
      simp [enM, hk]
    · rfl
theorem putRow_map [Inhabited (Mem1 zs)] (ds : List (Mem1 zs)) (w : World) (g : Nat) : putRow enM w g 0 ds.toArray = putRow (Value.int .i64) w g 0 (ds.map (·.val)).toArray := by
  unfold putRow
  congr 1
  funext c
  exact put_map ds c
end
/-- A world that differs by draws and new blocks alone. -/
theorem Ext.grow {w w' : World} (h : Ext w w') : ∃ q os', w' = Go.Sort.grow (w.drewN q) os' := by
  refine ⟨w'.drawn - w.drawn, w'.heap.extract w.heap.size w'.heap.size, ?_⟩
  have hh : w'.heap = w.heap ++ w'.heap.extract w.heap.size w'.heap.size := by
    apply Array.ext_getElem?
    intro i
    rw [Array.getElem?_append]
    split
    · rename_i hi; exact h.block i hi
    · rename_i hi
      rw [Array.getElem?_extract]
      by_cases hj : i < w'.heap.size
      · rw [if_pos (by have := h.size; omega), show w.heap.size + (i - w.heap.size) = i by omega]
      · rw [if_neg (by have := h.size; omega), Array.getElem?_eq_none (by omega)]
  have hd : w'.drawn = w.drawn + (w'.drawn - w.drawn) := by have := h.dr; omega
  obtain ⟨heap, tape, drawn, os, output⟩ := w
  obtain ⟨heap', tape', drawn', os', output'⟩ := w'
  have h1 := h.os
  have h2 := h.tape
  have h3 := h.output
  simp only at h1 h2 h3 hh hd
  subst h1; subst h2; subst h3
  unfold Go.Sort.grow World.drewN
  simp only
  rw [← hh, ← hd]
end Go.Vc
namespace Go.Proofs.YtbchkopkgpfkgaaGreatDoor
open Go Go.Vc Go.RowKit Go.Sort Go.Shelf
/-- Ordered. -/
def Srt (cf : Int → Int → Int) (d : List Int) : Prop := ∀ i j : Nat, i < j → j < d.length → ¬ cf (d.getD j 0) (d.getD i 0) < 0
theorem Srt.nil (cf : Int → Int → Int) : Srt cf [] := fun i j _ h => absurd h (Nat.not_lt_zero _)
theorem Sort_c {V : HV} {v : Value} {zs : List Int} {fid : Nat} {cb : Array Value} {cf : Int → Int → Int} (hcf : SWO (fun x y : Mem1 zs => decide (cf x.val y.val < 0)))
    (hclo : ∀ x y : Int, x ∈ zs → y ∈ zs → FnC Tryz.prog fid (.int .i64 x :: .int .i64 y :: cb.toList) V [] (fun v _ _ => v = .int .i64 (cf x y))) (hfid : ∃ fn, Tryz.prog.funcs[fid]? = some fn ∧ (fn.name == "runtime.NumGoroutine") = false ∧ fn.body.isNone = false) (hsz : zs.length < 4611686018427387904) :
    FnC Tryz.prog 35 [v, .func (.func fid) #[] cb] V [Gr 3 1 v zs.length (zs.map (Value.int .i64))] (fun u V' σ' => u = .tuple #[] ∧ V' = V ∧ ∃ d : List Int, d.Perm zs ∧ Srt cf d ∧ σ' = [Gr 3 1 v zs.length (d.map (Value.int .i64))]) := by
  refine ⟨⟨_, Tryz.func35, by rfl, by rfl⟩, fun w0 hs0 h1 h2 h3 h4 => ?_⟩
  have m0 := mem_start h1 h2 h3 h4
  obtain ⟨h, hh⟩ : ∃ h, hs0 = [h] := by
    match hs0, h1 with
    | [h], _ => exact ⟨h, rfl⟩
  subst hh
  have hg : Gr 3 1 v zs.length (zs.map (Value.int .i64)) h := h1.1
  obtain ⟨hl, hg⟩ := hg
  rcases hg with ⟨rfl, hn, _⟩ | ⟨g, cap, cur, rfl, rfl, q1, q2, q3, q4⟩
  · have hz : zs = [] := List.eq_nil_of_length_eq_zero hn
    subst hz
    refine (Tryz.slices_SortFunc_none (α := Nat) none 0 _ w0).mono fun e w' ⟨he, hw⟩ => ?_
    subst hw
    exact ⟨_, V, _, he, ⟨rfl, rfl, [], .refl _, Srt.nil _, rfl⟩, by simpa using m0⟩
  · have hb : w0.heap[g]? = some (.cells cur 3 (0, 0)) := (h4 (Vc.one g (.cells cur 3 (0, 0))) (List.mem_singleton.2 rfl)).1 g _ (by show (if g = g then some _ else none) = _; rw [if_pos rfl])
    have hgV : V g = none := by
      rcases (h4 (Vc.one g (.cells cur 3 (0, 0))) (List.mem_singleton.2 rfl)).2 g with q | q
      · simp [Vc.one] at q
      · exact q
    by_cases hz0 : zs = []
    · subst hz0
      refine (Tryz.slices_SortFunc_none (α := Nat) _ cap _ w0).mono fun e w' ⟨he, hw⟩ => ?_
      subst hw
      exact ⟨_, V, _, he, ⟨rfl, rfl, [], .refl _, Srt.nil _, rfl⟩, m0⟩
    · obtain ⟨z0, hz0⟩ : ∃ z, z ∈ zs := List.exists_mem_of_ne_nil _ hz0
      haveI : Inhabited (Mem1 zs) := ⟨⟨z0, hz0⟩⟩
      let ds : List (Mem1 zs) := zs.attach
      have hds : ds.map (·.val) = zs := List.attach_map_subtype_val zs
      have hdl : ds.length = zs.length := List.length_attach
      have hH : Holds enM w0 g 0 ds.toArray := fun j hj => by
        have hj1 : j < ds.length := by simpa using hj
        have hj' : j < zs.length := by omega
        have e0 : (ds.toArray[j]!).val = zs[j] := by
          have := congrArg (fun l => l[j]?) hds
          simp only [List.getElem?_map, List.getElem?_eq_getElem hj', List.getElem?_eq_getElem hj1, Option.map_some, Option.some.injEq] at this
          simpa [hj1] using this
        have e : cur[j]? = some (.int .i64 zs[j]) := by
          have := congrArg (fun l => l[j]?) q4
          simp only [List.getElem?_take, List.getElem?_map] at this
          rw [if_pos (by omega)] at this
          simpa [List.getElem?_eq_getElem hj'] using this
        refine ⟨?_, by simp [World.frozen?, hb]⟩
        unfold enM
        rw [e0]
        simp [World.cell?, hb, e]
      have hcmp : CmpLays1 Tryz.prog fid cb enM (fun x y : Mem1 zs => cf x.val y.val) g 0 ds.toArray.size w0 := fun m os dk _ x y => by
        have hsub : Vc.Sub V (hv (sortWorld enM w0 g 0 m dk os)) := fun b o hbo => by
          have hb0 := h3 b o hbo
          have hlt := hv_lt hb0
          have hne : g ≠ b := fun e => by rw [← e, hgV] at hbo; cases hbo
          show (sortWorld enM w0 g 0 m dk os).heap[b]? = _
          unfold sortWorld Sort.grow putRow mapBlock Sort.ahead
          simp only
          rw [Array.getElem?_append_left (by simpa using hlt), Array.getElem?_modify, if_neg hne]
          exact hb0
        have hargs : (Value.int .i64 x.val :: Value.int .i64 y.val :: cb.toList).toArray = #[enM x, enM y] ++ cb := by
          apply Array.ext'; simp [enM]
        have := (hclo x.val y.val x.2 y.2).run (sortWorld enM w0 g 0 m dk os) [] trivial .nil hsub (fun _ h => by cases h)
        rw [hargs] at this
        refine this.mono fun e w' ⟨v, V', σ', he, hv', hm'⟩ => ⟨by rw [he, hv'], hm'.ext_of_none.grow⟩
      obtain ⟨fn, f1, f2, f3⟩ := hfid
      have eg : ∀ args w, (callFunc fid args).run Tryz.prog w = .ok (.enter fid args) w := enters_of f1 f2 (Option.isSome_iff_exists.1 (by cases h : fn.body with | none => rw [h] at f3; cases f3 | some c => rfl)).choose_spec
      have call := Tryz.slices_SortFunc enM (fun _ => rfl) (fun x y : Mem1 zs => cf x.val y.val) hcf fid cb g 0 cap ds.toArray w0 eg hcmp hH (hv_lt (w := w0) hb) (by simpa [hdl] using hsz)
      rw [show ds.toArray.size = zs.length by simpa using hdl] at call
      refine call.mono fun e w' ⟨he, d', n, os, hp, hso, hw⟩ => ?_
      obtain ⟨hp1, _, hp3⟩ := hp
      have hp1 : d'.size = zs.length := by rw [hp1]; simpa using hdl
      have hperm : (d'.toList.map (·.val)).Perm zs := by
        rw [show d'.extract 0 zs.length = d' by rw [← hp1]; exact Array.extract_size, show ds.toArray.extract 0 zs.length = ds.toArray by rw [← hdl]; exact Array.extract_size] at hp3
        have := hp3.map (·.val)
        rwa [show (ds.toArray.toList.map (·.val)) = zs from hds] at this
      have hlen : (d'.toList.map (·.val)).length = zs.length := hperm.length_eq
      have hsrt : Srt cf (d'.toList.map (·.val)) := fun i j hij hj => by
        have hj1 : j < d'.size := by simpa using hj
        have q := hso i j (Nat.zero_le _) hij (by omega)
        have e : ∀ k, k < d'.size → (d'.toList.map (·.val)).getD k 0 = (d'[k]!).val := fun k hk => by
          rw [List.getD_eq_getElem?_getD, List.getElem?_map]
          simp [hk]
        rw [e j hj1, e i (by omega)]
        exact of_decide_eq_false q
      unfold sortWorld at hw
      rw [show d' = d'.toList.toArray from rfl, putRow_map, put_heap hb] at hw
      have m1 : Mem ⟨w0, V, dom [Vc.one g (.cells cur 3 (0, 0))]⟩ V [Blk g (.cells cur 3 (0, 0))] w0 :=
        mem_start (σ0 := [Blk g (.cells cur 3 (0, 0))]) ⟨rfl, trivial⟩ h2 h3 h4
      have m2 := (m1.drawn (w0.drawn + n)).setBlk (k := 0) rfl (.cells (putCells (Value.int .i64) 0 (d'.toList.map (·.val)).toArray cur) 3 (0, 0)) _ rfl
      have m3 := m2.ext (ext_grow _ os)
      rw [hw]
      refine ⟨_, V, _, he, ⟨rfl, rfl, d'.toList.map (·.val), hperm, hsrt, rfl⟩, ?_⟩
      obtain ⟨hs, s1, s2, s3⟩ := m3.own
      refine ⟨m3.os, m3.tape, m3.output, m3.dr, m3.size, m3.frame, m3.sub, m3.view, m3.vold, hs, ?_, s2, s3⟩
      match hs, s1 with
      | [x], s1 =>
        refine ⟨⟨by simp [hp1], .inr ⟨g, cap, _, rfl, s1.1, q1, q2, by simp [putCells]; omega, ?_⟩⟩, trivial⟩
        rw [Nat.mul_one]
        exact putCells_take hlen (by omega)
theorem Sort_n {V : HV} {v : Value} {zs : List Int} {n : Nat} {fid : Nat} {cb : Array Value} {cf : Int → Int → Int} (hn : zs.length = n) (hcf : SWO (fun x y : Mem1 zs => decide (cf x.val y.val < 0)))
    (hclo : ∀ x y : Int, x ∈ zs → y ∈ zs → FnC Tryz.prog fid (.int .i64 x :: .int .i64 y :: cb.toList) V [] (fun v _ _ => v = .int .i64 (cf x y))) (hfid : ∃ fn, Tryz.prog.funcs[fid]? = some fn ∧ (fn.name == "runtime.NumGoroutine") = false ∧ fn.body.isNone = false) (hsz : n < 4611686018427387904) :
    FnC Tryz.prog 35 [v, .func (.func fid) #[] cb] V [Gr 3 1 v n (zs.map (Value.int .i64))] (fun u V' σ' => u = .tuple #[] ∧ V' = V ∧ ∃ d : List Int, d.Perm zs ∧ Srt cf d ∧ σ' = [Gr 3 1 v n (d.map (Value.int .i64))]) := by
  subst hn; exact Sort_c hcf hclo hfid hsz
end Go.Proofs.YtbchkopkgpfkgaaGreatDoor

namespace Go.Proofs.YtbchkopkgpfkgaaGreatDoor
open Go Go.Vc
open Classical
/-- What is seen of the run with the secret number s and the random number r. -/
def oK (F : Fl) (B : List Int) (tm : Bool) (s r : Int) : Ob := ((obsF F (unL (vfl F.vs 1) s) B (unL (vfl F.vs 3) r)).outs, seenT tm (obsF F (unL (vfl F.vs 1) s) B (unL (vfl F.vs 3) r)).time)
theorem rk_ok {L : List Vr} {xs : List Int} (h : rkE L xs = 0) : xs.length = L.length ∧ inR L xs := by
  unfold rkE at h
  by_cases a : L.length ≠ xs.length
  · rw [if_pos a] at h; omega
  · rw [if_neg a] at h
    by_cases b : inR L xs
    · exact ⟨by omega, b⟩
    · rw [if_neg b] at h; omega
theorem in_ok {F : Fl} {B : List Int} (hV : VarsOk F.vs) (hB : rkE (vfl F.vs 2) B = 0) (s r : Int) : InOk F.vs (unL (vfl F.vs 1) s) B (unL (vfl F.vs 3) r) :=
  ⟨unL_len _ _, (rk_ok hB).1, unL_len _ _, unL_in fun v h => (hV.fl 1 v h).1, (rk_ok hB).2, unL_in fun v h => (hV.fl 3 v h).1⟩
theorem obs_bd {F : Fl} {A B C : List Int} (hV : Valid F) (hI : InOk F.vs A B C) : (obsF F A B C).outs.length ≤ 8 ∧ 0 ≤ (obsF F A B C).time ∧ (obsF F A B C).time ≤ 67108864 ∧ ∀ i : Int, 0 ≤ i → i < (obsF F A B C).outs.length → -1048576 ≤ gi (obsF F A B C).outs i ∧ gi (obsF F A B C).outs i ≤ 1048576 := by
  have h := obs_rdy hV hI
  refine ⟨by have := h.o1; omega, h.t0, by have := h.t1; omega, fun i a b => h.ob _ ?_⟩
  unfold gi
  rw [List.getD_eq_getElem?_getD, List.getElem?_eq_getElem (by omega)]; exact List.getElem_mem _
theorem seen_bd {tm : Bool} {t : Int} (h : 0 ≤ t ∧ t ≤ 67108864) : 0 ≤ seenT tm t ∧ seenT tm t ≤ 67108864 := by unfold seenT; split <;> omega
theorem gi_cons {a : Int} {l : List Int} {i : Int} (h0 : 0 ≤ i) : gi (a :: l) i = if i = 0 then a else gi l (i - 1) := by
  by_cases e : i = 0
  · subst e; rfl
  · rw [if_neg e]; unfold gi
    rw [show i.toNat = (i - 1).toNat + 1 by omega]; rfl
/-- The numbers that are spelled. -/
theorem spell_ok {t : Int} {l : List Int} (ht : 0 ≤ t ∧ t ≤ 67108864) (hl : l.length ≤ 8) (h : ∀ i : Int, 0 ≤ i → i < l.length → -1048576 ≤ gi l i ∧ gi l i ≤ 1048576) : ∀ i : Int, 0 ≤ i → i < (t :: l).length → -9223372036854775808 ≤ gi (t :: l) i ∧ gi (t :: l) i ≤ 9223372036854775807 := fun i a b => by
  rw [gi_cons a]
  by_cases e : i = 0
  · rw [if_pos e]; omega
  · rw [if_neg e]
    have := h (i - 1) (by omega) (by rw [List.length_cons] at b; omega)
    omega
abbrev FK := ByteArray → Option Int
abbrev GK := Int × Int → Option Int
theorem gvl_left {vs us : List Value} {j : Int} (_ : 0 ≤ j) (h1 : j < vs.length) : gv (vs ++ us) j = gv vs j := by
  unfold gv; rw [List.getD_eq_getElem?_getD, List.getElem?_append_left (by omega), ← List.getD_eq_getElem?_getD]
theorem gvl_last {vs : List Value} {x : Int} {v : Value} (h : (vs.length : Int) = x) : gv (vs ++ [v]) x = v := by
  unfold gv; rw [List.getD_eq_getElem?_getD, List.getElem?_append_right (by omega), show x.toNat - vs.length = 0 by omega]; rfl
def ekE (p : Int × Int) : Value := .agg #[.int .i64 p.1, .int .i64 p.2]
theorem spc_pos' {vs : List Vr} (hV : VarsOk vs) (k : Int) : 1 ≤ spc vs k := spc_pos fun v h => (hV.ord v h).1
theorem Ints.cons {V : HV} {v : Value} {t : Int} {l : List Int} (h : Sl V v ([t].map (Value.int .i64) ++ l.map (Value.int .i64))) : Ints .i64 V v (t :: l) := by
  rw [← List.map_append] at h; exact h
/-- Where the outputs lie; where the rows lie. -/
def HwO (V : HV) (ws : List Value) (A : List Ob) : Prop := ∀ j : Int, 0 ≤ j → j < A.length → Ints .i64 V (gv ws j) (ob A j).1
theorem HwO.mono {V V' : HV} {ws : List Value} {A : List Ob} (h : HwO V ws A) (s : Vc.Sub V V') : HwO V' ws A := fun j a b => Sl.mono (h j a b) s
def HrO (V : HV) (rv : List Value) (M : Int → List Int) (z : Int) : Prop := ∀ x : Int, 0 ≤ x → x < z → Ints .i64 V (gv rv x) (M x)
theorem HrO.mono {V V' : HV} {rv : List Value} {M : Int → List Int} {z : Int} (h : HrO V rv M z) (s : Vc.Sub V V') : HrO V' rv M z := fun j a b => Sl.mono (h j a b) s
theorem some_no {x : Option Int} (h : ¬ x.isSome = true) : x = none := by cases x <;> simp at *
theorem some_yes {x : Option Int} (h : x.isSome = true) : x = some (x.getD 0) := by cases x <;> simp at *
theorem ChI.cbd {o : Int → Int → Ob} {NR s r : Int} {A : List Ob} {f : FK} {g : GK} (h : ChI o NR s r A f g) (s0 : 0 ≤ s) (r0 : 0 ≤ r) (j : Int) : 0 ≤ (g (s, j)).getD 0 ∧ (g (s, j)).getD 0 ≤ r := by
  by_cases q : 0 ≤ j ∧ j < A.length
  · rw [h.hg s j s0 q.1 q.2, upt_e r0]
    have := cntK_bd (o := o) (s := s) (k := keyO (ob A j)) r.toNat
    omega
  · rw [h.hg0 s j q]; exact ⟨Int.le_refl _, r0⟩
theorem hw_snoc {V : HV} {ws : List Value} {A : List Ob} {w : Value} {q : Ob} (hl : ws.length = A.length) (hw : HwO V ws A) (h : Ints .i64 V w q.1) : HwO V (ws ++ [w]) (A ++ [q]) := fun j a b => by
  have hl2 : (((A ++ [q]).length : Nat) : Int) = A.length + 1 := by simp
  rw [hl2] at b
  by_cases e : j = A.length
  · rw [ob_r e]
    have : gv (ws ++ [w]) j = w := by unfold gv; rw [List.getD_eq_getElem?_getD, List.getElem?_append_right (by omega)]; simp [show j.toNat - ws.length = 0 by omega]
    rw [this]; exact h
  · rw [ob_l (by omega) a]
    have : gv (ws ++ [w]) j = gv ws j := by unfold gv; rw [List.getD_eq_getElem?_getD, List.getElem?_append_left (by omega), ← List.getD_eq_getElem?_getD]
    rw [this]; exact hw j a (by omega)
end Go.Proofs.YtbchkopkgpfkgaaGreatDoor
