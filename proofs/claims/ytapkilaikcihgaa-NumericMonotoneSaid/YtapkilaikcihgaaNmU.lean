/- Strided intervals: elements, sizes, the parts up to and above a number, clamping. No program in sight. -/
import Derived.Test.YtapkilaikcihgaaNmT
namespace Go.Proofs.Ytapkilaikcihgaa
open Go.Vc
open Classical
theorem vld_lt {a : Nm} (h : vld a) : a.h < a.l ↔ a = nE := by
  constructor
  · intro q
    apply Decidable.not_not.1
    intro he
    have := (vld_ne h he).2.2.1
    omega
  · rintro rfl; decide
theorem mem_s0 {a : Nm} {n : Int} (h : vld a) (he : a ≠ nE) (hs : a.s = 0) (h1 : a.l ≤ n) (h2 : n ≤ a.h) : mem a n := by
  obtain ⟨_, _, _, h4, h5⟩ := vld_ne h he
  have : a.l = a.h := by
    apply Decidable.not_not.1
    intro q
    have := (h5 q).1
    omega
  exact ⟨h1, h2, by rw [show n - a.l = 0 by omega]; exact Int.dvd_zero _⟩
theorem mem_mod {a : Nm} {n : Int} (h1 : a.l ≤ n) (h2 : n ≤ a.h) : mem a n ↔ (n - a.l) % a.s = 0 :=
  ⟨fun m => Int.emod_eq_zero_of_dvd m.2.2, fun e => ⟨h1, h2, Int.dvd_of_emod_eq_zero e⟩⟩
noncomputable def sizeF (a : Nm) : Int := if a = nE then 0 else if a.s = 0 then 1 else (a.h - a.l) / a.s + 1
noncomputable def sizeV (a : Nm) : Int := if vld a then sizeF a else 0
theorem sizeF_0 {a : Nm} (h : a = nE) : sizeF a = 0 := if_pos h
theorem sizeF_1 {a : Nm} (h : ¬ a = nE) (hs : a.s = 0) : sizeF a = 1 := by unfold sizeF; rw [if_neg h, if_pos hs]
theorem sizeF_2 {a : Nm} (h : ¬ a = nE) (hs : ¬ a.s = 0) : sizeF a = (a.h - a.l) / a.s + 1 := by unfold sizeF; rw [if_neg h, if_neg hs]
theorem sizeV_1 {a : Nm} (h : vld a) : sizeV a = sizeF a := if_pos h
theorem sizeV_0 {a : Nm} (h : ¬ vld a) : sizeV a = 0 := if_neg h
theorem size_bd {a : Nm} (h : vld a) : 0 ≤ sizeF a ∧ sizeF a ≤ 2199023255553 := by
  by_cases he : a = nE
  · rw [sizeF_0 he]; omega
  by_cases hs : a.s = 0
  · rw [sizeF_1 he hs]; omega
  rw [sizeF_2 he hs]
  obtain ⟨h1, h2, h3, _, _⟩ := vld_ne h he
  have h6 := (vld_bd h).2.2
  unfold fits at h1 h2
  have := Int.ediv_nonneg (show 0 ≤ a.h - a.l by omega) h6
  have := Int.ediv_le_self (a := a.h - a.l) a.s (by omega)
  omega
theorem size_mul {a : Nm} (h : vld a) {i : Int} (i0 : 0 ≤ i) (i1 : i < sizeF a) : 0 ≤ i * a.s ∧ a.l + i * a.s ≤ a.h := by
  have he : ¬ a = nE := fun e => by rw [sizeF_0 e] at i1; omega
  have h6 := (vld_bd h).2.2
  have h3 := (vld_ne h he).2.2.1
  refine ⟨Int.mul_nonneg i0 h6, ?_⟩
  by_cases hs : a.s = 0
  · rw [hs]; omega
  · rw [sizeF_2 he hs] at i1
    have h7 : i ≤ (a.h - a.l) / a.s := by omega
    have := Int.mul_le_of_le_ediv (by omega) h7
    omega
theorem size_one {a : Nm} (h : vld a) (h1 : sizeF a = 1) : a ≠ nE ∧ a.l = a.h := by
  have he : ¬ a = nE := fun e => by rw [sizeF_0 e] at h1; omega
  refine ⟨he, ?_⟩
  obtain ⟨_, _, h3, h4, h5⟩ := vld_ne h he
  apply Decidable.not_not.1
  intro q
  have hs := (h5 q).1
  have hl := step_le h he
  rw [sizeF_2 he (by omega)] at h1
  have : 1 ≤ (a.h - a.l) / a.s := Int.le_ediv_of_mul_le (by omega) (by omega)
  omega
def oth (a : Nm) : Prop := 1 < sizeF a ∨ (sizeF a = 1 ∧ a.l ≠ 0)
theorem one_mem0 {a : Nm} (h : vld a) (h1 : sizeF a = 1) : mem a 0 ↔ a.l = 0 := by
  obtain ⟨he, e⟩ := size_one h h1
  constructor
  · rintro ⟨a1, a2, _⟩; omega
  · intro q; have := mem_l h he; rwa [q] at this
def memP (a : Nm) (n : Nat) : List Int := (List.range n).map fun i : Nat => a.l + i * a.s
theorem memP_succ (a : Nm) {i : Int} (h : 0 ≤ i) : memP a (i + 1).toNat = memP a i.toNat ++ [a.l + i * a.s] := by
  rw [show (i + 1).toNat = i.toNat + 1 by omega]
  simp only [memP, List.range_succ, List.map_append, List.map_cons, List.map_nil]
  rw [show ((i.toNat : Nat) : Int) = i by omega]
theorem memP_len (a : Nm) (n : Nat) : (memP a n).length = n := by simp [memP]
noncomputable def memF (a : Nm) : List Int := memP a (sizeF a).toNat
noncomputable def mbE (a : Nm) : Int := if vld a then (if 4096 < sizeF a then 4 else 0) else 1
noncomputable def mbL (a : Nm) : List Int := if mbE a = 0 then memF a else []
theorem mbE_1 {a : Nm} (h : ¬ vld a) : mbE a = 1 := if_neg h
theorem mbE_4 {a : Nm} (h : vld a) (h2 : 4096 < sizeF a) : mbE a = 4 := by unfold mbE; rw [if_pos h, if_pos h2]
theorem mbE_0 {a : Nm} (h : vld a) (h2 : ¬ 4096 < sizeF a) : mbE a = 0 := by unfold mbE; rw [if_pos h, if_neg h2]
theorem mbL_0 {a : Nm} (h : mbE a = 0) : mbL a = memF a := if_pos h
theorem mbL_1 {a : Nm} (h : ¬ mbE a = 0) : mbL a = [] := if_neg h
/- parts -/
noncomputable def upF (a : Nm) (at_ : Int) : Nm := if a = nE ∨ at_ < a.l then nE else if a.h ≤ at_ then a else spanF a.l at_ a.s
noncomputable def abF (a : Nm) (at_ : Int) : Nm := if a = nE ∨ at_ < a.l then a else if a.h ≤ at_ then nE else spanF ((spanF a.l at_ a.s).h + a.s) a.h a.s
theorem upF_1 {a : Nm} {x : Int} (h : a = nE ∨ x < a.l) : upF a x = nE := if_pos h
theorem upF_2 {a : Nm} {x : Int} (h : ¬ (a = nE ∨ x < a.l)) (h2 : a.h ≤ x) : upF a x = a := by unfold upF; rw [if_neg h, if_pos h2]
theorem upF_3 {a : Nm} {x : Int} (h : ¬ (a = nE ∨ x < a.l)) (h2 : ¬ a.h ≤ x) : upF a x = spanF a.l x a.s := by unfold upF; rw [if_neg h, if_neg h2]
theorem abF_1 {a : Nm} {x : Int} (h : a = nE ∨ x < a.l) : abF a x = a := if_pos h
theorem abF_2 {a : Nm} {x : Int} (h : ¬ (a = nE ∨ x < a.l)) (h2 : a.h ≤ x) : abF a x = nE := by unfold abF; rw [if_neg h, if_pos h2]
theorem abF_3 {a : Nm} {x : Int} (h : ¬ (a = nE ∨ x < a.l)) (h2 : ¬ a.h ≤ x) : abF a x = spanF ((spanF a.l x a.s).h + a.s) a.h a.s := by unfold abF; rw [if_neg h, if_neg h2]
/-- Between the ends. -/
structure Mid (a : Nm) (x : Int) : Prop where
  ok : vld a
  ne : ¬ (a = nE ∨ x < a.l)
  lt : ¬ a.h ≤ x
theorem Mid.step {a : Nm} {x : Int} (m : Mid a x) : fits a.l ∧ fits x ∧ fits a.h ∧ a.l ≤ x ∧ x < a.h ∧ 1 ≤ a.s ∧ a.s ∣ a.h - a.l := by
  have hne : a ≠ nE := fun e => m.ne (Or.inl e)
  have hlx : ¬ x < a.l := fun e => m.ne (Or.inr e)
  obtain ⟨h1, h2, h3, h4, h5⟩ := vld_ne m.ok hne
  have := m.lt
  refine ⟨h1, ?_, h2, by omega, by omega, (h5 (by omega)).1, vld_dvd m.ok hne⟩
  unfold fits at *; omega
theorem span_h {lo hi st : Int} (h : ¬ hi < lo) (hs : 0 ≤ st) : (spanF lo hi st).h = lo + (hi - lo) / st * st ∧ (spanF lo hi st).l = lo := by
  by_cases h2 : st = 0
  · rw [spanF_2 h h2, h2]; simp
  by_cases h3 : lo = lo + (hi - lo) / st * st
  · rw [spanF_3 h h2 h3]; exact ⟨h3, rfl⟩
  · rw [spanF_4 h h2 h3]; exact ⟨rfl, rfl⟩
theorem span_mem {lo hi st n : Int} (h : ¬ hi < lo) (hs : 1 ≤ st) : mem (spanF lo hi st) n ↔ lo ≤ n ∧ n ≤ hi ∧ st ∣ n - lo := by
  have e0 := Int.emod_add_mul_ediv (hi - lo) st
  rw [Int.mul_comm] at e0
  have e1 := Int.emod_nonneg (hi - lo) (show st ≠ 0 by omega)
  have key : ∀ m : Int, st ∣ m - lo → m ≤ hi → m ≤ lo + (hi - lo) / st * st := fun m hd hm => by
    obtain ⟨c, hc⟩ := hd
    have : c ≤ (hi - lo) / st := Int.le_ediv_of_mul_le (by omega) (by rw [Int.mul_comm]; omega)
    have := Int.mul_le_mul_of_nonneg_right this (show 0 ≤ st by omega)
    rw [Int.mul_comm] at hc; omega
  by_cases h3 : lo = lo + (hi - lo) / st * st
  · rw [spanF_3 h (by omega) h3, mem_sgl]
    constructor
    · rintro rfl; exact ⟨Int.le_refl _, by omega, by simp⟩
    · rintro ⟨a, b, c⟩; have := key n c b; omega
  · rw [spanF_4 h (by omega) h3]
    constructor
    · rintro ⟨a, b, c⟩
      have a : lo ≤ n := a
      have b : n ≤ lo + (hi - lo) / st * st := b
      exact ⟨a, by omega, c⟩
    · rintro ⟨a, b, c⟩; exact ⟨a, key n c b, c⟩
/-- The step over x. -/
theorem Mid.next {a : Nm} {x : Int} (m : Mid a x) : x < (spanF a.l x a.s).h + a.s ∧ (spanF a.l x a.s).h + a.s ≤ a.h ∧ a.l ≤ (spanF a.l x a.s).h ∧ a.s ∣ (spanF a.l x a.s).h - a.l ∧ (spanF a.l x a.s).h + a.s = a.l + ((x - a.l) / a.s + 1) * a.s := by
  obtain ⟨h1, h2, h3, h4, h5, h6, h7⟩ := m.step
  obtain ⟨e1, e2⟩ := span_h (lo := a.l) (hi := x) (st := a.s) (by omega) (by omega)
  rw [e1]
  have f0 := Int.emod_add_mul_ediv (x - a.l) a.s
  rw [Int.mul_comm] at f0
  have f1 := Int.emod_nonneg (x - a.l) (show a.s ≠ 0 by omega)
  have f2 := Int.emod_lt_of_pos (x - a.l) (show 0 < a.s by omega)
  have f3 := Int.mul_nonneg (Int.ediv_nonneg (show 0 ≤ x - a.l by omega) (show 0 ≤ a.s by omega)) (show 0 ≤ a.s by omega)
  obtain ⟨c, hc⟩ := h7
  have f4 : (x - a.l) / a.s < c := Int.ediv_lt_of_lt_mul (by omega) (by rw [Int.mul_comm]; omega)
  have f5 := Int.mul_le_mul_of_nonneg_right (show (x - a.l) / a.s + 1 ≤ c by omega) (show 0 ≤ a.s by omega)
  rw [Int.add_mul, Int.one_mul] at f5
  rw [Int.mul_comm] at hc
  refine ⟨by omega, by omega, by omega, ⟨(x - a.l) / a.s, by rw [Int.mul_comm]; omega⟩, by rw [Int.add_mul]; omega⟩
theorem up_ok {a : Nm} (h : vld a) (x : Int) : vld (upF a x) ∧ ∀ n, mem (upF a x) n ↔ (mem a n ∧ n ≤ x) := by
  by_cases c1 : a = nE ∨ x < a.l
  · rw [upF_1 c1]
    refine ⟨vld_nE, fun n => ⟨fun m => absurd m mem_nE, fun ⟨m, q⟩ => ?_⟩⟩
    rcases c1 with e | e
    · rw [e] at m; exact m
    · have := m.1; omega
  by_cases c2 : a.h ≤ x
  · rw [upF_2 c1 c2]
    exact ⟨h, fun n => ⟨fun m => ⟨m, by have := m.2.1; omega⟩, fun m => m.1⟩⟩
  rw [upF_3 c1 c2]
  have md : Mid a x := ⟨h, c1, c2⟩
  obtain ⟨h1, h2, h3, h4, h5, h6, h7⟩ := md.step
  refine ⟨span_vld h1 h2 (by omega), fun n => ?_⟩
  rw [span_mem (by omega) h6]
  constructor
  · rintro ⟨p, q, r⟩; exact ⟨⟨p, by omega, r⟩, q⟩
  · rintro ⟨⟨p, q, r⟩, s⟩; exact ⟨p, s, r⟩
theorem ab_ok {a : Nm} (h : vld a) (x : Int) : vld (abF a x) ∧ ∀ n, mem (abF a x) n ↔ (mem a n ∧ x < n) := by
  by_cases c1 : a = nE ∨ x < a.l
  · rw [abF_1 c1]
    refine ⟨h, fun n => ⟨fun m => ⟨m, ?_⟩, fun m => m.1⟩⟩
    rcases c1 with e | e
    · rw [e] at m; exact absurd m mem_nE
    · have := m.1; omega
  by_cases c2 : a.h ≤ x
  · rw [abF_2 c1 c2]
    refine ⟨vld_nE, fun n => ⟨fun m => absurd m mem_nE, fun ⟨m, q⟩ => ?_⟩⟩
    have := m.2.1; omega
  rw [abF_3 c1 c2]
  have md : Mid a x := ⟨h, c1, c2⟩
  obtain ⟨h1, h2, h3, h4, h5, h6, h7⟩ := md.step
  obtain ⟨n1, n2, n3, n4, n5⟩ := md.next
  refine ⟨span_vld (by unfold fits at *; omega) h3 (by omega), fun n => ?_⟩
  rw [span_mem (by omega) h6]
  have hy : (spanF a.l x a.s).h ≤ x := by
    have := (span_h (lo := a.l) (hi := x) (st := a.s) (by omega) (by omega)).1
    have e0 := Int.emod_add_mul_ediv (x - a.l) a.s
    rw [Int.mul_comm] at e0
    have e1 := Int.emod_nonneg (x - a.l) (show a.s ≠ 0 by omega)
    omega
  generalize (spanF a.l x a.s).h = y at *
  constructor
  · rintro ⟨p, q, r⟩
    refine ⟨⟨by omega, q, ?_⟩, by omega⟩
    have := Int.dvd_add r (Int.dvd_add n4 (Int.dvd_refl a.s))
    rwa [show n - (y + a.s) + (y - a.l + a.s) = n - a.l by omega] at this
  · rintro ⟨⟨p, q, r⟩, s⟩
    have hd : a.s ∣ n - y := by
      have := Int.dvd_sub r n4
      rwa [show n - a.l - (y - a.l) = n - y by omega] at this
    have hle : a.s ≤ n - y := Int.le_of_dvd (by omega) hd
    refine ⟨by omega, q, ?_⟩
    have := Int.dvd_sub hd (Int.dvd_refl a.s)
    rwa [show n - y - a.s = n - (y + a.s) by omega] at this
/- clamping -/
def cl (lo hi n : Int) : Int := if n < lo then lo else if hi < n then hi else n
noncomputable def clF (a : Nm) (lo hi : Int) : Nm :=
  let r := abF a (lo - 1)
  let i0 := upF r hi
  let i1 := if upF a (lo - 1) = nE then i0 else joinF i0 (sgl lo)
  if abF r hi = nE then i1 else joinF i1 (sgl hi)
theorem empty_iff {a : Nm} (h : vld a) : a = nE ↔ ∀ n, ¬ mem a n := ⟨fun e n => e ▸ mem_nE, fun q => Decidable.not_not.1 fun he => q _ (mem_l h he)⟩
theorem least_or {P Q : Int → Prop} {a b : Nm} {c : Prop} [Decidable c] (hc : c ↔ b = nE) (n : Int) (hl : Least P a) (hf : fits n) (hb : vld b) (hQ : ∀ x, Q x ↔ (P x ∨ (x = n ∧ ∃ m, mem b m))) : Least Q (if c then a else joinF a (sgl n)) := by
  by_cases h : c
  · rw [if_pos h]
    have he := (empty_iff hb).1 (hc.1 h)
    exact hl.congr fun x => by rw [hQ]; exact ⟨Or.inl, fun q => q.elim id fun ⟨_, m, hm⟩ => absurd hm (he m)⟩
  · rw [if_neg h]
    have he : ∃ m, mem b m := ⟨_, mem_l hb fun e => h (hc.2 e)⟩
    exact (hl.join (least_sgl hf)).congr fun x => by rw [hQ]; exact ⟨fun q => q.elim Or.inl fun e => Or.inr ⟨e, he⟩, fun q => q.elim Or.inl fun e => Or.inr e.1⟩
theorem cl_least {a : Nm} (h : vld a) {lo hi : Int} (hl : fits lo) (hh : fits hi) (hlh : lo ≤ hi) : Least (fun n => ∃ m, mem a m ∧ cl lo hi m = n) (clF a lo hi) := by
  have hr := ab_ok h (lo - 1)
  have hi0 := up_ok hr.1 hi
  have hu := up_ok h (lo - 1)
  have ho := ab_ok hr.1 hi
  have l0 : Least (fun n => mem a n ∧ lo ≤ n ∧ n ≤ hi) (upF (abF a (lo - 1)) hi) := (least_self hi0.1).congr fun n => by
    rw [hi0.2, hr.2]
    exact ⟨fun ⟨⟨p, q⟩, r⟩ => ⟨p, by omega, r⟩, fun ⟨p, q, r⟩ => ⟨⟨p, by omega⟩, r⟩⟩
  have l1 := least_or (Q := fun x => (mem a x ∧ lo ≤ x ∧ x ≤ hi) ∨ (x = lo ∧ ∃ m, mem (upF a (lo - 1)) m)) Iff.rfl lo l0 hl hu.1 fun x => Iff.rfl
  have l2 := least_or (Q := fun x => ((mem a x ∧ lo ≤ x ∧ x ≤ hi) ∨ (x = lo ∧ ∃ m, mem (upF a (lo - 1)) m)) ∨ (x = hi ∧ ∃ m, mem (abF (abF a (lo - 1)) hi) m)) Iff.rfl hi l1 hh ho.1 fun x => Iff.rfl
  refine Least.congr (a := clF a lo hi) l2 fun n => ?_
  simp only [hu.2, ho.2, hr.2]
  constructor
  · rintro ((⟨p, q, r⟩ | ⟨rfl, m, p, q⟩) | ⟨rfl, m, ⟨p, q⟩, r⟩)
    · exact ⟨n, p, by unfold cl; rw [if_neg (by omega), if_neg (by omega)]⟩
    · exact ⟨m, p, by unfold cl; rw [if_pos (by omega)]⟩
    · exact ⟨m, p, by unfold cl; rw [if_neg (by omega), if_pos (by omega)]⟩
  · rintro ⟨m, p, rfl⟩
    unfold cl
    split
    · exact Or.inl (Or.inr ⟨rfl, m, p, by omega⟩)
    · split
      · exact Or.inr ⟨rfl, m, ⟨p, by omega⟩, by omega⟩
      · exact Or.inl (Or.inl ⟨p, by omega, by omega⟩)
/-- The same from other parts. -/
noncomputable def clR (a : Nm) (lo hi : Int) : Nm :=
  let i0 := upF (abF a (lo - 1)) hi
  let i1 := if (upF a lo).h < (upF a lo).l then i0 else joinF i0 (sgl lo)
  if (abF a hi).h < (abF a hi).l then i1 else joinF i1 (sgl hi)
theorem clR_eq {a : Nm} (h : vld a) {lo hi : Int} (hl : fits lo) (hh : fits hi) (hlh : lo ≤ hi) : clR a lo hi = clF a lo hi := by
  refine Least.unique (P := fun n => ∃ m, mem a m ∧ cl lo hi m = n) ?_ (cl_least h hl hh hlh)
  have hr := ab_ok h (lo - 1)
  have hi0 := up_ok hr.1 hi
  have hu := up_ok h lo
  have ho := ab_ok h hi
  have l0 : Least (fun n => mem a n ∧ lo ≤ n ∧ n ≤ hi) (upF (abF a (lo - 1)) hi) := (least_self hi0.1).congr fun n => by
    rw [hi0.2, hr.2]
    exact ⟨fun ⟨⟨p, q⟩, r⟩ => ⟨p, by omega, r⟩, fun ⟨p, q, r⟩ => ⟨⟨p, by omega⟩, r⟩⟩
  have l1 := least_or (Q := fun x => (mem a x ∧ lo ≤ x ∧ x ≤ hi) ∨ (x = lo ∧ ∃ m, mem (upF a lo) m)) (vld_lt hu.1) lo l0 hl hu.1 fun x => Iff.rfl
  have l2 := least_or (Q := fun x => ((mem a x ∧ lo ≤ x ∧ x ≤ hi) ∨ (x = lo ∧ ∃ m, mem (upF a lo) m)) ∨ (x = hi ∧ ∃ m, mem (abF a hi) m)) (vld_lt ho.1) hi l1 hh ho.1 fun x => Iff.rfl
  refine Least.congr (a := clR a lo hi) l2 fun n => ?_
  simp only [hu.2, ho.2]
  constructor
  · rintro ((⟨p, q, r⟩ | ⟨rfl, m, p, q⟩) | ⟨rfl, m, p, r⟩)
    · exact ⟨n, p, by unfold cl; rw [if_neg (by omega), if_neg (by omega)]⟩
    · exact ⟨m, p, by unfold cl; split; rfl; rw [if_neg (by omega)]; omega⟩
    · exact ⟨m, p, by unfold cl; rw [if_neg (by omega), if_pos (by omega)]⟩
  · rintro ⟨m, p, rfl⟩
    unfold cl
    split
    · exact Or.inl (Or.inr ⟨rfl, m, p, by omega⟩)
    · split
      · exact Or.inr ⟨rfl, m, p, by omega⟩
      · exact Or.inl (Or.inl ⟨p, by omega, by omega⟩)
theorem clF_ee {a : Nm} {lo hi : Int} (h1 : upF a (lo - 1) = nE) (h2 : abF (abF a (lo - 1)) hi = nE) : clF a lo hi = upF (abF a (lo - 1)) hi := by simp only [clF, if_pos h1, if_pos h2]
theorem clF_ne {a : Nm} {lo hi : Int} (h1 : ¬ upF a (lo - 1) = nE) (h2 : abF (abF a (lo - 1)) hi = nE) : clF a lo hi = joinF (upF (abF a (lo - 1)) hi) (sgl lo) := by simp only [clF, if_neg h1, if_pos h2]
theorem clF_en {a : Nm} {lo hi : Int} (h1 : upF a (lo - 1) = nE) (h2 : ¬ abF (abF a (lo - 1)) hi = nE) : clF a lo hi = joinF (upF (abF a (lo - 1)) hi) (sgl hi) := by simp only [clF, if_pos h1, if_neg h2]
theorem clF_nn {a : Nm} {lo hi : Int} (h1 : ¬ upF a (lo - 1) = nE) (h2 : ¬ abF (abF a (lo - 1)) hi = nE) : clF a lo hi = joinF (joinF (upF (abF a (lo - 1)) hi) (sgl lo)) (sgl hi) := by simp only [clF, if_neg h1, if_neg h2]
theorem clR_ee {a : Nm} {lo hi : Int} (h1 : (upF a lo).h < (upF a lo).l) (h2 : (abF a hi).h < (abF a hi).l) : clR a lo hi = upF (abF a (lo - 1)) hi := by simp only [clR, if_pos h1, if_pos h2]
theorem clR_ne {a : Nm} {lo hi : Int} (h1 : ¬ (upF a lo).h < (upF a lo).l) (h2 : (abF a hi).h < (abF a hi).l) : clR a lo hi = joinF (upF (abF a (lo - 1)) hi) (sgl lo) := by simp only [clR, if_neg h1, if_pos h2]
theorem clR_en {a : Nm} {lo hi : Int} (h1 : (upF a lo).h < (upF a lo).l) (h2 : ¬ (abF a hi).h < (abF a hi).l) : clR a lo hi = joinF (upF (abF a (lo - 1)) hi) (sgl hi) := by simp only [clR, if_pos h1, if_neg h2]
theorem clR_nn {a : Nm} {lo hi : Int} (h1 : ¬ (upF a lo).h < (upF a lo).l) (h2 : ¬ (abF a hi).h < (abF a hi).l) : clR a lo hi = joinF (joinF (upF (abF a (lo - 1)) hi) (sgl lo)) (sgl hi) := by simp only [clR, if_neg h1, if_neg h2]
noncomputable def spU (a : Nm) (x : Int) : Nm := if vld a then upF a x else ⟨0, 0, 0⟩
noncomputable def spA (a : Nm) (x : Int) : Nm := if vld a then abF a x else ⟨0, 0, 0⟩
noncomputable def spE (a : Nm) : Int := if vld a then 0 else 1
theorem truth_ref {a : Nm} : (1 < sizeV a ∨ (sizeV a = 1 ∧ ¬ (vld a ∧ mem a 0))) ↔ (vld a ∧ oth a) := by
  by_cases h : vld a
  · rw [sizeV_1 h]
    unfold oth
    constructor
    · rintro (q | ⟨q, r⟩)
      · exact ⟨h, Or.inl q⟩
      · exact ⟨h, Or.inr ⟨q, fun e => r ⟨h, (one_mem0 h q).2 e⟩⟩⟩
    · rintro ⟨_, q | ⟨q, r⟩⟩
      · exact Or.inl q
      · exact Or.inr ⟨q, fun e => r ((one_mem0 h q).1 e.2)⟩
  · rw [sizeV_0 h]
    constructor
    · rintro (q | ⟨q, _⟩) <;> omega
    · exact fun q => absurd q.1 h
theorem ext_gi {A B : List Int} (h : A.length = B.length) (h1 : ∀ x : Int, 0 ≤ x → x < A.length → gi A x = gi B x) : A = B := by
  apply List.ext_getElem h
  intro i hi hj
  have := h1 i (by omega) (by omega)
  simpa [gi, List.getD_eq_getElem?_getD, List.getElem?_eq_getElem hi, List.getElem?_eq_getElem hj] using this
def clOk (lo hi : Int) : Prop := lo ≤ hi ∧ fits lo ∧ fits hi
noncomputable def clE (a : Nm) (lo hi : Int) : Int := if vld a then (if clOk lo hi then 0 else 3) else 1
noncomputable def clN (a : Nm) (lo hi : Int) : Nm := if clE a lo hi = 0 then clF a lo hi else ⟨0, 0, 0⟩
theorem clE_1 {a : Nm} {lo hi : Int} (h : ¬ vld a) : clE a lo hi = 1 := if_neg h
theorem clE_3 {a : Nm} {lo hi : Int} (h : vld a) (h2 : ¬ clOk lo hi) : clE a lo hi = 3 := by unfold clE; rw [if_pos h, if_neg h2]
theorem clE_0 {a : Nm} {lo hi : Int} (h : vld a) (h2 : clOk lo hi) : clE a lo hi = 0 := by unfold clE; rw [if_pos h, if_pos h2]
theorem clN_0 {a : Nm} {lo hi : Int} (h : clE a lo hi = 0) : clN a lo hi = clF a lo hi := if_pos h
theorem clN_1 {a : Nm} {lo hi : Int} (h : ¬ clE a lo hi = 0) : clN a lo hi = ⟨0, 0, 0⟩ := if_neg h
theorem mn_or (a b : Int) : mn a b ≤ a ∧ mn a b ≤ b ∧ (mn a b = a ∨ mn a b = b) := by unfold mn; split <;> omega
theorem mx_or (a b : Int) : a ≤ mx a b ∧ b ≤ mx a b ∧ (mx a b = a ∨ mx a b = b) := by unfold mx; split <;> omega
/-- Ends of the least set of four values. -/
theorem of4 {p q r s : Int} (hp : fits p) (hq : fits q) (hr : fits r) (hs : fits s) : (ofF [p, q, r, s]).l = mn (mn (mn p q) r) s ∧ (ofF [p, q, r, s]).h = mx (mx (mx p q) r) s ∧ ofF [p, q, r, s] ≠ nE := by
  have e : ofF [p, q, r, s] = joinF (joinF (joinF (joinF nE (sgl p)) (sgl q)) (sgl r)) (sgl s) := rfl
  have sne : ∀ x : Int, sgl x ≠ nE := fun x e => by have := congrArg Nm.l e; have := congrArg Nm.h e; simp at *; omega
  have st : ∀ {o : Nm} {x : Int}, vld o → o ≠ nE → fits x → vld (joinF o (sgl x)) ∧ joinF o (sgl x) ≠ nE ∧ (joinF o (sgl x)).l = mn o.l x ∧ (joinF o (sgl x)).h = mx o.h x := fun {o x} ho hne hx => by
    have j := join_least ho (vld_sgl hx)
    refine ⟨j.ok, mem_ne (j.all _ (Or.inl (mem_l ho hne))), ?_, ?_⟩ <;> rw [joinF_val ho (vld_sgl hx) hne (sne x)]
  rw [e, joinF_1 rfl]
  obtain ⟨a1, a2, a3, a4⟩ := st (vld_sgl hp) (sne p) hq
  obtain ⟨b1, b2, b3, b4⟩ := st a1 a2 hr
  obtain ⟨c1, c2, c3, c4⟩ := st b1 b2 hs
  rw [c3, c4, b3, b4, a3, a4]
  exact ⟨rfl, rfl, c2⟩
theorem join4 {a b : Nm} (ha : vld a) (hb : vld b) (he : a ≠ nE) (hf : b ≠ nE) : ofE [a.l, a.h, b.l, b.h] = 0 ∧ (ofN [a.l, a.h, b.l, b.h]).l = (joinF a b).l ∧ (ofN [a.l, a.h, b.l, b.h]).h = (joinF a b).h ∧
    (¬ (ofN [a.l, a.h, b.l, b.h]).l < (ofN [a.l, a.h, b.l, b.h]).h → (ofN [a.l, a.h, b.l, b.h]).s = (joinF a b).s) ∧ (Int.gcd (Int.gcd a.s b.s) (aw a.l b.l) : Int) = (joinF a b).s := by
  obtain ⟨a1, a2, a3, a4, a5⟩ := vld_ne ha he
  obtain ⟨b1, b2, b3, b4, b5⟩ := vld_ne hb hf
  have hfit : fitAll [a.l, a.h, b.l, b.h] = true := by rw [fitAll_mem]; simp [a1, a2, b1, b2]
  obtain ⟨o1, o2, o3⟩ := of4 a1 a2 b1 b2
  have hv := (least_of (fitAll_mem.1 hfit)).ok
  rw [ofN_1 hfit, o1, o2, joinF_val ha hb he hf]
  have n1 := mn_or a.l a.h
  have n2 := mn_or (mn a.l a.h) b.l
  have n3 := mn_or (mn (mn a.l a.h) b.l) b.h
  have n4 := mn_or a.l b.l
  have x1 := mx_or a.l a.h
  have x2 := mx_or (mx a.l a.h) b.l
  have x3 := mx_or (mx (mx a.l a.h) b.l) b.h
  have x4 := mx_or a.h b.h
  refine ⟨ofE_1 hfit, by dsimp only; omega, by dsimp only; omega, fun q => ?_, ?_⟩
  · have hq : (ofF [a.l, a.h, b.l, b.h]).l = (ofF [a.l, a.h, b.l, b.h]).h := by have := (vld_ne hv o3).2.2.1; rw [o1, o2] at this ⊢; omega
    rw [(vld_ne hv o3).2.2.2.1 hq]
    rw [o1, o2] at hq
    have e1 : a.l = a.h ∧ b.l = b.h ∧ a.l = b.l := by omega
    rw [a4 e1.1, b4 e1.2.1, e1.2.2]; simp [gcdF, mag]
  · refine dvd_eq (by omega) (gcdF_nn _) fun d => ?_
    rw [gcd2, gcd2, gcd3, aw_dvd, mag_dvd, and_assoc]
end Go.Proofs.Ytapkilaikcihgaa
