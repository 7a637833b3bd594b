/- Strided intervals: each element raised to the least bound that is not below it. No program in sight. -/
import Derived.Test.YtapkilaikcihgaaNmX
namespace Go.Proofs.Ytapkilaikcihgaa
open Go.Vc
open Classical
/-- m is raised to n. -/
def Rs (bs : List Int) (m n : Int) : Prop := (n ∈ bs ∧ m ≤ n ∧ ∀ b ∈ bs, m ≤ b → n ≤ b) ∨ (n = m ∧ ∀ b ∈ bs, b < m)
def RsS (bs : List Int) (a : Nm) : Int → Prop := fun n => ∃ m, mem a m ∧ Rs bs m n
noncomputable def stStep (z : Nm × Nm) (b : Int) : Nm × Nm := (if upF z.2 b = nE then z.1 else joinF z.1 (sgl b), abF z.2 b)
noncomputable def stFold (a : Nm) (ys : List Int) : Nm × Nm := ys.foldl stStep (nE, a)
noncomputable def srt (bs : List Int) : List Int := bs.mergeSort fun x y => decide (x ≤ y)
noncomputable def stF (a : Nm) (bs : List Int) : Nm := joinF (stFold a (srt bs)).1 (stFold a (srt bs)).2
theorem stFold_snoc (a : Nm) (ys : List Int) (b : Int) : stFold a (ys ++ [b]) = stStep (stFold a ys) b := by simp [stFold]
theorem srt_mem {bs : List Int} {x : Int} : x ∈ srt bs ↔ x ∈ bs := by unfold srt; exact List.mem_mergeSort
theorem srt_len (bs : List Int) : (srt bs).length = bs.length := List.length_mergeSort _
theorem srt_sorted (bs : List Int) : (srt bs).Pairwise (fun x y => x ≤ y) := by
  have := List.pairwise_mergeSort (le := fun x y : Int => decide (x ≤ y)) (fun a b c h1 h2 => by simp at *; omega) (fun a b => by simp; omega) bs
  exact this.imp fun h => by simpa using h
/-- What is known behind the bounds ys. -/
structure Stl (a : Nm) (ys : List Int) (z : Nm × Nm) : Prop where
  out : Least (fun n => ∃ m, mem a m ∧ (∃ b ∈ ys, m ≤ b) ∧ Rs ys m n) z.1
  vr : vld z.2
  rest : ∀ m, mem z.2 m ↔ (mem a m ∧ ∀ b ∈ ys, b < m)
theorem stl_start {a : Nm} (h : vld a) : Stl a [] (nE, a) := ⟨least_nE fun n ⟨m, _, ⟨b, hb, _⟩, _⟩ => absurd hb (by simp), h, fun m => ⟨fun q => ⟨q, fun b hb => absurd hb (by simp)⟩, fun q => q.1⟩⟩
theorem rs_snoc {ys : List Int} {b : Int} (hs : ∀ y ∈ ys, y ≤ b) {m n : Int} : (∃ c ∈ ys ++ [b], m ≤ c) ∧ Rs (ys ++ [b]) m n ↔ ((∃ c ∈ ys, m ≤ c) ∧ Rs ys m n) ∨ (n = b ∧ m ≤ b ∧ ∀ c ∈ ys, c < m) := by
  constructor
  · rintro ⟨⟨c, hc, hmc⟩, hr⟩
    rcases hr with ⟨h1, h2, h3⟩ | ⟨h1, h2⟩
    · by_cases q : ∃ c ∈ ys, m ≤ c
      · refine Or.inl ⟨q, Or.inl ⟨?_, h2, fun d hd => h3 d (List.mem_append_left _ hd)⟩⟩
        rcases List.mem_append.1 h1 with h1 | h1
        · exact h1
        · have e : n = b := by simpa using h1
          obtain ⟨d, hd, hmd⟩ := q
          have := h3 d (List.mem_append_left _ hd) hmd
          have := hs d hd
          have : d = n := by omega
          exact this ▸ hd
      · have hlt : ∀ c ∈ ys, c < m := fun c hc => by
          apply Decidable.not_not.1
          intro z; exact q ⟨c, hc, by omega⟩
        refine Or.inr ⟨?_, ?_, hlt⟩
        · rcases List.mem_append.1 h1 with h1 | h1
          · have := hlt n h1; omega
          · simpa using h1
        · rcases List.mem_append.1 hc with hc | hc
          · have := hlt c hc; omega
          · have : c = b := by simpa using hc
            omega
    · have := h2 c hc; omega
  · rintro (⟨⟨c, hc, hmc⟩, hr⟩ | ⟨rfl, h1, h2⟩)
    · refine ⟨⟨c, List.mem_append_left _ hc, hmc⟩, ?_⟩
      rcases hr with ⟨h1, h2, h3⟩ | ⟨h1, h2⟩
      · refine Or.inl ⟨List.mem_append_left _ h1, h2, fun d hd hmd => ?_⟩
        rcases List.mem_append.1 hd with hd | hd
        · exact h3 d hd hmd
        · have : d = b := by simpa using hd
          have := hs n h1
          omega
      · have := h2 c hc; omega
    · refine ⟨⟨n, by simp, h1⟩, Or.inl ⟨by simp, h1, fun d hd hmd => ?_⟩⟩
      rcases List.mem_append.1 hd with hd | hd
      · have := h2 d hd; omega
      · have : d = n := by simpa using hd
        omega
theorem stl_step {a : Nm} {ys : List Int} {z : Nm × Nm} {b : Int} (s : Stl a ys z) (hs : ∀ y ∈ ys, y ≤ b) (hf : fits b) : Stl a (ys ++ [b]) (stStep z b) := by
  have hu := up_ok s.vr b
  have hb := ab_ok s.vr b
  refine ⟨?_, hb.1, fun m => ?_⟩
  · refine least_or (a := z.1) (b := upF z.2 b) Iff.rfl b s.out hf hu.1 fun n => ?_
    constructor
    · rintro ⟨m, hm, h⟩
      rcases (rs_snoc hs).1 h with h | ⟨h1, h2, h3⟩
      · exact Or.inl ⟨m, hm, h⟩
      · exact Or.inr ⟨h1, m, (hu.2 m).2 ⟨(s.rest m).2 ⟨hm, h3⟩, h2⟩⟩
    · rintro (⟨m, hm, h⟩ | ⟨h1, m, h2⟩)
      · exact ⟨m, hm, (rs_snoc hs).2 (Or.inl h)⟩
      · obtain ⟨h3, h4⟩ := (hu.2 m).1 h2
        obtain ⟨h5, h6⟩ := (s.rest m).1 h3
        exact ⟨m, h5, (rs_snoc hs).2 (Or.inr ⟨h1, h4, h6⟩)⟩
  · rw [show (stStep z b).2 = abF z.2 b from rfl, hb.2, s.rest]
    constructor
    · rintro ⟨⟨h1, h2⟩, h3⟩
      refine ⟨h1, fun c hc => ?_⟩
      rcases List.mem_append.1 hc with hc | hc
      · exact h2 c hc
      · have : c = b := by simpa using hc
        omega
    · rintro ⟨h1, h2⟩
      exact ⟨⟨h1, fun c hc => h2 c (List.mem_append_left _ hc)⟩, h2 b (by simp)⟩
theorem stl_end {a : Nm} {ys : List Int} {z : Nm × Nm} (s : Stl a ys z) : Least (RsS ys a) (joinF z.1 z.2) := by
  refine (s.out.join (least_self s.vr)).congr fun n => ?_
  constructor
  · rintro (⟨m, hm, _, h⟩ | h)
    · exact ⟨m, hm, h⟩
    · obtain ⟨h1, h2⟩ := (s.rest n).1 h
      exact ⟨n, h1, Or.inr ⟨rfl, h2⟩⟩
  · rintro ⟨m, hm, h⟩
    by_cases q : ∃ b ∈ ys, m ≤ b
    · exact Or.inl ⟨m, hm, q, h⟩
    · have hlt : ∀ b ∈ ys, b < m := fun c hc => by
        apply Decidable.not_not.1
        intro z; exact q ⟨c, hc, by omega⟩
      rcases h with ⟨h1, h2, _⟩ | ⟨rfl, _⟩
      · exact absurd ⟨n, h1, h2⟩ q
      · exact Or.inr ((s.rest n).2 ⟨hm, hlt⟩)
theorem stl_take {a : Nm} (h : vld a) {bs : List Int} {p : Int} (p0 : 0 ≤ p) (p1 : p ≤ (srt bs).length) (hf : ∀ i : Int, 0 ≤ i → i < p → fits (gi (srt bs) i)) : Stl a ((srt bs).take p.toNat) (stFold a ((srt bs).take p.toNat)) := by
  have go : ∀ k : Nat, (k : Int) ≤ p → Stl a ((srt bs).take k) (stFold a ((srt bs).take k)) := by
    intro k
    induction k with
    | zero => intro _; simpa [stFold] using stl_start h
    | succ k ih =>
      intro hk
      have e := take_step (xs := srt bs) (p := (k : Int)) (by omega) (by omega)
      rw [show ((k : Int) + 1).toNat = k + 1 by omega, show ((k : Int)).toNat = k by omega] at e
      rw [e, stFold_snoc]
      refine stl_step (ih (by omega)) (fun y hy => ?_) (hf k (by omega) (by omega))
      obtain ⟨i, i0, i1, i2, rfl⟩ := mem_take (p := (k : Int)) (by rwa [show ((k : Int)).toNat = k by omega])
      have hp := List.pairwise_iff_getElem.1 (srt_sorted bs) i.toNat k (by omega) (by omega) (by omega)
      have e1 : gi (srt bs) i = (srt bs)[i.toNat] := by simp [gi, List.getElem?_eq_getElem (show i.toNat < (srt bs).length by omega)]
      have e2 : gi (srt bs) (k : Int) = (srt bs)[k] := by simp [gi, List.getElem?_eq_getElem (show k < (srt bs).length by omega)]
      rw [e1, e2]; exact hp
  have := go p.toNat (by omega)
  exact this
theorem rs_congr {xs ys : List Int} (h : ∀ x, x ∈ xs ↔ x ∈ ys) {m n : Int} : Rs xs m n ↔ Rs ys m n := by
  unfold Rs; simp only [h]
theorem st_least {a : Nm} (h : vld a) {bs : List Int} (hf : ∀ i : Int, 0 ≤ i → i < (srt bs).length → fits (gi (srt bs) i)) : Least (RsS bs a) (stF a bs) := by
  have s := stl_take h (p := ((srt bs).length : Int)) (by omega) (by omega) (fun i i0 i1 => hf i i0 i1)
  rw [show (((srt bs).length : Int)).toNat = (srt bs).length by omega, List.take_length] at s
  exact (stl_end s).congr fun n => by unfold RsS; simp only [rs_congr (fun x => srt_mem (bs := bs))]
theorem srt_fit {bs : List Int} : fitAll (srt bs) = true ↔ fitAll bs = true := by simp only [fitAll_mem, srt_mem]
def stOk (a : Nm) (bs : List Int) : Prop := vld a ∧ fitAll bs = true
noncomputable def stE (a : Nm) (bs : List Int) : Int := if vld a then (if fitAll bs = true then 0 else 3) else 1
noncomputable def stN (a : Nm) (bs : List Int) : Nm := if stE a bs = 0 then stF a bs else ⟨0, 0, 0⟩
theorem stE_1 {a : Nm} {bs : List Int} (h : ¬ vld a) : stE a bs = 1 := if_neg h
theorem stE_3 {a : Nm} {bs : List Int} (h : vld a) (h2 : ¬ fitAll bs = true) : stE a bs = 3 := by unfold stE; rw [if_pos h, if_neg h2]
theorem stE_0 {a : Nm} {bs : List Int} (h : vld a) (h2 : fitAll bs = true) : stE a bs = 0 := by unfold stE; rw [if_pos h, if_pos h2]
theorem stN_0 {a : Nm} {bs : List Int} (h : stE a bs = 0) : stN a bs = stF a bs := if_pos h
theorem stN_1 {a : Nm} {bs : List Int} (h : ¬ stE a bs = 0) : stN a bs = ⟨0, 0, 0⟩ := if_neg h
/- the other way: from the least element on -/
structure Stm (a : Nm) (bs : List Int) (out rest : Nm) : Prop where
  vr : vld rest
  sub : ∀ m, mem rest m → mem a m
  out : Least (fun n => ∃ m, mem a m ∧ ¬ mem rest m ∧ Rs bs m n) out
theorem stm_start {a : Nm} {bs : List Int} (h : vld a) : Stm a bs nE a := ⟨h, fun _ m => m, least_nE fun n ⟨m, h1, h2, _⟩ => h2 h1⟩
/-- The least bound from l on. -/
def Lb (bs : List Int) (l b : Int) : Prop := b ∈ bs ∧ l ≤ b ∧ ∀ c ∈ bs, l ≤ c → b ≤ c
theorem stm_step {a : Nm} {bs : List Int} {out rest : Nm} {b : Int} (s : Stm a bs out rest) (hne : rest ≠ nE) (hb : Lb bs rest.l b) (hf : fits b) : Stm a bs (joinF out (sgl b)) (abF rest b) ∧ sizeF (abF rest b) < sizeF rest := by
  have ha := ab_ok s.vr b
  obtain ⟨b1, b2, b3⟩ := hb
  have hl := mem_l s.vr hne
  refine ⟨⟨ha.1, fun m h => s.sub m ((ha.2 m).1 h).1, (s.out.join (least_sgl hf)).congr fun n => ?_⟩, ?_⟩
  · constructor
    · rintro (⟨m, h1, h2, h3⟩ | rfl)
      · exact ⟨m, h1, fun h => h2 ((ha.2 m).1 h).1, h3⟩
      · exact ⟨rest.l, s.sub _ hl, fun h => by have := ((ha.2 _).1 h).2; omega, Or.inl ⟨b1, b2, b3⟩⟩
    · rintro ⟨m, h1, h2, h3⟩
      by_cases q : mem rest m
      · right
        have hm : m ≤ b := by
          apply Decidable.not_not.1
          intro z; exact h2 ((ha.2 m).2 ⟨q, by omega⟩)
        have := q.1
        rcases h3 with ⟨c1, c2, c3⟩ | ⟨c1, c2⟩
        · have := c3 b b1 hm
          have := b3 n c1 (by omega)
          omega
        · have := c2 b b1; omega
      · exact Or.inl ⟨m, h1, q, h3⟩
  · have hp := size_parts s.vr b
    have hu := up_ok s.vr b
    have : upF rest b ≠ nE := mem_ne ((hu.2 rest.l).2 ⟨hl, b2⟩)
    have : 1 ≤ sizeF (upF rest b) := by
      by_cases h0 : (upF rest b).s = 0
      · rw [sizeF_1 this h0]; omega
      · rw [sizeF_2 this h0]
        have := Int.ediv_nonneg (show 0 ≤ (upF rest b).h - (upF rest b).l by have := (vld_ne hu.1 this).2.2.1; omega) (vld_bd hu.1).2.2
        omega
    omega
theorem stm_none {a : Nm} {bs : List Int} {out rest : Nm} (s : Stm a bs out rest) (hn : ∀ b ∈ bs, ¬ rest.l ≤ b) : Least (RsS bs a) (joinF out rest) := by
  refine (s.out.join (least_self s.vr)).congr fun n => ?_
  constructor
  · rintro (⟨m, h1, _, h3⟩ | h)
    · exact ⟨m, h1, h3⟩
    · exact ⟨n, s.sub n h, Or.inr ⟨rfl, fun b hb => by have := hn b hb; have := h.1; omega⟩⟩
  · rintro ⟨m, h1, h3⟩
    by_cases q : mem rest m
    · rcases h3 with ⟨c1, c2, _⟩ | ⟨rfl, _⟩
      · have := hn n c1; have := q.1; omega
      · exact Or.inr q
    · exact Or.inl ⟨m, h1, q, h3⟩
theorem stm_end {a : Nm} {bs : List Int} {out rest : Nm} (s : Stm a bs out rest) (he : rest = nE) : Least (RsS bs a) out := by
  refine s.out.congr fun n => ?_
  constructor
  · rintro ⟨m, h1, _, h3⟩; exact ⟨m, h1, h3⟩
  · rintro ⟨m, h1, h3⟩; exact ⟨m, h1, fun h => by rw [he] at h; exact mem_nE h, h3⟩
/-- The search for it. -/
def Fd (bs : List Int) (l : Int) (i : Int) (b : Int) (f : Prop) : Prop := (f ↔ ∃ j : Int, 0 ≤ j ∧ j < i ∧ l ≤ gi bs j) ∧ (f → (∃ j : Int, 0 ≤ j ∧ j < i ∧ gi bs j = b) ∧ l ≤ b ∧ ∀ j : Int, 0 ≤ j → j < i → l ≤ gi bs j → b ≤ gi bs j)
theorem fd_start (bs : List Int) (l : Int) : Fd bs l 0 0 False := ⟨⟨False.elim, fun ⟨j, a, b, _⟩ => by omega⟩, False.elim⟩
theorem fd_start2 (bs : List Int) (l : Int) : Fd bs l 0 0 ((0 : Int) = 1) := by
  have e : ((0 : Int) = 1) = False := by simp
  rw [e]; exact fd_start bs l
theorem fd_true {bs : List Int} {l i b : Int} {f : Prop} (h : Fd bs l i b True) (hf : f) : Fd bs l i b f := by rw [eq_true hf]; exact h
theorem stStep_1 {z : Nm × Nm} {b : Int} (h : upF z.2 b = nE) : stStep z b = (z.1, abF z.2 b) := by unfold stStep; rw [if_pos h]
theorem stStep_0 {z : Nm × Nm} {b : Int} (h : ¬ upF z.2 b = nE) : stStep z b = (joinF z.1 (sgl b), abF z.2 b) := by unfold stStep; rw [if_neg h]
theorem fd_take {bs : List Int} {l i b : Int} {f : Prop} (h : Fd bs l i b f) (i0 : 0 ≤ i) (h1 : l ≤ gi bs i) (h2 : ¬ f ∨ gi bs i < b) : Fd bs l (i + 1) (gi bs i) True := by
  refine ⟨⟨fun _ => ⟨i, i0, by omega, h1⟩, fun _ => trivial⟩, fun _ => ⟨⟨i, i0, by omega, rfl⟩, h1, fun j j0 j1 j2 => ?_⟩⟩
  by_cases q : j = i
  · subst q; exact Int.le_refl _
  · rcases h2 with h2 | h2
    · exact absurd (h.1.2 ⟨j, j0, by omega, j2⟩) h2
    · have hf : f := h.1.2 ⟨j, j0, by omega, j2⟩
      have := (h.2 hf).2.2 j j0 (by omega) j2
      omega
theorem fd_skip {bs : List Int} {l i b : Int} {f : Prop} (h : Fd bs l i b f) (i0 : 0 ≤ i) (h1 : ¬ (l ≤ gi bs i ∧ (¬ f ∨ gi bs i < b))) : Fd bs l (i + 1) b f := by
  refine ⟨⟨fun hf => ?_, fun ⟨j, j0, j1, j2⟩ => ?_⟩, fun hf => ?_⟩
  · obtain ⟨j, j0, j1, j2⟩ := h.1.1 hf; exact ⟨j, j0, by omega, j2⟩
  · by_cases q : j = i
    · subst q
      apply Decidable.not_not.1
      intro hf; exact h1 ⟨j2, Or.inl hf⟩
    · exact h.1.2 ⟨j, j0, by omega, j2⟩
  · obtain ⟨⟨j, j0, j1, j2⟩, h3, h4⟩ := h.2 hf
    refine ⟨⟨j, j0, by omega, j2⟩, h3, fun k k0 k1 k2 => ?_⟩
    by_cases q : k = i
    · subst q
      apply Decidable.not_not.1
      intro z; exact h1 ⟨k2, Or.inr (by omega)⟩
    · exact h4 k k0 (by omega) k2
theorem fd_yes {bs : List Int} {l i b : Int} {f : Prop} (h : Fd bs l i b f) (hi : i = bs.length) (hf : f) : Lb bs l b := by
  obtain ⟨⟨j, j0, j1, j2⟩, h3, h4⟩ := h.2 hf
  refine ⟨j2 ▸ gi_mem j0 (by omega), h3, fun c hc hlc => ?_⟩
  obtain ⟨k, k0, k1, k2, rfl⟩ := mem_take (p := (bs.length : Int)) (x := c) (by rw [show ((bs.length : Int)).toNat = bs.length by omega, List.take_length]; exact hc)
  exact h4 k k0 (by omega) hlc
theorem fd_no {bs : List Int} {l i b : Int} {f : Prop} (h : Fd bs l i b f) (hi : i = bs.length) (hf : ¬ f) : ∀ c ∈ bs, ¬ l ≤ c := by
  intro c hc hlc
  obtain ⟨k, k0, k1, k2, rfl⟩ := mem_take (p := (bs.length : Int)) (x := c) (by rw [show ((bs.length : Int)).toNat = bs.length by omega, List.take_length]; exact hc)
  exact hf (h.1.2 ⟨k, k0, by omega, hlc⟩)
end Go.Proofs.Ytapkilaikcihgaa
