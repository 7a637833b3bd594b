/- Strided intervals: joining parts, counting them, clamping twice. No program in sight. -/
import Derived.Test.YtapkilaikcihgaaNmW
namespace Go.Proofs.Ytapkilaikcihgaa
open Go.Vc
open Classical
theorem join_parts {a : Nm} (h : vld a) (x : Int) : joinF (upF a x) (abF a x) = a := by
  have hu := up_ok h x
  have hb := ab_ok h x
  refine (join_least hu.1 hb.1).unique ((least_self h).congr fun n => ?_)
  rw [hu.2, hb.2]
  constructor
  · intro m
    by_cases q : n ≤ x
    · exact Or.inl ⟨m, q⟩
    · exact Or.inr ⟨m, by omega⟩
  · exact fun q => q.elim (fun z => z.1) (fun z => z.1)
theorem span_size {lo hi st : Int} (h : ¬ hi < lo) (hs : 1 ≤ st) (hl : fits lo) (hh : fits hi) : sizeF (spanF lo hi st) = (hi - lo) / st + 1 := by
  have e0 := Int.ediv_nonneg (show 0 ≤ hi - lo by omega) (show 0 ≤ st by omega)
  have e1 := Int.mul_nonneg e0 (show 0 ≤ st by omega)
  have hne : ∀ n : Int, sgl n ≠ nE := fun x e => by have := congrArg Nm.l e; have := congrArg Nm.h e; simp at *; omega
  by_cases h3 : lo = lo + (hi - lo) / st * st
  · rw [spanF_3 h (by omega) h3, sizeF_1 (hne _) rfl]
    have : (hi - lo) / st = 0 := by
      apply Decidable.not_not.1
      intro q
      have := Int.mul_le_mul_of_nonneg_right (show 1 ≤ (hi - lo) / st by omega) (show 0 ≤ st by omega)
      omega
    omega
  · rw [spanF_4 h (by omega) h3, sizeF_2 (fun e => by have := congrArg Nm.l e; have := congrArg Nm.h e; simp at *; omega) (by show ¬ st = 0; omega)]
    show (lo + (hi - lo) / st * st - lo) / st + 1 = (hi - lo) / st + 1
    rw [show lo + (hi - lo) / st * st - lo = (hi - lo) / st * st by omega, Int.mul_ediv_cancel _ (by omega)]
theorem size_parts {a : Nm} (h : vld a) (x : Int) : sizeF (upF a x) + sizeF (abF a x) = sizeF a := by
  by_cases c1 : a = nE ∨ x < a.l
  · rw [upF_1 c1, abF_1 c1, sizeF_0 rfl]; omega
  by_cases c2 : a.h ≤ x
  · rw [upF_2 c1 c2, abF_2 c1 c2, sizeF_0 (a := nE) rfl]; omega
  rw [upF_3 c1 c2, abF_3 c1 c2]
  have md : Mid a x := ⟨h, c1, c2⟩
  obtain ⟨h1, h2, h3, h4, h5, h6, h7⟩ := md.step
  obtain ⟨n1, n2, n3, n4, n5⟩ := md.next
  have hne : a ≠ nE := fun e => c1 (Or.inl e)
  rw [span_size (by omega) h6 h1 h2, span_size (by omega) h6 (by unfold fits at *; omega) h3, sizeF_2 hne (by omega), n5]
  obtain ⟨N, hN⟩ := h7
  have e1 : a.h - (a.l + ((x - a.l) / a.s + 1) * a.s) = a.s * (N - ((x - a.l) / a.s + 1)) := by rw [Int.mul_sub, Int.mul_comm a.s ((x - a.l) / a.s + 1)]; omega
  rw [e1, hN, Int.mul_ediv_cancel_left _ (by omega), Int.mul_ediv_cancel_left _ (by omega)]
  omega
theorem cl_twice {a : Nm} (h : vld a) {lo hi : Int} (hk : clOk lo hi) : clF (clF a lo hi) lo hi = clF a lo hi := by
  obtain ⟨k1, k2, k3⟩ := hk
  have c := cl_least h k2 k3 k1
  refine (cl_least c.ok k2 k3 k1).unique ((least_self c.ok).congr fun n => ?_)
  have hin : ∀ m, mem (clF a lo hi) m → lo ≤ m ∧ m ≤ hi := by
    have := c.min (spanF lo hi 1) (span_vld k2 k3 (by omega)) fun n ⟨m, _, e⟩ => (span_mem (by omega) (by omega)).2 (by
      have : lo ≤ n ∧ n ≤ hi := by rw [← e]; unfold cl; split <;> (try split) <;> omega
      exact ⟨this.1, this.2, Int.one_dvd _⟩)
    intro m hm
    have := (span_mem (by omega) (by omega)).1 (this m hm)
    exact ⟨this.1, this.2.1⟩
  have hid : ∀ m, mem (clF a lo hi) m → cl lo hi m = m := fun m hm => by
    have := hin m hm
    unfold cl; rw [if_neg (by omega), if_neg (by omega)]
  constructor
  · intro m; exact ⟨n, m, hid n m⟩
  · rintro ⟨m, hm, e⟩; rw [hid m hm] at e; exact e ▸ hm
theorem join_sub {a b : Nm} (ha : vld a) (hb : vld b) : vld (joinF a b) ∧ sub a (joinF a b) ∧ sub b (joinF a b) ∧ ∀ c, vld c → sub a c → sub b c → sub (joinF a b) c := by
  have j := join_least ha hb
  exact ⟨j.ok, fun n m => j.all n (Or.inl m), fun n m => j.all n (Or.inr m), fun c hc h1 h2 => j.min c hc fun n q => q.elim (h1 n) (h2 n)⟩
theorem sub_all {a b c j : Nm} (hj : vld j) (h : ∀ c, vld c → sub a c → sub b c → sub j c) (h1 : vld a ∧ vld c ∧ sub a c) (h2 : vld b ∧ vld c ∧ sub b c) : vld j ∧ vld c ∧ sub j c := ⟨hj, h1.2.1, h c h1.2.1 h1.2.2 h2.2.2⟩
end Go.Proofs.Ytapkilaikcihgaa
