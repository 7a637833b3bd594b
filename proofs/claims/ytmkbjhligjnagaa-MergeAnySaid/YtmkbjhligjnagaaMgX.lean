/- The search over all groupings in order: what it knows on its way. No program in sight. -/
import Derived.Test.YtmkbjhligjnagaaMgW
namespace Go.Proofs.Ytmkbjhligjnagaa
open Go.Vc
open Classical
/-- A grouping into at most k groups, by intervals where o holds. -/
def Ok (L : List (List Int)) (k : Int) (o : Prop) (G : List Int) : Prop := gE L G = 0 ∧ kindsN G G.length ≤ k ∧ (o → runsN G G.length = kindsN G G.length)
theorem Ok.inr {L : List (List Int)} {k : Int} {o : Prop} {G : List Int} (h : Ok L k o G) : G.length = L.length ∧ InR L.length G := by
  have g := grp_of h.1
  exact ⟨g.len, fun y a b => g.rng y a b⟩
/-- The best of all groupings of which D holds, and the first of these. -/
def Best (P : List Int → Prop) (L : List (List Int)) (D : List Int → Prop) (best : Int) (F : List Int) : Prop :=
  (best = -1 ∧ F = [] ∧ ∀ H, P H → ¬ D H) ∨
  (0 ≤ best ∧ P F ∧ D F ∧ csum L F F.length = best ∧ ∀ H, P H → D H → best ≤ csum L H H.length ∧ (csum L H H.length = best → ¬ Lex L.length H F))
section
variable {P : List Int → Prop} {L : List (List Int)}
theorem best_skip {D D' : List Int → Prop} {best : Int} {F : List Int} (h : Best P L D best F) (h1 : ∀ H, P H → D' H → D H) (h2 : ∀ H, D H → D' H) : Best P L D' best F := by
  rcases h with ⟨a, b, c⟩ | ⟨a, b, c, d, e⟩
  · exact Or.inl ⟨a, b, fun H q x => c H q (h1 H q x)⟩
  · exact Or.inr ⟨a, b, h2 F c, d, fun H q x => e H q (h1 H q x)⟩
theorem best_no {G : List Int} {best : Int} {F : List Int} (h : Best P L (fun H => Lex L.length H G) best F) (hn : ¬ P G) : Best P L (fun H => Lex L.length H G ∨ H = G) best F :=
  best_skip h (fun H q x => x.elim id fun e => absurd (e ▸ q) hn) fun _ x => Or.inl x
theorem best_new {G : List Int} {best : Int} {F : List Int} (h : Best P L (fun H => Lex L.length H G) best F) (hk : P G) (h0 : 0 ≤ csum L G G.length) (hc : best < 0 ∨ csum L G G.length < best) :
    Best P L (fun H => Lex L.length H G ∨ H = G) (csum L G G.length) G := by
  refine Or.inr ⟨h0, hk, Or.inr rfl, rfl, fun H q x => ?_⟩
  rcases x with x | x
  · rcases h with ⟨_, _, c⟩ | ⟨a, _, _, _, e⟩
    · exact absurd x (c H q)
    · have := (e H q x).1
      exact ⟨by omega, fun y => by omega⟩
  · subst x; exact ⟨Int.le_refl _, fun _ => lex_irrefl⟩
theorem best_old {G : List Int} {best : Int} {F : List Int} (h : Best P L (fun H => Lex L.length H G) best F) (hc : ¬ best < 0) (hc2 : ¬ csum L G G.length < best) :
    Best P L (fun H => Lex L.length H G ∨ H = G) best F := by
  rcases h with ⟨a, _, _⟩ | ⟨a, b, c, d, e⟩
  · omega
  · refine Or.inr ⟨a, b, Or.inl c, d, fun H q x => ?_⟩
    rcases x with x | x
    · exact e H q x
    · subst x; exact ⟨by omega, fun _ => lex_asymm c⟩
end
theorem best_end {L : List (List Int)} {k : Int} {D : List Int → Prop} {best : Int} {F : List Int} (hoe : oE L k = 0) (h : Best (Ok L k True) L D best F) (hall : ∀ H, Ok L k True H → D H) : best = oN L k ∧ F = oG L k := by
  obtain ⟨q1, q2, q3, q4, q5⟩ := ord_final hoe
  have hch := (oE_inv hoe).1
  have hok : Ok L k True (oG L k) := ⟨by rw [← cE_g hch]; exact q1, q4, fun _ => q3⟩
  rw [cN_good q1] at q2
  rcases h with ⟨_, _, c⟩ | ⟨a, b, c, d, e⟩
  · exact absurd (hall _ hok) (c _ hok)
  · have e1 := e _ hok (hall _ hok)
    have e2 := proves_bound q5 b.1 (b.2.2 trivial) b.2.1
    have hb : best = oN L k := by omega
    refine ⟨hb, ?_⟩
    have hn := ord_first hoe b.1 (b.2.2 trivial) b.2.1 (by omega)
    rcases lex_total (n := L.length) b.inr.1 hok.inr.1 with l | l | l
    · exact absurd l hn
    · exact l
    · exact absurd l (e1.2 (by omega))
theorem dec_true {i : Decidable True} : @decide True i = true := @decide_eq_true True i trivial
theorem dec_false {i : Decidable False} : @decide False i = false := @decide_eq_false False i id
/-- One round of the search. -/
theorem best_round {P : List Int → Prop} {L : List (List Int)} {n : Nat} (hn : n = L.length) {G D : List Int} {m best : Int} {F : List Int} (h : Best P L (fun H => Lex L.length H G ∨ H = G) best F) (hG : G.length = n) (hP : ∀ H, P H → H.length = L.length ∧ InR L.length H)
    (hu : m = 1 → Up n G D) (ht : m ≠ 1 → ∀ y : Int, 0 ≤ y → y < n → n ≤ gi G y + 1) : Best P L (fun H => m = 1 → Lex L.length H D) best F := by
  subst hn
  refine best_skip h (fun H q x => ?_) (fun H x hm => ?_)
  · by_cases hm : m = 1
    · exact up_gap (hu hm) hG (hP H q).1 (hP H q).2 (x hm)
    · exact top_all hG (hP H q).1 (hP H q).2 (ht hm)
  · have hl := up_lex (hu hm)
    rcases x with x | x
    · exact lex_trans x hl
    · exact x ▸ hl
theorem up_mu {n : Nat} {G D : List Int} {m m1 : Int} (hm : m = 1) (hr : InR n G) (hu : m1 = 1 → Up n G D) : (if m1 = 1 then n ^ n - spell n D n + 1 else 0) < (if m = 1 then n ^ n - spell n G n + 1 else 0) := by
  rw [if_pos hm]
  split
  · rename_i h1
    have u := hu h1
    have e1 := up_spell u hr
    have e2 := spell_lt (up_inr u hr) n (Nat.le_refl _)
    omega
  · omega
theorem inr_zero {n : Nat} (h : n ≠ 0) : InR n (List.replicate n 0) := fun y a b => by
  have : gi (List.replicate n 0) y = 0 := by
    unfold gi; simp [List.getElem?_replicate]; split <;> rfl
  omega
end Go.Proofs.Ytmkbjhligjnagaa
