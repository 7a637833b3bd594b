/- The least costs of sets in at most so many groups. No program in sight. -/
import Derived.Test.YtmkbjhligjnagaaMhG
namespace Go.Proofs.Ytmkbjhligjnagaa
open Go Go.Vc
open Classical
/-- p is a part of s that holds its least element. -/
def Prt (s p : Int) : Prop := (1 ≤ p ∧ p ≤ s) ∧ aniV p s = 0 ∧ andV p (lw s) ≠ 0
/-- The choices of parts that are left when g has been tried. -/
def Vq (Q : Int → Prop) (s g : Int) : Prop := ∀ h : Int, 0 ≤ h → andV h (rsv s) = h → g < h → h < 64 → Q (oriV h (lw s))
section
variable {Q : Int → Prop} {s g : Int}
theorem vq_0 (h0 : 1 ≤ s) (h1 : s < 64) : Vq Q s (rsv s) := fun h a b c d => by
  have := (g_le h0 h1 a b).1; omega
theorem vq_s (h0 : 1 ≤ s) (h1 : s < 64) (g0 : 0 < g) (hg : andV g (rsv s) = g) (a : Vq Q s g) (b : Q (oriV g (lw s))) : Vq Q s (andV (g - 1) (rsv s)) := fun h h0' h2 h3 h4 => by
  have hr := s_okr h0 h1
  obtain ⟨R, hR⟩ : ∃ R : Nat, rsv s = R := ⟨(rsv s).toNat, by omega⟩
  have gl := g_le h0 h1 (by omega) hg
  by_cases e : h = g
  · rw [e]; exact b
  · by_cases q : g < h
    · exact a h h0' h2 q h4
    · obtain ⟨H, rfl⟩ : ∃ H : Nat, h = H := ⟨h.toNat, by omega⟩
      obtain ⟨K, rfl⟩ : ∃ K : Nat, g = K := ⟨g.toNat, by omega⟩
      rw [hR] at hg h2 h3
      have := sm5 R (by omega) K (by omega) H (by omega) (by omega) hg h2
      omega
theorem vq_end (h0 : 1 ≤ s) (h1 : s < 64) (a : Vq Q s 0) (b : Q (oriV 0 (lw s))) : ∀ p, Prt s p → Q p := fun p hp => by
  obtain ⟨⟨p0, p1⟩, p2, p3⟩ := hp
  obtain ⟨S, rfl⟩ : ∃ S : Nat, s = S := ⟨s.toNat, by omega⟩
  obtain ⟨P, rfl⟩ : ∃ P : Nat, p = P := ⟨p.toNat, by omega⟩
  obtain ⟨q1, q2, q3⟩ := sm3 S (by omega) P (by omega) (by omega) p2 p3
  by_cases e : aniV (P : Int) (lw (S : Int)) = 0
  · rw [e] at q2; rw [← q2]; exact b
  · rw [← q2]; exact a _ q3.1 q1 (by omega) q3.2
theorem vq_mono {Q' : Int → Prop} (a : Vq Q s g) (h : ∀ p, Q p → Q' p) : Vq Q' s g := fun x b c d e => h _ (a x b c d e)
theorem fst_prt (h0 : 1 ≤ s) (h1 : s < 64) (g0 : 0 ≤ g) (hg : andV g (rsv s) = g) : Prt s (oriV g (lw s)) := fst_or h0 h1 g0 hg
end
/-- What is left of a set when a proper part is taken. -/
theorem rest_ok {s p : Int} (h0 : 1 ≤ s) (h1 : s < 64) (hp : Prt s p) (hne : p ≠ s) : 1 ≤ aniV s p ∧ aniV s p ≤ s := by
  obtain ⟨⟨p0, p1⟩, p2, p3⟩ := hp
  have h := an_bd (x := ⟨s, 0, 0⟩) h0 h1 p0 p1
  have hn : aniV s p ≠ 0 := fun e => hne (ju_same (x := ⟨s, 0, 0⟩) (by show 0 ≤ s; omega) h1 (by omega) p1 e p2)
  have h : 0 ≤ aniV s p ∧ aniV s p ≤ s := h
  omega
theorem prt_self {s : Int} (h0 : 1 ≤ s) (h1 : s < 64) : Prt s s := by
  refine ⟨⟨h0, Int.le_refl _⟩, an_self, ?_⟩
  obtain ⟨S, rfl⟩ : ∃ S : Nat, s = S := ⟨s.toNat, by omega⟩
  obtain ⟨i, _, hb, hc⟩ := sm8 S (by omega) (by omega)
  exact hc S (by omega) hb
theorem grp_0 {L : List (List Int)} (gd : Good L) (h6 : L.length ≤ 6) {s : Int} (h0 : 1 ≤ s) (h1 : s < 2 ^ L.length) : 0 ≤ grpV L s := by
  have p6 := pw6 h6
  obtain ⟨S, rfl⟩ : ∃ S : Nat, s = S := ⟨s.toNat, by omega⟩
  obtain ⟨i, hi, hb, _⟩ := sm8 S (by omega) (by omega)
  have := bt_lt (by omega) h1 (by omega) hb
  exact (bsN_le gd L.length (Nat.le_refl _) i (by omega) (by omega) hb).1
/- least values -/
noncomputable def vaM (L : List (List Int)) (g : Int → Int) (s : Int) : Nat → Int
  | 0 => grpV L s
  | m + 1 => if Prt s m ∧ (m : Int) ≠ s then min (vaM L g s m) (grpV L m + g (aniV s m)) else vaM L g s m
/-- The least cost of a set in at most k + 1 groups. -/
noncomputable def VA (L : List (List Int)) : Nat → Int → Int
  | 0, s => grpV L s
  | k + 1, s => vaM L (VA L k) s 64
section
variable {L : List (List Int)} {g g' : Int → Int} {s : Int}
theorem vaM_grp : ∀ m, vaM L g s m ≤ grpV L s
  | 0 => Int.le_refl _
  | m + 1 => by
    have := vaM_grp m
    simp only [vaM]; split <;> omega
theorem vaM_le : ∀ (m : Nat) (p : Nat), p < m → Prt s p → (p : Int) ≠ s → vaM L g s m ≤ grpV L p + g (aniV s p)
  | 0, _, h, _, _ => by omega
  | m + 1, p, h, hp, hne => by
    simp only [vaM]
    by_cases e : p = m
    · subst e; rw [if_pos ⟨hp, hne⟩]; omega
    · have := vaM_le m p (by omega) hp hne
      split <;> omega
theorem vaM_at : ∀ m, vaM L g s m = grpV L s ∨ ∃ p : Int, Prt s p ∧ p ≠ s ∧ vaM L g s m = grpV L p + g (aniV s p)
  | 0 => .inl rfl
  | m + 1 => by
    have ih := vaM_at m
    simp only [vaM]
    split
    · rename_i h
      by_cases q : vaM L g s m ≤ grpV L m + g (aniV s m)
      · rw [Int.min_eq_left q]; exact ih
      · rw [Int.min_eq_right (by omega)]; exact .inr ⟨m, h.1, h.2, rfl⟩
    · exact ih
theorem vaM_mono (h : ∀ p, Prt s p → p ≠ s → g' (aniV s p) ≤ g (aniV s p)) : ∀ m, vaM L g' s m ≤ vaM L g s m
  | 0 => Int.le_refl _
  | m + 1 => by
    have ih := vaM_mono h m
    simp only [vaM]
    split
    · rename_i q
      have := h m q.1 q.2
      omega
    · exact ih
end
section
variable {L : List (List Int)} {k : Nat} {s b : Int}
theorem va_grp : VA L k s ≤ grpV L s := by
  cases k with
  | zero => exact Int.le_refl _
  | succ k => exact vaM_grp _
theorem va_le {p : Int} (h1 : s < 64) (hp : Prt s p) (hne : p ≠ s) : VA L (k + 1) s ≤ grpV L p + VA L k (aniV s p) := by
  have hp1 := hp.1
  obtain ⟨P, rfl⟩ : ∃ P : Nat, p = P := ⟨p.toNat, by omega⟩
  exact vaM_le 64 P (by omega) hp hne
theorem va_uniq (h1 : s < 64) (a : b ≤ grpV L s) (hl : ∀ p, Prt s p → p ≠ s → b ≤ grpV L p + VA L k (aniV s p)) (hat : b = grpV L s ∨ ∃ p, Prt s p ∧ p ≠ s ∧ b = grpV L p + VA L k (aniV s p)) : b = VA L (k + 1) s := by
  have u : VA L (k + 1) s ≤ b := by
    rcases hat with e | ⟨p, hp, hne, e⟩
    · rw [e]; exact va_grp
    · rw [e]; exact va_le h1 hp hne
  have v : b ≤ VA L (k + 1) s := by
    rcases vaM_at (L := L) (g := VA L k) (s := s) 64 with e | ⟨p, hp, hne, e⟩
    · show b ≤ vaM L (VA L k) s 64; rw [e]; exact a
    · show b ≤ vaM L (VA L k) s 64; rw [e]; exact hl p hp hne
  omega
theorem va_step : ∀ (k : Nat) (s : Int), VA L (k + 1) s ≤ VA L k s
  | 0, _ => va_grp
  | k + 1, _ => vaM_mono (fun _ _ _ => va_step k _) 64
theorem va_0 (gd : Good L) (h6 : L.length ≤ 6) : ∀ (k : Nat) (s : Int), 1 ≤ s → s < 2 ^ L.length → 0 ≤ VA L k s
  | 0, s, h0, h1 => grp_0 gd h6 h0 h1
  | k + 1, s, h0, h1 => by
    have p6 := pw6 h6
    rcases vaM_at (L := L) (g := VA L k) (s := s) 64 with e | ⟨p, hp, hne, e⟩
    · show 0 ≤ vaM L (VA L k) s 64; rw [e]; exact grp_0 gd h6 h0 h1
    · have r := rest_ok h0 (by omega) hp hne
      have := va_0 gd h6 k (aniV s p) r.1 (by omega)
      have := grp_0 gd h6 hp.1.1 (s := p) (by have := hp.1.2; omega)
      show 0 ≤ vaM L (VA L k) s 64; rw [e]; omega
theorem va_bd (gd : Good L) (h6 : L.length ≤ 6) (h0 : 1 ≤ s) (h1 : s < 2 ^ L.length) : 0 ≤ VA L k s ∧ VA L k s ≤ 33554432 :=
  ⟨va_0 gd h6 k s h0 h1, Int.le_trans va_grp (grp_bd gd s).2⟩
/-- No grouping into at most k + 1 groups costs less. -/
theorem va_bound {G : List Int} (gd : Good L) (h6 : L.length ≤ 6) (hpos : 1 ≤ L.length) (hg : gE L G = 0) (hk : kindsN G G.length ≤ k + 1) : VA L k (2 ^ L.length - 1) ≤ csum L G G.length := by
  have p6 := pw6 h6
  have p2 := pw_mono (a := 1) (b := L.length) (by omega)
  refine any_bound gd h6 hg (D := fun q => if 1 ≤ q.1 ∧ (1 ≤ q.2 ∧ q.2 < 2 ^ L.length) then some (VA L (q.1 - 1).toNat q.2) else none) (k := (k : Int) + 1) (w := VA L k (2 ^ L.length - 1)) (fun j s w h => ?_) (by omega) ?_ (Int.le_refl _) hk
  · dsimp only at h
    split at h
    · rename_i q
      obtain ⟨q1, q2⟩ := q
      refine ⟨⟨q2, q1⟩, fun p p0 p1 p2 p3 => ?_⟩
      have hw : w = VA L (j - 1).toNat s := (Option.some.inj h).symm
      have hp : Prt s p := ⟨⟨p0, p1⟩, p2, p3⟩
      unfold cnd
      by_cases e : p = s
      · rw [if_pos e, hw, e]; exact va_grp
      · rw [if_neg e]
        intro hj
        have r := rest_ok q2.1 (by omega) hp e
        have hj : 1 < j := hj
        refine ⟨VA L (j - 1 - 1).toNat (aniV s p), by dsimp only; rw [if_pos ⟨by omega, by omega, by omega⟩], ?_⟩
        show w ≤ _
        rw [hw, show (j - 1).toNat = (j - 1 - 1).toNat + 1 by omega]
        have := va_le (L := L) (k := (j - 1 - 1).toNat) (by omega) hp e
        omega
    · cases h
  · dsimp only
    rw [if_pos ⟨by omega, by omega, by omega⟩, show ((k : Int) + 1 - 1).toNat = k by omega]
end
/- what the map holds -/
structure VOk (L : List (List Int)) (K : Int) (F : Int × Int → Option Int) : Prop where
  ok : ∀ j s v, F (j, s) = some v → (1 ≤ j ∧ j ≤ K) ∧ (1 ≤ s ∧ s < 2 ^ L.length) ∧ v = VA L (j - 1).toNat s
  clo : ∀ j s v, F (j, s) = some v → 1 < j → ∀ p, Prt s p → p ≠ s → F (j - 1, aniV s p) ≠ none
def Ge (F F' : Int × Int → Option Int) : Prop := ∀ q v, F q = some v → F' q = some v
theorem Ge.refl (F : Int × Int → Option Int) : Ge F F := fun _ _ h => h
theorem Ge.trans {A B C : Int × Int → Option Int} (h : Ge A B) (k : Ge B C) : Ge A C := fun q v e => k q v (h q v e)
theorem Ge.ne {A B : Int × Int → Option Int} (h : Ge A B) {q : Int × Int} (e : A q ≠ none) : B q ≠ none := by
  cases hA : A q with
  | none => exact absurd hA e
  | some v => rw [h q v hA]; simp
theorem vok_none {L : List (List Int)} {K : Int} : VOk L K (fun _ => none) := ⟨fun _ _ _ h => (by cases h), fun _ _ _ h => (by cases h)⟩
theorem vok_set {L : List (List Int)} {K : Int} {F : Int × Int → Option Int} {j s : Int} (h : VOk L K F) (hj : 1 ≤ j ∧ j ≤ K) (hs : 1 ≤ s ∧ s < 2 ^ L.length) (hc : 1 < j → ∀ p, Prt s p → p ≠ s → F (j - 1, aniV s p) ≠ none) : VOk L K (setF F (j, s) (VA L (j - 1).toNat s)) := by
  have keep : ∀ q, F q ≠ none → setF F (j, s) (VA L (j - 1).toNat s) q ≠ none := fun q hq => by
    unfold setF; split
    · simp
    · exact hq
  constructor
  · intro j' s' v e
    by_cases q : (j', s') = (j, s)
    · rw [q, setF_same] at e
      cases q
      exact ⟨hj, hs, (Option.some.inj e).symm⟩
    · rw [setF_other q] at e; exact h.ok _ _ _ e
  · intro j' s' v e hj' p hp hne
    by_cases q : (j', s') = (j, s)
    · cases q; exact keep _ (hc hj' p hp hne)
    · rw [setF_other q] at e; exact keep _ (h.clo _ _ _ e hj' p hp hne)
theorem ge_set {L : List (List Int)} {K : Int} {F : Int × Int → Option Int} {j s : Int} (h : VOk L K F) : Ge F (setF F (j, s) (VA L (j - 1).toNat s)) := fun q v e => by
  by_cases c : q = (j, s)
  · subst c; rw [setF_same, (h.ok _ _ _ e).2.2]
  · rw [setF_other c]; exact e
theorem vok_rng {L : List (List Int)} {K : Int} {F : Int × Int → Option Int} (hK : K ≤ 32) (h6 : L.length ≤ 6) (h : VOk L K F) {q : Int × Int} (e : F q ≠ none) : (1 ≤ q.1 ∧ q.1 ≤ 32) ∧ (1 ≤ q.2 ∧ q.2 < 64) := by
  have p6 := pw6 h6
  cases hv : F q with
  | none => exact absurd hv e
  | some v =>
    have := h.ok q.1 q.2 v hv
    exact ⟨⟨this.1.1, by have := this.1.2; omega⟩, this.2.1.1, by have := this.2.1.2; omega⟩
theorem nd_snoc {β : Type} {ks : List β} {q : β} (h : ks.Nodup) (hn : q ∉ ks) : (ks ++ [q]).Nodup := by
  rw [List.nodup_append]
  exact ⟨h, by simp, fun a ha b hb e => by rw [List.mem_singleton.1 hb] at e; rw [e] at ha; exact hn ha⟩
theorem nn_snoc {β γ : Type} {F : β → Option γ} {ks : List β} {q : β} {v : γ} (h : ∀ x ∈ ks, F x ≠ none) (hq : F q = some v) : ∀ x ∈ ks ++ [q], F x ≠ none := fun x hx => by
  rcases List.mem_append.1 hx with z | z
  · exact h x z
  · rw [List.mem_singleton.1 z, hq]; simp
/-- What a call for a set leaves. -/
def VPost (L : List (List Int)) (K : Int) (F F' : Int × Int → Option Int) (s j : Int) : Prop := VOk L K F' ∧ Ge F F' ∧ F' (j, s) = some (VA L (j - 1).toNat s)
/-- Between two parts. -/
def VInv (L : List (List Int)) (K : Int) (F0 : Int × Int → Option Int) (s j g : Int) (u : Value) (F : Int × Int → Option Int) : Prop :=
  ∃ b : Int, u = .int .i64 b ∧ VOk L K F ∧ Ge F0 F ∧ (0 ≤ b ∧ b ≤ grpV L s) ∧ Vq (fun p => p ≠ s → b ≤ grpV L p + VA L (j - 2).toNat (aniV s p) ∧ F (j - 1, aniV s p) ≠ none) s g ∧ (b = grpV L s ∨ ∃ p, Prt s p ∧ p ≠ s ∧ b = grpV L p + VA L (j - 2).toNat (aniV s p))
/-- Behind a part. -/
def VAft (L : List (List Int)) (K : Int) (F0 : Int × Int → Option Int) (s j g : Int) (u : Value) (F : Int × Int → Option Int) : Prop :=
  ∃ b : Int, u = .int .i64 b ∧ VOk L K F ∧ Ge F0 F ∧ (0 ≤ b ∧ b ≤ grpV L s) ∧ Vq (fun p => p ≠ s → b ≤ grpV L p + VA L (j - 2).toNat (aniV s p) ∧ F (j - 1, aniV s p) ≠ none) s g ∧
    (oriV g (lw s) ≠ s → b ≤ grpV L (oriV g (lw s)) + VA L (j - 2).toNat (aniV s (oriV g (lw s))) ∧ F (j - 1, aniV s (oriV g (lw s))) ≠ none) ∧ (b = grpV L s ∨ ∃ p, Prt s p ∧ p ≠ s ∧ b = grpV L p + VA L (j - 2).toNat (aniV s p))
section
variable {L : List (List Int)} {K : Int} {F0 F F' : Int × Int → Option Int} {s j g b : Int} {u : Value}
theorem vinv_0 (gd : Good L) (h6 : L.length ≤ 6) (h0 : 1 ≤ s) (h1 : s < 2 ^ L.length) (h : VOk L K F0) : VInv L K F0 s j (rsv s) (.int .i64 (grpV L s)) F0 := by
  have p6 := pw6 h6
  exact ⟨_, rfl, h, Ge.refl _, ⟨grp_0 gd h6 h0 h1, Int.le_refl _⟩, vq_0 h0 (by omega), .inl rfl⟩
theorem vinv_n (h0 : 1 ≤ s) (h1 : s < 64) (g0 : 0 < g) (hg : andV g (rsv s) = g) (h : VAft L K F0 s j g u F) : VInv L K F0 s j (andV (g - 1) (rsv s)) u F := by
  obtain ⟨b, e, a1, a2, a3, a4, a5, a6⟩ := h
  exact ⟨b, e, a1, a2, a3, vq_s h0 h1 g0 hg a4 a5, a6⟩
theorem vinv_end (h0 : 1 ≤ s) (h1 : s < 64) (hj : 1 < j) (h : VAft L K F0 s j 0 u F) : u = .int .i64 (VA L (j - 1).toNat s) ∧ VOk L K F ∧ Ge F0 F ∧ ∀ p, Prt s p → p ≠ s → F (j - 1, aniV s p) ≠ none := by
  obtain ⟨b, e, a1, a2, a3, a4, a5, a6⟩ := h
  have all := vq_end (Q := fun p => p ≠ s → b ≤ grpV L p + VA L (j - 2).toNat (aniV s p) ∧ F (j - 1, aniV s p) ≠ none) h0 h1 a4 a5
  refine ⟨?_, a1, a2, fun p hp hne => (all p hp hne).2⟩
  rw [e, va_uniq h1 a3.2 (fun p hp hne => (all p hp hne).1) a6, show (j - 2).toNat + 1 = (j - 1).toNat by omega]
/-- The set itself. -/
theorem vaft_self (e : oriV g (lw s) = s) (h : VInv L K F0 s j g u F) : VAft L K F0 s j g u F := by
  obtain ⟨b, q, a1, a2, a3, a4, a6⟩ := h
  exact ⟨b, q, a1, a2, a3, a4, fun w => absurd e w, a6⟩
/-- A proper part. -/
theorem vaft_step (gd : Good L) (h6 : L.length ≤ 6) (h0 : 1 ≤ s) (h1 : s < 2 ^ L.length) (g0 : 0 ≤ g) (hg : andV g (rsv s) = g) (hne : oriV g (lw s) ≠ s) (h : VInv L K F0 s j g (.int .i64 b) F) (hP : VPost L K F F' (aniV s (oriV g (lw s))) (j - 1)) :
    VAft L K F0 s j g (.int .i64 (if grpV L (oriV g (lw s)) + VA L (j - 2).toNat (aniV s (oriV g (lw s))) < b then grpV L (oriV g (lw s)) + VA L (j - 2).toNat (aniV s (oriV g (lw s))) else b)) F' := by
  have p6 := pw6 h6
  obtain ⟨b', q, a1, a2, a3, a4, a6⟩ := h
  cases q
  obtain ⟨c1, c2, c3⟩ := hP
  have hp := fst_prt h0 (by omega) g0 hg
  have r := rest_ok h0 (by omega) hp hne
  have v0 := va_0 gd h6 (j - 2).toNat _ r.1 (by omega)
  have g0' := grp_0 gd h6 hp.1.1 (s := oriV g (lw s)) (by have := hp.1.2; omega)
  refine ⟨_, rfl, c1, a2.trans c2, ⟨by split <;> omega, by split <;> omega⟩, vq_mono a4 fun p hq w => ?_, fun _ => ⟨by split <;> omega, by rw [c3]; simp⟩, ?_⟩
  · have := hq w
    exact ⟨by split <;> omega, c2.ne this.2⟩
  · split
    · exact .inr ⟨_, hp, hne, rfl⟩
    · exact a6
end
end Go.Proofs.Ytmkbjhligjnagaa
