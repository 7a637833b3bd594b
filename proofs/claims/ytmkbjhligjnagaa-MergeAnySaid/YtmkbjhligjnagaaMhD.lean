/- Tables of sets: what is found in them, when they are accepted. No program in sight. -/
import Derived.Test.YtmkbjhligjnagaaMhC
namespace Go.Proofs.Ytmkbjhligjnagaa
open Go Go.Vc
open Classical
abbrev kl2 (k : Int × Int) : List Int := [k.1, k.2]
def k2v (k : Int × Int) : Value := .agg ((kl2 k).map (Value.int .i64)).toArray
/-- The map that the entries fill. -/
noncomputable def kmF (T : List Be) : Nat → Int × Int → Option Int
  | 0 => fun _ => none
  | m + 1 => setF (kmF T m) ((be T m).j, (be T m).s) (be T m).v
theorem kmF_s {T : List Be} {i : Int} (h0 : 0 ≤ i) : setF (kmF T i.toNat) ((be T i).j, (be T i).s) (be T i).v = kmF T (i + 1).toNat := by
  rw [show (i + 1).toNat = i.toNat + 1 by omega]
  show _ = setF (kmF T i.toNat) ((be T (i.toNat : Int)).j, (be T (i.toNat : Int)).s) (be T (i.toNat : Int)).v
  rw [show ((i.toNat : Nat) : Int) = i by omega]
noncomputable abbrev kmA (T : List Be) : Int × Int → Option Int := kmF T T.length
def Lx (a b : Be) : Prop := b.j < a.j ∨ (b.j = a.j ∧ a.s < b.s)
def Ord (T : List Be) : Prop := ∀ i : Int, 0 < i → i < T.length → Lx (be T (i - 1)) (be T i)
theorem Ord.lx {T : List Be} (h : Ord T) : ∀ (n : Nat) (i : Int), 0 ≤ i → i + n + 1 < T.length → Lx (be T i) (be T (i + n + 1))
  | 0, i, h0, h1 => by
    have := h (i + 1) (by omega) (by omega)
    rw [show i + 1 - 1 = i by omega] at this
    rw [show i + ((0 : Nat) : Int) + 1 = i + 1 by omega]; exact this
  | n + 1, i, h0, h1 => by
    have a := Ord.lx h n i h0 (by omega)
    have b := h (i + n + 2) (by omega) (by omega)
    rw [show i + (n : Int) + 2 - 1 = i + n + 1 by omega] at b
    rw [show i + ((n + 1 : Nat) : Int) + 1 = i + n + 2 by omega]
    unfold Lx at *; omega
theorem Ord.inj {T : List Be} (h : Ord T) {i k : Int} (i0 : 0 ≤ i) (i1 : i < T.length) (k0 : 0 ≤ k) (k1 : k < T.length) (hj : (be T i).j = (be T k).j) (hs : (be T i).s = (be T k).s) : i = k := by
  by_cases q : i < k
  · have := h.lx (k - i - 1).toNat i i0 (by omega)
    rw [show i + ((k - i - 1).toNat : Int) + 1 = k by omega] at this
    unfold Lx at this; omega
  · by_cases q2 : k < i
    · have := h.lx (i - k - 1).toNat k k0 (by omega)
      rw [show k + ((i - k - 1).toNat : Int) + 1 = i by omega] at this
      unfold Lx at this; omega
    · omega
theorem km_some {T : List Be} {j s v : Int} : ∀ m : Nat, m ≤ T.length → kmF T m (j, s) = some v → ∃ i : Int, 0 ≤ i ∧ i < m ∧ be T i = ⟨s, j, v⟩
  | 0, _, h => by cases h
  | m + 1, hm, h => by
    have h : setF (kmF T m) ((be T m).j, (be T m).s) (be T m).v (j, s) = some v := h
    by_cases e : (j, s) = ((be T m).j, (be T m).s)
    · rw [← e, setF_same] at h
      have e1 := congrArg Prod.fst e
      have e2 := congrArg Prod.snd e
      exact ⟨(m : Int), by omega, by omega, Be.eq e2.symm e1.symm (Option.some.inj h)⟩
    · rw [setF_other e] at h
      obtain ⟨i, a, b, c⟩ := km_some m (by omega) h
      exact ⟨i, a, by omega, c⟩
theorem km_at {T : List Be} (h : Ord T) : ∀ m : Nat, m ≤ T.length → ∀ i : Int, 0 ≤ i → i < m → kmF T m ((be T i).j, (be T i).s) = some (be T i).v
  | 0, _, i, a, b => by omega
  | m + 1, hm, i, a, b => by
    show setF (kmF T m) ((be T m).j, (be T m).s) (be T m).v ((be T i).j, (be T i).s) = _
    by_cases q : i = m
    · subst q; exact setF_same ..
    · rw [setF_other]
      · exact km_at h m (by omega) i a (by omega)
      · intro e
        exact q (h.inj a (by omega) (by omega) (by omega) (congrArg Prod.fst e) (congrArg Prod.snd e))
theorem km_hit {T : List Be} (h : Ord T) {i s j : Int} (a : 0 ≤ i) (b : i < T.length) (hs : (be T i).s = s) (hj : (be T i).j = j) : kmA T (j, s) = some (be T i).v := by
  rw [← hs, ← hj]; exact km_at h T.length (Nat.le_refl _) i a (by omega)
theorem km_none {T : List Be} {s j : Int} (h : ∀ i : Int, 0 ≤ i → i < T.length → ¬ ((be T i).s = s ∧ (be T i).j = j)) : kmA T (j, s) = none := by
  cases e : kmA T (j, s) with
  | none => rfl
  | some v =>
    obtain ⟨i, a, b, c⟩ := km_some T.length (Nat.le_refl _) e
    exact absurd ⟨by rw [c], by rw [c]⟩ (h i a (by omega))
def RgE (L : List (List Int)) (k : Int) (x : Be) : Prop := (1 ≤ x.s ∧ x.s < 2 ^ L.length) ∧ (1 ≤ x.j ∧ x.j ≤ k) ∧ (0 ≤ x.v ∧ x.v ≤ 1152921504606846976)
def Rg (L : List (List Int)) (k : Int) (T : List Be) : Prop := ∀ i : Int, 0 ≤ i → i < T.length → RgE L k (be T i)
def Jsts (L : List (List Int)) (T : List Be) : Prop := ∀ i : Int, 0 ≤ i → i < T.length → Jst (kmA T) L (be T i)
def Fnd (L : List (List Int)) (k c : Int) (T : List Be) : Prop := ∃ w, kmA T (k, 2 ^ L.length - 1) = some w ∧ c ≤ w
noncomputable def pvE (L : List (List Int)) (k : Int) (T : List Be) (c : Int) : Int := if ¬ Rg L k T then 3 else if ¬ Ord T then 10 else if Jsts L T ∧ Fnd L k c T then 0 else 13
noncomputable def paE (L : List (List Int)) (k : Int) (T : List Be) (c : Int) : Int := if chk L ≠ 0 then chk L else if ¬ (1 ≤ k ∧ k ≤ 32) then 3 else pvE L k T c
section
variable {L : List (List Int)} {k c : Int} {T : List Be}
theorem pv_3 (h : ¬ Rg L k T) : pvE L k T c = 3 := if_pos h
theorem pv_10 (h : Rg L k T) (h2 : ¬ Ord T) : pvE L k T c = 10 := by unfold pvE; rw [if_neg (fun q => q h), if_pos h2]
theorem pv_13 (h : Rg L k T) (h2 : Ord T) (h3 : ¬ (Jsts L T ∧ Fnd L k c T)) : pvE L k T c = 13 := by unfold pvE; rw [if_neg (fun q => q h), if_neg (fun q => q h2), if_neg h3]
theorem pv_0 (h : Rg L k T) (h2 : Ord T) (h3 : Jsts L T ∧ Fnd L k c T) : pvE L k T c = 0 := by unfold pvE; rw [if_neg (fun q => q h), if_neg (fun q => q h2), if_pos h3]
theorem pa_c (h : chk L ≠ 0) : paE L k T c = chk L := if_pos h
theorem pa_3 (h : chk L = 0) (h2 : ¬ (1 ≤ k ∧ k ≤ 32)) : paE L k T c = 3 := by unfold paE; rw [if_neg (by omega), if_pos h2]
theorem pa_v (h : chk L = 0) (h2 : 1 ≤ k ∧ k ≤ 32) : paE L k T c = pvE L k T c := by unfold paE; rw [if_neg (by omega), if_neg (fun q => q h2)]
theorem pv_ok (h : pvE L k T c = 0) : Rg L k T ∧ Ord T ∧ Jsts L T ∧ Fnd L k c T := by
  by_cases h1 : Rg L k T
  · by_cases h2 : Ord T
    · by_cases h3 : Jsts L T ∧ Fnd L k c T
      · exact ⟨h1, h2, h3.1, h3.2⟩
      · rw [pv_13 h1 h2 h3] at h; omega
    · rw [pv_10 h1 h2] at h; omega
  · rw [pv_3 h1] at h; omega
theorem pa_ok (h : paE L k T c = 0) : chk L = 0 ∧ (1 ≤ k ∧ k ≤ 32) ∧ pvE L k T c = 0 := by
  by_cases h1 : chk L = 0
  · by_cases h2 : 1 ≤ k ∧ k ≤ 32
    · rw [pa_v h1 h2] at h; exact ⟨h1, h2, h⟩
    · rw [pa_3 h1 h2] at h; omega
  · rw [pa_c h1] at h; exact absurd h h1
/-- What is accepted bounds every grouping. -/
theorem pa_bound {G : List Int} (gd : Good L) (h6 : L.length ≤ 6) (h : paE L k T c = 0) (hg : gE L G = 0) (hk : kindsN G G.length ≤ k) : c ≤ csum L G G.length := by
  obtain ⟨_, hk1, hp⟩ := pa_ok h
  obtain ⟨hr, ho, hj, w, hw, hc⟩ := pv_ok hp
  exact any_bound gd h6 hg (D := kmA T) (fun j s v hv => by
    obtain ⟨i, a, b, e⟩ := km_some T.length (Nat.le_refl _) hv
    have r := hr i a (by omega)
    have q := hj i a (by omega)
    rw [e] at r q
    exact ⟨⟨r.1, r.2.1.1⟩, q⟩) hk1.1 hw hc hk
end
/- the sets of a set that hold its first element -/
/-- The choices that are left when g has been tried. -/
def Vis (D : Int × Int → Option Int) (L : List (List Int)) (x : Be) (g : Int) : Prop := ∀ h : Int, 0 ≤ h → andV h (aniV x.s (lw x.s)) = h → g < h → h < 64 → cnd D L x (oriV h (lw x.s))
section
variable {D : Int × Int → Option Int} {L : List (List Int)} {x : Be}
theorem s_ok {S : Int} (h0 : 1 ≤ S) (h1 : S < 64) : (0 < lw S ∧ lw S ≤ S) ∧ (0 ≤ aniV S (lw S) ∧ aniV S (lw S) < S) := by
  obtain ⟨K, rfl⟩ : ∃ K : Nat, S = K := ⟨S.toNat, by omega⟩
  exact sm1 K (by omega) (by omega)
theorem vis_0 (h0 : 1 ≤ x.s) (h1 : x.s < 64) : Vis D L x (aniV x.s (lw x.s)) := fun h a b c d => by
  have r := (s_ok h0 h1).2
  obtain ⟨R, hR⟩ : ∃ R : Nat, aniV x.s (lw x.s) = R := ⟨(aniV x.s (lw x.s)).toNat, by omega⟩
  obtain ⟨H, rfl⟩ : ∃ H : Nat, h = H := ⟨h.toNat, by omega⟩
  rw [hR] at b c
  have := sm7 R (by omega) H (by omega) b
  omega
theorem vis_s {g : Int} (h0 : 1 ≤ x.s) (h1 : x.s < 64) (g0 : 0 < g) (g1 : g < 64) (hg : andV g (aniV x.s (lw x.s)) = g) : (Vis D L x g ∧ cnd D L x (oriV g (lw x.s))) ↔ Vis D L x (andV (g - 1) (aniV x.s (lw x.s))) := by
  have r := (s_ok h0 h1).2
  obtain ⟨R, hR⟩ : ∃ R : Nat, aniV x.s (lw x.s) = R := ⟨(aniV x.s (lw x.s)).toNat, by omega⟩
  obtain ⟨K, rfl⟩ : ∃ K : Nat, g = K := ⟨g.toNat, by omega⟩
  unfold Vis
  rw [hR] at hg ⊢
  have s4 := sm4 R (by omega) K (by omega) (by omega) hg
  constructor
  · rintro ⟨a, b⟩ h h0 h2 h3 h4
    by_cases e : h = K
    · rw [e]; exact b
    · by_cases q : (K : Int) < h
      · exact a h h0 h2 q h4
      · obtain ⟨H, rfl⟩ : ∃ H : Nat, h = H := ⟨h.toNat, by omega⟩
        have := sm5 R (by omega) K (by omega) H (by omega) (by omega) hg h2
        omega
  · intro a
    exact ⟨fun h b c d e => a h b c (by omega) e, a K (by omega) hg s4.1.2 (by omega)⟩
theorem vis_end (h0 : 1 ≤ x.s) (h1 : x.s < 64) : (Vis D L x 0 ∧ cnd D L x (oriV 0 (lw x.s))) ↔ Jst D L x := by
  have r := s_ok h0 h1
  obtain ⟨S, hS⟩ : ∃ S : Nat, x.s = S := ⟨x.s.toNat, by omega⟩
  unfold Vis Jst
  rw [hS] at r ⊢
  constructor
  · rintro ⟨a, b⟩ p p0 p1 p2 p3
    obtain ⟨P, rfl⟩ : ∃ P : Nat, p = P := ⟨p.toNat, by omega⟩
    obtain ⟨q1, q2, q3⟩ := sm3 S (by omega) P (by omega) (by omega) p2 p3
    by_cases e : aniV (P : Int) (lw (S : Int)) = 0
    · rw [e] at q2; rw [← q2]; exact b
    · rw [← q2]; exact a _ q3.1 q1 (by omega) q3.2
  · intro a
    have key : ∀ h : Int, 0 ≤ h → andV h (aniV (S : Int) (lw (S : Int))) = h → h < 64 → cnd D L x (oriV h (lw (S : Int))) := fun h b c d => by
      obtain ⟨H, rfl⟩ : ∃ H : Nat, h = H := ⟨h.toNat, by omega⟩
      obtain ⟨q1, q2, q3⟩ := sm2 S (by omega) H (by omega) (by omega) c
      exact a _ q1.1 q1.2 q2 q3
    refine ⟨fun h b c _ e => key h b c e, key 0 (by omega) ?_ (by omega)⟩
    show ((BitVec.ofInt 64 0 &&& _).toNat : Int) = 0
    simp
end
/- the costs of all sets -/
def StL (L : List (List Int)) (C : List Int) : Prop := (C.length : Int) = 2 ^ L.length ∧ ∀ s : Int, 1 ≤ s → s < 2 ^ L.length → gi C s = grpV L s
/- the comparison -/
def cmpI (x y : Int) : Int := if x < y then -1 else if y < x then 1 else 0
def ordF (a b : Be) : Int := if cmpI b.j a.j ≠ 0 then cmpI b.j a.j else cmpI a.s b.s
theorem ordF_lx {a b : Be} : ¬ 0 ≤ ordF a b ↔ Lx a b := by
  unfold ordF cmpI Lx
  by_cases h1 : b.j < a.j
  · simp [h1]
  · by_cases h2 : a.j < b.j
    · simp [h1, h2]; omega
    · by_cases h3 : a.s < b.s
      · simp [h1, h2, h3]; omega
      · by_cases h4 : b.s < a.s
        · simp [h1, h2, h3, h4]
        · simp [h1, h2, h3, h4]
theorem cmp_l {x y : Int} (h : x < y) : cmpI x y = -1 := if_pos h
theorem cmp_g {x y : Int} (h : ¬ x < y) (h2 : y < x) : cmpI x y = 1 := by unfold cmpI; rw [if_neg h, if_pos h2]
theorem cmp_e {x y : Int} (h : ¬ x < y) (h2 : ¬ y < x) : cmpI x y = 0 := by unfold cmpI; rw [if_neg h, if_neg h2]
end Go.Proofs.Ytmkbjhligjnagaa
