/- The least value of a set is the cost of a grouping; what Any returns. No program in sight. -/
import Derived.Test.YtmkbjhligjnagaaMjL
import Derived.Test.YtmkbjhligjnagaaMjG
import Derived.Test.YtmkbjhligjnagaaMgY
namespace Go.Proofs.Ytmkbjhligjnagaa
open Go Go.Vc
open Classical
theorem sub_len : ∀ {l m : List Int}, l.Nodup → (∀ x ∈ l, x ∈ m) → l.length ≤ m.length
  | [], _, _, _ => Nat.zero_le _
  | a :: l, m, hn, h => by
    have hn := List.nodup_cons.1 hn
    have ha := h a (List.mem_cons_self ..)
    have ih := sub_len (l := l) (m := m.erase a) hn.2 fun x hx => (List.mem_erase_of_ne (fun e => hn.1 (by rw [← e]; exact hx))).2 (h x (List.mem_cons_of_mem _ hx))
    have := List.length_erase_of_mem ha
    have := List.length_pos_of_mem ha
    show l.length + 1 ≤ _
    omega
theorem cS_congr {L : List (List Int)} {G H : List Int} {S : Int} : ∀ m : Nat, (∀ t : Nat, t < m → bt S t → gi G t = gi H t) → cS L G S m = cS L H S m
  | 0, _ => rfl
  | m + 1, h => by
    simp only [cS, cS_congr m fun t ht => h t (by omega)]
    by_cases q : bt S m
    · rw [if_pos q, if_pos q, h m (by omega) q]
    · rw [if_neg q, if_neg q]
theorem bsN_att {L : List (List Int)} (gd : Good L) {S : Int} : ∀ m : Nat, m ≤ L.length → 0 ≤ bsN L S m → ∃ r : Int, 0 ≤ r ∧ r < m ∧ bt S r ∧ bsN L S m = gsN L S r L.length
  | 0, _, h => by simp [bsN] at h
  | m + 1, hm, h => by
    have ih := bsN_att gd (S := S) m (by omega)
    simp only [bsN] at h ⊢
    by_cases q : bt S m
    · rw [if_pos q] at h ⊢
      by_cases c : bsN L S m < 0 ∨ gsN L S m L.length < bsN L S m
      · rw [if_pos c]; exact ⟨m, by omega, by omega, q, rfl⟩
      · rw [if_neg c] at h ⊢
        obtain ⟨r, a, b, d, e⟩ := ih h
        exact ⟨r, a, by omega, d, e⟩
    · rw [if_neg q] at h ⊢
      obtain ⟨r, a, b, d, e⟩ := ih h
      exact ⟨r, a, by omega, d, e⟩
theorem va_att {L : List (List Int)} (gd : Good L) (h6 : L.length ≤ 6) : ∀ (k : Nat) (s : Int), 1 ≤ s → s < 2 ^ L.length →
    ∃ (G R : List Int), G.length = L.length ∧ R.length ≤ k + 1 ∧ (∀ t : Nat, t < L.length → bt s t → (0 ≤ gi G t ∧ gi G t < L.length) ∧ bt s (gi G t) ∧ gi G (gi G t) = gi G t ∧ gi G t ∈ R) ∧ cS L G s L.length = VA L k s := by
  have one : ∀ s : Int, 1 ≤ s → s < 2 ^ L.length → ∃ r : Int, (0 ≤ r ∧ r < L.length) ∧ bt s r ∧ grpV L s = gsN L s r L.length := fun s h0 h1 => by
    obtain ⟨r, a, b, c, d⟩ := bsN_att gd L.length (Nat.le_refl _) (grp_0 gd h6 h0 h1)
    exact ⟨r, ⟨a, b⟩, c, d⟩
  have base : ∀ (k : Nat) (s : Int), 1 ≤ s → s < 2 ^ L.length → VA L k s = grpV L s → ∃ (G R : List Int), G.length = L.length ∧ R.length ≤ k + 1 ∧ (∀ t : Nat, t < L.length → bt s t → (0 ≤ gi G t ∧ gi G t < L.length) ∧ bt s (gi G t) ∧ gi G (gi G t) = gi G t ∧ gi G t ∈ R) ∧ cS L G s L.length = VA L k s := fun k s h0 h1 hv => by
    obtain ⟨r, hr, hb, he⟩ := one s h0 h1
    have hg : ∀ t : Int, 0 ≤ t → t < L.length → gi (List.replicate L.length r) t = r := fun t a b => by
      unfold gi; rw [List.getD_eq_getElem?_getD, List.getElem?_replicate, if_pos (by omega)]; rfl
    refine ⟨List.replicate L.length r, [r], by simp, by simp, fun t ht _ => ?_, ?_⟩
    · rw [hg t (by omega) (by omega), hg r hr.1 hr.2]
      exact ⟨hr, hb, rfl, by simp⟩
    · rw [hv, he]
      exact (gsN_cS L.length fun t ht _ => hg t (by omega) (by omega)).symm
  intro k
  induction k with
  | zero => exact fun s h0 h1 => base 0 s h0 h1 rfl
  | succ k ih =>
    intro s h0 h1
    have p6 := pw6 h6
    rcases vaM_at (L := L) (g := VA L k) (s := s) 64 with e | ⟨p, hp, hne, e⟩
    · exact base (k + 1) s h0 h1 e
    · have r := rest_ok h0 (by omega) hp hne
      obtain ⟨G, R, hl, hR, hG, hc⟩ := ih (aniV s p) r.1 (by omega)
      obtain ⟨⟨p0, p1⟩, p2, p3⟩ := hp
      obtain ⟨q, hq, hb, he⟩ := one p p0 (by omega)
      have bits : ∀ t : Nat, t < L.length → (bt s t ↔ bt p t ∨ bt (aniV s p) t) ∧ ¬ (bt p t ∧ bt (aniV s p) t) := fun t ht => by
        obtain ⟨S, rfl⟩ : ∃ S : Nat, s = S := ⟨s.toNat, by omega⟩
        obtain ⟨P, rfl⟩ : ∃ P : Nat, p = P := ⟨p.toNat, by omega⟩
        have a := (sm10 S (by omega) P (by omega)).2 t (by omega)
        have b := (sm10 P (by omega) S (by omega)).2 t (by omega)
        rw [p2] at b
        have z : ¬ bt 0 t := bt_0
        refine ⟨⟨fun x => ?_, fun x => ?_⟩, fun x => (a.1 x.2).2 x.1⟩
        · by_cases y : bt P t
          · exact .inl y
          · exact .inr (a.2 ⟨x, y⟩)
        · rcases x with x | x
          · exact Decidable.not_not.1 fun y => z (b.2 ⟨x, y⟩)
          · exact (a.1 x).1
      have hf : ∀ t : Int, 0 ≤ t → t < L.length → gi ((List.range L.length).map fun t : Nat => if bt p t then q else gi G t) t = if bt p t then q else gi G t := fun t a b => by
        rw [gi_map_range _ _ _ a (by omega), show ((t.toNat : Nat) : Int) = t by omega]
      refine ⟨(List.range L.length).map fun t : Nat => if bt p t then q else gi G t, q :: R, by simp, by simpa using hR, fun t ht hbt => ?_, ?_⟩
      · by_cases y : bt p t
        · rw [hf t (by omega) (by omega), if_pos y, hf q hq.1 hq.2, if_pos hb]
          have bq := bits q.toNat (by omega)
          rw [show ((q.toNat : Nat) : Int) = q by omega] at bq
          exact ⟨hq, bq.1.2 (.inl hb), rfl, by simp⟩
        · have x := ((bits t ht).1.1 hbt).resolve_left y
          obtain ⟨a1, a2, a3, a4⟩ := hG t ht x
          rw [hf t (by omega) (by omega), if_neg y]
          have bq := bits (gi G t).toNat (by omega)
          rw [show (((gi G t).toNat : Nat) : Int) = gi G t by omega] at bq
          rw [hf _ a1.1 a1.2, if_neg (fun z => bq.2 ⟨z, a2⟩)]
          exact ⟨a1, bq.1.2 (.inr a2), a3, List.mem_cons_of_mem _ a4⟩
      · show _ = vaM L (VA L k) s 64
        rw [e, cS_split L.length bits, ← hc, he]
        congr 1
        · exact (gsN_cS L.length fun t ht y => by rw [hf t (by omega) (by omega), if_pos y]).symm
        · exact cS_congr L.length fun t ht y => by rw [hf t (by omega) (by omega), if_neg (fun z => (bits t ht).2 ⟨z, y⟩)]
theorem any_att {L : List (List Int)} (gd : Good L) (h6 : L.length ≤ 6) (k : Nat) : ∃ G, Tgt L (k + 1) (VA L k (2 ^ L.length - 1)) G := by
  have p6 := pw6 h6
  have hpos := gd.pos
  have p2 := pw_mono (a := 1) (b := L.length) (by omega)
  have hall : ∀ t : Nat, t < L.length → bt ((2 : Int) ^ L.length - 1) t := fun t ht => (sm13 L.length (by omega) t (by omega)).2 ht
  obtain ⟨G, R, hl, hR, hG, hc⟩ := va_att gd h6 k (2 ^ L.length - 1) (by omega) (by omega)
  have hG' : ∀ x : Int, 0 ≤ x → x < L.length → (0 ≤ gi G x ∧ gi G x < L.length) ∧ gi G (gi G x) = gi G x ∧ gi G x ∈ R := fun x a b => by
    have := hG x.toNat (by omega) (hall _ (by omega))
    rw [show ((x.toNat : Nat) : Int) = x by omega] at this
    exact ⟨this.1, this.2.2⟩
  refine ⟨G, grp_gE ⟨hl, fun x a b => (hG' x a b).1, fun x a b => (hG' x a b).2.1⟩, ?_, ?_⟩
  · rw [← frs_len]
    have := sub_len (frs_nod G G.length) (m := R) fun x hx => by
      obtain ⟨p, a, b, c⟩ := (frs_mem G G.length).1 hx
      rw [← c]; exact (hG' p a (by omega)).2.2
    omega
  · rw [hl, ← cS_all L.length hall]; exact hc
/-- What Any returns. -/
noncomputable def anG (L : List (List Int)) (k : Int) : List Int := (fr L k (VA L (k - 1).toNat (2 ^ L.length - 1)) L.length 0 0 0 (List.replicate L.length 0) (List.replicate L.length 0)).2
noncomputable abbrev anN (L : List (List Int)) (k : Int) : Int := VA L (k - 1).toNat (2 ^ L.length - 1)
section
variable {L : List (List Int)} {k : Int}
theorem any_ok (gd : Good L) (h6 : L.length ≤ 6) (hk : 1 ≤ k) : Tgt L k (anN L k) (anG L k) ∧ ∀ H, Tgt L k (anN L k) H → ¬ Lex L.length H (anG L k) := by
  obtain ⟨G, hG⟩ := any_att gd h6 (k - 1).toNat
  rw [show (((k - 1).toNat : Nat) : Int) + 1 = k by omega] at hG
  exact f_found gd hG
theorem any_low (gd : Good L) (h6 : L.length ≤ 6) (hk : 1 ≤ k) {H : List Int} (h : gE L H = 0) (h2 : kindsN H H.length ≤ k) : anN L k ≤ csum L H H.length :=
  va_bound gd h6 gd.pos h (by omega)
theorem best_any (gd : Good L) (h6 : L.length ≤ 6) (hk : 1 ≤ k) {D : List Int → Prop} {best : Int} {F : List Int} (h : Best (Ok L k False) L D best F) (hall : ∀ H, Ok L k False H → D H) : best = anN L k ∧ F = anG L k := by
  obtain ⟨⟨q1, q2, q3⟩, q4⟩ := any_ok gd h6 hk
  have hok : Ok L k False (anG L k) := ⟨q1, q2, fun z => z.elim⟩
  rcases h with ⟨_, _, c⟩ | ⟨a, b, c, d, e⟩
  · exact absurd (hall _ hok) (c _ hok)
  · have e1 := e _ hok (hall _ hok)
    have e2 := any_low gd h6 hk b.1 b.2.1
    have hb : best = anN L k := by omega
    refine ⟨hb, ?_⟩
    have hn := q4 F ⟨b.1, b.2.1, by omega⟩
    rcases lex_total (n := L.length) b.inr.1 hok.inr.1 with l | l | l
    · exact absurd l hn
    · exact l
    · exact absurd l (e1.2 (by omega))
end
end Go.Proofs.Ytmkbjhligjnagaa
