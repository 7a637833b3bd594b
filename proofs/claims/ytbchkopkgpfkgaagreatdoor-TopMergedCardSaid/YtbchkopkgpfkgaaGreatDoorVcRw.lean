import Derived.Test.YtbchkopkgpfkgaaGreatDoorWx
/- Many rows owned at once: the rows of a matrix of one's own. No program in sight. -/
namespace Go.Vc
open Go
def rowO (E : TypeId) (l : List Int) : Obj := .cells (l.map (Value.int .i64)).toArray E (0, 0)
/-- Rows rv, each a block of its own, with the numbers L. -/
def Rws (E : TypeId) : List Value → List (List Int) → Asrt
  | [], [] => fun h => h = fun _ => none
  | r :: rv, l :: L => fun h => ∃ b g, r = .slice (some ⟨b, 0, none⟩) l.length l.length ∧ Disj (one b (rowO E l)) g ∧ h = plus (one b (rowO E l)) g ∧ Rws E rv L g
  | _, _ => fun _ => False

theorem disj_plus {a b c : HV} (h : Disj (plus a b) c) : Disj a c ∧ Disj b c := by
  constructor
  · intro x
    rcases h x with e | e
    · left; unfold plus at e
      cases q : a x with
      | none => rfl
      | some o => simp only [q] at e; cases e
    · exact .inr e
  · intro x
    rcases h x with e | e
    · left; unfold plus at e
      cases q : a x with
      | none => simp only [q] at e; exact e
      | some o => simp only [q] at e; cases e
    · exact .inr e
theorem plus_disj {a b c : HV} (h : Disj a c) (k : Disj b c) : Disj (plus a b) c := fun x => by
  rcases h x with e | e
  · rcases k x with f | f
    · left; unfold plus; simp only [e, f]
    · exact .inr f
  · exact .inr e
theorem plus_assoc (a b c : HV) : plus (plus a b) c = plus a (plus b c) := by
  funext x; unfold plus
  cases a x <;> rfl
theorem plus_none (a : HV) : plus a (fun _ => none) = a := by
  funext x; unfold plus
  cases a x <;> rfl
theorem Rws.snoc {E : TypeId} {b : Nat} {l : List Int} : ∀ {rv : List Value} {L : List (List Int)} {g : HV}, Rws E rv L g → Disj g (one b (rowO E l)) →
    Rws E (rv ++ [.slice (some ⟨b, 0, none⟩) l.length l.length]) (L ++ [l]) (plus g (one b (rowO E l)))
  | [], [], g, h, _ => by
    have h : g = fun _ => none := h
    subst h
    exact ⟨b, fun _ => none, rfl, fun _ => .inr rfl, (plus_none _).symm, rfl⟩
  | r :: rv, l0 :: L, g, h, d => by
    obtain ⟨b0, g0, h1, h2, rfl, h4⟩ := h
    obtain ⟨d1, d2⟩ := disj_plus d
    exact ⟨b0, plus g0 (one b (rowO E l)), h1, (plus_disj h2.symm d1.symm).symm, plus_assoc _ _ _, Rws.snoc h4 d2⟩
  | [], _ :: _, _, h, _ => h.elim
  | _ :: _, [], _, h, _ => h.elim

theorem Rws.len {E : TypeId} : ∀ {rv : List Value} {L : List (List Int)} {g : HV}, Rws E rv L g → rv.length = L.length
  | [], [], _, _ => rfl
  | _ :: _, _ :: _, _, ⟨_, _, _, _, _, h⟩ => congrArg (· + 1) h.len
  | [], _ :: _, _, h => h.elim
  | _ :: _, [], _, h => h.elim
theorem sub_one {b : Nat} {o : Obj} {H : HV} (s : Sub (one b o) H) : H b = some o := s b o (by simp [one])
theorem Rws.ints {E : TypeId} {H : HV} : ∀ {rv : List Value} {L : List (List Int)} {g : HV}, Rws E rv L g → Sub g H → (∀ l ∈ L, l.length ≤ 1000000) → ∀ j : Nat, j < L.length → Ints .i64 H (rv.getD j undef) (L.getD j [])
  | r :: rv, l :: L, g, ⟨b, g0, h1, h2, h3, h4⟩, s, hb, 0, _ => by
    subst h3
    have e := sub_one ((sub_plus_left _ _).trans s)
    show Sl H r (l.map (Value.int .i64))
    rw [h1]
    exact sl_own e (by simp) (Nat.le_refl _) (by have := hb l (by simp); omega)
  | r :: rv, l :: L, g, ⟨b, g0, h1, h2, h3, h4⟩, s, hb, j + 1, hj => by
    subst h3
    have := Rws.ints h4 ((sub_plus_right h2).trans s) (fun x hx => hb x (by simp [hx])) j (by simpa using hj)
    simpa using this
  | [], [], _, _, _, _, j, hj => by simp at hj
  | [], _ :: _, _, h, _, _, _, _ => h.elim
  | _ :: _, [], _, h, _, _, _, _ => h.elim

section
variable {P : Program} {C : Cx} {N : Nat} {K : K3} {Q : Ex → K3} {env : Env} {V : HV} {σ σ' τ : Res} {c : Code} {w : World} {E : TypeId} {rv : List Value} {r : Value} {l : List Int} {L : List (List Int)} {b : Nat}
theorem Mem.uncons (m : Mem C V (Rws E (r :: rv) (l :: L) :: τ) w) : ∃ b, r = .slice (some ⟨b, 0, none⟩) l.length l.length ∧ Mem C V (Arr E b (l.map (Value.int .i64)) :: Rws E rv L :: τ) w := by
  obtain ⟨hs, h1, h2, h3⟩ := m.own
  match hs, h1 with
  | h :: hs, h1 =>
    obtain ⟨⟨b, g, e1, e2, e3, e4⟩, h1⟩ := h1
    subst e3
    obtain ⟨p1, p2⟩ := List.pairwise_cons.1 h2
    have q := h3 _ (List.mem_cons_self ..)
    have dq := disj_plus q.2.1
    refine ⟨b, e1, m.os, m.tape, m.output, m.dr, m.size, m.frame, m.sub, m.view, m.vold, one b (rowO E l) :: g :: hs, ⟨rfl, e4, h1⟩, ?_, ?_⟩
    · refine List.pairwise_cons.2 ⟨fun x hx => ?_, List.pairwise_cons.2 ⟨fun x hx => (disj_plus (p1 x hx)).2, p2⟩⟩
      rcases List.mem_cons.1 hx with rfl | hx
      · exact e2
      · exact (disj_plus (p1 x hx)).1
    · intro x hx
      rcases List.mem_cons.1 hx with rfl | hx
      · exact ⟨(sub_plus_left _ _).trans q.1, dq.1, fun z hz hn => q.2.2 z hz (by unfold plus; cases e : one b (rowO E l) z with | none => exact absurd e hn | some o => simp)⟩
      rcases List.mem_cons.1 hx with rfl | hx
      · exact ⟨(sub_plus_right e2).trans q.1, dq.2, fun z hz hn => q.2.2 z hz (by unfold plus; cases e : one b (rowO E l) z with | none => simpa using hn | some o => simp)⟩
      · exact h3 x (List.mem_cons_of_mem _ hx)
theorem Mem.snoc (m : Mem C V (Arr E b (l.map (Value.int .i64)) :: Rws E rv L :: τ) w) : Mem C V (Rws E (rv ++ [.slice (some ⟨b, 0, none⟩) l.length l.length]) (L ++ [l]) :: τ) w := by
  obtain ⟨hs, h1, h2, h3⟩ := m.own
  match hs, h1 with
  | h :: g :: hs, ⟨e1, e2, h1⟩ =>
    have e1 : h = one b (rowO E l) := e1
    subst e1
    obtain ⟨p1, p2⟩ := List.pairwise_cons.1 h2
    obtain ⟨p3, p4⟩ := List.pairwise_cons.1 p2
    have d := p1 g (by simp)
    have q1 := h3 _ (List.mem_cons_self ..)
    have q2 := h3 g (by simp)
    refine ⟨m.os, m.tape, m.output, m.dr, m.size, m.frame, m.sub, m.view, m.vold, plus g (one b (rowO E l)) :: hs, ⟨e2.snoc d.symm, h1⟩, List.pairwise_cons.2 ⟨fun x hx => plus_disj (p3 x hx) (p1 x (by simp [hx])), p4⟩, ?_⟩
    intro x hx
    rcases List.mem_cons.1 hx with rfl | hx
    · refine ⟨sub_plus q2.1 q1.1, plus_disj q2.2.1 q1.2.1, fun z hz hn => ?_⟩
      cases e : g z with
      | some o => exact q2.2.2 z hz (by rw [e]; simp)
      | none => exact q1.2.2 z hz (by unfold plus at hn; simpa only [e] using hn)
    · exact h3 x (by simp [hx])
theorem Mem.rw0 (m : Mem C V σ w) (E : TypeId) : Mem C V (Rws E [] [] :: σ) w := by
  obtain ⟨hs, h1, h2, h3⟩ := m.own
  refine ⟨m.os, m.tape, m.output, m.dr, m.size, m.frame, m.sub, m.view, m.vold, (fun _ => none) :: hs, ⟨rfl, h1⟩, List.pairwise_cons.2 ⟨fun _ _ _ => .inl rfl, h2⟩, fun x hx => ?_⟩
  rcases List.mem_cons.1 hx with rfl | hx
  · exact ⟨fun _ _ h => (by cases h), fun _ => .inl rfl, fun _ _ h => absurd rfl h⟩
  · exact h3 x hx

/-- The first row comes out. -/
theorem v_unc (k : Nat) {rv0 : List Value} {L0 : List (List Int)} [hn : Nz σ σ'] [h : Er σ' k (Rws E rv0 L0) τ] {n : Nat} (e1 : rv0 = r :: rv) (e2 : L0 = l :: L) (en : l.length = n)
    (g : ∀ b, r = .slice (some ⟨b, 0, none⟩) n n → VC P C N c K Q env V (Arr E b (l.map (Value.int .i64)) :: Rws E rv L :: τ)) : VC P C N c K Q env V σ := fun a w hf hm => by
  subst e1 e2; subst en
  rw [hn.out] at hm
  obtain ⟨b, h1, m⟩ := (hm.perm h.out).uncons
  exact g b h1 a w hf m
/-- A row goes in behind the others. -/
theorem v_sno (k j : Nat) {τ' : Res} {cs : List Value} [hn : Nz σ σ'] [h : Er σ' k (Arr E b cs) τ] [i : Er τ j (Rws E rv L) τ'] (l : List Int) {n : Nat} (e : cs = l.map (Value.int .i64)) (en : l.length = n)
    (g : VC P C N c K Q env V (Rws E (rv ++ [.slice (some ⟨b, 0, none⟩) n n]) (L ++ [l]) :: τ')) : VC P C N c K Q env V σ := fun a w hf hm => by
  subst e; subst en
  rw [hn.out] at hm
  exact g a w hf ((hm.perm h.out).perm (i.out.cons _)).snoc
theorem v_rw0 (E : TypeId) (g : VC P C N c K Q env V (σ ++ [Rws E [] []])) : VC P C N c K Q env V σ := fun a w hf hm => g a w hf ((hm.rw0 E).perm (List.perm_append_singleton _ _).symm)
theorem v_pm (p : List Nat) [hn : Nz σ σ'] [h : Ix σ' p τ] (g : VC P C N c K Q env V τ) (hp : p.isPerm (List.range σ'.length) = true := by kernel_rfl) : VC P C N c K Q env V σ := by
  rw [hn.out]; exact vc_perm (perm_idx σ' τ p hp h.out) g
/-- All rows are read only from here on. -/
theorem v_frw (k : Nat) [hn : Nz σ σ'] [h : Er σ' k (Rws E rv L) τ] (hb : ∀ l ∈ L, l.length ≤ 1000000)
    (g : ∀ V', Sub V V' → rv.length = L.length → (∀ j : Int, 0 ≤ j → j < L.length → Ints .i64 V' (gv rv j) (gr L j)) → VC P C N c K Q env V' τ) : VC P C N c K Q env V σ := fun a w hf hm => by
  rw [hn.out] at hm
  obtain ⟨x, hx, hd, m'⟩ := hm.freeze h.out
  exact g _ (sub_plus_left _ _) hx.len (fun j j0 j1 => hx.ints (sub_plus_right hd) hb j.toNat (by omega)) a w hf m'
end
end Go.Vc
