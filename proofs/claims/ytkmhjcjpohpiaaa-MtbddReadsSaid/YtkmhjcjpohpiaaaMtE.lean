/- Counting: the histogram. No program in sight. -/
import Derived.Test.YtkmhjcjpohpiaaaMtD
namespace Go.Proofs.Ytkmhjcjpohpiaaa
open Go Go.Vc
open Classical
noncomputable def cT_ (P : (Int → Bool) → Prop) (m : Nat) (v : Int) (e : Int → Bool) : Nat := (tab (fun e => decide (P e)) m v e).count true
theorem cT_s (P : (Int → Bool) → Prop) (m : Nat) (v : Int) (e : Int → Bool) : cT_ P (m + 1) v e = cT_ P m (v + 1) (up e v false) + cT_ P m (v + 1) (up e v true) := by
  unfold cT_
  show (tab _ m (v + 1) _ ++ tab _ m (v + 1) _).count true = _
  rw [List.count_append]
theorem cT_z (P : (Int → Bool) → Prop) (v : Int) (e : Int → Bool) : cT_ P 0 v e = if P e then 1 else 0 := by
  unfold cT_ tab
  by_cases p : P e <;> simp [p]
theorem cT_congr {P Q : (Int → Bool) → Prop} {m : Nat} {v : Int} {e : Int → Bool} (h : ∀ e', (∀ i, i < v → e' i = e i) → (P e' ↔ Q e')) : cT_ P m v e = cT_ Q m v e := by
  unfold cT_
  rw [tab_congr m v e fun e' he => decide_eq_decide.2 (h e' he)]
theorem cT_split (P Q : (Int → Bool) → Prop) : ∀ (m : Nat) (v : Int) (e : Int → Bool), cT_ P m v e = cT_ (fun e => P e ∧ Q e) m v e + cT_ (fun e => P e ∧ ¬ Q e) m v e
  | 0, v, e => by
    rw [cT_z, cT_z, cT_z]
    by_cases p : P e <;> by_cases q : Q e <;> simp [p, q]
  | m + 1, v, e => by
    rw [cT_s, cT_s, cT_s, cT_split P Q m, cT_split P Q m]; omega
theorem cT_false (m : Nat) (v : Int) (e : Int → Bool) {P : (Int → Bool) → Prop} (h : ∀ e', (∀ i, i < v → e' i = e i) → ¬ P e') : cT_ P m v e = 0 := by
  unfold cT_
  rw [tab_congr (g := fun _ => false) m v e fun e' he => decide_eq_false (h e' he), tab_const]
  exact List.count_eq_zero.2 fun q => by simp at q
theorem cT_all (m : Nat) (v : Int) (e : Int → Bool) {P : (Int → Bool) → Prop} (h : ∀ e', (∀ i, i < v → e' i = e i) → P e') : cT_ P m v e = 2 ^ m := by
  unfold cT_
  rw [tab_congr (g := fun _ => true) m v e fun e' he => decide_eq_true (h e' he), tab_const, List.count_replicate_self]
theorem cT_le (P : (Int → Bool) → Prop) (m : Nat) (v : Int) (e : Int → Bool) : cT_ P m v e ≤ 2 ^ m := by
  unfold cT_
  have := List.count_le_length (a := true) (l := tab (fun e => decide (P e)) m v e)
  rwa [tab_len] at this
theorem up_up {e : Int → Bool} {x v : Int} {b c : Bool} (h : x ≠ v) : up (up e x b) v c = up (up e v c) x b := by
  funext i
  unfold up
  by_cases h1 : i = v
  · rw [if_pos h1, if_neg (by omega), if_pos h1]
  · rw [if_neg h1, if_neg h1]
theorem cT_up {P : (Int → Bool) → Prop} {x : Int} (hP : ∀ e b, P (up e x b) ↔ P e) (b : Bool) : ∀ (m : Nat) (v : Int) (e : Int → Bool), x < v → cT_ P m v (up e x b) = cT_ P m v e
  | 0, v, e, _ => by
    rw [cT_z, cT_z]
    by_cases q : P e
    · rw [if_pos q, if_pos ((hP e b).2 q)]
    · rw [if_neg q, if_neg fun z => q ((hP e b).1 z)]
  | m + 1, v, e, h => by
    rw [cT_s, cT_s, up_up (x := x) (v := v) (c := false) (by omega), up_up (x := x) (v := v) (c := true) (by omega), cT_up hP b m _ _ (by omega), cT_up hP b m _ _ (by omega)]
theorem cT_half {P : (Int → Bool) → Prop} {x : Int} (hP : ∀ e b, P (up e x b) ↔ P e) : ∀ (m : Nat) (v : Int) (e : Int → Bool), v ≤ x → x < v + m → cT_ (fun e => P e ∧ e x = true) m v e = cT_ (fun e => P e ∧ ¬ e x = true) m v e
  | 0, v, e, h0, h1 => by omega
  | m + 1, v, e, h0, h1 => by
    rw [cT_s, cT_s]
    by_cases hx : x = v
    · subst hx
      have a1 : ∀ b, ∀ e' : Int → Bool, (∀ i, i < x + 1 → e' i = up e x b i) → e' x = b := fun b e' he => by rw [he x (by omega)]; exact if_pos rfl
      rw [cT_false m (x + 1) (up e x false) fun e' he q => by have := a1 false e' he; rw [this] at q; exact absurd q.2 (by simp),
        cT_false m (x + 1) (up e x true) (P := fun e => P e ∧ ¬ e x = true) fun e' he q => q.2 (a1 true e' he),
        cT_congr (P := fun e => P e ∧ e x = true) (Q := P) fun e' he => ⟨fun q => q.1, fun q => ⟨q, a1 true e' he⟩⟩,
        cT_congr (P := fun e => P e ∧ ¬ e x = true) (Q := P) fun e' he => ⟨fun q => q.1, fun q => ⟨q, by rw [a1 false e' he]; simp⟩⟩,
        cT_up hP true m _ _ (by omega), cT_up hP false m _ _ (by omega)]
      omega
    · rw [cT_half hP m _ _ (by omega) (by omega), cT_half hP m _ _ (by omega) (by omega)]
/-- The number of assignments with a property. -/
noncomputable def cA (vars : Int) (P : (Int → Bool) → Prop) : Int := (cT_ P vars.toNat 0 e0 : Nat)
theorem cA_congr {vars : Int} {P Q : (Int → Bool) → Prop} (h : ∀ e, P e ↔ Q e) : cA vars P = cA vars Q := by unfold cA; rw [cT_congr fun e _ => h e]
theorem cA_halves {vars x : Int} {P : (Int → Bool) → Prop} (h0 : 0 ≤ x) (h1 : x < vars) (hP : ∀ e b, P (up e x b) ↔ P e) : cA vars (fun e => P e ∧ e x = true) = cA vars P / 2 ∧ cA vars (fun e => P e ∧ ¬ e x = true) = cA vars P / 2 := by
  have a := cT_split P (fun e => e x = true) vars.toNat 0 e0
  have b := cT_half hP vars.toNat 0 e0 h0 (by omega)
  unfold cA
  omega
theorem cA_or {vars : Int} {P Q : (Int → Bool) → Prop} (h : ∀ e, ¬ (P e ∧ Q e)) : cA vars (fun e => P e ∨ Q e) = cA vars P + cA vars Q := by
  have a := cT_split (fun e => P e ∨ Q e) P vars.toNat 0 e0
  rw [cT_congr (P := fun e => (P e ∨ Q e) ∧ P e) (Q := P) fun e _ => ⟨fun q => q.2, fun q => ⟨.inl q, q⟩⟩,
    cT_congr (P := fun e => (P e ∨ Q e) ∧ ¬ P e) (Q := Q) fun e _ => ⟨fun q => q.1.resolve_left q.2, fun q => ⟨.inr q, fun p => h e ⟨p, q⟩⟩⟩] at a
  unfold cA
  omega
theorem cA_bd (vars : Int) (P : (Int → Bool) → Prop) : 0 ≤ cA vars P ∧ cA vars P ≤ 2 ^ vars.toNat := by
  have := cT_le P vars.toNat 0 e0
  have e : ((2 ^ vars.toNat : Nat) : Int) = (2 : Int) ^ vars.toNat := by simp
  unfold cA
  omega
theorem cA_all {vars : Int} {P : (Int → Bool) → Prop} (h : ∀ e, P e) : cA vars P = 2 ^ vars.toNat := by
  unfold cA
  rw [cT_all _ _ _ fun e _ => h e]; simp
theorem cA_none {vars : Int} {P : (Int → Bool) → Prop} (h : ∀ e, ¬ P e) : cA vars P = 0 := by
  unfold cA
  rw [cT_false _ _ _ fun e _ => h e]; rfl
theorem tab_count (f : (Int → Bool) → Int) (z : Int) : ∀ (m : Nat) (v : Int) (e : Int → Bool), (tab f m v e).count z = cT_ (fun e => f e = z) m v e
  | 0, v, e => by
    rw [cT_z]
    show List.count z [f e] = _
    by_cases h : f e = z <;> simp [h]
  | m + 1, v, e => by
    rw [cT_s, ← tab_count f z m, ← tab_count f z m]
    show (tab f m (v + 1) _ ++ tab f m (v + 1) _).count z = _
    rw [List.count_append]
theorem cA_count {vars z : Int} (f : (Int → Bool) → Int) : cA vars (fun e => f e = z) = ((tabv vars f).count z : Nat) := by unfold cA; rw [tab_count]
/- the references on the paths -/
/-- The first reference on a path that is below the last d nodes. -/
noncomputable def fsD (A : Mg) (e : Int → Bool) : Nat → Int
  | 0 => A.r
  | d + 1 => if fsD A e d = A.L.length + (A.N.length - (d + 1)) then (if e (fk A.N (A.N.length - (d + 1))).v = true then (fk A.N (A.N.length - (d + 1))).h else (fk A.N (A.N.length - (d + 1))).l) else fsD A e d
section
variable {A : Mg} (h : Ok A)
include h
theorem fsD_ok (e : Int → Bool) : ∀ d : Nat, d ≤ A.N.length → (0 ≤ fsD A e d ∧ fsD A e d < A.L.length + (A.N.length - d)) ∧ gev (mG A) e (fsD A e d) = vl A e
  | 0, _ => ⟨⟨h.rt.1, by have := h.rt.2; show A.r < _; omega⟩, rfl⟩
  | d + 1, hd => by
    obtain ⟨⟨a, b⟩, c⟩ := fsD_ok e d (by omega)
    have hb := h.loc.bd ((A.N.length : Int) - (d + 1)) (by omega) (by omega)
    unfold fsD
    by_cases q : fsD A e d = A.L.length + (A.N.length - (d + 1))
    · rw [if_pos q]
      have hr : (mG A).ok (fsD A e d) := ⟨a, by omega⟩
      have hl : ¬ (mG A).lf (fsD A e d) := by show ¬ fsD A e d < A.L.length; omega
      have hs := gev_step h.red (e := e) hr hl
      have en : (mG A).nd (fsD A e d) = fk A.N (A.N.length - (d + 1)) := by
        show fk A.N (fsD A e d - A.L.length) = _
        rw [q, show (A.L.length : Int) + (A.N.length - (d + 1)) - A.L.length = A.N.length - (d + 1) by omega]
      rw [en, c] at hs
      by_cases hc : e (fk A.N (A.N.length - (d + 1))).v = true
      · rw [if_pos hc] at hs ⊢
        exact ⟨⟨hb.2.1, by omega⟩, hs.symm⟩
      · rw [if_neg hc] at hs ⊢
        exact ⟨⟨hb.1.1, by omega⟩, hs.symm⟩
    · rw [if_neg q]
      exact ⟨⟨a, by omega⟩, c⟩
theorem fsD_up (e : Int → Bool) {x : Int} {b : Bool} : ∀ d : Nat, d ≤ A.N.length → tp A (fsD A e d) ≤ x → fsD A (up e x b) d = fsD A e d
  | 0, _, _ => rfl
  | d + 1, hd, hx => by
    have ok := fsD_ok h e d (by omega)
    by_cases q : fsD A e d = A.L.length + (A.N.length - (d + 1))
    · have tq : tp A (fsD A e d) = (fk A.N (A.N.length - (d + 1))).v := by
        rw [tp_n (by omega), q, show (A.L.length : Int) + (A.N.length - (d + 1)) - A.L.length = A.N.length - (d + 1) by omega]
      obtain ⟨_, _, _, ⟨_, _, n1⟩, ⟨_, _, n2⟩⟩ := h.loc.nd ((A.N.length : Int) - (d + 1)) (by omega) (by omega)
      have e1 : fsD A e (d + 1) = if e (fk A.N (A.N.length - (d + 1))).v = true then (fk A.N (A.N.length - (d + 1))).h else (fk A.N (A.N.length - (d + 1))).l := by rw [fsD, if_pos q]
      have lt : (fk A.N (A.N.length - (d + 1))).v < x := by
        rw [e1] at hx
        by_cases c : e (fk A.N (A.N.length - (d + 1))).v = true
        · rw [if_pos c] at hx; omega
        · rw [if_neg c] at hx; omega
      have ih := fsD_up e (x := x) (b := b) d (by omega) (by rw [tq]; omega)
      have hu : up e x b (fk A.N (A.N.length - (d + 1))).v = e (fk A.N (A.N.length - (d + 1))).v := by unfold up; rw [if_neg (by omega)]
      rw [e1, fsD, ih, if_pos q, hu]
    · have e1 : fsD A e (d + 1) = fsD A e d := by rw [fsD, if_neg q]
      rw [e1] at hx ⊢
      have ih := fsD_up e (x := x) (b := b) d (by omega) hx
      rw [fsD, ih, if_neg q]
/-- How many assignments come to a reference. -/
noncomputable abbrev cnF (A : Mg) (d : Nat) (r : Int) : Int := cA A.v (fun e => fsD A e d = r)
omit h in
theorem cnF_0 : cnF A 0 A.r = 2 ^ A.v.toNat ∧ ∀ r, r ≠ A.r → cnF A 0 r = 0 :=
  ⟨cA_all fun _ => rfl, fun _ hr => cA_none fun _ q => hr q.symm⟩
theorem cnF_step {d : Nat} (hd : d < A.N.length) {j r : Int} (hj : j = A.N.length - (d + 1)) (h0 : 0 ≤ r) (h1 : r < A.L.length + j) :
    cnF A (d + 1) r = cnF A d r + (if r = (fk A.N j).l then cnF A d (A.L.length + j) / 2 else 0) + (if r = (fk A.N j).h then cnF A d (A.L.length + j) / 2 else 0) := by
  have hv := h.red.vr (A.L.length + j) ⟨by omega, by show (A.L.length : Int) + j < A.L.length + A.N.length; omega⟩ (by show ¬ (A.L.length : Int) + j < A.L.length; omega)
  have en : (mG A).nd (A.L.length + j) = fk A.N j := by
    show fk A.N ((A.L.length : Int) + j - A.L.length) = _
    rw [show (A.L.length : Int) + j - A.L.length = j by omega]
  rw [en] at hv
  obtain ⟨_, hne, _, _, _⟩ := h.loc.nd j (by omega) (by omega)
  have ind : ∀ e b, fsD A (up e (fk A.N j).v b) d = A.L.length + j ↔ fsD A e d = A.L.length + j := fun e b => by
    have tq : tp A (A.L.length + j) = (fk A.N j).v := by
      rw [tp_n (by omega), show (A.L.length : Int) + j - A.L.length = j by omega]
    constructor
    · intro q
      have := fsD_up h (up e (fk A.N j).v b) (x := (fk A.N j).v) (b := e (fk A.N j).v) d (by omega) (by rw [q, tq]; omega)
      rw [q] at this
      have hu : up (up e (fk A.N j).v b) (fk A.N j).v (e (fk A.N j).v) = e := by
        funext i; unfold up; by_cases hi : i = (fk A.N j).v
        · rw [if_pos hi, hi]
        · rw [if_neg hi, if_neg hi]
      rw [hu] at this; exact this
    · intro q
      rw [fsD_up h e (x := (fk A.N j).v) (b := b) d (by omega) (by rw [q, tq]; omega)]; exact q
  have hv2 := cA_halves (P := fun e => fsD A e d = A.L.length + j) hv.1 hv.2 ind
  have key : ∀ e, fsD A e (d + 1) = r ↔ ((fsD A e d = r ∨ ((fsD A e d = A.L.length + j ∧ ¬ e (fk A.N j).v = true) ∧ r = (fk A.N j).l)) ∨ ((fsD A e d = A.L.length + j ∧ e (fk A.N j).v = true) ∧ r = (fk A.N j).h)) := fun e => by
    rw [fsD, ← hj]
    by_cases q : fsD A e d = A.L.length + j
    · rw [if_pos q]
      by_cases c : e (fk A.N j).v = true
      · rw [if_pos c]
        constructor
        · intro z; exact .inr ⟨⟨q, c⟩, z.symm⟩
        · rintro ((z | ⟨⟨_, z⟩, _⟩) | ⟨_, z⟩)
          · omega
          · exact absurd c z
          · exact z.symm
      · rw [if_neg c]
        constructor
        · intro z; exact .inl (.inr ⟨⟨q, c⟩, z.symm⟩)
        · rintro ((z | ⟨_, z⟩) | ⟨⟨_, z⟩, _⟩)
          · omega
          · exact z.symm
          · exact absurd z c
    · rw [if_neg q]
      constructor
      · intro z; exact .inl (.inl z)
      · rintro ((z | ⟨⟨z, _⟩, _⟩) | ⟨⟨z, _⟩, _⟩)
        · exact z
        · exact absurd z q
        · exact absurd z q
  have one : ∀ (P : (Int → Bool) → Prop) (q : Prop) [Decidable q], cA A.v (fun e => P e ∧ q) = if q then cA A.v P else 0 := fun P q _ => by
    by_cases hq : q
    · rw [if_pos hq]; exact cA_congr fun e => ⟨fun z => z.1, fun z => ⟨z, hq⟩⟩
    · rw [if_neg hq]; exact cA_none fun e z => hq z.2
  unfold cnF
  rw [cA_congr key, cA_or, cA_or, one, one, hv2.1, hv2.2]
  · rintro e ⟨z, ⟨z2, _⟩, _⟩; omega
  · rintro e ⟨z | ⟨⟨_, z⟩, _⟩, ⟨z2, z3⟩, _⟩
    · omega
    · exact z z3
/-- In the end: how often a leaf's value is taken. -/
theorem cnF_end {i : Int} (h0 : 0 ≤ i) (h1 : i < A.L.length) : cnF A A.N.length i = ((vT A).count (gi A.L i) : Nat) := by
  rw [← cA_count]
  refine cA_congr fun e => ?_
  obtain ⟨⟨a, b⟩, c⟩ := fsD_ok h e A.N.length (Nat.le_refl _)
  have hl : (mG A).lf (fsD A e A.N.length) := by show fsD A e A.N.length < A.L.length; omega
  rw [gev_lf hl] at c
  have c : gi A.L (fsD A e A.N.length) = vl A e := c
  rw [← c]
  have ss : A.L.Pairwise (· < ·) := by
    have : A.L = vls (vT A) := (congrArg Mg.L h.dg).symm
    rw [this]; exact vls_ss _
  exact ⟨fun q => by rw [q], fun q => ss_inj ss a (by omega) h0 h1 q⟩
end
/-- A list of counts. -/
structure CInv_ (A : Mg) (d : Nat) (C : List Int) : Prop where
  len : (C.length : Int) = A.L.length + A.N.length
  at_ : ∀ r : Int, 0 ≤ r → r < A.L.length + (A.N.length - d) → gi C r = cnF A d r
theorem gi_set {C : List Int} {i r z : Int} (h0 : 0 ≤ i) (h1 : i < C.length) (hr : 0 ≤ r) : gi (C.set i.toNat z) r = if r = i then z else gi C r := by
  unfold gi
  rw [List.getD_eq_getElem?_getD, List.getD_eq_getElem?_getD]
  by_cases e : r = i
  · subst e; rw [if_pos rfl, List.getElem?_set_self (by omega)]; rfl
  · rw [if_neg e, List.getElem?_set_ne (by omega)]
theorem ci_0 {A : Mg} (h : Ok A) : CInv_ A 0 ((List.replicate (A.L.length + A.N.length) (0 : Int)).set A.r.toNat (2 ^ A.v.toNat)) := by
  have hr := h.rt
  have hr0 : 0 ≤ A.r := hr.1
  have hr1 : A.r < A.L.length + A.N.length := hr.2
  refine ⟨by simp, fun r h0 h1 => ?_⟩
  rw [gi_set hr0 (by simp; omega) h0]
  by_cases e : r = A.r
  · rw [if_pos e, e]; exact cnF_0.1.symm
  · rw [if_neg e, cnF_0.2 r e]
    unfold gi
    rw [List.getD_eq_getElem?_getD, List.getElem?_replicate]
    split <;> rfl
/-- One node. -/
noncomputable def ciS (A : Mg) (j : Int) (C : List Int) : List Int := (C.set (fk A.N j).l.toNat (gi C (fk A.N j).l + gi C (A.L.length + j) / 2)).set (fk A.N j).h.toNat (gi (C.set (fk A.N j).l.toNat (gi C (fk A.N j).l + gi C (A.L.length + j) / 2)) (fk A.N j).h + gi C (A.L.length + j) / 2)
theorem ci_step {A : Mg} (h : Ok A) {d : Nat} {C : List Int} {j : Int} (c : CInv_ A d C) (j0 : 0 ≤ j) (hj : j = A.N.length - (d + 1)) : CInv_ A (d + 1) (ciS A j C) := by
  have hb := h.loc.bd j j0 (by omega)
  have hl := c.len
  obtain ⟨_, hne, _, _, _⟩ := h.loc.nd j (by omega) (by omega)
  refine ⟨by unfold ciS; simp [hl], fun r h0 h1 => ?_⟩
  unfold ciS
  rw [gi_set hb.2.1 (by rw [List.length_set]; omega) h0, gi_set hb.1.1 (by omega) hb.2.1, gi_set hb.1.1 (by omega) h0, cnF_step h (d := d) (j := j) (r := r) (by omega) hj h0 (by omega), if_neg (show ¬ (fk A.N j).h = (fk A.N j).l from fun q => hne q.symm)]
  rw [c.at_ r h0 (by omega), c.at_ (A.L.length + j) (by omega) (by omega), c.at_ _ hb.1.1 (by omega), c.at_ _ hb.2.1 (by omega)]
  by_cases e1 : r = (fk A.N j).h
  · rw [if_pos e1, if_pos e1, if_neg (fun q => hne (q.symm.trans e1)), e1]; omega
  · rw [if_neg e1, if_neg e1]
    by_cases e2 : r = (fk A.N j).l
    · rw [if_pos e2, if_pos e2, e2]; omega
    · rw [if_neg e2, if_neg e2]; omega
theorem CInv_.bd {A : Mg} {d : Nat} {C : List Int} (c : CInv_ A d C) (h : Ok A) {r : Int} (h0 : 0 ≤ r) (h1 : r < A.L.length + (A.N.length - d)) : 0 ≤ gi C r ∧ gi C r ≤ 1099511627776 := by
  rw [c.at_ r h0 h1]
  have : 0 ≤ cnF A d r ∧ cnF A d r ≤ 2 ^ A.v.toNat := cA_bd A.v (fun e => fsD A e d = r)
  have h40 := h.1.2
  have := pow2_40 (n := A.v.toNat) (by omega)
  exact ⟨by omega, by omega⟩
/- pairs of numbers -/
structure P2 where
  a : Int
  b : Int
abbrev p2 (N : List P2) (i : Int) : P2 := N.getD i.toNat ⟨0, 0⟩
def p2c (n : P2) : List Value := [.int .i64 n.a, .int .i64 n.b]
def p2s (N : List P2) : List Value := N.flatMap p2c
theorem P2.eq {a b : P2} (h1 : a.a = b.a) (h2 : a.b = b.b) : a = b := by
  cases a; cases b; cases h1; cases h2; rfl
theorem p2_eq {a b : P2} (h : a.a = b.a ∧ a.b = b.b) : a = b := P2.eq h.1 h.2
theorem p2s_len (N : List P2) : (p2s N).length = N.length * 2 := by
  induction N with
  | nil => rfl
  | cons a l ih => show (p2c a ++ p2s l).length = _; rw [List.length_append, ih]; show 2 + _ = (l.length + 1) * 2; omega
theorem p2s_snoc (N : List P2) (n : P2) : p2s (N ++ [n]) = p2s N ++ [.int .i64 n.a, .int .i64 n.b] := by simp [p2s, p2c]
theorem p2s_get : ∀ (N : List P2) (i : Nat), i < N.length → ((p2s N).drop (i * 2)).take 2 = p2c (N.getD i ⟨0, 0⟩)
  | a :: l, 0, _ => rfl
  | a :: l, i + 1, h => by
    show ((p2c a ++ p2s l).drop ((i + 1) * 2)).take 2 = _
    rw [show (i + 1) * 2 = (p2c a).length + i * 2 by show _ = 2 + i * 2; omega, List.drop_length_add_append]
    exact p2s_get l i (by simpa using h)
theorem p2s_at {N : List P2} {i : Int} (_h0 : 0 ≤ i) (h1 : i < N.length) : ((p2s N).drop (i.toNat * 2)).take 2 = [.int .i64 (p2 N i).a, .int .i64 (p2 N i).b] := p2s_get N i.toNat (by omega)
theorem p2s_el {N : List P2} {i : Int} {o : Nat} {u : Value} (h0 : 0 ≤ i) (h1 : i < N.length) (ho : o < 2) (hu : [Value.int .i64 (p2 N i).a, .int .i64 (p2 N i).b][o]? = some u) : (p2s N)[i.toNat * 2 + o]? = some u := by
  rw [← hu, ← p2s_at h0 h1, List.getElem?_take, if_pos ho, List.getElem?_drop]
def P2s (H : HV) (v : Value) (N : List P2) : Prop := SlS 2 H v N.length (p2s N)
theorem P2s.mono {H H' : HV} {v : Value} {N : List P2} (h : P2s H v N) (s : Vc.Sub H H') : P2s H' v N := SlS.mono h s
theorem P2s.nil {H : HV} : P2s H (.slice none 0 0) [] := SlS.nil
theorem ext_p2 {A B : List P2} (hl : A.length = B.length) (h : ∀ x : Int, 0 ≤ x → x < A.length → p2 A x = p2 B x) : A = B := by
  refine List.ext_getElem? fun i => ?_
  by_cases hi : i < A.length
  · have := h i (by omega) (by omega)
    unfold p2 at this
    rw [List.getD_eq_getElem?_getD, List.getD_eq_getElem?_getD, Int.toNat_natCast, List.getElem?_eq_getElem hi, List.getElem?_eq_getElem (by omega)] at this
    rw [List.getElem?_eq_getElem hi, List.getElem?_eq_getElem (by omega)]
    exact congrArg some this
  · rw [List.getElem?_eq_none (by omega), List.getElem?_eq_none (by omega)]
/-- The histogram. -/
noncomputable def hgL (A : Mg) : List P2 := A.L.map fun z => ⟨z, ((vT A).count z : Nat)⟩
noncomputable def hgR (A : Mg) : List P2 := if Ok A then hgL A else []
noncomputable def hgN (A : Mg) (n : Nat) : List P2 := (hgL A).take n
theorem hg_len (A : Mg) : (hgL A).length = A.L.length := by unfold hgL; simp
theorem hgN_0 (A : Mg) : hgN A 0 = [] := rfl
theorem hgN_all {A : Mg} {n : Nat} (h : A.L.length ≤ n) : hgN A n = hgL A := List.take_of_length_le (by rw [hg_len]; exact h)
theorem hgN_step {A : Mg} (h : Ok A) {C : List Int} (c : CInv_ A A.N.length C) {i : Int} (h0 : 0 ≤ i) (h1 : i < A.L.length) : hgN A i.toNat ++ [(⟨gi A.L i, gi C i⟩ : P2)] = hgN A (i + 1).toNat := by
  have e : (hgL A)[i.toNat]? = some ⟨gi A.L i, gi C i⟩ := by
    unfold hgL
    rw [List.getElem?_map, List.getElem?_eq_getElem (by omega)]
    have e2 : A.L[i.toNat]'(by omega) = gi A.L i := by unfold gi; rw [List.getD_eq_getElem?_getD, List.getElem?_eq_getElem (by omega)]; rfl
    show some _ = some _
    rw [e2, c.at_ i h0 (by omega), cnF_end h h0 h1]
  unfold hgN
  rw [show (i + 1).toNat = i.toNat + 1 by omega, List.take_add_one, e]; rfl
end Go.Proofs.Ytkmhjcjpohpiaaa
