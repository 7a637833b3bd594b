/- Combinations as tables; what makes a diagram valid. No program in sight. -/
import Derived.Test.YtkmhjcjpohpiaaaMtQ
import Derived.Test.YtkmhjcjpohpiaaaVcI
namespace Go.Proofs.Ytkmhjcjpohpiaaa
open Go Go.Vc
open Classical
/-- The code of the diagram of a table, and the diagram. -/
noncomputable def mkE (vars : Int) (t : List Int) : Int := if ∃ z ∈ t, ¬ inR z then 3 else if big (dg vars t) then 4 else 0
noncomputable def mkD (vars : Int) (t : List Int) : Mg := orZ (dg vars t) (mkE vars t)
theorem fin_mk {vars : Int} {L : List Int} {t : List Int} (h : wd L ↔ ∃ z ∈ t, ¬ inR z) : finE L (dg vars t) = mkE vars t := by
  unfold finE mkE
  by_cases q : wd L
  · rw [if_pos q, if_pos (h.1 q)]
  · rw [if_neg q, if_neg fun z => q (h.2 z)]
theorem bok_val {vars : Int} {L : List Int} {N : List Fk} {root : Int} (b : BOk vars L N) (hr : (bV L N).ok root) (e : Int → Bool) : gev (bV L N) e root ∈ L := by
  obtain ⟨i, hi, h⟩ := oE_val b hr e
  rw [← h]
  have := lv_bd b hr hi
  exact gi_mem this.1 this.2
/-- Out of range: the builder's leaves, the values. -/
theorem wd_tab {vars : Int} {L : List Int} {N : List Fk} {root : Int} {f : (Int → Bool) → Int} (hv : 0 ≤ vars) (b : BOk vars L N) (hr : (bV L N).ok root) (hf : ∀ e, gev (bV L N) e root = f e) (hd : Dep vars f) (hrch : ∀ z ∈ L, (∃ e, f e = z) ∨ inR z) : wd L ↔ ∃ z ∈ tabv vars f, ¬ inR z := by
  constructor
  · rintro ⟨z, hz, hn⟩
    exact ⟨z, (tabv_mem hv hd).2 ((hrch z hz).resolve_right hn), hn⟩
  · rintro ⟨z, hz, hn⟩
    obtain ⟨e, rfl⟩ := (tabv_mem hv hd).1 hz
    exact ⟨f e, by rw [← hf]; exact bok_val b hr e, hn⟩
theorem bD_eq {vars : Int} {L : List Int} {N : List Fk} {root : Int} {f : (Int → Bool) → Int} (hf : ∀ e, gev (bV L N) e root = f e) : bD vars L N root = dg vars (tabv vars f) := by
  unfold bD
  rw [show (fun e => gev (bV L N) e root) = f from funext hf]
theorem gF_dep {vars : Int} {Ds : List Mg} {F : Int → Int → Int → Int} {k : K3r} (d : DsOk vars Ds) (hk : KOk Ds k) : Dep vars (gF Ds F k) := fun e e' h => by
  have each : ∀ i : Nat, i < 3 → gev (mG (dm Ds i)) e (kg k i) = gev (mG (dm Ds i)) e' (kg k i) := fun i hi => gev_dep (d.red i (by omega)) d.v0 (hk i (by omega) (by omega)).1 e e' h
  unfold gF
  have e0 := each 0 (by omega)
  have e1 := each 1 (by omega)
  have e2 := each 2 (by omega)
  simp only [show ((0 : Nat) : Int) = 0 from rfl, show ((1 : Nat) : Int) = 1 from rfl, show ((2 : Nat) : Int) = 2 from rfl] at e0 e1 e2
  rw [e0, e1, e2]
/-- The table of a combination. -/
noncomputable abbrev cT (vars : Int) (Ds : List Mg) (F : Int → Int → Int → Int) : List Int := tabv vars (gF Ds F (rt Ds))
theorem made_mk {vars : Int} {Ds : List Mg} {F : Int → Int → Int → Int} {L : List Int} {M : List Fk} {p : Int} (d : DsOk vars Ds) (hr : Rts Ds) (b : BOk vars L M) (s : Std vars Ds F L M (rt Ds) p) (hrch : ∀ z ∈ L, z ∈ ([] : List Int) ∨ ∃ e, gF Ds F (rt Ds) e = z) :
    bD vars L M p = dg vars (cT vars Ds F) ∧ finE L (bD vars L M p) = mkE vars (cT vars Ds F) := by
  have e := bD_eq (vars := vars) s.val
  refine ⟨e, ?_⟩
  rw [e]
  exact fin_mk (wd_tab d.v0 b s.rf s.val (gF_dep d (rt_ok hr)) fun z hz => .inl ((hrch z hz).resolve_left (by simp)))
/- what a diagram is checked for -/
/-- A reference below the node at place j. -/
def Chk (A : Mg) (j r : Int) : Prop := 0 ≤ r ∧ r < A.L.length + j ∧ (fk A.N j).v < tp A r
def Nok (A : Mg) (j : Int) : Prop :=
  0 ≤ (fk A.N j).v ∧ (fk A.N j).l ≠ (fk A.N j).h ∧ (∀ k : Int, 0 ≤ k → k < j → fk A.N k ≠ fk A.N j) ∧ Chk A j (fk A.N j).l ∧ Chk A j (fk A.N j).h
def Lok (A : Mg) (i : Int) : Prop := inR (gi A.L i) ∧ (0 < i → gi A.L (i - 1) < gi A.L i)
structure Loc (A : Mg) : Prop where
  lf : ∀ i : Int, 0 ≤ i → i < A.L.length → Lok A i
  nd : ∀ j : Int, 0 ≤ j → j < A.N.length → Nok A j
  rt : 0 ≤ A.r ∧ A.r < A.L.length + A.N.length
theorem Loc.red {A : Mg} (h : ∀ j : Int, 0 ≤ j → j < A.N.length → Nok A j) : GRed A.v (mG A) := by
  have key : ∀ r, (mG A).ok r → ¬ (mG A).lf r → 0 ≤ r - A.L.length ∧ r - A.L.length < A.N.length := fun r hr hl => by
    have h1 := hr.2
    have hl : ¬ r < A.L.length := hl
    omega
  have lvl : ∀ r, tp A r = lev A.v (mG A) r := fun r => tp_lev rfl
  have tple : ∀ (k : Nat) (r : Int), (mG A).ok r → (mG A).mu r ≤ k → tp A r ≤ A.v := by
    intro k
    induction k with
    | zero =>
      intro r hr hk
      by_cases q : r < A.L.length
      · rw [tp_l q]; omega
      · have hk : (r + 1 - A.L.length).toNat ≤ 0 := hk
        omega
    | succ k ih =>
      intro r hr hk
      by_cases q : r < A.L.length
      · rw [tp_l q]; omega
      · have hb := key r hr q
        obtain ⟨_, _, _, c, _⟩ := h _ hb.1 hb.2
        obtain ⟨c1, c2, c3⟩ := c
        have hk : (r + 1 - A.L.length).toNat ≤ k + 1 := hk
        have := ih (fk A.N (r - A.L.length)).l ⟨c1, by omega⟩ (by show ((fk A.N (r - A.L.length)).l + 1 - A.L.length).toNat ≤ k; omega)
        rw [tp_n q]
        omega
  refine ⟨fun r hr hl => ?_, fun r hr hl => ?_, fun r hr hl => ?_, fun r hr hl => ?_, fun r s hr hl hs hl' e => ?_⟩
  · have hb := key r hr hl
    obtain ⟨a, _, _, c, _⟩ := h _ hb.1 hb.2
    obtain ⟨c1, c2, c3⟩ := c
    have := tple _ (fk A.N (r - A.L.length)).l ⟨c1, by omega⟩ (Nat.le_refl _)
    exact ⟨a, by show (fk A.N (r - A.L.length)).v < A.v; omega⟩
  · have hb := key r hr hl
    exact (h _ hb.1 hb.2).2.1
  · have hb := key r hr hl
    obtain ⟨_, _, _, ⟨c1, c2, c3⟩, _⟩ := h _ hb.1 hb.2
    rw [lvl] at c3
    exact ⟨⟨c1, by show (fk A.N (r - A.L.length)).l < _; omega⟩, by show ((fk A.N (r - A.L.length)).l + 1 - A.L.length).toNat < (r + 1 - A.L.length).toNat; omega, c3⟩
  · have hb := key r hr hl
    obtain ⟨_, _, _, _, ⟨c1, c2, c3⟩⟩ := h _ hb.1 hb.2
    rw [lvl] at c3
    exact ⟨⟨c1, by show (fk A.N (r - A.L.length)).h < _; omega⟩, by show ((fk A.N (r - A.L.length)).h + 1 - A.L.length).toNat < (r + 1 - A.L.length).toNat; omega, c3⟩
  · have hb := key r hr hl
    have hb' := key s hs hl'
    have e : fk A.N (r - A.L.length) = fk A.N (s - A.L.length) := e
    by_cases q : r < s
    · exact absurd e ((h _ hb'.1 hb'.2).2.2.1 _ hb.1 (by omega))
    · by_cases q2 : s < r
      · exact absurd e.symm ((h _ hb.1 hb.2).2.2.1 _ hb'.1 (by omega))
      · omega
/-- The values of a diagram. -/
noncomputable abbrev vl (A : Mg) (e : Int → Bool) : Int := gev (mG A) e A.r
noncomputable abbrev vT (A : Mg) : List Int := tabv A.v (vl A)
def fm (A : Mg) : Prop := Loc A ∧ dg A.v (vT A) = A
/-- A valid diagram. -/
def Ok (A : Mg) : Prop := (0 ≤ A.v ∧ A.v ≤ 40) ∧ (A.L.length ≤ 4096 ∧ A.N.length ≤ 4096) ∧ fm A
noncomputable def chkC (A : Mg) : Int := if A.v < 0 ∨ 40 < A.v then 3 else if 4096 < A.L.length ∨ 4096 < A.N.length then 4 else if fm A then 0 else 1
section
variable {A : Mg}
theorem chk_3 (h : A.v < 0 ∨ 40 < A.v) : chkC A = 3 := if_pos h
theorem chk_4 (h : ¬ (A.v < 0 ∨ 40 < A.v)) (h2 : 4096 < A.L.length ∨ 4096 < A.N.length) : chkC A = 4 := by unfold chkC; rw [if_neg h, if_pos h2]
theorem chk_1 (h : ¬ (A.v < 0 ∨ 40 < A.v)) (h2 : ¬ (4096 < A.L.length ∨ 4096 < A.N.length)) (h3 : ¬ fm A) : chkC A = 1 := by unfold chkC; rw [if_neg h, if_neg h2, if_neg h3]
theorem chk_0 (h : Ok A) : chkC A = 0 := by
  have h1 := h.1
  have h2 := h.2.1
  unfold chkC; rw [if_neg (by omega), if_neg (by omega), if_pos h.2.2]
theorem chk_ok : chkC A = 0 ↔ Ok A := by
  refine ⟨fun h => ?_, chk_0⟩
  by_cases h1 : A.v < 0 ∨ 40 < A.v
  · rw [chk_3 h1] at h; omega
  · by_cases h2 : 4096 < A.L.length ∨ 4096 < A.N.length
    · rw [chk_4 h1 h2] at h; omega
    · by_cases h3 : fm A
      · exact ⟨by omega, by omega, h3⟩
      · rw [chk_1 h1 h2 h3] at h; omega
theorem Ok.red (h : Ok A) : GRed A.v (mG A) := Loc.red h.2.2.1.nd
theorem Ok.rt (h : Ok A) : (mG A).ok A.r := h.2.2.1.rt
theorem Ok.rng (h : Ok A) : ∀ z ∈ A.L, inR z := fun z hz => by
  obtain ⟨i, hi, e⟩ := pos_of_getD hz
  rw [← e]
  exact (h.2.2.1.lf i (by omega) (by omega)).1
/-- What its own combination says. -/
theorem fm_iff (hl : A.L.length ≤ 4096 ∧ A.N.length ≤ 4096) (hloc : Loc A) : (mkE A.v (vT A) = 0 ∧ A.L = (mkD A.v (vT A)).L ∧ A.N = (mkD A.v (vT A)).N ∧ A.r = (mkD A.v (vT A)).r) ↔ fm A := by
  constructor
  · rintro ⟨h0, h1, h2, h3⟩
    unfold mkD at h1 h2 h3
    rw [h0, orZ_0] at h1 h2 h3
    exact ⟨hloc, mg_ext rfl h1.symm h2.symm h3.symm⟩
  · rintro ⟨_, h⟩
    have hm : mkE A.v (vT A) = 0 := by
      unfold mkE
      have h2 : ¬ ∃ z ∈ vT A, ¬ inR z := fun ⟨z, hz, hn⟩ => by
        have hz2 : z ∈ A.L := by
          have e : A.L = vls (vT A) := (congrArg Mg.L h).symm
          rw [e]; exact vls_mem.2 hz
        obtain ⟨i, hi, e⟩ := pos_of_getD hz2
        exact hn (by rw [← e]; exact (hloc.lf i (by omega) (by omega)).1)
      rw [if_neg h2, if_neg]
      unfold big
      rw [h]; omega
    unfold mkD
    rw [hm, orZ_0, h]
    exact ⟨rfl, rfl, rfl, rfl⟩
end
theorem ds1 {A : Mg} (hv : 0 ≤ A.v ∧ A.v ≤ 40) (h : Loc A) : DsOk A.v [A] ∧ SameV A.v [A] ∧ Rng [A] ∧ Rts [A] := by
  have one : ∀ i : Int, 0 ≤ i → i < ([A] : List Mg).length → dm [A] i = A := fun i h0 h1 => by
    have h1 : i < ((1 : Nat) : Int) := h1
    have : i = 0 := by omega
    subst this; rfl
  refine ⟨⟨hv.1, hv.2, by show 1 ≤ 3; omega, fun i h0 => ?_⟩, fun i h0 h1 => by rw [one i h0 h1], fun i h0 h1 z hz => ?_, fun i h0 h1 => by rw [one i h0 h1]; exact h.rt⟩
  · by_cases q : i < ([A] : List Mg).length
    · rw [one i h0 q]; exact Loc.red h.nd
    · rw [dm_out h0 (by omega)]; exact red_m0
  · rw [one i h0 h1] at hz
    obtain ⟨i, hi, e⟩ := pos_of_getD hz
    rw [← e]
    exact (h.lf i (by omega) (by omega)).1
/- what makes a list valid -/
def Vld (D : List Mg) : Prop := ∀ i : Int, 0 ≤ i → i < D.length → Ok (dm D i)
def Sam (D : List Mg) : Prop := ∀ i : Int, 0 ≤ i → i < D.length → (dm D i).v = (dm D 0).v
noncomputable def vE (D : List Mg) : Int := if Vld D then if Sam D then 0 else 2 else 1
theorem vE_1 {D : List Mg} (h : ¬ Vld D) : vE D = 1 := if_neg h
theorem vE_2 {D : List Mg} (h : Vld D) (h2 : ¬ Sam D) : vE D = 2 := by unfold vE; rw [if_pos h, if_neg h2]
theorem vE_0 {D : List Mg} (h : Vld D) (h2 : Sam D) : vE D = 0 := by unfold vE; rw [if_pos h, if_pos h2]
theorem vE_ok {D : List Mg} : vE D = 0 ↔ Vld D ∧ Sam D := by
  refine ⟨fun h => ?_, fun h => vE_0 h.1 h.2⟩
  by_cases h1 : Vld D
  · by_cases h2 : Sam D
    · exact ⟨h1, h2⟩
    · rw [vE_2 h1 h2] at h; omega
  · rw [vE_1 h1] at h; omega
theorem vld1 {A : Mg} : Vld [A] ↔ Ok A := ⟨fun h => h 0 (by omega) (by show (0 : Int) < ((1 : Nat) : Int); omega), fun h i h0 h1 => by
  have h1 : i < ((1 : Nat) : Int) := h1
  have : i = 0 := by omega
  subst this; exact h⟩
theorem sam1 {A : Mg} : Sam [A] := fun i h0 h1 => by
  have h1 : i < ((1 : Nat) : Int) := h1
  have : i = 0 := by omega
  subst this; rfl
/-- Lists of valid diagrams can be combined. -/
structure Cmb (Ds : List Mg) : Prop where
  ok : DsOk (dm Ds 0).v Ds
  sv : SameV (dm Ds 0).v Ds
  rg : Rng Ds
  rt : Rts Ds
theorem cmb_of {Ds : List Mg} (h : Vld Ds) (hs : Sam Ds) (h1 : 1 ≤ Ds.length) (h3 : Ds.length ≤ 3) : Cmb Ds := by
  have o0 := h 0 (by omega) (by omega)
  refine ⟨⟨o0.1.1, o0.1.2, h3, fun i h0 => ?_⟩, hs, fun i h0 h1 => (h i h0 h1).rng, fun i h0 h1 => (h i h0 h1).rt⟩
  by_cases q : i < Ds.length
  · have := (h i h0 q).red
    rwa [hs i h0 q] at this
  · rw [dm_out h0 (by omega)]; exact red_m0
theorem vld2 {A B : Mg} : Vld [A, B] ↔ Ok A ∧ Ok B := ⟨fun h => ⟨h 0 (by omega) (by show (0 : Int) < ((2 : Nat) : Int); omega), h 1 (by omega) (by show (1 : Int) < ((2 : Nat) : Int); omega)⟩, fun h i h0 h1 => by
  have h1 : i < ((2 : Nat) : Int) := h1
  rcases (show i = 0 ∨ i = 1 by omega) with rfl | rfl
  · exact h.1
  · exact h.2⟩
theorem sam2 {A B : Mg} : Sam [A, B] ↔ A.v = B.v := ⟨fun h => (h 1 (by omega) (by show (1 : Int) < ((2 : Nat) : Int); omega)).symm, fun h i h0 h1 => by
  have h1 : i < ((2 : Nat) : Int) := h1
  rcases (show i = 0 ∨ i = 1 by omega) with rfl | rfl
  · rfl
  · exact h.symm⟩
/- the nodes that were seen -/
noncomputable def seenB (N : List Fk) (i : Nat) : Fk → Option Bool := fun n => if n ∈ N.take i then some true else none
theorem seenB_0 (N : List Fk) : seenB N 0 = fun _ => none := funext fun n => by unfold seenB; rw [if_neg (by simp)]
theorem fk_mem {N : List Fk} {n : Fk} {i : Nat} : n ∈ N.take i ↔ ∃ k : Int, 0 ≤ k ∧ k < i ∧ k < N.length ∧ fk N k = n := by
  constructor
  · intro h
    obtain ⟨k, hk, e⟩ := List.getElem_of_mem h
    have hk2 : k < i ∧ k < N.length := by simp at hk; omega
    refine ⟨k, by omega, by omega, by omega, ?_⟩
    rw [List.getElem_take] at e
    show N.getD _ _ = _
    rw [List.getD_eq_getElem?_getD, show (k : Int).toNat = k by omega, List.getElem?_eq_getElem hk2.2]; exact e
  · rintro ⟨k, h0, h1, h2, rfl⟩
    have h3 : k.toNat < N.length := by omega
    have e : fk N k = (N.take i)[k.toNat]'(by simp; omega) := by
      rw [List.getElem_take]
      show N.getD _ _ = _
      rw [List.getD_eq_getElem?_getD, List.getElem?_eq_getElem h3]; rfl
    rw [e]; exact List.getElem_mem _
theorem seenB_iff {N : List Fk} {n : Fk} {i : Nat} : (seenB N i n).getD false = true ↔ ∃ k : Int, 0 ≤ k ∧ k < i ∧ k < N.length ∧ fk N k = n := by
  rw [← fk_mem]
  unfold seenB
  by_cases h : n ∈ N.take i
  · rw [if_pos h]; simp [h]
  · rw [if_neg h]; simp [h]
theorem seenB_step {N : List Fk} {i : Int} (h0 : 0 ≤ i) (h1 : i < N.length) : setF (seenB N i.toNat) (fk N i) true = seenB N (i + 1).toNat := by
  funext n
  have key : n ∈ N.take (i + 1).toNat ↔ n = fk N i ∨ n ∈ N.take i.toNat := by
    rw [fk_mem, fk_mem]
    constructor
    · rintro ⟨k, a, b, c, rfl⟩
      by_cases q : k = i
      · subst q; exact Or.inl rfl
      · exact Or.inr ⟨k, a, by omega, c, rfl⟩
    · rintro (rfl | ⟨k, a, b, c, rfl⟩)
      · exact ⟨i, h0, by omega, h1, rfl⟩
      · exact ⟨k, a, by omega, c, rfl⟩
  unfold seenB
  by_cases e : n = fk N i
  · subst e; rw [setF_same, if_pos (key.2 (Or.inl rfl))]
  · rw [setF_other e]
    by_cases q : n ∈ N.take i.toNat
    · rw [if_pos q, if_pos (key.2 (Or.inr q))]
    · rw [if_neg q, if_neg (fun z => (key.1 z).elim e q)]
end Go.Proofs.Ytkmhjcjpohpiaaa
