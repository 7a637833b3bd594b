/- The model's check: the order in which a walk finishes the nodes, the leaves that it marks. No program in sight. -/
import Derived.Test.YtkmhjcjpohpiaaaMtF
namespace Go.Proofs.Ytkmhjcjpohpiaaa
open Go Go.Vc
open Classical
/-- A diagram's graph, its leaves ranked by their places. -/
def mI (A : Mg) : Gph := { mG A with rk := id }
section
variable {A : Mg}
theorem mI_red (h : Loc A) : GRed A.v (mI A) := by
  have f := Loc.red h.nd
  exact ⟨f.vr, f.ne, f.lo, f.hi, f.uq⟩
theorem mI_ok (h : Loc A) : GOk A.v A.L.length (mI A) := { mI_red h with
  kr := fun r a b => ⟨a.1, b⟩
  kq := fun r s _ _ _ _ e => e }
theorem mI_gev (h : Loc A) (e : Int → Bool) {r : Int} (hr : (mI A).ok r) : gev (mG A) e r = gi A.L (gev (mI A) e r) :=
  gv_ext (mI_red h) (Loc.red h.nd) (fun r a => ⟨a, Iff.rfl, rfl⟩) (gi A.L) (fun r _ _ => rfl) e _ r hr (Nat.le_refl _)
theorem mI_rng (h : Loc A) (e : Int → Bool) : ∀ (k : Nat) (r : Int), (mI A).ok r → (mI A).mu r ≤ k → 0 ≤ gev (mI A) e r ∧ gev (mI A) e r < A.L.length
  | 0, r, hr, hk => by
    have hl : (mI A).lf r := by
      have hk : (r + 1 - A.L.length).toNat ≤ 0 := hk
      show r < A.L.length; omega
    rw [gev_lf hl]; exact ⟨hr.1, hl⟩
  | k + 1, r, hr, hk => by
    by_cases hl : (mI A).lf r
    · rw [gev_lf hl]; exact ⟨hr.1, hl⟩
    · have f := mI_red h
      have hlo := f.lo r hr hl
      have hhi := f.hi r hr hl
      rw [gev_step f hr hl]
      by_cases q : e ((mI A).nd r).v = true
      · rw [if_pos q]; exact mI_rng h e k _ hhi.1 (by omega)
      · rw [if_neg q]; exact mI_rng h e k _ hlo.1 (by omega)
theorem Loc.ss (h : Loc A) : A.L.Pairwise (· < ·) := by
  rw [List.pairwise_iff_getElem]
  have key : ∀ n i : Nat, i + n + 1 < A.L.length → gi A.L i < gi A.L ((i + n + 1 : Nat) : Int) := by
    intro n
    induction n with
    | zero =>
      intro i hi
      have := (h.lf ((i + 1 : Nat) : Int) (by omega) (by omega)).2 (by omega)
      rwa [show ((i + 1 : Nat) : Int) - 1 = i by omega] at this
    | succ n ih =>
      intro i hi
      have a := ih i (by omega)
      have b := (h.lf ((i + (n + 1) + 1 : Nat) : Int) (by omega) (by omega)).2 (by omega)
      rw [show ((i + (n + 1) + 1 : Nat) : Int) - 1 = ((i + n + 1 : Nat) : Int) by omega] at b
      omega
  intro i j hi hj hij
  have := key (j - i - 1) i (by omega)
  rw [show i + (j - i - 1) + 1 = j by omega] at this
  unfold gi at this
  rw [List.getD_eq_getElem?_getD, List.getD_eq_getElem?_getD, Int.toNat_natCast, Int.toNat_natCast, List.getElem?_eq_getElem hi, List.getElem?_eq_getElem hj] at this
  exact this
/-- A reference to which an assignment leads. -/
def Rch (A : Mg) (q : Int) : Prop := ∃ e : Int → Bool, ∀ e' : Int → Bool, (∀ i, i < lev A.v (mI A) q → e' i = e i) → gev (mI A) e' A.r = gev (mI A) e' q
theorem rch_root : Rch A A.r := ⟨fun _ => false, fun _ _ => rfl⟩
theorem rch_child (h : Loc A) {q : Int} (hq : (mI A).ok q) (hl : ¬ (mI A).lf q) (r : Rch A q) : Rch A ((mI A).nd q).l ∧ Rch A ((mI A).nd q).h := by
  obtain ⟨e, he⟩ := r
  have f := mI_red h
  have hlo := f.lo q hq hl
  have hhi := f.hi q hq hl
  have hll : lev A.v (mI A) q = ((mI A).nd q).v := lev_nd hl
  refine ⟨⟨up e ((mI A).nd q).v false, fun e' he' => ?_⟩, ⟨up e ((mI A).nd q).v true, fun e' he' => ?_⟩⟩
  · rw [he e' fun i hi => by rw [he' i (by omega)]; exact if_neg (by omega)]
    rw [gev_step f hq hl]
    have : e' ((mI A).nd q).v = false := by rw [he' _ hlo.2.2]; exact if_pos rfl
    rw [this]; rfl
  · rw [he e' fun i hi => by rw [he' i (by omega)]; exact if_neg (by omega)]
    rw [gev_step f hq hl]
    have : e' ((mI A).nd q).v = true := by rw [he' _ hhi.2.2]; exact if_pos rfl
    rw [this]; rfl
/-- The nodes that were finished, the places that the walk gave, the leaves that were marked. -/
structure FiS (A : Mg) (done : List Int) (M : List Bool) (s : Ly) : Prop where
  len : done.length = s.1.length
  at_ : ∀ k : Int, 0 ≤ k → k < done.length → s.2 (gi done k + A.L.length) = some (A.L.length + k)
  ml : M.length = A.L.length
  cl : ∀ r p : Int, ¬ (mI A).lf r → s.2 r = some p → ∀ c : Int, (c = ((mI A).nd r).l ∨ c = ((mI A).nd r).h) → c < A.L.length → gb M c = true
  rc : ∀ c : Int, 0 ≤ c → c < A.L.length → gb M c = true → Rch A c
theorem gb_rep {n : Nat} {c : Int} : gb (List.replicate n false) c = false := by
  unfold gb; rw [List.getD_eq_getElem?_getD, List.getElem?_replicate]; split <;> rfl
theorem fi0 : FiS A [] (List.replicate A.L.length false) ([], pl0 (mI A)) :=
  ⟨rfl, fun k h0 h1 => by have h1 : k < ((0 : Nat) : Int) := h1; omega, by simp, fun r p hl h => absurd (pl0_some h).1.2 hl, fun c _ _ h => by rw [gb_rep] at h; cases h⟩
theorem gb_set {M : List Bool} {i r : Int} {z : Bool} (h0 : 0 ≤ i) (h1 : i < M.length) (hr : 0 ≤ r) : gb (M.set i.toNat z) r = if r = i then z else gb M r := by
  unfold gb
  rw [List.getD_eq_getElem?_getD, List.getD_eq_getElem?_getD]
  by_cases e : r = i
  · subst e; rw [if_pos rfl, List.getElem?_set_self (by omega)]; rfl
  · rw [if_neg e, List.getElem?_set_ne (by omega)]
theorem gb_keep {M : List Bool} {i c : Int} (h0 : 0 ≤ i) (h1 : i < M.length) (h : gb M c = true) : gb (M.set i.toNat true) c = true := by
  unfold gb at h ⊢
  rw [List.getD_eq_getElem?_getD] at h ⊢
  by_cases e : c.toNat = i.toNat
  · rw [e, List.getElem?_set_self (by omega)]; rfl
  · rw [List.getElem?_set_ne (by omega)]; exact h
theorem fi_leaf {done : List Int} {M : List Bool} {s : Ly} {r : Int} (F : FiS A done M s) (h0 : 0 ≤ r) (h1 : r < A.L.length) (hr : Rch A r) : FiS A done (M.set r.toNat true) s := by
  have hm := F.ml
  refine ⟨F.len, F.at_, by rw [List.length_set]; exact hm, fun q p hl h c hc hk => gb_keep h0 (by omega) (F.cl q p hl h c hc hk), fun c c0 c1 h => ?_⟩
  rw [gb_set h0 (by omega) c0] at h
  by_cases e : c = r
  · rw [e]; exact hr
  · rw [if_neg e] at h; exact F.rc c c0 c1 h
/-- A node that has a place is among those that were finished. -/
theorem FiS.mem {done : List Int} {M : List Bool} {s : Ly} (f : FiS A done M s) (hI : LyI A.L.length (mI A) s) {r p : Int} (h2 : A.L.length ≤ r) (h : s.2 r = some p) : ∃ k : Int, 0 ≤ k ∧ k < done.length ∧ gi done k = r - A.L.length := by
  obtain ⟨q1, q2, q3⟩ := hI.rf r p h
  have hp := q3.1 (by show ¬ r < (A.L.length : Int); omega)
  have hp2 := q2.2
  have hl := f.len
  refine ⟨p - A.L.length, by omega, by omega, ?_⟩
  have := f.at_ (p - A.L.length) (by omega) (by omega)
  rw [show (A.L.length : Int) + (p - A.L.length) = p by omega] at this
  have := hI.inj _ _ _ this h
  omega
theorem FiS.only {done : List Int} {M : List Bool} {s : Ly} (f : FiS A done M s) {r k : Int} (h0 : 0 ≤ k) (h1 : k < done.length) (h : gi done k = r - A.L.length) : ∃ p, s.2 r = some p := by
  have := f.at_ k h0 h1
  rw [h, show r - A.L.length + A.L.length = r by omega] at this
  exact ⟨_, this⟩
theorem fi_push {done : List Int} {M : List Bool} {s : Ly} {r : Int} {n : Fk} (f : FiS A done M s) (hn : s.2 r = none) (_hl : ¬ (mI A).lf r) (hm : ∀ c : Int, (c = ((mI A).nd r).l ∨ c = ((mI A).nd r).h) → c < A.L.length → gb M c = true) :
    FiS A (done ++ [r - A.L.length]) M (s.1 ++ [n], setF s.2 r (A.L.length + (s.1.length : Int))) := by
  have hl := f.len
  refine ⟨by simp [hl], fun k h0 h1 => ?_, f.ml, fun q p hq h c hc hk => ?_, f.rc⟩
  · rw [List.length_append] at h1
    have h1 : k < ((done.length + 1 : Nat) : Int) := h1
    show setF s.2 r (A.L.length + (s.1.length : Int)) (gi (done ++ [r - A.L.length]) k + A.L.length) = _
    by_cases e : k = done.length
    · rw [e, gi_last, show r - (A.L.length : Int) + A.L.length = r by omega, setF_same, hl]
    · rw [gi_app h0 (by omega), setF_other, f.at_ k h0 (by omega)]
      intro q
      have := f.at_ k h0 (by omega)
      rw [q, hn] at this; cases this
  · by_cases e : q = r
    · subst e; exact hm c hc hk
    · have h : setF s.2 r (A.L.length + (s.1.length : Int)) q = some p := h
      rw [setF_other e] at h
      exact f.cl q p hq h c hc hk
/-- The state in which the walk from the root ends. -/
noncomputable abbrev visR (A : Mg) : Ly × Int := vis A.L.length (mI A) (A.r.toNat + 2) A.r ([], pl0 (mI A))
theorem mu_I {r : Int} (h0 : 0 ≤ r) : (mI A).mu r < r.toNat + 2 := by
  show (r + 1 - A.L.length).toNat < _; omega
theorem visR_ok (h : Loc A) : VisOk A.L.length (mI A) A.r ([], pl0 (mI A)) (visR A) := vis_ok (mI_ok h) (by omega) _ A.r _ h.rt (mu_I h.rt.1) (lyI0 (mI_ok h))
/-- The diagram of its values, if the leaves are the values. -/
theorem dgK (h : Loc A) (h0 : 0 ≤ A.v) (hV : A.L = vls (vT A)) : dg A.v (vT A) = ⟨A.v, A.L, (visR A).1.1, (visR A).2⟩ := by
  have e1 : (vT A).map (ix A.L) = tabv A.v fun e => gev (mI A) e A.r := by
    unfold vT tabv
    rw [tab_map]
    refine tab_congr _ _ _ fun e _ => ?_
    have r := mI_rng h e _ A.r h.rt (Nat.le_refl _)
    have q : vl A e = gi A.L (gev (mI A) e A.r) := mI_gev h e h.rt
    show ix A.L (vl A e) = _
    rw [q, ix_at h.ss r.1 r.2]
  have c := canon (mI_ok h) (by omega) A.v.toNat 0 A.r ([], pl0 (mI A)) e0 (A.r.toNat + 2) (lyI0 (mI_ok h)) h.rt (by omega) ((mI_red h).lev_nn h0 h.rt) (mu_I h.rt.1)
  have c : prt A.L.length A.v.toNat [] 0 (tabv A.v fun e => gev (mI A) e A.r) = ((visR A).1.1, (visR A).2) := c
  unfold dg
  rw [← hV, e1, c]
theorem fin_id (h : Loc A) {done : List Int} {M : List Bool} (F : FiS A done M (visR A).1) (hl : (done.length : Int) = A.N.length) (hid : ∀ i : Int, 0 ≤ i → i < done.length → gi done i = i) :
    (visR A).1.1 = A.N ∧ (visR A).2 = A.r := by
  have V := visR_ok h
  generalize visR A = x at V F
  have f := mI_red h
  have hp : ∀ r, (mI A).ok r → x.1.2 r = some r := fun r hr => by
    have h0 := hr.1
    have h1 : r < A.L.length + A.N.length := hr.2
    by_cases q : (mI A).lf r
    · exact V.inv.lf r hr q
    · have q : ¬ r < (A.L.length : Int) := q
      have := F.at_ (r - A.L.length) (by omega) (by omega)
      rw [hid (r - A.L.length) (by omega) (by omega)] at this
      rw [show r - (A.L.length : Int) + A.L.length = r by omega, show (A.L.length : Int) + (r - A.L.length) = r by omega] at this
      exact this
  have hlen := F.len
  refine ⟨ext_fk (by omega) (fun k k0 k1 => ?_), ?_⟩
  · have hk : (mI A).ok (A.L.length + k) := ⟨by omega, by show (A.L.length : Int) + k < A.L.length + A.N.length; omega⟩
    have hlf : ¬ (mI A).lf (A.L.length + k) := by show ¬ (A.L.length : Int) + k < A.L.length; omega
    obtain ⟨a, b, c1, c2, c3, c4, c5⟩ := V.inv.nd _ _ hlf (hp _ hk)
    have d1 := hp _ (f.lo _ hk hlf).1
    have d2 := hp _ (f.hi _ hk hlf).1
    rw [c1] at d1; rw [c2] at d2
    simp only [Option.some.injEq] at d1 d2
    have e3 : ond A.L.length x.1.1 (A.L.length + k) = (mI A).nd (A.L.length + k) := by rw [c5, d1, d2]
    have e4 : (mI A).nd (A.L.length + k) = fk A.N k := by show fk A.N ((A.L.length : Int) + k - A.L.length) = _; rw [show (A.L.length : Int) + k - A.L.length = k by omega]
    have e5 : ond A.L.length x.1.1 (A.L.length + k) = fk x.1.1 k := by unfold ond fk; rw [show (A.L.length : Int) + k - A.L.length = k by omega]
    rw [← e5, e3, e4]
  · have := V.at_
    rw [hp _ h.rt] at this
    simp only [Option.some.injEq] at this
    exact this.symm
theorem id_fin (h : Loc A) {done : List Int} {M : List Bool} (F : FiS A done M (visR A).1) (h1 : (visR A).1.1 = A.N) : (done.length : Int) = A.N.length ∧ ∀ i : Int, 0 ≤ i → i < done.length → gi done i = i := by
  have V := visR_ok h
  generalize visR A = x at V F h1
  have f := mI_red h
  have hlen := F.len
  rw [h1] at hlen
  refine ⟨by omega, ?_⟩
  suffices hh : ∀ n : Nat, ∀ i : Int, 0 ≤ i → i < n → i < done.length → gi done i = i from fun i h0 hi => hh done.length i h0 hi hi
  intro n
  induction n with
  | zero => intro i h0 hn; omega
  | succ n ih =>
    intro i h0 hn hi
    by_cases hlt : i < n
    · exact ih i h0 hlt hi
    have at1 := F.at_ i h0 hi
    generalize hd : gi done i + A.L.length = r at at1
    obtain ⟨q1, q2, q3⟩ := V.inv.rf r _ at1
    have hr2 : ¬ (mI A).lf r := q3.2 (by omega)
    obtain ⟨a, b, c1, c2, c3, c4, c5⟩ := V.inv.nd r _ hr2 at1
    have key : ∀ c p : Int, x.1.2 c = some p → p < A.L.length + i → p = c := fun c p hc hp => by
      obtain ⟨u1, u2, u3⟩ := V.inv.rf c p hc
      by_cases h2 : A.L.length ≤ p
      · have := F.at_ (p - A.L.length) (by omega) (by omega)
        rw [ih (p - A.L.length) (by omega) (by omega) (by omega), show p - (A.L.length : Int) + A.L.length = p by omega, show (A.L.length : Int) + (p - A.L.length) = p by omega] at this
        exact V.inv.inj _ _ _ this hc
      · have hlf : (mI A).lf c := Classical.byContradiction fun q => h2 (u3.1 q)
        have := V.inv.lf c u1 hlf
        rw [hc] at this
        exact Option.some.inj this
    have e5 : ond A.L.length x.1.1 (A.L.length + i) = fk A.N i := by unfold ond fk; rw [show (A.L.length : Int) + i - A.L.length = i by omega, h1]
    rw [e5, key _ _ c1 c3, key _ _ c2 c4] at c5
    have hk : (mI A).ok (A.L.length + i) := ⟨by omega, by show (A.L.length : Int) + i < A.L.length + A.N.length; omega⟩
    have hlf : ¬ (mI A).lf (A.L.length + i) := by show ¬ (A.L.length : Int) + i < A.L.length; omega
    have e4 : (mI A).nd (A.L.length + i) = fk A.N i := by show fk A.N ((A.L.length : Int) + i - A.L.length) = _; rw [show (A.L.length : Int) + i - A.L.length = i by omega]
    have := f.uq (A.L.length + i) r hk hlf q1 hr2 (by rw [e4]; exact c5)
    omega
/-- What leads to a marked leaf. -/
theorem mark_all (h : Loc A) {done : List Int} {M : List Bool} {x : Ly} (I : LyI A.L.length (mI A) x) (F : FiS A done M x) (e : Int → Bool) : ∀ (k : Nat) (r : Int), (mI A).ok r → (mI A).mu r ≤ k → (r < A.L.length → gb M r = true) → (¬ (mI A).lf r → ∃ p, x.2 r = some p) → gb M (gev (mI A) e r) = true
  | 0, r, hr, hk, h1, _ => by
    have hl : (mI A).lf r := by
      have hk : (r + 1 - A.L.length).toNat ≤ 0 := hk
      show r < A.L.length; omega
    rw [gev_lf hl]; exact h1 hl
  | k + 1, r, hr, hk, h1, h2 => by
    by_cases hl : (mI A).lf r
    · rw [gev_lf hl]; exact h1 hl
    · have f := mI_red h
      have hlo := f.lo r hr hl
      have hhi := f.hi r hr hl
      obtain ⟨p, hp⟩ := h2 hl
      obtain ⟨a, b, c1, c2, _⟩ := I.nd r p hl hp
      rw [gev_step f hr hl]
      by_cases q : e ((mI A).nd r).v = true
      · rw [if_pos q]; exact mark_all h I F e k _ hhi.1 (by omega) (fun z => F.cl r p hl hp _ (.inr rfl) z) (fun _ => ⟨b, c2⟩)
      · rw [if_neg q]; exact mark_all h I F e k _ hlo.1 (by omega) (fun z => F.cl r p hl hp _ (.inl rfl) z) (fun _ => ⟨a, c1⟩)
/-- The model's conditions at the end of its walk. -/
theorem chk_fin (h : Loc A) (h0 : 0 ≤ A.v) {done : List Int} {M : List Bool} (F : FiS A done M (visR A).1) (hr : A.r < A.L.length → gb M A.r = true) :
    dg A.v (vT A) = A ↔ (((done.length : Int) = A.N.length ∧ ∀ i : Int, 0 ≤ i → i < done.length → gi done i = i) ∧ ∀ c : Int, 0 ≤ c → c < A.L.length → gb M c = true) := by
  have hdep : Dep A.v (vl A) := gev_dep (Loc.red h.nd) h0 h.rt
  have hvl : ∀ e, vl A e = gi A.L (gev (mI A) e A.r) := fun e => mI_gev h e h.rt
  constructor
  · intro hd
    have hV : A.L = vls (vT A) := (congrArg Mg.L hd).symm
    have k := dgK h h0 hV
    rw [hd] at k
    have n1 : (visR A).1.1 = A.N := (congrArg Mg.N k).symm
    refine ⟨id_fin h F n1, fun c c0 c1 => ?_⟩
    have hm : gi A.L c ∈ vT A := vls_mem.1 (hV ▸ gi_mem c0 c1)
    obtain ⟨e, he⟩ := (tabv_mem h0 hdep).1 hm
    have r := mI_rng h e _ A.r h.rt (Nat.le_refl _)
    rw [hvl] at he
    have := ss_inj h.ss r.1 r.2 c0 c1 he
    rw [← this]
    have V := visR_ok h
    exact mark_all h V.inv F e _ A.r h.rt (Nat.le_refl _) hr fun _ => ⟨_, V.at_⟩
  · rintro ⟨⟨a, b⟩, c⟩
    have hV : A.L = vls (vT A) := vls_eq h.ss fun z => by
      rw [tabv_mem h0 hdep]
      constructor
      · intro hz
        obtain ⟨i, hi, rfl⟩ := pos_of_getD hz
        obtain ⟨e, he⟩ := F.rc (i : Int) (by omega) (by omega) (c i (by omega) (by omega))
        refine ⟨e, ?_⟩
        rw [hvl, he e fun _ _ => rfl, gev_lf (G := mI A) (show (i : Int) < A.L.length by omega)]; rfl
      · rintro ⟨e, rfl⟩
        have r := mI_rng h e _ A.r h.rt (Nat.le_refl _)
        rw [hvl]; exact gi_mem r.1 r.2
    obtain ⟨n1, n2⟩ := fin_id h F a b
    rw [dgK h h0 hV, n1, n2]
/-- Finished in ascending order: each at its place. -/
theorem sorted_id {done : List Int} {M : List Bool} {s : Ly} (hI : LyI A.L.length (mI A) s) (F : FiS A done M s) (hl : (done.length : Int) = A.N.length) (hs : ∀ i : Int, 0 < i → i < done.length → gi done (i - 1) ≤ gi done i) : ∀ i : Int, 0 ≤ i → i < done.length → gi done i = i := by
  have bd : ∀ i : Int, 0 ≤ i → i < done.length → 0 ≤ gi done i ∧ gi done i < done.length := fun i h0 h1 => by
    have a := F.at_ i h0 h1
    obtain ⟨q1, q2, q3⟩ := hI.rf _ _ a
    have q4 := q3.2 (by omega)
    have q4 : ¬ gi done i + A.L.length < (A.L.length : Int) := q4
    have q5 : gi done i + A.L.length < A.L.length + A.N.length := q1.2
    omega
  have st : ∀ i : Int, 0 < i → i < done.length → gi done (i - 1) < gi done i := fun i h0 h1 => by
    have h := hs i h0 h1
    have a := F.at_ i (by omega) h1
    have b := F.at_ (i - 1) (by omega) (by omega)
    by_cases e : gi done (i - 1) = gi done i
    · rw [e] at b; rw [a] at b
      have := Option.some.inj b
      omega
    · omega
  have lo : ∀ n : Nat, ∀ i : Int, i = n → i < done.length → i ≤ gi done i := by
    intro n
    induction n with
    | zero => intro i hi h1; have := bd i (by omega) h1; omega
    | succ n ih =>
      intro i hi h1
      have a := ih (i - 1) (by omega) (by omega)
      have b := st i (by omega) h1
      omega
  have hi : ∀ n : Nat, ∀ i : Int, 0 ≤ i → i = done.length - 1 - n → gi done i ≤ i := by
    intro n
    induction n with
    | zero => intro i h0 h1; have := bd i h0 (by omega); omega
    | succ n ih =>
      intro i h0 h1
      have a := ih (i + 1) (by omega) (by omega)
      have b := st (i + 1) (by omega) (by omega)
      rw [show i + 1 - 1 = i by omega] at b
      omega
  intro i h0 h1
  have a := lo i.toNat i (by omega) h1
  have b := hi (done.length - 1 - i.toNat) i h0 (by omega)
  omega
end
end Go.Proofs.Ytkmhjcjpohpiaaa
