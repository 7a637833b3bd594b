/- The order of a builder's references: the walk that marks what it has seen, and the diagram that it lays out. No program in sight. -/
import Derived.Test.YtkmhjcjpohpiaaaMtW
namespace Go.Proofs.Ytkmhjcjpohpiaaa
open Go Go.Vc
open Classical
structure Os where
  sn : Int → Option Bool
  lv : List Int
  nd : List Int
abbrev seen (s : Os) (r : Int) : Prop := (s.sn r).getD false = true
abbrev os0 : Os := ⟨fun _ => none, [], []⟩
noncomputable abbrev osm (s : Os) (r : Int) : Os := ⟨setF s.sn r true, s.lv, s.nd⟩
noncomputable def ordF (N : List Fk) : Nat → Int → Os → Os
  | 0, _, s => s
  | k + 1, r, s => if seen s r then s else if r % 2 = 0 then ⟨setF s.sn r true, s.lv ++ [r / 2], s.nd⟩
    else ⟨(ordF N k (fk N (r / 2)).h (ordF N k (fk N (r / 2)).l (osm s r))).sn, (ordF N k (fk N (r / 2)).h (ordF N k (fk N (r / 2)).l (osm s r))).lv, (ordF N k (fk N (r / 2)).h (ordF N k (fk N (r / 2)).l (osm s r))).nd ++ [r / 2]⟩
theorem ord_hit {N : List Fk} {k : Nat} {r : Int} {s : Os} (h : seen s r) : ordF N (k + 1) r s = s := by unfold ordF; rw [if_pos h]
theorem ord_leaf {N : List Fk} {k : Nat} {r : Int} {s : Os} (h : ¬ seen s r) (h2 : r % 2 = 0) : ordF N (k + 1) r s = ⟨setF s.sn r true, s.lv ++ [r / 2], s.nd⟩ := by rw [ordF, if_neg h, if_pos h2]
theorem ord_node {N : List Fk} {k : Nat} {r : Int} {s a b : Os} (h : ¬ seen s r) (h2 : ¬ r % 2 = 0) (ha : a = ordF N k (fk N (r / 2)).l (osm s r)) (hb : b = ordF N k (fk N (r / 2)).h a) : ordF N (k + 1) r s = ⟨b.sn, b.lv, b.nd ++ [r / 2]⟩ := by
  rw [ordF, if_neg h, if_neg h2, ← ha, ← hb]
theorem seen_set {s : Os} {r q : Int} {l n : List Int} : seen ⟨setF s.sn r true, l, n⟩ q ↔ q = r ∨ seen s q := by
  by_cases e : q = r
  · subst e; show (setF s.sn q true q).getD false = true ↔ _; rw [setF_same]; simp
  · show (setF s.sn r true q).getD false = true ↔ _; rw [setF_other e]; simp [e]
/-- What one walk does. -/
structure OrdOk (L : List Int) (N : List Fk) (r : Int) (s s' : Os) : Prop where
  mono : ∀ q, seen s q → seen s' q
  at_ : seen s' r
  only : ∀ q : Int, q % 2 = 1 → q ≠ r → (bV L N).mu r ≤ (bV L N).mu q → seen s' q → seen s q
  new : ∀ (P : Int → Prop), (∀ q, (bV L N).ok q → ¬ q % 2 = 0 → P q → P (fk N (q / 2)).l ∧ P (fk N (q / 2)).h) → P r → ∀ q, seen s' q → seen s q ∨ P q
  clo : ∀ q, seen s' q → seen s q ∨ ((bV L N).ok q ∧ (¬ q % 2 = 0 → seen s' (fk N (q / 2)).l ∧ seen s' (fk N (q / 2)).h))
  lvs : (∀ i : Int, i ∈ s.lv ↔ seen s (2 * i)) → ∀ i : Int, i ∈ s'.lv ↔ seen s' (2 * i)
  nod : (∀ i : Int, i ∈ s.lv ↔ seen s (2 * i)) → s.lv.Nodup → s'.lv.Nodup
  sz : s.lv.length ≤ s'.lv.length ∧ s.nd.length ≤ s'.nd.length
theorem ord_ok {vars : Int} {L : List Int} {N : List Fk} (f : GRed vars (bV L N)) : ∀ (k : Nat) (r : Int) (s : Os), (bV L N).ok r → (bV L N).mu r < k → OrdOk L N r s (ordF N k r s)
  | 0, r, s, h, hk => by omega
  | k + 1, r, s, h, hk => by
    by_cases hs : seen s r
    · rw [ord_hit hs]
      exact ⟨fun _ h => h, hs, fun _ _ _ _ h => h, fun _ _ _ _ h => .inl h, fun _ h => .inl h, fun h => h, fun _ h => h, Nat.le_refl _, Nat.le_refl _⟩
    by_cases h2 : r % 2 = 0
    · rw [ord_leaf hs h2]
      refine ⟨fun q hq => seen_set.2 (.inr hq), seen_set.2 (.inl rfl), fun q hq hne _ hq' => (seen_set.1 hq').resolve_left hne, fun P _ hP q hq => ?_, fun q hq => ?_, fun hI i => ?_, fun hI hn => ?_, ?_, Nat.le_refl _⟩
      · rcases seen_set.1 hq with rfl | hq
        · exact .inr hP
        · exact .inl hq
      · rcases seen_set.1 hq with rfl | hq
        · exact .inr ⟨h, fun z => absurd h2 z⟩
        · exact .inl hq
      · rw [seen_set, ← hI i, List.mem_append, List.mem_singleton]
        constructor
        · rintro (z | z)
          · exact .inr z
          · exact .inl (by omega)
        · rintro (z | z)
          · exact .inr (by omega)
          · exact .inl z
      · refine List.nodup_append.2 ⟨hn, by simp, fun a ha b hb => ?_⟩
        rw [List.mem_singleton] at hb
        rintro rfl
        subst hb
        refine hs ?_
        have := (hI (r / 2)).1 ha
        rwa [show 2 * (r / 2) = r by omega] at this
      · simp
    · have hlo := f.lo r h h2
      have hhi := f.hi r h h2
      have hlo : (bV L N).ok (fk N (r / 2)).l ∧ (bV L N).mu (fk N (r / 2)).l < (bV L N).mu r ∧ _ := hlo
      have hhi : (bV L N).ok (fk N (r / 2)).h ∧ (bV L N).mu (fk N (r / 2)).h < (bV L N).mu r ∧ _ := hhi
      have A := ord_ok f k (fk N (r / 2)).l (osm s r) hlo.1 (by omega)
      have B := ord_ok f k (fk N (r / 2)).h (ordF N k (fk N (r / 2)).l (osm s r)) hhi.1 (by omega)
      rw [ord_node hs h2 rfl rfl]
      generalize ordF N k (fk N (r / 2)).l (osm s r) = a at A B
      generalize ordF N k (fk N (r / 2)).h a = b at B
      have nl : ∀ q, (bV L N).mu r ≤ (bV L N).mu q → q ≠ (fk N (r / 2)).l := fun q z e => by rw [e] at z; omega
      have nh : ∀ q, (bV L N).mu r ≤ (bV L N).mu q → q ≠ (fk N (r / 2)).h := fun q z e => by rw [e] at z; omega
      refine ⟨fun q hq => B.mono q (A.mono q (seen_set.2 (.inr hq))), B.mono r (A.mono r (seen_set.2 (.inl rfl))), fun q hq hne hm hq' => ?_, fun P hC hP q hq => ?_, fun q hq => ?_, fun hI => ?_, fun hI hn => ?_, ?_, ?_⟩
      · have z := A.only q hq (nl q hm) (by omega) (B.only q hq (nh q hm) (by omega) hq')
        exact (seen_set.1 z).resolve_left hne
      · have c := hC r h h2 hP
        rcases B.new P hC c.2 q hq with z | z
        · rcases A.new P hC c.1 q z with z | z
          · rcases seen_set.1 z with rfl | z
            · exact .inr hP
            · exact .inl z
          · exact .inr z
        · exact .inr z
      · rcases B.clo q hq with z | z
        · rcases A.clo q z with z | ⟨z1, z2⟩
          · rcases seen_set.1 z with rfl | z
            · exact .inr ⟨h, fun _ => ⟨B.mono _ A.at_, B.at_⟩⟩
            · exact .inl z
          · exact .inr ⟨z1, fun y => ⟨B.mono _ (z2 y).1, B.mono _ (z2 y).2⟩⟩
        · exact .inr z
      · refine B.lvs (A.lvs fun i => ?_)
        rw [seen_set]
        refine (hI i).trans ⟨.inr, fun z => z.resolve_left fun e => ?_⟩
        omega
      · have hI2 : ∀ i : Int, i ∈ (osm s r).lv ↔ seen (osm s r) (2 * i) := fun i => by
          rw [seen_set]
          refine (hI i).trans ⟨.inr, fun z => z.resolve_left fun e => ?_⟩
          omega
        exact B.nod (A.lvs hI2) (A.nod hI2 hn)
      · exact Nat.le_trans A.sz.1 B.sz.1
      · show s.nd.length ≤ (b.nd ++ [r / 2]).length
        rw [List.length_append]; exact Nat.le_trans (Nat.le_trans A.sz.2 B.sz.2) (Nat.le_add_right _ _)
/- how long the lists get -/
theorem nodup_len : ∀ (n : Nat) {l : List Int}, l.Nodup → (∀ i ∈ l, 0 ≤ i ∧ i < n) → l.length ≤ n
  | 0, l, _, h => by
    cases l with
    | nil => simp
    | cons a l => have := h a (List.mem_cons_self ..); omega
  | n + 1, l, hn, h => by
    by_cases hm : (n : Int) ∈ l
    · have := nodup_len n (hn.erase (n : Int)) fun i hi => by
        have hi := (hn.mem_erase_iff).1 hi
        have := h i hi.2
        have := hi.1
        omega
      have hl := List.length_erase_of_mem hm
      omega
    · have := nodup_len n hn fun i hi => by
        have h1 := h i hi
        have : i ≠ n := fun e => hm (e ▸ hi)
        omega
      omega
structure OsI (L : List Int) (N : List Fk) (s : Os) : Prop where
  lv : ∀ i ∈ s.lv, seen s (2 * i) ∧ 0 ≤ i ∧ i < L.length
  lvn : s.lv.Nodup
  nd : ∀ i ∈ s.nd, seen s (2 * i + 1) ∧ 0 ≤ i ∧ i < N.length
  ndn : s.nd.Nodup
theorem OsI.len {L : List Int} {N : List Fk} {s : Os} (h : OsI L N s) : s.lv.length ≤ L.length ∧ s.nd.length ≤ N.length :=
  ⟨nodup_len _ h.lvn fun i hi => (h.lv i hi).2, nodup_len _ h.ndn fun i hi => (h.nd i hi).2⟩
theorem osi0 {L : List Int} {N : List Fk} : OsI L N os0 := ⟨fun _ h => by simp at h, by simp, fun _ h => by simp at h, by simp⟩
theorem osi_mark {L : List Int} {N : List Fk} {s : Os} {r : Int} (h : OsI L N s) : OsI L N (osm s r) :=
  ⟨fun i hi => ⟨seen_set.2 (.inr (h.lv i hi).1), (h.lv i hi).2⟩, h.lvn, fun i hi => ⟨seen_set.2 (.inr (h.nd i hi).1), (h.nd i hi).2⟩, h.ndn⟩
structure OrdI (L : List Int) (N : List Fk) (r : Int) (s s' : Os) : Prop where
  inv : OsI L N s'
  new : ∀ i ∈ s'.nd, i ∈ s.nd ∨ ((bV L N).mu (2 * i + 1) ≤ (bV L N).mu r)
theorem osi_leaf {L : List Int} {N : List Fk} {s : Os} {r : Int} (h : OsI L N s) (hr : (bV L N).ok r) (h2 : r % 2 = 0) (hs : ¬ seen s r) : OsI L N ⟨setF s.sn r true, s.lv ++ [r / 2], s.nd⟩ := by
  refine ⟨fun i hi => ?_, List.nodup_append.2 ⟨h.lvn, by simp, fun a ha b hb => ?_⟩, fun i hi => ⟨seen_set.2 (.inr (h.nd i hi).1), (h.nd i hi).2⟩, h.ndn⟩
  · rcases List.mem_append.1 hi with q | q
    · exact ⟨seen_set.2 (.inr (h.lv i q).1), (h.lv i q).2⟩
    · rw [List.mem_singleton] at q
      subst q
      refine ⟨seen_set.2 (.inl (by omega)), ?_, hr.2.1 h2⟩
      have := hr.1; omega
  · rw [List.mem_singleton] at hb
    rintro rfl
    subst hb
    refine hs ?_
    have := (h.lv _ ha).1
    rwa [show 2 * (r / 2) = r by omega] at this
theorem osi_node {L : List Int} {N : List Fk} {s a b : Os} {r : Int} {l h' : Int} (hI : OsI L N s) (hr : (bV L N).ok r) (h2 : ¬ r % 2 = 0) (hs : ¬ seen s r) (ml : (bV L N).mu l < (bV L N).mu r) (mh : (bV L N).mu h' < (bV L N).mu r)
    (A : OrdI L N l (osm s r) a) (B : OrdI L N h' a b) (hm : seen b r) : OrdI L N r s ⟨b.sn, b.lv, b.nd ++ [r / 2]⟩ := by
  have e2 : 2 * (r / 2) + 1 = r := by omega
  have hnew : ∀ i ∈ b.nd, i ∈ s.nd ∨ (bV L N).mu (2 * i + 1) < (bV L N).mu r := fun i hi => by
    rcases B.new i hi with q | q
    · rcases A.new i q with q | q
      · exact .inl q
      · exact .inr (by omega)
    · exact .inr (by omega)
  refine ⟨⟨B.inv.lv, B.inv.lvn, fun i hi => ?_, List.nodup_append.2 ⟨B.inv.ndn, by simp, fun x hx y hy => ?_⟩⟩, fun i hi => ?_⟩
  · rcases List.mem_append.1 hi with q | q
    · exact B.inv.nd i q
    · rw [List.mem_singleton] at q
      subst q
      refine ⟨by rw [e2]; exact hm, ?_, hr.2.2 (by omega)⟩
      have := hr.1; omega
  · rw [List.mem_singleton] at hy
    rintro rfl
    subst hy
    rcases hnew _ hx with q | q
    · exact hs (by have := (hI.nd _ q).1; rwa [e2] at this)
    · rw [e2] at q; omega
  · rcases List.mem_append.1 hi with q | q
    · rcases hnew i q with q | q
      · exact .inl q
      · exact .inr (by omega)
    · rw [List.mem_singleton] at q
      subst q
      exact .inr (by rw [e2]; exact Nat.le_refl _)
theorem ord_inv {vars : Int} {L : List Int} {N : List Fk} (f : GRed vars (bV L N)) : ∀ (k : Nat) (r : Int) (s : Os), (bV L N).ok r → (bV L N).mu r < k → OsI L N s → OrdI L N r s (ordF N k r s)
  | 0, r, s, h, hk, _ => by omega
  | k + 1, r, s, h, hk, hI => by
    by_cases hs : seen s r
    · rw [ord_hit hs]; exact ⟨hI, fun i hi => .inl hi⟩
    by_cases h2 : r % 2 = 0
    · rw [ord_leaf hs h2]; exact ⟨osi_leaf hI h h2 hs, fun i hi => .inl hi⟩
    · have hlo := f.lo r h h2
      have hhi := f.hi r h h2
      have hlo : (bV L N).ok (fk N (r / 2)).l ∧ (bV L N).mu (fk N (r / 2)).l < (bV L N).mu r ∧ _ := hlo
      have hhi : (bV L N).ok (fk N (r / 2)).h ∧ (bV L N).mu (fk N (r / 2)).h < (bV L N).mu r ∧ _ := hhi
      have A := ord_inv f k (fk N (r / 2)).l (osm s r) hlo.1 (by omega) (osi_mark hI)
      have B := ord_inv f k (fk N (r / 2)).h (ordF N k (fk N (r / 2)).l (osm s r)) hhi.1 (by omega) A.inv
      have OA := ord_ok f k (fk N (r / 2)).l (osm s r) hlo.1 (by omega)
      have OB := ord_ok f k (fk N (r / 2)).h (ordF N k (fk N (r / 2)).l (osm s r)) hhi.1 (by omega)
      rw [ord_node hs h2 rfl rfl]
      exact osi_node hI h h2 hs hlo.2.1 hhi.2.1 A B (OB.mono _ (OA.mono _ (seen_set.2 (.inl rfl))))
/-- The part of the builder's graph that a walk has seen. -/
def sG (L : List Int) (N : List Fk) (φ : Int → Int) (E : Os) : Gph := { bG L N φ with ok := fun r => seen E r }
/-- The whole walk from a root. -/
noncomputable def oE (N : List Fk) (root : Int) : Os := ordF N (root.toNat + 2) root os0
theorem mu_lt {L : List Int} {N : List Fk} {r : Int} (h : (bV L N).ok r) : (bV L N).mu r < r.toNat + 2 := by
  show (if r % 2 = 0 then 0 else (r / 2).toNat + 1) < _
  split <;> omega
section
variable {vars : Int} {L : List Int} {N : List Fk} {root : Int} (b : BOk vars L N) (hr : (bV L N).ok root)
include b hr
theorem oE_ok : OrdOk L N root os0 (oE N root) := ord_ok b.red _ root os0 hr (mu_lt hr)
theorem oE_clo {q : Int} (h : seen (oE N root) q) : (bV L N).ok q ∧ (¬ q % 2 = 0 → seen (oE N root) (fk N (q / 2)).l ∧ seen (oE N root) (fk N (q / 2)).h) :=
  ((oE_ok b hr).clo q h).resolve_left fun z => by simp [seen] at z
theorem oE_lv (i : Int) : i ∈ (oE N root).lv ↔ seen (oE N root) (2 * i) := (oE_ok b hr).lvs (fun i => by simp [seen]) i
theorem oE_nod : (oE N root).lv.Nodup := (oE_ok b hr).nod (fun i => by simp [seen]) (by simp)
theorem sG_red {φ : Int → Int} : GRed vars (sG L N φ (oE N root)) where
  vr := fun r h hl => b.red.vr r (oE_clo b hr h).1 hl
  ne := fun r h hl => b.red.ne r (oE_clo b hr h).1 hl
  lo := fun r h hl => ⟨((oE_clo b hr h).2 hl).1, (b.red.lo r (oE_clo b hr h).1 hl).2⟩
  hi := fun r h hl => ⟨((oE_clo b hr h).2 hl).2, (b.red.hi r (oE_clo b hr h).1 hl).2⟩
  uq := fun r s h hl h' hl' => b.red.uq r s (oE_clo b hr h).1 hl (oE_clo b hr h').1 hl'
theorem lv_bd {i : Int} (h : i ∈ (oE N root).lv) : 0 ≤ i ∧ i < L.length := by
  have h := (oE_clo b hr ((oE_lv b hr i).1 h)).1
  have h1 := h.1
  have h2 := h.2.1 (by omega)
  omega
/-- What is seen is led to by some values. -/
theorem oE_reach {q : Int} (h : seen (oE N root) q) : ∃ e : Int → Bool, ∀ e' : Int → Bool, (∀ i, i < lev vars (bV L N) q → e' i = e i) → gev (bV L N) e' root = gev (bV L N) e' q := by
  have := (oE_ok b hr).new (fun q => (bV L N).ok q ∧ ∃ e : Int → Bool, ∀ e' : Int → Bool, (∀ i, i < lev vars (bV L N) q → e' i = e i) → gev (bV L N) e' root = gev (bV L N) e' q) (fun q hq hl ⟨_, e, he⟩ => by
    have hlo := b.red.lo q hq hl
    have hhi := b.red.hi q hq hl
    have hll : lev vars (bV L N) q = (fk N (q / 2)).v := lev_nd (G := bV L N) hl
    refine ⟨⟨hlo.1, up e (fk N (q / 2)).v false, fun e' he' => ?_⟩, ⟨hhi.1, up e (fk N (q / 2)).v true, fun e' he' => ?_⟩⟩
    · rw [he e' fun i hi => by rw [he' i (by have := hlo.2.2; show i < lev vars (bV L N) ((bV L N).nd q).l; have e3 : ((bV L N).nd q).v = (fk N (q / 2)).v := rfl; omega)]; exact if_neg (by omega)]
      rw [gev_step b.red hq hl]
      have : e' ((bV L N).nd q).v = false := by rw [he' _ hlo.2.2]; exact if_pos rfl
      rw [this]; rfl
    · rw [he e' fun i hi => by rw [he' i (by have := hhi.2.2; show i < lev vars (bV L N) ((bV L N).nd q).h; have e3 : ((bV L N).nd q).v = (fk N (q / 2)).v := rfl; omega)]; exact if_neg (by omega)]
      rw [gev_step b.red hq hl]
      have : e' ((bV L N).nd q).v = true := by rw [he' _ hhi.2.2]; exact if_pos rfl
      rw [this]; rfl) ⟨hr, fun _ => false, fun _ _ => rfl⟩ q h
  exact (this.resolve_left fun z => by simp [seen] at z).2
/-- The value is that of a leaf that is seen. -/
theorem oE_val (e : Int → Bool) : ∃ i ∈ (oE N root).lv, gi L i = gev (bV L N) e root := by
  have key : ∀ (k : Nat) (q : Int), (bV L N).mu q ≤ k → seen (oE N root) q → ∃ i ∈ (oE N root).lv, gi L i = gev (bV L N) e q := by
    intro k
    induction k with
    | zero =>
      intro q hk hq
      have hq2 := oE_clo b hr hq
      have hl : q % 2 = 0 := Classical.byContradiction fun z => by have := (b.red.lo q hq2.1 z).2.1; omega
      exact ⟨q / 2, (oE_lv b hr _).2 (by rw [show 2 * (q / 2) = q by omega]; exact hq), by rw [gev_lf (G := bV L N) hl]; rfl⟩
    | succ k ih =>
      intro q hk hq
      have hq2 := oE_clo b hr hq
      by_cases hl : q % 2 = 0
      · exact ⟨q / 2, (oE_lv b hr _).2 (by rw [show 2 * (q / 2) = q by omega]; exact hq), by rw [gev_lf (G := bV L N) hl]; rfl⟩
      · have c := hq2.2 hl
        have l1 := (b.red.lo q hq2.1 hl).2.1
        have l2 := (b.red.hi q hq2.1 hl).2.1
        rw [gev_step b.red hq2.1 hl]
        by_cases z : e ((bV L N).nd q).v = true
        · rw [if_pos z]; exact ih _ (by omega) c.2
        · rw [if_neg z]; exact ih _ (by omega) c.1
  exact key _ root (Nat.le_refl _) (oE_ok b hr).at_
theorem lv_val {i : Int} (h : i ∈ (oE N root).lv) : ∃ e, gev (bV L N) e root = gi L i := by
  have hs := (oE_lv b hr i).1 h
  obtain ⟨e, he⟩ := oE_reach b hr hs
  have := he e fun _ _ => rfl
  rw [gev_lf (G := bV L N) (show (2 * i) % 2 = 0 by omega)] at this
  exact ⟨e, by rw [this]; show gi L (2 * i / 2) = _; rw [show 2 * i / 2 = i by omega]⟩
end
/- both walks side by side -/
structure Rel (K : Int) (G : Gph) (m : Nat) (s : Os) (t : Ly) : Prop where
  len : t.1.length = s.nd.length
  pl : ∀ j : Nat, j < s.nd.length → t.2 (2 * s.nd.getD j 0 + 1) = some (K + j)
  st : ∀ q : Int, q % 2 = 1 → G.ok q → G.mu q ≤ m → (seen s q ↔ (t.2 q).isSome = true)
theorem rel0 {K : Int} {L : List Int} {N : List Fk} {φ : Int → Int} {E : Os} (m : Nat) : Rel K (sG L N φ E) m os0 ([], pl0 (sG L N φ E)) where
  len := rfl
  pl := fun j h => by simp at h
  st := fun q hq _ _ => by
    have : pl0 (sG L N φ E) q = none := if_neg fun z => by have : q % 2 = 0 := z.2; omega
    simp [seen, this]
theorem vis_node {K : Int} {G : Gph} {k : Nat} {r : Int} {s : Ly} (hs : s.2 r = none) : vis K G (k + 1) r s = ((((vis K G k (G.nd r).h (vis K G k (G.nd r).l s).1).1.1 ++ [⟨(G.nd r).v, (vis K G k (G.nd r).l s).2, (vis K G k (G.nd r).h (vis K G k (G.nd r).l s).1).2⟩]),
        setF (vis K G k (G.nd r).h (vis K G k (G.nd r).l s).1).1.2 r (K + (vis K G k (G.nd r).h (vis K G k (G.nd r).l s).1).1.1.length)), K + (vis K G k (G.nd r).h (vis K G k (G.nd r).l s).1).1.1.length) := by rw [vis, hs]
section
variable {vars K : Int} {L : List Int} {N : List Fk} {φ : Int → Int} {E : Os}
theorem rel_ok (f : GOk vars K (sG L N φ E)) (fb : GRed vars (bV L N)) (hsub : ∀ q, seen E q → (bV L N).ok q) (K0 : 0 ≤ K) : ∀ (k : Nat) (r : Int) (s : Os) (t : Ly) (m : Nat), seen E r → (bV L N).mu r < k → (bV L N).mu r ≤ m → LyI K (sG L N φ E) t → Rel K (sG L N φ E) m s t → Rel K (sG L N φ E) m (ordF N k r s) (vis K (sG L N φ E) k r t).1
  | 0, r, s, t, m, hr, hk, _, _, _ => by omega
  | k + 1, r, s, t, m, hr, hk, hm, hI, R => by
    by_cases h2 : r % 2 = 0
    · rw [vis_hit (hI.lf r hr h2)]
      by_cases hs : seen s r
      · rw [ord_hit hs]; exact R
      · rw [ord_leaf hs h2]
        refine ⟨R.len, R.pl, fun q hq ho hqm => ?_⟩
        rw [seen_set]
        exact (show (q = r ∨ seen s q) ↔ seen s q from ⟨fun z => z.resolve_left fun e => by omega, .inr⟩).trans (R.st q hq ho hqm)
    · have hst := R.st r (by omega) hr hm
      by_cases hs : seen s r
      · obtain ⟨p, hp⟩ := Option.isSome_iff_exists.1 (hst.1 hs)
        rw [vis_hit hp, ord_hit hs]; exact R
      · have hn : t.2 r = none := by
          cases q : t.2 r with
          | none => rfl
          | some p => exact absurd (hst.2 (by rw [q]; rfl)) hs
        have hb := hsub r hr
        have hlo := f.lo r hr h2
        have hhi := f.hi r hr h2
        have ml : (bV L N).mu (fk N (r / 2)).l < (bV L N).mu r := hlo.2.1
        have mh : (bV L N).mu (fk N (r / 2)).h < (bV L N).mu r := hhi.2.1
        have sl : seen E (fk N (r / 2)).l := hlo.1
        have sh : seen E (fk N (r / 2)).h := hhi.1
        have R1 : Rel K (sG L N φ E) ((bV L N).mu r - 1) (osm s r) t := ⟨R.len, R.pl, fun q hq ho hqm => by
          rw [seen_set]
          have hqm : (bV L N).mu q ≤ (bV L N).mu r - 1 := hqm
          refine (show (q = r ∨ seen s q) ↔ seen s q from ⟨fun z => z.resolve_left fun e => ?_, .inr⟩).trans (R.st q hq ho (by show (bV L N).mu q ≤ m; omega))
          subst e; omega⟩
        have VA := vis_ok f K0 k (fk N (r / 2)).l t sl (by show (bV L N).mu (fk N (r / 2)).l < k; omega) hI
        have VB := vis_ok f K0 k (fk N (r / 2)).h (vis K (sG L N φ E) k (fk N (r / 2)).l t).1 sh (by show (bV L N).mu (fk N (r / 2)).h < k; omega) VA.inv
        have RA := rel_ok f fb hsub K0 k (fk N (r / 2)).l (osm s r) t ((bV L N).mu r - 1) sl (by omega) (by omega) hI R1
        have RB := rel_ok f fb hsub K0 k (fk N (r / 2)).h _ _ ((bV L N).mu r - 1) sh (by omega) (by omega) VA.inv RA
        have OA := ord_ok fb k (fk N (r / 2)).l (osm s r) (hsub _ sl) (by omega)
        have OB := ord_ok fb k (fk N (r / 2)).h (ordF N k (fk N (r / 2)).l (osm s r)) (hsub _ sh) (by omega)
        rw [ord_node hs h2 rfl rfl, vis_node hn]
        change Rel K (sG L N φ E) m _ (((vis K (sG L N φ E) k (fk N (r / 2)).h (vis K (sG L N φ E) k (fk N (r / 2)).l t).1).1.1 ++ [⟨(fk N (r / 2)).v, (vis K (sG L N φ E) k (fk N (r / 2)).l t).2, (vis K (sG L N φ E) k (fk N (r / 2)).h (vis K (sG L N φ E) k (fk N (r / 2)).l t).1).2⟩]),
          setF (vis K (sG L N φ E) k (fk N (r / 2)).h (vis K (sG L N φ E) k (fk N (r / 2)).l t).1).1.2 r (K + (vis K (sG L N φ E) k (fk N (r / 2)).h (vis K (sG L N φ E) k (fk N (r / 2)).l t).1).1.1.length))
        generalize ordF N k (fk N (r / 2)).l (osm s r) = a at RA RB OA OB
        generalize ordF N k (fk N (r / 2)).h a = b at RB OB
        generalize vis K (sG L N φ E) k (fk N (r / 2)).l t = x at RA RB VA VB
        generalize vis K (sG L N φ E) k (fk N (r / 2)).h x.1 = y at RB VB
        have hrl : r ≠ (fk N (r / 2)).l := fun z => by rw [← z] at ml; omega
        have hrh : r ≠ (fk N (r / 2)).h := fun z => by rw [← z] at mh; omega
        have hyn : y.1.2 r = none := by rw [VB.only r hrh (by show (bV L N).mu _ ≤ (bV L N).mu _; omega), VA.only r hrl (by show (bV L N).mu _ ≤ (bV L N).mu _; omega), hn]
        refine ⟨?_, fun j hj => ?_, fun q hq ho hqm => ?_⟩
        · simp [RB.len]
        · have hj : j < (b.nd ++ [r / 2]).length := hj
          rw [List.length_append] at hj
          by_cases e : j < b.nd.length
          · have hp := RB.pl j e
            show setF y.1.2 r _ (2 * (b.nd ++ [r / 2]).getD j 0 + 1) = _
            rw [show (b.nd ++ [r / 2]).getD j 0 = b.nd.getD j 0 by rw [List.getD_eq_getElem?_getD, List.getD_eq_getElem?_getD, List.getElem?_append_left e], setF_other]
            · exact hp
            · intro z; rw [z, hyn] at hp; cases hp
          · have ej : j = b.nd.length := by simp at hj; omega
            subst ej
            show setF y.1.2 r _ (2 * (b.nd ++ [r / 2]).getD b.nd.length 0 + 1) = _
            rw [show (b.nd ++ [r / 2]).getD b.nd.length 0 = r / 2 by simp [List.getD_eq_getElem?_getD], show 2 * (r / 2) + 1 = r by omega, setF_same, RB.len]
        · show seen ⟨b.sn, b.lv, b.nd ++ [r / 2]⟩ q ↔ (setF y.1.2 r _ q).isSome = true
          by_cases e : q = r
          · subst e
            rw [setF_same]
            exact ⟨fun _ => rfl, fun _ => OB.mono _ (OA.mono _ (seen_set.2 (.inl rfl)))⟩
          · rw [setF_other e]
            by_cases hlt : (bV L N).mu q ≤ (bV L N).mu r - 1
            · exact RB.st q hq ho hlt
            · have hge : (bV L N).mu r ≤ (bV L N).mu q := by omega
              have nl : q ≠ (fk N (r / 2)).l := fun z => by rw [z] at hge; omega
              have nh : q ≠ (fk N (r / 2)).h := fun z => by rw [z] at hge; omega
              rw [VB.only q nh (by show (bV L N).mu _ ≤ (bV L N).mu _; omega), VA.only q nl (by show (bV L N).mu _ ≤ (bV L N).mu _; omega)]
              refine Iff.trans ⟨fun z => ?_, fun z => ?_⟩ (R.st q hq ho hqm)
              · exact (seen_set.1 (OA.only q hq nl (by omega) (OB.only q hq nh (by omega) z))).resolve_left e
              · exact OB.mono _ (OA.mono _ (seen_set.2 (.inr z)))
end
end Go.Proofs.Ytkmhjcjpohpiaaa
