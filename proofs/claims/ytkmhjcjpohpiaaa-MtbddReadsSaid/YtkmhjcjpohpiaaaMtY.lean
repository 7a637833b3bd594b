/- The diagram of a table, and that a builder's walk lays it out. No program in sight. -/
import Derived.Test.YtkmhjcjpohpiaaaMtX
namespace Go.Proofs.Ytkmhjcjpohpiaaa
open Go Go.Vc
open Classical
/- sorted lists without repetitions -/
theorem ss_unique : ∀ {A B : List Int}, A.Pairwise (· < ·) → B.Pairwise (· < ·) → (∀ z, z ∈ A ↔ z ∈ B) → A = B
  | [], [], _, _, _ => rfl
  | [], b :: B, _, _, h => by have := (h b).2 (List.mem_cons_self ..); cases this
  | a :: A, [], _, _, h => by have := (h a).1 (List.mem_cons_self ..); cases this
  | a :: A, b :: B, ha, hb, h => by
    obtain ⟨a1, a2⟩ := List.pairwise_cons.1 ha
    obtain ⟨b1, b2⟩ := List.pairwise_cons.1 hb
    have e : a = b := by
      rcases List.mem_cons.1 ((h a).1 (List.mem_cons_self ..)) with q | q
      · exact q
      · rcases List.mem_cons.1 ((h b).2 (List.mem_cons_self ..)) with p | p
        · exact p.symm
        · have := b1 a q; have := a1 b p; omega
    subst e
    rw [ss_unique a2 b2 fun z => ⟨fun hz => ?_, fun hz => ?_⟩]
    · rcases List.mem_cons.1 ((h z).1 (List.mem_cons_of_mem _ hz)) with q | q
      · have := a1 z hz; omega
      · exact q
    · rcases List.mem_cons.1 ((h z).2 (List.mem_cons_of_mem _ hz)) with q | q
      · have := b1 z hz; omega
      · exact q
abbrev srt (t : List Int) : List Int := t.mergeSort fun x y => decide (x ≤ y)
def dd : List Int → List Int
  | [] => []
  | a :: l => match dd l with
    | [] => [a]
    | b :: r => if a = b then b :: r else a :: b :: r
theorem dd_mem (z : Int) : ∀ {l : List Int}, z ∈ dd l ↔ z ∈ l
  | [] => Iff.rfl
  | a :: l => by
    have ih := dd_mem z (l := l)
    unfold dd
    cases h : dd l with
    | nil =>
      rw [h] at ih
      show z ∈ [a] ↔ _
      rw [List.mem_singleton, List.mem_cons, ← ih]; simp
    | cons b r =>
      rw [h] at ih
      show z ∈ (if a = b then b :: r else a :: b :: r) ↔ _
      rw [List.mem_cons (l := l), ← ih]
      by_cases e : a = b
      · subst e; rw [if_pos rfl]; simp
      · rw [if_neg e]; simp
theorem dd_ss : ∀ {l : List Int}, l.Pairwise (· ≤ ·) → (dd l).Pairwise (· < ·)
  | [], _ => .nil
  | a :: l, h => by
    obtain ⟨h1, h2⟩ := List.pairwise_cons.1 h
    have ih := dd_ss h2
    have hm : ∀ z, z ∈ dd l → a ≤ z := fun z hz => h1 z ((dd_mem z).1 hz)
    unfold dd
    cases hd : dd l with
    | nil => show [a].Pairwise _; simp
    | cons b r =>
      rw [hd] at ih hm
      show (if a = b then b :: r else a :: b :: r).Pairwise _
      by_cases e : a = b
      · rw [if_pos e]; exact ih
      · rw [if_neg e]
        refine List.pairwise_cons.2 ⟨fun z hz => ?_, ih⟩
        have q1 := hm b (List.mem_cons_self ..)
        rcases List.mem_cons.1 hz with rfl | hz
        · omega
        · have := (List.pairwise_cons.1 ih).1 z hz; omega
theorem srt_sorted (t : List Int) : (srt t).Pairwise (· ≤ ·) := by
  have := List.pairwise_mergeSort (le := fun x y : Int => decide (x ≤ y)) (fun a b c h1 h2 => by have h1 := of_decide_eq_true h1; have h2 := of_decide_eq_true h2; exact decide_eq_true (Int.le_trans h1 h2)) (fun a b => by
    by_cases h : a ≤ b
    · simp [h]
    · simp; omega) t
  exact this.imp fun h => of_decide_eq_true h
/-- The values of a table, each once, in order. -/
def vls (t : List Int) : List Int := dd (srt t)
theorem vls_ss (t : List Int) : (vls t).Pairwise (· < ·) := dd_ss (srt_sorted t)
theorem vls_mem {t : List Int} {z : Int} : z ∈ vls t ↔ z ∈ t := by unfold vls; rw [dd_mem]; exact List.mem_mergeSort
theorem vls_eq {A t : List Int} (h : A.Pairwise (· < ·)) (hm : ∀ z, z ∈ A ↔ z ∈ t) : A = vls t := ss_unique h (vls_ss t) fun z => (hm z).trans vls_mem.symm
/-- The place of a value. -/
def ix (V : List Int) (z : Int) : Int := match gx z V with | some i => (i : Int) | none => -1
theorem gx_mem {z : Int} {V : List Int} (h : z ∈ V) : ∃ i, gx z V = some i := by
  cases q : gx z V with
  | some i => exact ⟨i, rfl⟩
  | none =>
    obtain ⟨i, hi, e⟩ := List.getElem_of_mem h
    exact absurd (by rw [List.getD_eq_getElem?_getD, List.getElem?_eq_getElem hi]; exact e) (gx_none q i hi)
theorem ix_mem {z : Int} {V : List Int} (h : z ∈ V) : 0 ≤ ix V z ∧ ix V z < V.length ∧ gi V (ix V z) = z := by
  obtain ⟨i, hi⟩ := gx_mem h
  obtain ⟨h1, h2, _⟩ := gx_some hi
  unfold ix
  rw [hi]
  exact ⟨by show (0 : Int) ≤ (i : Int); omega, by show (i : Int) < _; omega, h2⟩
theorem ss_inj {V : List Int} (h : V.Pairwise (· < ·)) {i j : Int} (h0 : 0 ≤ i) (h1 : i < V.length) (h2 : 0 ≤ j) (h3 : j < V.length) (e : gi V i = gi V j) : i = j := by
  have key : ∀ a c : Nat, a < c → c < V.length → V.getD a 0 < V.getD c 0 := fun a c hac hc => by
    rw [List.getD_eq_getElem?_getD, List.getD_eq_getElem?_getD, List.getElem?_eq_getElem (by omega), List.getElem?_eq_getElem hc]
    exact List.pairwise_iff_getElem.1 h a c (by omega) hc hac
  unfold gi at e
  rcases Nat.lt_trichotomy i.toNat j.toNat with q | q | q
  · have := key _ _ q (by omega); omega
  · omega
  · have := key _ _ q (by omega); omega
theorem ix_at {V : List Int} (h : V.Pairwise (· < ·)) {i : Int} (h0 : 0 ≤ i) (h1 : i < V.length) : ix V (gi V i) = i := by
  have hm : gi V i ∈ V := by
    unfold gi
    rw [List.getD_eq_getElem?_getD, List.getElem?_eq_getElem (by omega)]
    exact List.getElem_mem (by omega)
  obtain ⟨a, b, c⟩ := ix_mem hm
  exact ss_inj h a b h0 h1 c
/-- The diagram of a table. -/
def dg (vars : Int) (t : List Int) : Mg := ⟨vars, vls t, (prt (vls t).length vars.toNat [] 0 (t.map (ix (vls t)))).1, (prt (vls t).length vars.toNat [] 0 (t.map (ix (vls t)))).2⟩
/- what a table holds -/
theorem tab_mem {α : Type} {f : (Int → Bool) → α} {z : α} : ∀ {m : Nat} {v : Int} {e : Int → Bool}, z ∈ tab f m v e ↔ ∃ e', (∀ i, (i < v ∨ v + m ≤ i) → e' i = e i) ∧ f e' = z
  | 0, v, e => by
    show z ∈ [f e] ↔ _
    rw [List.mem_singleton]
    constructor
    · rintro rfl; exact ⟨e, fun _ _ => rfl, rfl⟩
    · rintro ⟨e', h, rfl⟩
      rw [show e' = e from funext fun i => h i (by omega)]
  | m + 1, v, e => by
    show z ∈ tab f m (v + 1) (up e v false) ++ tab f m (v + 1) (up e v true) ↔ _
    rw [List.mem_append, tab_mem, tab_mem]
    constructor
    · rintro (⟨e', h, rfl⟩ | ⟨e', h, rfl⟩)
      · exact ⟨e', fun i hi => by rw [h i (by omega)]; exact if_neg (by omega), rfl⟩
      · exact ⟨e', fun i hi => by rw [h i (by omega)]; exact if_neg (by omega), rfl⟩
    · rintro ⟨e', h, rfl⟩
      by_cases q : e' v = true
      · refine .inr ⟨e', fun i hi => ?_, rfl⟩
        by_cases e1 : i = v
        · subst e1; rw [q]; exact (if_pos rfl).symm
        · rw [h i (by omega)]; exact (if_neg e1).symm
      · refine .inl ⟨e', fun i hi => ?_, rfl⟩
        by_cases e1 : i = v
        · subst e1
          show e' i = up e i false i
          unfold up; rw [if_pos rfl]; simpa using q
        · rw [h i (by omega)]; exact (if_neg e1).symm
abbrev e0 : Int → Bool := fun _ => false
/-- f depends on the variables below vars alone. -/
def Dep (vars : Int) {α : Type} (f : (Int → Bool) → α) : Prop := ∀ e e' : Int → Bool, (∀ i, 0 ≤ i → i < vars → e i = e' i) → f e = f e'
abbrev tabv (vars : Int) {α : Type} (f : (Int → Bool) → α) : List α := tab f vars.toNat 0 e0
theorem tabv_mem {vars : Int} {α : Type} {f : (Int → Bool) → α} (hv : 0 ≤ vars) (hd : Dep vars f) {z : α} : z ∈ tabv vars f ↔ ∃ e, f e = z := by
  rw [tab_mem]
  constructor
  · rintro ⟨e, _, h⟩; exact ⟨e, h⟩
  · rintro ⟨e, h⟩
    refine ⟨fun i => if 0 ≤ i ∧ i < vars then e i else false, fun i hi => ?_, ?_⟩
    · show (if 0 ≤ i ∧ i < vars then e i else false) = _
      rw [if_neg (by omega)]
    · rw [← h]
      exact hd _ _ fun i a c => if_pos ⟨a, c⟩
theorem gev_dep {vars : Int} {G : Gph} (f : GRed vars G) (hv : 0 ≤ vars) {r : Int} (h : G.ok r) : Dep vars fun e => gev G e r := fun _ _ he => gev_congr f _ r h (Nat.le_refl _) fun i a c => he i (by have := f.lev_nn hv h; omega) c
/- the builder's walk -/
def lvS (L lv : List Int) : List Int := lv.mergeSort fun i j => decide (gi L i ≤ gi L j)
theorem lvS_len (L lv : List Int) : (lvS L lv).length = lv.length := List.length_mergeSort _
theorem lvS_mem {L lv : List Int} {i : Int} : i ∈ lvS L lv ↔ i ∈ lv := List.mem_mergeSort
theorem lvS_map (L lv : List Int) : (lvS L lv).map (gi L) = srt (lv.map (gi L)) := List.map_mergeSort (fun a _ b _ => rfl)
/-- The numbers that the references get: the leaves'. -/
noncomputable def nmL (lvs : List Int) : Nat → Int → Option Int
  | 0 => fun _ => none
  | i + 1 => setF (nmL lvs i) (2 * gi lvs i) i
noncomputable def nmN (lvs nds : List Int) : Nat → Int → Option Int
  | 0 => nmL lvs lvs.length
  | j + 1 => setF (nmN lvs nds j) (2 * gi nds j + 1) (lvs.length + j)
theorem nmL_get {lvs : List Int} (hn : lvs.Nodup) : ∀ {n : Nat} {i : Nat}, i < n → n ≤ lvs.length → nmL lvs n (2 * gi lvs i) = some (i : Int)
  | n + 1, i, h, hl => by
    show setF (nmL lvs n) (2 * gi lvs n) n (2 * gi lvs i) = _
    by_cases e : i = n
    · subst e; rw [setF_same]
    · rw [setF_other, nmL_get hn (by omega) (by omega)]
      intro q
      have q : lvs.getD i 0 = lvs.getD n 0 := by unfold gi at q; simp only [Int.toNat_natCast] at q; omega
      rw [List.getD_eq_getElem?_getD, List.getD_eq_getElem?_getD, List.getElem?_eq_getElem (by omega), List.getElem?_eq_getElem (by omega)] at q
      exact e ((List.getElem_inj hn).1 q)
theorem nmN_even {lvs nds : List Int} {q : Int} (h : q % 2 = 0) : ∀ j, nmN lvs nds j q = nmL lvs lvs.length q
  | 0 => rfl
  | j + 1 => by
    show setF (nmN lvs nds j) (2 * gi nds j + 1) _ q = _
    rw [setF_other (by omega), nmN_even h j]
theorem nmN_odd {lvs nds : List Int} (hn : nds.Nodup) : ∀ {j : Nat} {i : Nat}, i < j → j ≤ nds.length → nmN lvs nds j (2 * gi nds i + 1) = some ((lvs.length : Int) + i)
  | j + 1, i, h, hl => by
    show setF (nmN lvs nds j) (2 * gi nds j + 1) _ (2 * gi nds i + 1) = _
    by_cases e : i = j
    · subst e; rw [setF_same]
    · rw [setF_other, nmN_odd hn (by omega) (by omega)]
      intro q
      have q : nds.getD i 0 = nds.getD j 0 := by unfold gi at q; simp only [Int.toNat_natCast] at q; omega
      rw [List.getD_eq_getElem?_getD, List.getD_eq_getElem?_getD, List.getElem?_eq_getElem (by omega), List.getElem?_eq_getElem (by omega)] at q
      exact e ((List.getElem_inj hn).1 q)
/-- What finish makes of the builder. -/
structure Fin (vars : Int) (L : List Int) (N : List Fk) (root : Int) (lvs nds : List Int) (D : Mg) : Prop where
  v : D.v = vars
  lv : lvs.map (gi L) = D.L
  lvb : ∀ i : Int, 0 ≤ i → i < lvs.length → 0 ≤ gi lvs i ∧ gi lvs i < L.length
  ndb : ∀ j : Int, 0 ≤ j → j < nds.length → 0 ≤ gi nds j ∧ gi nds j < N.length
  len : D.N.length = nds.length
  nd : ∀ j : Int, 0 ≤ j → j < nds.length → fk D.N j = ⟨(fk N (gi nds j)).v, (nmN lvs nds j.toNat (fk N (gi nds j)).l).getD 0, (nmN lvs nds j.toNat (fk N (gi nds j)).h).getD 0⟩
  rt : (nmN lvs nds nds.length root).getD 0 = D.r
theorem pos_of_getD {l : List Int} {z : Int} (h : z ∈ l) : ∃ i : Nat, i < l.length ∧ gi l i = z := by
  obtain ⟨i, hi, e⟩ := List.getElem_of_mem h
  exact ⟨i, hi, by unfold gi; rw [Int.toNat_natCast, List.getD_eq_getElem?_getD, List.getElem?_eq_getElem hi]; exact e⟩
theorem gi_mem {l : List Int} {i : Int} (h0 : 0 ≤ i) (h1 : i < l.length) : gi l i ∈ l := by
  unfold gi
  rw [List.getD_eq_getElem?_getD, List.getElem?_eq_getElem (by omega)]
  exact List.getElem_mem (by omega)
theorem gi_map {f : Int → Int} {l : List Int} {i : Int} (h0 : 0 ≤ i) (h1 : i < l.length) : gi (l.map f) i = f (gi l i) := by
  unfold gi
  rw [List.getD_eq_getElem?_getD, List.getD_eq_getElem?_getD, List.getElem?_map, List.getElem?_eq_getElem (by omega)]; rfl
theorem fin_ok {vars : Int} {L : List Int} {N : List Fk} {root : Int} (hv : 0 ≤ vars) (b : BOk vars L N) (hr : (bV L N).ok root) :
    Fin vars L N root (lvS L (oE N root).lv) (oE N root).nd (dg vars (tabv vars fun e => gev (bV L N) e root)) := by
  have hO := oE_ok b hr
  have hE : oE N root = ordF N (root.toNat + 2) root os0 := rfl
  have hnod := oE_nod b hr
  have hlv := oE_lv b hr
  have hbd : ∀ i ∈ (oE N root).lv, 0 ≤ i ∧ i < L.length := fun i h => lv_bd b hr h
  have hdep := gev_dep b.red hv hr
  -- the leaves
  have hA : (lvS L (oE N root).lv).map (gi L) = vls (tabv vars fun e => gev (bV L N) e root) := by
    refine vls_eq ?_ fun z => ?_
    · have h1 : ((lvS L (oE N root).lv).map (gi L)).Pairwise (· ≤ ·) := by rw [lvS_map]; exact srt_sorted _
      have h2 : ((lvS L (oE N root).lv).map (gi L)).Nodup := by
        refine List.Pairwise.map _ (R := fun a c => a ∈ (oE N root).lv ∧ c ∈ (oE N root).lv ∧ a ≠ c) (fun a c ⟨x, y, ne⟩ e => ne (b.nod a c (hbd a x).1 (hbd a x).2 (hbd c y).1 (hbd c y).2 e)) ?_
        have hnp : (lvS L (oE N root).lv).Nodup := (List.mergeSort_perm _ _).nodup_iff.2 hnod
        exact hnp.imp_of_mem fun ha hc h => ⟨lvS_mem.1 ha, lvS_mem.1 hc, h⟩
      exact (h1.and h2).imp fun ⟨x, y⟩ => Int.lt_iff_le_and_ne.2 ⟨x, y⟩
    · rw [tabv_mem hv hdep, List.mem_map]
      constructor
      · rintro ⟨i, hi, rfl⟩; exact lv_val b hr (lvS_mem.1 hi)
      · rintro ⟨e, rfl⟩
        obtain ⟨i, hi, h⟩ := oE_val b hr e
        exact ⟨i, lvS_mem.2 hi, h⟩
  generalize hVeq : vls (tabv vars fun e => gev (bV L N) e root) = V at hA
  have hVs : V.Pairwise (· < ·) := hVeq ▸ vls_ss _
  have hVl : V.length = (oE N root).lv.length := by rw [← hA, List.length_map, lvS_len]
  have hmemV : ∀ i, i ∈ (oE N root).lv → gi L i ∈ V := fun i hi => by rw [← hA]; exact List.mem_map.2 ⟨i, lvS_mem.2 hi, rfl⟩
  have hseen : ∀ q, seen (oE N root) q → (bV L N).ok q := fun q h => (oE_clo b hr h).1
  have hlvq : ∀ q, seen (oE N root) q → q % 2 = 0 → q / 2 ∈ (oE N root).lv := fun q h h2 => (hlv _).2 (by rw [show 2 * (q / 2) = q by omega]; exact h)
  have f : GOk vars V.length (sG L N (ix V) (oE N root)) := {
    toGRed := sG_red b hr
    kr := fun r h hl => by
      have := ix_mem (hmemV _ (hlvq r h hl))
      exact ⟨this.1, this.2.1⟩
    kq := fun r s h hl h' hl' e => by
      have hl : r % 2 = 0 := hl
      have hl' : s % 2 = 0 := hl'
      have e : ix V (gi L (r / 2)) = ix V (gi L (s / 2)) := e
      have m1 := ix_mem (hmemV _ (hlvq r h hl))
      have m2 := ix_mem (hmemV _ (hlvq s h' hl'))
      have e2 : gi L (r / 2) = gi L (s / 2) := by rw [← m1.2.2, ← m2.2.2, e]
      have := b.nod _ _ (hbd _ (hlvq r h hl)).1 (hbd _ (hlvq r h hl)).2 (hbd _ (hlvq s h' hl')).1 (hbd _ (hlvq s h' hl')).2 e2
      omega }
  have K0 : (0 : Int) ≤ V.length := by omega
  have hI0 := lyI0 f
  have hmu : (sG L N (ix V) (oE N root)).mu root < root.toNat + 2 := mu_lt hr
  have hV := vis_ok f K0 (root.toNat + 2) root _ hO.at_ hmu hI0
  have hR := rel_ok f b.red hseen K0 (root.toNat + 2) root os0 ([], pl0 _) ((bV L N).mu root) hO.at_ hmu (Nat.le_refl _) hI0 (rel0 _)
  rw [← hE] at hR
  have hg : ∀ e, gev (sG L N (ix V) (oE N root)) e root = ix V (gev (bV L N) e root) := fun e => by
    have h1 := gv_ext (G := sG L N id (oE N root)) (G' := bV L N) (sG_red b hr) b.red (fun r h => ⟨hseen r h, Iff.rfl, rfl⟩) id (fun _ _ _ => rfl) e _ root hO.at_ (Nat.le_refl _)
    have h2 := gv_ext (G := sG L N id (oE N root)) (G' := sG L N (ix V) (oE N root)) (sG_red b hr) f.toGRed (fun r h => ⟨h, Iff.rfl, rfl⟩) (ix V) (fun _ _ _ => rfl) e _ root hO.at_ (Nat.le_refl _)
    rw [h2, h1]; rfl
  have hC := canon f K0 vars.toNat 0 root ([], pl0 (sG L N (ix V) (oE N root))) e0 (root.toNat + 2) hI0 hO.at_ (by omega) (f.lev_nn hv hO.at_) hmu
  have hD : dg vars (tabv vars fun e => gev (bV L N) e root) = ⟨vars, V, (vis V.length (sG L N (ix V) (oE N root)) (root.toNat + 2) root ([], pl0 (sG L N (ix V) (oE N root)))).1.1, (vis V.length (sG L N (ix V) (oE N root)) (root.toNat + 2) root ([], pl0 (sG L N (ix V) (oE N root)))).2⟩ := by
    unfold dg
    rw [hVeq]
    have : (tabv vars fun e => gev (bV L N) e root).map (ix V) = tab (fun e => gev (sG L N (ix V) (oE N root)) e root) vars.toNat 0 e0 := by
      rw [tab_map]
      congr 1
      funext e
      exact (hg e).symm
    rw [this, hC]
  rw [hD]
  generalize vis V.length (sG L N (ix V) (oE N root)) (root.toNat + 2) root ([], pl0 (sG L N (ix V) (oE N root))) = T at hV hR hC
  have hSn : (lvS L (oE N root).lv).Nodup := (List.mergeSort_perm _ _).nodup_iff.2 hnod
  have hSl := lvS_len L (oE N root).lv
  have hNn : (oE N root).nd.Nodup := by
    refine List.pairwise_iff_getElem.2 fun i j hi hj hij e => ?_
    have a := hR.pl i hi
    have c := hR.pl j hj
    rw [List.getD_eq_getElem?_getD, List.getElem?_eq_getElem hi] at a
    rw [List.getD_eq_getElem?_getD, List.getElem?_eq_getElem hj] at c
    simp only [Option.getD_some] at a c
    rw [e, c] at a
    simp at a
    omega
  have hplace : ∀ j : Int, 0 ≤ j → j < (oE N root).nd.length → T.1.2 (2 * gi (oE N root).nd j + 1) = some (V.length + j) := fun j h0 h1 => by
    have := hR.pl j.toNat (by omega)
    rw [show ((j.toNat : Nat) : Int) = j by omega] at this
    exact this
  -- numbers of references
  have hnum : ∀ (j : Nat) (q a : Int), j ≤ (oE N root).nd.length → seen (oE N root) q → T.1.2 q = some a → a < V.length + j → (nmN (lvS L (oE N root).lv) (oE N root).nd j q).getD 0 = a := fun j q a hj hq ha hlt => by
    by_cases h2 : q % 2 = 0
    · rw [nmN_even h2]
      have h1 := hV.inv.lf q hq h2
      rw [ha] at h1
      have ea : a = ix V (gi L (q / 2)) := Option.some.inj h1
      obtain ⟨i, hi, e⟩ := pos_of_getD (lvS_mem.2 (hlvq q hq h2) : q / 2 ∈ lvS L (oE N root).lv)
      rw [show q = 2 * gi (lvS L (oE N root).lv) i by omega, nmL_get hSn hi (Nat.le_refl _)]
      show (i : Int) = a
      rw [ea, ← e, ← gi_map (f := gi L) (by omega) (by omega), hA, ix_at hVs (by omega) (by rw [hVl]; omega)]
    · have hge := (hV.inv.rf q a ha).2.2.1 h2
      have hlt2 : a < V.length + ((oE N root).nd.length : Int) := by omega
      obtain ⟨i, rfl⟩ : ∃ i : Nat, a = V.length + (i : Int) := ⟨(a - V.length).toNat, by omega⟩
      have e := hV.inv.inj _ _ _ ha (hplace i (by omega) (by omega))
      rw [e, nmN_odd hNn (by omega) hj, hSl, hVl]
      rfl
  have hndseen : ∀ j : Int, 0 ≤ j → j < (oE N root).nd.length → seen (oE N root) (2 * gi (oE N root).nd j + 1) := fun j h0 h1 => (hV.inv.rf _ _ (hplace j h0 h1)).1
  refine ⟨rfl, hA, fun i h0 h1 => ?_, fun j h0 h1 => ?_, hR.len, fun j h0 h1 => ?_, ?_⟩
  · exact hbd _ (lvS_mem.1 (gi_mem h0 h1))
  · have := hseen _ (hndseen j h0 h1)
    have a := this.1
    have c := this.2.2 (by omega)
    omega
  · have hs := hndseen j h0 h1
    have hodd : ¬ (sG L N (ix V) (oE N root)).lf (2 * gi (oE N root).nd j + 1) := by show ¬ (2 * gi (oE N root).nd j + 1) % 2 = 0; omega
    obtain ⟨a, c, n1, n2, n3, n4, n5⟩ := hV.inv.nd _ _ hodd (hplace j h0 h1)
    have e1 : (sG L N (ix V) (oE N root)).nd (2 * gi (oE N root).nd j + 1) = fk N (gi (oE N root).nd j) := by
      show fk N ((2 * gi (oE N root).nd j + 1) / 2) = _
      rw [show (2 * gi (oE N root).nd j + 1) / 2 = gi (oE N root).nd j by omega]
    rw [e1] at n1 n2 n5
    have c1 := (oE_clo b hr hs).2 hodd
    rw [show (2 * gi (oE N root).nd j + 1) / 2 = gi (oE N root).nd j by omega] at c1
    rw [hnum j.toNat _ a (by omega) c1.1 n1 (by omega), hnum j.toNat _ c (by omega) c1.2 n2 (by omega), ← n5]
    show fk T.1.1 j = ond V.length T.1.1 (V.length + j)
    unfold ond fk
    rw [show ((V.length : Int) + j - V.length).toNat = j.toNat by omega]
  · have hp := (hV.inv.rf _ _ hV.at_).2.1.2
    rw [hR.len] at hp
    exact hnum _ root T.2 (Nat.le_refl _) hO.at_ hV.at_ hp
end Go.Proofs.Ytkmhjcjpohpiaaa
