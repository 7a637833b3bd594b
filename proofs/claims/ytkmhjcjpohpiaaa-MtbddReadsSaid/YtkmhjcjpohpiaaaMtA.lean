/- The diagram of a table is valid, and its values are those of the table. No program in sight. -/
import Derived.Test.YtkmhjcjpohpiaaaMtR
namespace Go.Proofs.Ytkmhjcjpohpiaaa
open Go Go.Vc
open Classical
abbrev mk (vars : Int) (V : List Int) (N : List Fk) : Mg := ⟨vars, V, N, 0⟩
def Nks (vars : Int) (V : List Int) (N : List Fk) : Prop := ∀ j : Int, 0 ≤ j → j < N.length → Nok (mk vars V N) j
section
variable {vars : Int} {V : List Int} {N : List Fk}
theorem tp_app {X : List Fk} {r : Int} (h : r < V.length + N.length) : tp (mk vars V (N ++ X)) r = tp (mk vars V N) r := by
  by_cases q : r < V.length
  · rw [tp_l (A := mk vars V (N ++ X)) q, tp_l (A := mk vars V N) q]
  · rw [tp_n (A := mk vars V (N ++ X)) q, tp_n (A := mk vars V N) q]
    show (fk (N ++ X) (r - V.length)).v = (fk N (r - V.length)).v
    rw [fk_app (by omega) (by omega)]
theorem Nks.red (h : Nks vars V N) : GRed vars (mG (mk vars V N)) := Loc.red (A := mk vars V N) h
theorem nks_nil : Nks vars V [] := fun j h0 h1 => by have h1 : j < ((0 : Nat) : Int) := h1; omega
theorem nks_snoc {v l h : Int} (f : Nks vars V N) (hv : 0 ≤ v) (hne : l ≠ h) (hn : ∀ k : Int, 0 ≤ k → k < N.length → fk N k ≠ ⟨v, l, h⟩)
    (l0 : 0 ≤ l) (l1 : l < V.length + N.length) (ll : v < tp (mk vars V N) l) (h0 : 0 ≤ h) (h1 : h < V.length + N.length) (lh : v < tp (mk vars V N) h) : Nks vars V (N ++ [⟨v, l, h⟩]) := fun j j0 j1 => by
  have hl : ((N ++ [(⟨v, l, h⟩ : Fk)]).length : Int) = N.length + 1 := by simp
  by_cases q : j < N.length
  · obtain ⟨a, b, c, ⟨d1, d2, d3⟩, ⟨e1, e2, e3⟩⟩ := f j j0 q
    have ej : fk (N ++ [⟨v, l, h⟩]) j = fk N j := fk_app j0 q
    have d2 : (fk N j).l < V.length + j := d2
    have e2 : (fk N j).h < V.length + j := e2
    unfold Nok Chk
    show 0 ≤ (fk (N ++ [⟨v, l, h⟩]) j).v ∧ (fk (N ++ [⟨v, l, h⟩]) j).l ≠ (fk (N ++ [⟨v, l, h⟩]) j).h ∧ (∀ k : Int, 0 ≤ k → k < j → fk (N ++ [⟨v, l, h⟩]) k ≠ fk (N ++ [⟨v, l, h⟩]) j) ∧
      (0 ≤ (fk (N ++ [⟨v, l, h⟩]) j).l ∧ (fk (N ++ [⟨v, l, h⟩]) j).l < V.length + j ∧ (fk (N ++ [⟨v, l, h⟩]) j).v < tp (mk vars V (N ++ [⟨v, l, h⟩])) (fk (N ++ [⟨v, l, h⟩]) j).l) ∧
      (0 ≤ (fk (N ++ [⟨v, l, h⟩]) j).h ∧ (fk (N ++ [⟨v, l, h⟩]) j).h < V.length + j ∧ (fk (N ++ [⟨v, l, h⟩]) j).v < tp (mk vars V (N ++ [⟨v, l, h⟩])) (fk (N ++ [⟨v, l, h⟩]) j).h)
    rw [ej, tp_app (by omega), tp_app (by omega)]
    refine ⟨a, b, fun k k0 k1 => ?_, ⟨d1, d2, d3⟩, ⟨e1, e2, e3⟩⟩
    rw [fk_app k0 (by omega)]; exact c k k0 k1
  · have ej : j = N.length := by omega
    subst ej
    have e : fk (N ++ [⟨v, l, h⟩]) N.length = ⟨v, l, h⟩ := fk_last
    unfold Nok Chk
    show 0 ≤ (fk (N ++ [⟨v, l, h⟩]) N.length).v ∧ (fk (N ++ [⟨v, l, h⟩]) N.length).l ≠ (fk (N ++ [⟨v, l, h⟩]) N.length).h ∧ (∀ k : Int, 0 ≤ k → k < N.length → fk (N ++ [⟨v, l, h⟩]) k ≠ fk (N ++ [⟨v, l, h⟩]) N.length) ∧
      (0 ≤ (fk (N ++ [⟨v, l, h⟩]) N.length).l ∧ (fk (N ++ [⟨v, l, h⟩]) N.length).l < V.length + N.length ∧ (fk (N ++ [⟨v, l, h⟩]) N.length).v < tp (mk vars V (N ++ [⟨v, l, h⟩])) (fk (N ++ [⟨v, l, h⟩]) N.length).l) ∧
      (0 ≤ (fk (N ++ [⟨v, l, h⟩]) N.length).h ∧ (fk (N ++ [⟨v, l, h⟩]) N.length).h < V.length + N.length ∧ (fk (N ++ [⟨v, l, h⟩]) N.length).v < tp (mk vars V (N ++ [⟨v, l, h⟩])) (fk (N ++ [⟨v, l, h⟩]) N.length).h)
    rw [e]
    show 0 ≤ v ∧ l ≠ h ∧ _ ∧ (0 ≤ l ∧ _ ∧ v < tp (mk vars V (N ++ [⟨v, l, h⟩])) l) ∧ (0 ≤ h ∧ _ ∧ v < tp (mk vars V (N ++ [⟨v, l, h⟩])) h)
    rw [tp_app l1, tp_app h1]
    refine ⟨hv, hne, fun k k0 k1 => ?_, ⟨l0, l1, ll⟩, ⟨h0, h1, lh⟩⟩
    rw [fk_app k0 k1]; exact hn k k0 k1
theorem mG_app {X : List Fk} (f : Nks vars V N) (g : Nks vars V (N ++ X)) (e : Int → Bool) : ∀ (k : Nat) (r : Int), 0 ≤ r → r < V.length + N.length → (mG (mk vars V N)).mu r ≤ k → gev (mG (mk vars V (N ++ X))) e r = gev (mG (mk vars V N)) e r := by
  intro k
  induction k with
  | zero =>
    intro r r0 r1 hm
    have hl : r < V.length := by
      have hm : (r + 1 - V.length).toNat ≤ 0 := hm
      omega
    rw [gev_lf (G := mG (mk vars V N)) hl, gev_lf (G := mG (mk vars V (N ++ X))) hl]; rfl
  | succ k ih =>
    intro r r0 r1 hm
    by_cases hl : r < V.length
    · rw [gev_lf (G := mG (mk vars V N)) hl, gev_lf (G := mG (mk vars V (N ++ X))) hl]; rfl
    · have ok1 : (mG (mk vars V N)).ok r := ⟨r0, r1⟩
      have ok2 : (mG (mk vars V (N ++ X))).ok r := ⟨r0, by show r < V.length + ((N ++ X).length : Nat); rw [List.length_append]; omega⟩
      have hlo := f.red.lo r ok1 hl
      have hhi := f.red.hi r ok1 hl
      have en : (mG (mk vars V (N ++ X))).nd r = (mG (mk vars V N)).nd r := by
        show fk (N ++ X) (r - V.length) = fk N (r - V.length)
        exact fk_app (by omega) (by omega)
      rw [gev_step f.red ok1 hl, gev_step g.red ok2 hl, en]
      have c0 : (mG (mk vars V N)).ok (if e ((mG (mk vars V N)).nd r).v then ((mG (mk vars V N)).nd r).h else ((mG (mk vars V N)).nd r).l) := by
        split
        · exact hhi.1
        · exact hlo.1
      refine ih _ c0.1 c0.2 ?_
      split <;> omega
end
/-- A node on top of nodes, numbered after K leaves. -/
def ndK (K : Int) (N : List Fk) (v l h : Int) : List Fk × Int := if l = h then (N, l) else match fx ⟨v, l, h⟩ N with
  | some i => (N, K + (i : Int))
  | none => (N ++ [⟨v, l, h⟩], K + (N.length : Int))
structure NkOk (vars : Int) (V : List Int) (N : List Fk) (v l h : Int) (x : List Fk × Int) : Prop where
  nk : Nks vars V x.1
  ext : ∃ X, x.1 = N ++ X
  rf : 0 ≤ x.2 ∧ x.2 < V.length + x.1.length
  lv : v ≤ tp (mk vars V x.1) x.2
  vl : ∀ e, gev (mG (mk vars V x.1)) e x.2 = if e v then gev (mG (mk vars V N)) e h else gev (mG (mk vars V N)) e l
theorem ndK_ok {vars v l h : Int} {V : List Int} {N : List Fk} (f : Nks vars V N) (hv : 0 ≤ v) (l0 : 0 ≤ l) (l1 : l < V.length + N.length) (ll : v < tp (mk vars V N) l) (h0 : 0 ≤ h) (h1 : h < V.length + N.length) (lh : v < tp (mk vars V N) h) :
    NkOk vars V N v l h (ndK V.length N v l h) := by
  unfold ndK
  by_cases e : l = h
  · rw [if_pos e]
    subst e
    exact ⟨f, ⟨[], by simp⟩, ⟨l0, l1⟩, by show v ≤ tp (mk vars V N) l; omega, fun e => by show gev (mG (mk vars V N)) e l = _; split <;> rfl⟩
  · rw [if_neg e]
    cases q : fx ⟨v, l, h⟩ N with
    | some i =>
      obtain ⟨q1, q2, q3⟩ := fx_some q
      have hr : (mG (mk vars V N)).ok (V.length + (i : Int)) := ⟨by omega, by show (V.length : Int) + i < V.length + N.length; omega⟩
      have hlf : ¬ (mG (mk vars V N)).lf (V.length + (i : Int)) := by show ¬ (V.length : Int) + i < V.length; omega
      have hi : (mG (mk vars V N)).nd (V.length + (i : Int)) = ⟨v, l, h⟩ := by
        show fk N ((V.length : Int) + i - V.length) = _
        unfold fk
        rw [show ((V.length : Int) + i - V.length).toNat = i by omega]; exact q2
      refine ⟨f, ⟨[], by simp⟩, ⟨by show 0 ≤ (V.length : Int) + i; omega, hr.2⟩, ?_, fun e => ?_⟩
      · show v ≤ tp (mk vars V N) ((V.length : Int) + i)
        rw [tp_n (A := mk vars V N) hlf]
        have : fk N ((V.length : Int) + i - V.length) = ⟨v, l, h⟩ := hi
        show v ≤ (fk N ((V.length : Int) + i - V.length)).v
        rw [this]; exact Int.le_refl _
      · show gev (mG (mk vars V N)) e ((V.length : Int) + i) = _
        rw [gev_step f.red hr hlf, hi]
        show gev _ e (if e v = true then h else l) = _
        split <;> rfl
    | none =>
      have hn : ∀ k : Int, 0 ≤ k → k < N.length → fk N k ≠ ⟨v, l, h⟩ := fun k k0 k1 => fx_none q k.toNat (by omega)
      have g := nks_snoc f hv e hn l0 l1 ll h0 h1 lh
      have hlen : ((N ++ [(⟨v, l, h⟩ : Fk)]).length : Int) = N.length + 1 := by simp
      have hr : (mG (mk vars V (N ++ [⟨v, l, h⟩]))).ok (V.length + (N.length : Int)) := ⟨by omega, by show (V.length : Int) + N.length < V.length + ((N ++ [(⟨v, l, h⟩ : Fk)]).length : Int); omega⟩
      have hlf : ¬ (mG (mk vars V (N ++ [⟨v, l, h⟩]))).lf (V.length + (N.length : Int)) := by show ¬ (V.length : Int) + N.length < V.length; omega
      have hi : (mG (mk vars V (N ++ [⟨v, l, h⟩]))).nd (V.length + (N.length : Int)) = ⟨v, l, h⟩ := by
        show fk (N ++ [⟨v, l, h⟩]) ((V.length : Int) + N.length - V.length) = _
        rw [show ((V.length : Int) + N.length - V.length) = N.length by omega, fk_last]
      refine ⟨g, ⟨[⟨v, l, h⟩], rfl⟩, ⟨by show 0 ≤ (V.length : Int) + N.length; omega, hr.2⟩, ?_, fun e => ?_⟩
      · show v ≤ tp (mk vars V (N ++ [⟨v, l, h⟩])) ((V.length : Int) + N.length)
        rw [tp_n (A := mk vars V (N ++ [(⟨v, l, h⟩ : Fk)])) hlf]
        have : fk (N ++ [⟨v, l, h⟩]) ((V.length : Int) + N.length - V.length) = ⟨v, l, h⟩ := hi
        show v ≤ (fk (N ++ [⟨v, l, h⟩]) ((V.length : Int) + N.length - V.length)).v
        rw [this]; exact Int.le_refl _
      · show gev (mG (mk vars V (N ++ [⟨v, l, h⟩]))) e ((V.length : Int) + N.length) = _
        rw [gev_step g.red hr hlf, hi]
        show gev _ e (if e v = true then h else l) = _
        split
        · exact mG_app f g e _ h h0 h1 (Nat.le_refl _)
        · exact mG_app f g e _ l l0 l1 (Nat.le_refl _)
theorem prt_node {K : Int} {m : Nat} {O : List Fk} {v : Int} {t1 t2 : List Int} (h1 : t1.length = 2 ^ m) : prt K (m + 1) O v (t1 ++ t2) = ndK K (prt K m (prt K m O (v + 1) t1).1 (v + 1) t2).1 v (prt K m O (v + 1) t1).2 (prt K m (prt K m O (v + 1) t1).1 (v + 1) t2).2 := by
  rw [prt_step h1 (A := (prt K m O (v + 1) t1).1) (a := (prt K m O (v + 1) t1).2) rfl (B := (prt K m (prt K m O (v + 1) t1).1 (v + 1) t2).1) (b := (prt K m (prt K m O (v + 1) t1).1 (v + 1) t2).2) rfl]
  unfold ndK
  by_cases e : (prt K m O (v + 1) t1).2 = (prt K m (prt K m O (v + 1) t1).1 (v + 1) t2).2
  · first | rw [if_pos e, if_pos e] | rw [if_pos e]
  · first | (rw [if_neg e, if_neg e]; done) | (rw [if_neg e]; done) | (rw [if_neg e, if_neg e]; rfl) | (rw [if_neg e]; rfl)
theorem prt_half {K : Int} {m : Nat} {O : List Fk} {v : Int} {t : List Int} (h : t.length = 2 ^ (m + 1)) : prt K (m + 1) O v t = ndK K (prt K m (prt K m O (v + 1) (t.take (2 ^ m))).1 (v + 1) (t.drop (2 ^ m))).1 v (prt K m O (v + 1) (t.take (2 ^ m))).2 (prt K m (prt K m O (v + 1) (t.take (2 ^ m))).1 (v + 1) (t.drop (2 ^ m))).2 := by
  have h1 : (t.take (2 ^ m)).length = 2 ^ m := by rw [List.length_take, h, Nat.pow_succ]; omega
  have := prt_node (K := K) (O := O) (v := v) (t1 := t.take (2 ^ m)) (t2 := t.drop (2 ^ m)) h1
  rw [List.take_append_drop] at this
  exact this
structure PrtOk (vars : Int) (V : List Int) (O : List Fk) (m : Nat) (v : Int) (t : List Int) (x : List Fk × Int) : Prop where
  nk : Nks vars V x.1
  ext : ∃ X, x.1 = O ++ X
  rf : 0 ≤ x.2 ∧ x.2 < V.length + x.1.length
  lv : v ≤ tp (mk vars V x.1) x.2
  tb : ∀ e, tab (fun e => gev (mG (mk vars V x.1)) e x.2) m v e = t.map (gi V)
theorem prt_ok {vars : Int} {V : List Int} : ∀ (m : Nat) (O : List Fk) (v : Int) (t : List Int), Nks vars V O → v = vars - m → 0 ≤ v → t.length = 2 ^ m → (∀ z ∈ t, 0 ≤ z ∧ z < V.length) → PrtOk vars V O m v t (prt V.length m O v t)
  | 0, O, v, t, f, hv, h0, ht, hz => by
    match t, ht with
    | [z], _ =>
      have hz := hz z (by simp)
      have hlf : z < V.length := hz.2
      refine ⟨f, ⟨[], by simp [prt]⟩, ⟨hz.1, by show z < V.length + (O.length : Int); omega⟩, ?_, fun e => ?_⟩
      · show v ≤ tp (mk vars V O) z
        rw [tp_l (A := mk vars V O) hlf]
        show v ≤ vars; omega
      · show [gev (mG (mk vars V O)) e z] = [gi V z]
        rw [gev_lf (G := mG (mk vars V O)) hlf]; rfl
  | m + 1, O, v, t, f, hv, h0, ht, hz => by
    have hp : 2 ^ (m + 1) = 2 ^ m + 2 ^ m := by rw [Nat.pow_succ]; omega
    have e : t = t.take (2 ^ m) ++ t.drop (2 ^ m) := (List.take_append_drop _ _).symm
    have l1 : (t.take (2 ^ m)).length = 2 ^ m := by rw [List.length_take]; omega
    have l2 : (t.drop (2 ^ m)).length = 2 ^ m := by rw [List.length_drop]; omega
    rw [e] at hz ⊢
    generalize t.take (2 ^ m) = t1 at l1 hz
    generalize t.drop (2 ^ m) = t2 at l2 hz
    rw [prt_node l1]
    have A := prt_ok m O (v + 1) t1 f (by omega) (by omega) l1 fun z h => hz z (List.mem_append_left _ h)
    have B := prt_ok m (prt V.length m O (v + 1) t1).1 (v + 1) t2 A.nk (by omega) (by omega) l2 fun z h => hz z (List.mem_append_right _ h)
    generalize prt V.length m O (v + 1) t1 = x at A B
    generalize prt V.length m x.1 (v + 1) t2 = y at B
    obtain ⟨X1, e1⟩ := A.ext
    obtain ⟨X2, e2⟩ := B.ext
    have g2 : Nks vars V (x.1 ++ X2) := e2 ▸ B.nk
    have ra : x.2 < V.length + (y.1.length : Int) := by rw [e2, List.length_append]; have := A.rf.2; omega
    have la : tp (mk vars V y.1) x.2 = tp (mk vars V x.1) x.2 := by rw [e2]; exact tp_app A.rf.2
    have va : ∀ e, gev (mG (mk vars V y.1)) e x.2 = gev (mG (mk vars V x.1)) e x.2 := fun e => by rw [e2]; exact mG_app A.nk g2 e _ x.2 A.rf.1 A.rf.2 (Nat.le_refl _)
    have n := ndK_ok (v := v) B.nk h0 A.rf.1 ra (by have := A.lv; omega) B.rf.1 B.rf.2 (by have := B.lv; omega)
    obtain ⟨X3, e3⟩ := n.ext
    refine ⟨n.nk, ⟨X1 ++ X2 ++ X3, by rw [e3, e2, e1]; simp⟩, n.rf, n.lv, fun e => ?_⟩
    show tab _ m (v + 1) (up e v false) ++ tab _ m (v + 1) (up e v true) = _
    rw [List.map_append, ← A.tb (up e v false), ← B.tb (up e v true)]
    congr 1
    · refine tab_congr m (v + 1) (up e v false) fun e' he => ?_
      have : e' v = false := by rw [he v (by omega)]; exact if_pos rfl
      rw [n.vl, if_neg (by rw [this]; simp), va]
    · refine tab_congr m (v + 1) (up e v true) fun e' he => ?_
      have : e' v = true := by rw [he v (by omega)]; exact if_pos rfl
      rw [n.vl, if_pos this]
/- the diagram of a table -/
section
variable {vars : Int} {t : List Int}
theorem rank_map : (t.map (ix (vls t))).map (gi (vls t)) = t := by
  rw [List.map_map]
  conv => rhs; rw [← List.map_id t]
  exact List.map_congr_left fun z hz => (ix_mem (vls_mem.2 hz)).2.2
theorem dg_prt (hv : 0 ≤ vars) (hl : t.length = 2 ^ vars.toNat) : PrtOk vars (vls t) [] vars.toNat 0 (t.map (ix (vls t))) (prt (vls t).length vars.toNat [] 0 (t.map (ix (vls t)))) :=
  prt_ok vars.toNat [] 0 _ nks_nil (by omega) (Int.le_refl _) (by rw [List.length_map]; exact hl) fun z hz => by
    obtain ⟨y, hy, rfl⟩ := List.mem_map.1 hz
    have := ix_mem (vls_mem.2 hy)
    exact ⟨this.1, this.2.1⟩
/-- Its values are the table. -/
theorem vT_dg (hv : 0 ≤ vars) (hl : t.length = 2 ^ vars.toNat) : vT (dg vars t) = t := by
  have h := (dg_prt hv hl).tb e0
  rw [rank_map] at h
  exact h
theorem dg_loc (hv : 0 ≤ vars) (hl : t.length = 2 ^ vars.toNat) (hin : ∀ z ∈ t, inR z) : Loc (dg vars t) := by
  have p := dg_prt hv hl
  refine ⟨fun i h0 h1 => ?_, p.nk, p.rf⟩
  have h1 : i < ((vls t).length : Int) := h1
  refine ⟨hin _ (vls_mem.1 (gi_mem h0 h1)), fun hi => ?_⟩
  have key := List.pairwise_iff_getElem.1 (vls_ss t) (i - 1).toNat i.toNat (by omega) (by omega) (by omega)
  show gi (vls t) (i - 1) < gi (vls t) i
  unfold gi
  rw [List.getD_eq_getElem?_getD, List.getD_eq_getElem?_getD, List.getElem?_eq_getElem (by omega), List.getElem?_eq_getElem (by omega)]
  exact key
theorem dg_ok (hv : 0 ≤ vars) (h40 : vars ≤ 40) (hl : t.length = 2 ^ vars.toNat) (hin : ∀ z ∈ t, inR z) (hb : ¬ big (dg vars t)) : Ok (dg vars t) := by
  have hb2 : (dg vars t).L.length ≤ 4096 ∧ (dg vars t).N.length ≤ 4096 := by unfold big at hb; omega
  refine ⟨⟨hv, h40⟩, hb2, dg_loc hv hl hin, ?_⟩
  rw [vT_dg hv hl]; rfl
theorem mkE_0 (h : mkE vars t = 0) : (∀ z ∈ t, inR z) ∧ ¬ big (dg vars t) := by
  unfold mkE at h
  by_cases q : ∃ z ∈ t, ¬ inR z
  · rw [if_pos q] at h; omega
  · rw [if_neg q] at h
    by_cases b : big (dg vars t)
    · rw [if_pos b] at h; omega
    · exact ⟨fun z hz => Classical.byContradiction fun n => q ⟨z, hz, n⟩, b⟩
theorem mkE_of (h : ∀ z ∈ t, inR z) (b : ¬ big (dg vars t)) : mkE vars t = 0 := by
  unfold mkE
  rw [if_neg fun ⟨z, hz, n⟩ => n (h z hz), if_neg b]
theorem mkE_3 (h : ∃ z ∈ t, ¬ inR z) : mkE vars t = 3 := if_pos h
theorem mkD_0 (h : mkE vars t = 0) : mkD vars t = dg vars t := by unfold mkD; rw [h, orZ_0]
theorem mkD_n (h : mkE vars t ≠ 0) : mkD vars t = zM := by unfold mkD; exact orZ_n h
theorem mk_ok (hv : 0 ≤ vars) (h40 : vars ≤ 40) (hl : t.length = 2 ^ vars.toNat) (h : mkE vars t = 0) : Ok (mkD vars t) := by
  rw [mkD_0 h]
  exact dg_ok hv h40 hl (mkE_0 h).1 (mkE_0 h).2
theorem vT_mk (hv : 0 ≤ vars) (hl : t.length = 2 ^ vars.toNat) (h : mkE vars t = 0) : vT (mkD vars t) = t := by
  rw [mkD_0 h]; exact vT_dg hv hl
theorem dd_len : ∀ {l : List Int}, (dd l).length ≤ l.length
  | [] => Nat.le_refl _
  | a :: l => by
    have ih := dd_len (l := l)
    unfold dd
    cases h : dd l with
    | nil => simp
    | cons b r =>
      rw [h] at ih
      simp only [List.length_cons] at ih
      show (if a = b then b :: r else a :: b :: r).length ≤ _
      split
      · simp only [List.length_cons]; omega
      · simp only [List.length_cons]; omega
theorem vls_len (t : List Int) : (vls t).length ≤ t.length := by
  have := dd_len (l := srt t)
  unfold vls
  rwa [List.length_mergeSort] at this
/-- Small tables have small diagrams. -/
theorem dg_small (h12 : vars ≤ 12) (hl : t.length = 2 ^ vars.toNat) : ¬ big (dg vars t) := by
  have h1 := vls_len t
  have h2 := (prt_len (K := (vls t).length) vars.toNat [] 0 (t.map (ix (vls t)))).2
  have h3 : 2 ^ vars.toNat ≤ 2 ^ 12 := Nat.pow_le_pow_right (by omega) (by omega)
  unfold big
  show ¬ (4096 < (vls t).length ∨ 4096 < (prt (vls t).length vars.toNat [] 0 (t.map (ix (vls t)))).1.length)
  have h4 : ([] : List Fk).length = 0 := rfl
  omega
end
theorem tabv_len {vars : Int} {α : Type} (f : (Int → Bool) → α) : (tabv vars f).length = 2 ^ vars.toNat := tab_len _ _ _ _
/-- A valid diagram is the one of its values. -/
theorem Ok.dg {A : Mg} (h : Ok A) : dg A.v (vT A) = A := h.2.2.2
theorem Ok.dep {A : Mg} (h : Ok A) : Dep A.v (vl A) := gev_dep h.red h.1.1 h.rt
theorem vl_in {A : Mg} (h : Ok A) (e : Int → Bool) : inR (vl A e) := by
  have hm : vl A e ∈ vT A := (tabv_mem h.1.1 h.dep).2 ⟨e, rfl⟩
  have h2 : vl A e ∈ vls (vT A) := vls_mem.2 hm
  have e2 : A.L = vls (vT A) := (congrArg Mg.L h.dg).symm
  exact h.rng _ (e2 ▸ h2)
theorem vT_in {A : Mg} (h : Ok A) : ∀ z ∈ vT A, inR z := fun z hz => by
  obtain ⟨e, rfl⟩ := (tabv_mem h.1.1 h.dep).1 hz
  exact vl_in h e
end Go.Proofs.Ytkmhjcjpohpiaaa
