/- Decision diagrams with leaves in memory; the builder of leaves and nodes. No program in sight. -/
import Derived.Test.YtkmhjcjpohpiaaaMtS
namespace Go.Proofs.Ytkmhjcjpohpiaaa
open Go Go.Vc
open Classical
/-- The node at a place. -/
abbrev fk (N : List Fk) (i : Int) : Fk := N.getD i.toNat ⟨0, 0, 0⟩
def fkc (n : Fk) : List Value := [.int .i64 n.v, .int .i64 n.l, .int .i64 n.h]
def fks (N : List Fk) : List Value := N.flatMap fkc
theorem fks_len (N : List Fk) : (fks N).length = N.length * 3 := by
  induction N with
  | nil => rfl
  | cons a N ih =>
    show (fkc a ++ fks N).length = _
    rw [List.length_append, ih]; simp [fkc]; omega
theorem fks_snoc (N : List Fk) (n : Fk) : fks (N ++ [n]) = fks N ++ [.int .i64 n.v, .int .i64 n.l, .int .i64 n.h] := by simp [fks, fkc]
theorem fks_get : ∀ (N : List Fk) (i : Nat), i < N.length → ((fks N).drop (i * 3)).take 3 = fkc (N.getD i ⟨0, 0, 0⟩)
  | [], i, h => by simp at h
  | a :: N, 0, _ => by
    show ((fkc a ++ fks N).drop (0 * 3)).take 3 = _
    simp [fkc]
  | a :: N, i + 1, h => by
    have ih := fks_get N i (by simpa using h)
    show ((fkc a ++ fks N).drop ((i + 1) * 3)).take 3 = fkc (N.getD i ⟨0, 0, 0⟩)
    rw [← ih, show (i + 1) * 3 = (fkc a).length + i * 3 by simp [fkc]; omega, List.drop_append, List.drop_eq_nil_of_le (by omega)]
    simp
theorem fks_at {N : List Fk} {i : Int} (_h0 : 0 ≤ i) (h1 : i < N.length) : ((fks N).drop (i.toNat * 3)).take 3 = [.int .i64 (fk N i).v, .int .i64 (fk N i).l, .int .i64 (fk N i).h] := fks_get N i.toNat (by omega)
theorem fks_el {N : List Fk} {i : Int} {o : Nat} {u : Value} (h0 : 0 ≤ i) (h1 : i < N.length) (ho : o < 3) (hu : [Value.int .i64 (fk N i).v, .int .i64 (fk N i).l, .int .i64 (fk N i).h][o]? = some u) : (fks N)[i.toNat * 3 + o]? = some u := by
  rw [← hu, ← fks_at h0 h1, List.getElem?_take, if_pos ho, List.getElem?_drop]
/-- Nodes in memory. -/
def Fks (H : HV) (v : Value) (N : List Fk) : Prop := SlS 3 H v N.length (fks N)
theorem Fks.mono {H H' : HV} {v : Value} {N : List Fk} (h : Fks H v N) (s : Vc.Sub H H') : Fks H' v N := SlS.mono h s
theorem Fks.nil {H : HV} : Fks H (.slice none 0 0) [] := SlS.nil
/- keys -/
def fkv (n : Fk) : Value := .agg #[.int .i64 n.v, .int .i64 n.l, .int .i64 n.h]
abbrev pt (b : Nat) : Value := .pointer (some ⟨b, 0, none⟩)
theorem bool_dec (b : Bool) : Value.bool b = Value.bool (decide (b = true)) := by cases b <;> rfl
theorem qv_to {P : Program} {C : Cx} {o : Oper} {env : Env} {V : HV} {σ : Res} {v v' : Value} (e : v = v') (h : QV P C o env V σ v) : QV P C o env V σ v' := e ▸ h
theorem fk_eq3 {a b : Fk} (h : a.v = b.v ∧ a.l = b.l ∧ a.h = b.h) : a = b := Fk.eq h.1 h.2.1 h.2.2
theorem ext_fk {A B : List Fk} (hl : A.length = B.length) (h : ∀ x : Int, 0 ≤ x → x < A.length → fk A x = fk B x) : A = B := by
  refine List.ext_getElem hl fun i h1 h2 => ?_
  have := h i (by omega) (by omega)
  simp only [List.getD_eq_getElem?_getD, Int.toNat_natCast, List.getElem?_eq_getElem h1, List.getElem?_eq_getElem h2, Option.getD_some] at this
  exact this
/-- A diagram with leaves. -/
structure Mg where
  v : Int
  L : List Int
  N : List Fk
  r : Int
theorem mg_ext {a b : Mg} (h1 : a.v = b.v) (h2 : a.L = b.L) (h3 : a.N = b.N) (h4 : a.r = b.r) : a = b := by
  cases a; cases b; simp at h1 h2 h3 h4; subst h1; subst h2; subst h3; subst h4; rfl
/-- Its slices in memory. -/
structure Mt (H : HV) (lv nv : Value) (A : Mg) : Prop where
  l : Ints .i64 H lv A.L
  n : Fks H nv A.N
theorem Mt.mono {H H' : HV} {lv nv : Value} {A : Mg} (h : Mt H lv nv A) (s : Vc.Sub H H') : Mt H' lv nv A := ⟨h.l.mono s, h.n.mono s⟩
theorem Mt.nil {H : HV} {v r : Int} : Mt H (.slice none 0 0) (.slice none 0 0) ⟨v, [], [], r⟩ := ⟨Ints.nil, Fks.nil⟩
/-- The variable of a reference. -/
def tp (A : Mg) (r : Int) : Int := if r < A.L.length then A.v else (fk A.N (r - A.L.length)).v
theorem tp_l {A : Mg} {r : Int} (h : r < A.L.length) : tp A r = A.v := if_pos h
theorem tp_n {A : Mg} {r : Int} (h : ¬ r < A.L.length) : tp A r = (fk A.N (r - A.L.length)).v := if_neg h
/-- The reference that follows. -/
noncomputable def stp (A : Mg) (r x : Int) (hi : Prop) : Int := if tp A r ≠ x then r else if hi then (fk A.N (r - A.L.length)).h else (fk A.N (r - A.L.length)).l
theorem stp_0 {A : Mg} {r x : Int} {hi : Prop} (h : tp A r ≠ x) : stp A r x hi = r := if_pos h
theorem stp_h {A : Mg} {r x : Int} {hi : Prop} (h : tp A r = x) (q : hi) : stp A r x hi = (fk A.N (r - A.L.length)).h := by unfold stp; rw [if_neg (fun e => e h), if_pos q]
theorem stp_l {A : Mg} {r x : Int} {hi : Prop} (h : tp A r = x) (q : ¬ hi) : stp A r x hi = (fk A.N (r - A.L.length)).l := by unfold stp; rw [if_neg (fun e => e h), if_neg q]
/- the builder -/
def gx (n : Int) : List Int → Option Nat
  | [] => none
  | a :: r => if a = n then some 0 else (gx n r).map (· + 1)
theorem gx_some {n : Int} : ∀ {O : List Int} {i : Nat}, gx n O = some i → i < O.length ∧ O.getD i 0 = n ∧ ∀ j : Nat, j < i → O.getD j 0 ≠ n
  | [], _, h => by cases h
  | a :: r, i, h => by
    unfold gx at h
    by_cases e : a = n
    · rw [if_pos e] at h; simp at h; subst h; exact ⟨by simp, by simpa using e, fun j hj => by omega⟩
    · rw [if_neg e] at h
      cases hr : gx n r with
      | none => rw [hr] at h; cases h
      | some j =>
        rw [hr] at h; simp at h; subst h
        obtain ⟨h1, h2, h3⟩ := gx_some hr
        refine ⟨by simpa using h1, by simpa using h2, fun k hk => ?_⟩
        cases k with
        | zero => simpa using e
        | succ k => simpa using h3 k (by omega)
theorem gx_none {n : Int} : ∀ {O : List Int}, gx n O = none → ∀ i : Nat, i < O.length → O.getD i 0 ≠ n
  | [], _, i, hi => by simp at hi
  | a :: r, h, i, hi => by
    unfold gx at h
    by_cases e : a = n
    · rw [if_pos e] at h; cases h
    · rw [if_neg e] at h
      cases hr : gx n r with
      | some j => rw [hr] at h; cases h
      | none =>
        cases i with
        | zero => simpa using e
        | succ i => simpa using gx_none hr i (by simpa using hi)
theorem fx_snoc {n q : Fk} : ∀ (M : List Fk), fx q (M ++ [n]) = match fx q M with | some i => some i | none => if n = q then some M.length else none
  | [] => by
    show (if n = q then some 0 else (fx q []).map (· + 1)) = _
    by_cases h : n = q
    · rw [if_pos h]; show some 0 = if n = q then some 0 else none; rw [if_pos h]
    · rw [if_neg h]; show none = if n = q then some 0 else none; rw [if_neg h]
  | a :: M => by
    show (if a = q then some 0 else (fx q (M ++ [n])).map (· + 1)) = match (if a = q then some 0 else (fx q M).map (· + 1)) with | some i => some i | none => if n = q then some (a :: M).length else none
    by_cases h : a = q
    · rw [if_pos h, if_pos h]
    · rw [if_neg h, if_neg h, fx_snoc M]
      cases fx q M with
      | some i => rfl
      | none =>
        show (if n = q then some M.length else none).map (· + 1) = if n = q then some (M.length + 1) else none
        by_cases h2 : n = q
        · rw [if_pos h2, if_pos h2]; rfl
        · rw [if_neg h2, if_neg h2]; rfl
theorem gx_snoc {n q : Int} : ∀ (M : List Int), gx q (M ++ [n]) = match gx q M with | some i => some i | none => if n = q then some M.length else none
  | [] => by
    show (if n = q then some 0 else (gx q []).map (· + 1)) = _
    by_cases h : n = q
    · rw [if_pos h]; show some 0 = if n = q then some 0 else none; rw [if_pos h]
    · rw [if_neg h]; show none = if n = q then some 0 else none; rw [if_neg h]
  | a :: M => by
    show (if a = q then some 0 else (gx q (M ++ [n])).map (· + 1)) = match (if a = q then some 0 else (gx q M).map (· + 1)) with | some i => some i | none => if n = q then some (a :: M).length else none
    by_cases h : a = q
    · rw [if_pos h, if_pos h]
    · rw [if_neg h, if_neg h, gx_snoc M]
      cases gx q M with
      | some i => rfl
      | none =>
        show (if n = q then some M.length else none).map (· + 1) = if n = q then some (M.length + 1) else none
        by_cases h2 : n = q
        · rw [if_pos h2, if_pos h2]; rfl
        · rw [if_neg h2, if_neg h2]; rfl
/-- The places of the leaves, and of the nodes. -/
noncomputable def lfF (L : List Int) : Int → Option Int := fun n => (gx n L).map fun i : Nat => (i : Int)
noncomputable def idF (N : List Fk) : Fk → Option Int := fun n => (fx n N).map fun i : Nat => (i : Int)
theorem lfF_0 : lfF [] = fun _ => none := rfl
theorem idF_0 : idF [] = fun _ => none := rfl
theorem lfF_step {M : List Int} {n : Int} (h : lfF M n = none) : setF (lfF M) n (M.length : Int) = lfF (M ++ [n]) := by
  funext q
  have hn : gx n M = none := by unfold lfF at h; simpa using h
  unfold lfF
  rw [gx_snoc]
  by_cases e : q = n
  · subst e; rw [setF_same, hn]; show _ = Option.map _ (if q = q then some M.length else none); rw [if_pos rfl]; rfl
  · rw [setF_other e]
    cases gx q M with
    | some i => rfl
    | none => show none = Option.map _ (if n = q then some M.length else none); rw [if_neg fun z => e z.symm]; rfl
theorem idF_step {M : List Fk} {n : Fk} (h : idF M n = none) : setF (idF M) n (M.length : Int) = idF (M ++ [n]) := by
  funext q
  have hn : fx n M = none := by unfold idF at h; simpa using h
  unfold idF
  rw [fx_snoc]
  by_cases e : q = n
  · subst e; rw [setF_same, hn]; show _ = Option.map _ (if q = q then some M.length else none); rw [if_pos rfl]; rfl
  · rw [setF_other e]
    cases fx q M with
    | some i => rfl
    | none => show none = Option.map _ (if n = q then some M.length else none); rw [if_neg fun z => e z.symm]; rfl
def inR (z : Int) : Prop := -1099511627776 ≤ z ∧ z ≤ 1099511627776
/-- A leaf is out of range. -/
def wd (L : List Int) : Prop := ∃ z ∈ L, ¬ inR z
theorem wd_nil : ¬ wd [] := fun ⟨_, h, _⟩ => by cases h
theorem wd_snoc {L : List Int} {z : Int} : wd (L ++ [z]) ↔ wd L ∨ ¬ inR z := ⟨fun ⟨x, hx, h⟩ => by
  rcases List.mem_append.1 hx with q | q
  · exact .inl ⟨x, q, h⟩
  · rw [List.mem_singleton] at q; subst q; exact .inr h, fun h => by
  rcases h with ⟨x, hx, h⟩ | h
  · exact ⟨x, List.mem_append_left _ hx, h⟩
  · exact ⟨z, List.mem_append_right _ (List.mem_singleton.2 rfl), h⟩⟩
/-- The builder's leaf. -/
def lfR (L : List Int) (z : Int) : List Int × Int := match gx z L with
  | some i => (L, 2 * (i : Int))
  | none => (L ++ [z], 2 * (L.length : Int))
theorem lf_hit {L : List Int} {z : Int} (i : (lfF L z).isSome = true) : lfR L z = (L, 2 * (lfF L z).getD 0) := by
  unfold lfR
  unfold lfF at *
  cases q : gx z L with
  | none => rw [q] at i; cases i
  | some k => rfl
theorem lf_new {L : List Int} {z : Int} (i : ¬ (lfF L z).isSome = true) : lfF L z = none ∧ lfR L z = (L ++ [z], 2 * (L.length : Int)) := by
  unfold lfR
  unfold lfF at *
  cases q : gx z L with
  | none => exact ⟨rfl, rfl⟩
  | some k => rw [q] at i; exact absurd rfl i
/-- The builder's node. -/
def ndR (N : List Fk) (v l h : Int) : List Fk × Int := if l = h then (N, l) else match fx ⟨v, l, h⟩ N with
  | some i => (N, 2 * (i : Int) + 1)
  | none => (N ++ [⟨v, l, h⟩], 2 * (N.length : Int) + 1)
theorem nd_eq {N : List Fk} {v l h : Int} (e : l = h) : ndR N v l h = (N, l) := if_pos e
theorem nd_hit {N : List Fk} {v l h : Int} (e : l ≠ h) (i : (idF N ⟨v, l, h⟩).isSome = true) : ndR N v l h = (N, 2 * (idF N ⟨v, l, h⟩).getD 0 + 1) := by
  unfold ndR; rw [if_neg e]
  unfold idF at *
  cases q : fx ⟨v, l, h⟩ N with
  | none => rw [q] at i; cases i
  | some k => rfl
theorem nd_new {N : List Fk} {v l h : Int} (e : l ≠ h) (i : ¬ (idF N ⟨v, l, h⟩).isSome = true) : idF N ⟨v, l, h⟩ = none ∧ ndR N v l h = (N ++ [⟨v, l, h⟩], 2 * (N.length : Int) + 1) := by
  unfold ndR; rw [if_neg e]
  unfold idF at *
  cases q : fx ⟨v, l, h⟩ N with
  | none => exact ⟨rfl, rfl⟩
  | some k => rw [q] at i; exact absurd rfl i
theorem ndR_len {N : List Fk} {v l h : Int} : N.length ≤ (ndR N v l h).1.length ∧ (ndR N v l h).1.length ≤ N.length + 1 := by
  unfold ndR
  split
  · exact ⟨Nat.le_refl _, Nat.le_succ _⟩
  · split
    · exact ⟨Nat.le_refl _, Nat.le_succ _⟩
    · simp
theorem lfR_len {L : List Int} {z : Int} : L.length ≤ (lfR L z).1.length ∧ (lfR L z).1.length ≤ L.length + 1 := by
  unfold lfR
  split
  · exact ⟨Nat.le_refl _, Nat.le_succ _⟩
  · simp
theorem lfF_bd (L : List Int) (z : Int) : 0 ≤ (lfF L z).getD 0 ∧ (lfF L z).getD 0 ≤ L.length := by
  unfold lfF
  cases q : gx z L with
  | none => exact ⟨Int.le_refl _, by show (0 : Int) ≤ _; omega⟩
  | some k => have := (gx_some q).1; exact ⟨by show (0 : Int) ≤ (k : Int); omega, by show (k : Int) ≤ _; omega⟩
theorem idF_bd (N : List Fk) (n : Fk) : 0 ≤ (idF N n).getD 0 ∧ (idF N n).getD 0 ≤ N.length := by
  unfold idF
  cases q : fx n N with
  | none => exact ⟨Int.le_refl _, by show (0 : Int) ≤ _; omega⟩
  | some k => have := (fx_some q).1; exact ⟨by show (0 : Int) ≤ (k : Int); omega, by show (k : Int) ≤ _; omega⟩
end Go.Proofs.Ytkmhjcjpohpiaaa
