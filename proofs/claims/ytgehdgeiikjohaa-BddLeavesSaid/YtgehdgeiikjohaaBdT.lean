/- Diagrams in memory; the walk that lays a diagram out. No program in sight. -/
import Derived.Test.YtgehdgeiikjohaaBdS
import Derived.Test.YtgehdgeiikjohaaVcZ
namespace Go.Proofs.Ytgehdgeiikjohaa
open Go Go.Vc
open Classical
/-- The node at a place. -/
abbrev fk (N : List Fk) (i : Int) : Fk := N.getD i.toNat ⟨0, 0, 0⟩
theorem nd_fk (N : List Fk) (r : Int) : nd N r = fk N (r - 2) := rfl
def fkc (n : Fk) : List Value := [.int .i64 n.v, .int .i64 n.l, .int .i64 n.h]
def fks (N : List Fk) : List Value := N.flatMap fkc
theorem fks_len (N : List Fk) : (fks N).length = N.length * 3 := by
  induction N with
  | nil => rfl
  | cons a N ih =>
    show (fkc a ++ fks N).length = _
    rw [List.length_append, ih]; simp [fkc]; omega
theorem fks_snoc (N : List Fk) (n : Fk) : fks (N ++ [n]) = fks N ++ [.int .i64 n.v, .int .i64 n.l, .int .i64 n.h] := by simp [fks, fkc]
theorem fks_get : ∀ (N : List Fk) (i : Nat), i < N.length → ((fks N).drop (i * 3)).take 3 = fkc (N.getD i ⟨0, 0, 0⟩)
  | [], i, h => by simp at h
  | a :: N, 0, _ => by
    show ((fkc a ++ fks N).drop (0 * 3)).take 3 = _
    simp [fkc]
  | a :: N, i + 1, h => by
    have ih := fks_get N i (by simpa using h)
    show ((fkc a ++ fks N).drop ((i + 1) * 3)).take 3 = fkc (N.getD i ⟨0, 0, 0⟩)
    rw [← ih, show (i + 1) * 3 = (fkc a).length + i * 3 by simp [fkc]; omega, List.drop_append, List.drop_eq_nil_of_le (by omega)]
    simp
theorem fks_at {N : List Fk} {i : Int} (_h0 : 0 ≤ i) (h1 : i < N.length) : ((fks N).drop (i.toNat * 3)).take 3 = [.int .i64 (fk N i).v, .int .i64 (fk N i).l, .int .i64 (fk N i).h] := fks_get N i.toNat (by omega)
theorem fks_el {N : List Fk} {i : Int} {o : Nat} {u : Value} (h0 : 0 ≤ i) (h1 : i < N.length) (ho : o < 3) (hu : [Value.int .i64 (fk N i).v, .int .i64 (fk N i).l, .int .i64 (fk N i).h][o]? = some u) : (fks N)[i.toNat * 3 + o]? = some u := by
  rw [← hu, ← fks_at h0 h1, List.getElem?_take, if_pos ho, List.getElem?_drop]
/-- Nodes in memory. -/
def Fks (H : HV) (v : Value) (N : List Fk) : Prop := SlS 3 H v N.length (fks N)
theorem Fks.mono {H H' : HV} {v : Value} {N : List Fk} (h : Fks H v N) (s : Vc.Sub H H') : Fks H' v N := SlS.mono h s
theorem Fks.nil {H : HV} : Fks H (.slice none 0 0) [] := SlS.nil
/- keys -/
def fkv (n : Fk) : Value := .agg #[.int .i64 n.v, .int .i64 n.l, .int .i64 n.h]
/-- laying out -/
noncomputable def layF (N : List Fk) (root : Int) : List Fk × Int := ((vis N (root.toNat + 1) root ([], pl0)).1.1, (vis N (root.toNat + 1) root ([], pl0)).2)
/-- No more than were there. -/
theorem vis_len {vars : Int} {N : List Fk} (f : Fm vars N) {s : Ly} (hI : LyI N s) : s.1.length ≤ N.length := by
  -- the places are hit by different references
  have h : ∀ p : Fin s.1.length, ∃ r : Fin N.length, s.2 (2 + (r.val : Int)) = some (2 + (p.val : Int)) := fun p => by
    obtain ⟨r, hr⟩ := hI.sur (2 + (p.val : Int)) ⟨by omega, by have := p.isLt; omega⟩
    obtain ⟨q1, q2, q3⟩ := hI.rf r _ hr
    have h2 := q3.2 (by omega)
    have h3 := q1.2
    exact ⟨⟨(r - 2).toNat, by omega⟩, by show s.2 (2 + ((r - 2).toNat : Int)) = _; rw [show (2 : Int) + ((r - 2).toNat : Int) = r by omega]; exact hr⟩
  refine Classical.byContradiction fun q => ?_
  -- pigeons
  have key : ∀ (n m : Nat) (F : Fin n → Fin m), m < n → ∃ a b, a ≠ b ∧ F a = F b := by
    intro n
    induction n with
    | zero => intro m F h; omega
    | succ n ih =>
      intro m F hlt
      by_cases hm : m ≤ n
      · by_cases hex : ∃ a : Fin n, F a.castSucc = F (Fin.last n)
        · obtain ⟨a, ha⟩ := hex
          exact ⟨a.castSucc, Fin.last n, by intro e; have := congrArg Fin.val e; simp at this; have := a.isLt; omega, ha⟩
        · by_cases hm0 : m = 0
          · subst hm0; exact (F (Fin.last n)).elim0
          · obtain ⟨m', rfl⟩ : ∃ m', m = m' + 1 := ⟨m - 1, by omega⟩
            by_cases hmn : m' + 1 < n
            · obtain ⟨a, b, hab, e⟩ := ih (m' + 1) (fun a => F a.castSucc) hmn
              exact ⟨a.castSucc, b.castSucc, by intro e; exact hab (Fin.castSucc_inj.1 e), e⟩
            · -- as many as places: the last value is left out
              let L := F (Fin.last n)
              have hne : ∀ a : Fin n, F a.castSucc ≠ L := fun a e => hex ⟨a, e⟩
              let G : Fin n → Fin m' := fun a => if hlt : (F a.castSucc).val < L.val then ⟨(F a.castSucc).val, by have := L.isLt; omega⟩ else ⟨(F a.castSucc).val - 1, by
                have h1 := (F a.castSucc).isLt
                have h2 : (F a.castSucc).val ≠ L.val := fun e => hne a (Fin.ext e)
                omega⟩
              obtain ⟨a, b, hab, e⟩ := ih m' G (by omega)
              refine ⟨a.castSucc, b.castSucc, by intro e; exact hab (Fin.castSucc_inj.1 e), Fin.ext ?_⟩
              have ha : (F a.castSucc).val ≠ L.val := fun e => hne a (Fin.ext e)
              have hb : (F b.castSucc).val ≠ L.val := fun e => hne b (Fin.ext e)
              have e' := congrArg Fin.val e
              simp only [G] at e'
              split at e' <;> split at e' <;> simp at e' <;> omega
      · omega
  obtain ⟨a, b, hab, e⟩ := key s.1.length N.length (fun p => (h p).choose) (by omega)
  have h1 := (h a).choose_spec
  have h2 := (h b).choose_spec
  have e : (h a).choose = (h b).choose := e
  rw [e] at h1
  rw [h1] at h2
  simp at h2
  exact hab (Fin.ext (by omega))
/-- The reference below a reference, for a variable that is not below its level. -/
noncomputable def fol (vars : Int) (N : List Fk) (r v : Int) (hi : Prop) : Int := if lev vars N r ≠ v then r else if hi then (nd N r).h else (nd N r).l
theorem fol_0 {vars r v : Int} {N : List Fk} {hi : Prop} (h : lev vars N r ≠ v) : fol vars N r v hi = r := if_pos h
theorem fol_h {vars r v : Int} {N : List Fk} {hi : Prop} (h : lev vars N r = v) (q : hi) : fol vars N r v hi = (nd N r).h := by unfold fol; rw [if_neg (fun e => e h), if_pos q]
theorem fol_l {vars r v : Int} {N : List Fk} {hi : Prop} (h : lev vars N r = v) (q : ¬ hi) : fol vars N r v hi = (nd N r).l := by unfold fol; rw [if_neg (fun e => e h), if_neg q]
theorem LyI.ge2 {N : List Fk} {s : Ly} (h : LyI N s) {r : Int} (hr : Rf N r) (hn : s.2 r = none) : 2 ≤ r := by
  have h0 := hr.1
  refine Classical.byContradiction fun q => ?_
  by_cases e : r = 0
  · subst e; rw [h.z] at hn; cases hn
  · have : r = 1 := by omega
    subst this; rw [h.o] at hn; cases hn
theorem vis_miss {N : List Fk} {k : Nat} {r : Int} {s : Ly} {x y : Ly × Int} (hs : s.2 r = none) (hx : x = vis N k (fk N (r - 2)).l s) (hy : y = vis N k (fk N (r - 2)).h x.1) :
    vis N (k + 1) r s = ((y.1.1 ++ [⟨(fk N (r - 2)).v, x.2, y.2⟩], setF y.1.2 r (2 + (y.1.1.length : Int))), 2 + (y.1.1.length : Int)) := by
  subst hx; subst hy
  rw [vis, hs]
  rfl
/-- The contract of the walk that lays a diagram out. -/
abbrev pt (b : Nat) : Value := .pointer (some ⟨b, 0, none⟩)
end Go.Proofs.Ytgehdgeiikjohaa
