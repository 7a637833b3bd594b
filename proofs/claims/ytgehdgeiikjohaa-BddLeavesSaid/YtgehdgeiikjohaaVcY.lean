/- Slices against nil; new elements that lie in memory that came in. No program in sight. -/
import Derived.Test.YtgehdgeiikjohaaVcX
namespace Go.Vc
open Go Go.RowKit
section
variable {P : Program} {C : Cx} {env : Env} {V : HV} {σ : Res} {dst : Option Nat} {x y : Operand} {t T T' E : TypeId} {pos : String} {af : Array Edge} {g : Option (Nat × Bool)} {n c n2 c2 : Nat}
theorem run_eq_nil {a : Option Addr} {w : World} (hT : P.underlying T = some (.slice E)) : (Op.equal T (.slice a n c) (.slice none n2 c2)).run P w = .ok a.isNone w := by
  show (Op.equalIn (9999 + 1) T (.slice a n c) (.slice none n2 c2)).run P w = _
  generalize 9999 = d
  cases a <;> simp [Op.equalIn, run_underlying hT]
theorem qv_eqnil {a : Option Addr} (hT : P.underlying T = some (.slice E)) (hx : ev env x = .slice a n c) (hy : ev env y = .slice none n2 c2) : QV P C ⟨dst, .binOp .eql T x y T', t, pos, af, g⟩ env V σ (.bool a.isNone) := qv_run fun w _ => by
  simp [execOp, hx, hy, eqGuard, binOp, run_eq_nil hT]
end
theorem Sl.cases {V : HV} {v : Value} {vals : List Value} (h : Sl V v vals) : (∃ cap, v = .slice none 0 cap ∧ vals = []) ∨ (∃ ad cap, v = .slice (some ad) vals.length cap ∧ ∀ w, Sub V (hv w) → ∀ (j : Nat) (u : Value), vals[j]? = some u → w.cell? (ad.add j) = some u) := by
  obtain ⟨a, cap, rfl, h1, h2, h3⟩ := h
  cases a with
  | none =>
    left
    have : vals = [] := Decidable.not_not.1 fun hn => by obtain ⟨b, off, cs, T, fz, e, _⟩ := h3 hn; cases e
    subst this
    exact ⟨cap, rfl, rfl⟩
  | some ad =>
    right
    refine ⟨ad, cap, rfl, fun w hs j u hu => ?_⟩
    have hlt : j < vals.length := (List.getElem?_eq_some_iff.1 hu).1
    have hn : vals ≠ [] := fun e => by rw [e] at hlt; cases hlt
    obtain ⟨b, off, cs, T, fz, e, hb, hc⟩ := h3 hn
    cases e
    have hadd : (⟨b, off, none⟩ : Addr).add j = ⟨b, off + j, none⟩ := by unfold Addr.add; split <;> simp_all
    have hw : w.heap[b]? = some (.cells cs T fz) := hs _ _ hb
    rw [hadd]
    simp [World.cell?, hw, hc j hlt, hu]
end Go.Vc
