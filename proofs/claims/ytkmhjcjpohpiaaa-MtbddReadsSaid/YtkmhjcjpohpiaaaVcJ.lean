/- Calls that read a growing piece; parts of slices of several cells. No program in sight. -/
import Derived.Test.YtkmhjcjpohpiaaaWb
namespace Go.Vc
open Go Go.RowKit
section
variable {P : Program} {C : Cx} {env : Env} {V : HV} {σ : Res} {x y z : Operand} {T E t : TypeId} {dst : Option Nat} {pos : String} {af : Array Edge} {g : Option (Nat × Bool)} {k n s : Nat} {xs : List Value} {u : Value}
theorem qv_call_gi {l : List Operand} {at_ : Array TypeId} {f : FuncId} {cap : Array Value} {args : List Value} {v : Value} (hk : σ[k]? = some (Gr E 1 u n xs)) (h : ∀ V1, Sub V V1 → Sl V1 u xs → FnC P f args V1 [] (fun v' _ _ => v' = v)) (hx : ev env x = .func (.func f) #[] cap) (ha : l.map (ev env) ++ cap.toList = args) :
    QV P C ⟨dst, .call { callee := .value x, args := l.toArray, argTypes := at_ }, t, pos, af, g⟩ env V σ v := fun w hm => by
  have hh := h (hv w) hm.view (inG hk w hm)
  rw [run_call hh.ok hx w, ha]
  refine ⟨rfl, (hh.run w [] trivial .nil (.refl _) (fun _ hh => by cases hh)).mono ?_⟩
  rintro e w' ⟨v', V', σ', rfl, hv', hm'⟩
  exact ⟨by rw [hv'], hm.ext hm'.ext_of_none, hm'.ext_of_none⟩
theorem qv_sliceHiS {kk : IntKind} {h : Int} {H : HV} {n2 : Nat} {v : Value} (hT : P.underlying T = some (.slice E)) (hS : SizeIs P E s) (hx : ev env x = v) (hv : SlS n2 H v n xs) (hy : ev env y = .int kk h) (h0 : 0 ≤ h) (h1 : h ≤ n) :
    QV P C ⟨dst, .slice T x none (some y) none, t, pos, af, g⟩ env V σ (takeS v h.toNat) := qv_run fun w _ => by
  obtain ⟨a, c, rfl, hc, _⟩ := hv
  have r := run_slice_hi (P := P) (a := a) (n := n) (c := c) (h := h.toNat) (kk := kk) hT hS (by omega) w
  rw [show ((h.toNat : Nat) : Int) = h by omega] at r
  simp [execOp, hx, hy, Instr.sliceAt, run_underlying hT, r, takeS]
theorem SlS.take {H : HV} {v : Value} (h : SlS s H v n xs) {m : Nat} (hm : m ≤ n) : SlS s H (takeS v m) m (xs.take (m * s)) := by
  obtain ⟨a, c, rfl, h1, h2, hl, h3⟩ := h
  have hms : m * s ≤ n * s := Nat.mul_le_mul_right s hm
  refine ⟨a, c, rfl, by omega, h2, by rw [List.length_take, hl]; omega, fun hne => ?_⟩
  obtain ⟨b, off, cs, T, fz, e1, e2, e3⟩ := h3 (by omega)
  refine ⟨b, off, cs, T, fz, e1, e2, fun i hi => ?_⟩
  rw [e3 i (by omega), List.getElem?_take, if_pos hi]
end
end Go.Vc
