/- More steps. No program in sight. -/
import Derived.Test.YtkmhjcjpohpiaaaWb
namespace Go.Vc
open Go Go.RowKit
open Classical
section
variable {P : Program} {C : Cx} {env : Env} {V : HV} {σ : Res} {T t t2 : TypeId} {x y : Operand} {dst : Option Nat} {pos : String} {af : Array Edge} {g : Option (Nat × Bool)} {q : Prop} [i : Decidable q]
theorem qv_eqt (hT : P.underlying T = some .bool) (hx : ev env x = .bool true) (hy : ev env y = .bool (decide q)) : QV P C ⟨dst, .binOp .eql T x y t2, t, pos, af, g⟩ env V σ (.bool (decide q)) := by
  have h := qv_iffb (P := P) (C := C) (V := V) (σ := σ) (dst := dst) (t := t) (pos := pos) (af := af) (g := g) (t2 := t2) (p := True) (q := q) (ip := instDecidableTrue) hT (by rw [hx]; rfl) hy
  rwa [decide_eq_decide.2 (iff_of_eq (true_iff q))] at h
end
theorem ints_cells {H : HV} {b n c : Nat} {xs : List Int} {k : IntKind} (h : Cells H b (xs.map (Value.int k))) (hn : n = xs.length) (hc : n ≤ c) (hm : c ≤ 9223372036854775807) : Ints k H (.slice (some ⟨b, 0, none⟩) n c) xs := by
  obtain ⟨T, fz, h⟩ := h
  refine ⟨some ⟨b, 0, none⟩, c, by simp [hn], by simp; omega, hm, fun _ => ⟨b, 0, _, T, fz, rfl, h, fun i hi => ?_⟩⟩
  simp
theorem ext_gi {A B : List Int} (hl : A.length = B.length) (h : ∀ x : Int, 0 ≤ x → x < A.length → gi A x = gi B x) : A = B := by
  refine List.ext_getElem hl fun i h1 h2 => ?_
  have := h i (by omega) (by omega)
  simp only [gi, List.getD_eq_getElem?_getD, Int.toNat_natCast, List.getElem?_eq_getElem h1, List.getElem?_eq_getElem h2, Option.getD_some] at this
  exact this
end Go.Vc
