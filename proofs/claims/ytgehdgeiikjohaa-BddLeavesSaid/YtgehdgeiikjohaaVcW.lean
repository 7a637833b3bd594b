/- Elements of arrays in memory. No program in sight. -/
import Derived.Test.YtgehdgeiikjohaaVcU
namespace Go.Vc
open Go Go.RowKit
section
variable {P : Program} {C : Cx} {env : Env} {V : HV} {σ : Res} {dst : Option Nat} {x y : Operand} {t T E : TypeId} {pos : String} {af : Array Edge} {g : Option (Nat × Bool)}
/-- The address of an element of an array. -/
theorem qv_iaa {n s b off r : Nat} {i : Int} {kk : IntKind} (hu : P.underlying T = some (.array n E)) (hS : SizeIs P E s) (hx : ev env x = .pointer (some ⟨b, off, none⟩)) (hy : ev env y = .int kk i) (h0 : 0 ≤ i) (h1 : i < n) (hr : off + i.toNat * s = r) :
    QV P C ⟨dst, .indexAddr T x y, t, pos, af, g⟩ env V σ (.pointer (some ⟨b, r, none⟩)) := qv_run fun w _ => by
  have e : (⟨b, off, none⟩ : Addr).add (i.toNat * s) = ⟨b, r, none⟩ := by
    subst hr
    unfold Addr.add
    by_cases h : i.toNat * s = 0
    · simp [h]
    · simp [h]
  simp only [execOp, hx, hy, Instr.indexAt, asIntOf]
  simp [run_underlying hu, Instr.sureAddr, run_sizeOf hS, h0, h1, e]
end
end Go.Vc
