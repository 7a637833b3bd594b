/- Operations of two truth values by their number; answers of the functions that make diagrams. No program in sight. -/
import Derived.Test.YtgehdgeiikjohaaBdY
import Derived.Test.YtgehdgeiikjohaaVcU
namespace Go.Proofs.Ytgehdgeiikjohaa
open Go Go.Vc
open Classical
section
variable {P : Program} {C : Cx} {env : Env} {V : HV} {σ : Res} {dst : Option Nat} {x y : Operand} {t T T' : TypeId} {pos : String} {af : Array Edge} {g : Option (Nat × Bool)} {m n : Int} {k2 : IntKind}
theorem qv_shri (hx : ev env x = .int .i64 m) (hy : ev env y = .int k2 n) (h0 : 0 ≤ n) (h1 : n ≤ 64) : QV P C ⟨dst, .binOp .shr T x y T', t, pos, af, g⟩ env V σ (.int .i64 (m / 2 ^ n.toNat)) := qv_run fun w _ => by
  have e : min n.toNat IntKind.i64.bits = n.toNat := by show min n.toNat 64 = n.toNat; omega
  have := run_shr (P := P) (T := T) (k := .i64) (k2 := k2) (m := m) (n := n) (w := w) h0
  rw [e, Int.fdiv_eq_ediv_of_nonneg _ (Int.le_of_lt (Int.pow_pos (by omega)))] at this
  simp [execOp, hx, hy, eqGuard, this]
theorem and_one {m : Int} : ((BitVec.ofInt 64 m &&& BitVec.ofInt 64 1).toNat : Int) = m % 2 := by
  have e2 : (BitVec.ofInt 64 1).toNat = 2 ^ 1 - 1 := by decide
  have e1 : ((BitVec.ofInt 64 m).toNat : Int) = m % 18446744073709551616 := by rw [BitVec.toNat_ofInt]; simp; omega
  rw [BitVec.toNat_and, e2, Nat.and_two_pow_sub_one_eq_mod]
  omega
theorem qv_and1 (hx : ev env x = .int .i64 m) (hy : ev env y = .int .i64 1) (_h0 : 0 ≤ m) : QV P C ⟨dst, .binOp .and T x y T', t, pos, af, g⟩ env V σ (.int .i64 (m % 2)) := qv_run fun w _ => by
  have e : IntKind.i64.wrap ((BitVec.ofInt 64 m &&& BitVec.ofInt 64 1).toNat : Int) = m % 2 := by
    rw [and_one]; exact IntWalk.i64_in _ (by omega)
  have e' : (Op.intBits .and .i64 m 1).run P w = .ok (.int .i64 (m % 2)) w := by
    show (pure (Value.int .i64 (IntKind.i64.wrap ((BitVec.ofInt 64 m &&& BitVec.ofInt 64 1).toNat : Int))) : Sem Value).run P w = _
    rw [e]; rfl
  simp [execOp, hx, hy, eqGuard, binOp, e']
end
/-- The operation with a number. -/
def opF (op : Int) (a b _c : Bool) : Bool := decide (op / 2 ^ (((if a then 2 else 0) + (if b then 1 else 0) : Nat)) % 2 = 1)
def notF (a _b _c : Bool) : Bool := !a
def iteF (a b c : Bool) : Bool := if a then b else c
def impF (a b _c : Bool) : Bool := a && !b
def orF (a b _c : Bool) : Bool := a || b
def andF (a b _c : Bool) : Bool := a && b
/- answers -/
def dgv (u : Value) (d : Dg) : Value := .agg #[.int .i64 d.v, u, .int .i64 d.r]
def dg0 : Dg := ⟨0, [], 0⟩
/-- A diagram and a code come back. -/
def RD (D : Dg) (E : Int) (v : Value) (V' : HV) (σ' : Res) : Prop := σ' = [] ∧ ∃ u', v = .tuple #[dgv u' D, .int .i64 E] ∧ Fks V' u' D.N
def RB (D : Dg) (v : Value) (V' : HV) (σ' : Res) : Prop := σ' = [] ∧ ∃ u', v = dgv u' D ∧ Fks V' u' D.N
noncomputable def apE (op : Int) (A B : Dg) : Int := if vE [A, B] ≠ 0 then vE [A, B] else if op < 0 ∨ 15 < op then 3 else 0
def cmD (vars : Int) (Ds : List Dg) (F : Bool → Bool → Bool → Bool) : Dg := ⟨vars, (cmb vars Ds F).1, (cmb vars Ds F).2⟩
noncomputable def apD (op : Int) (A B : Dg) : Dg := if apE op A B = 0 then cmD A.v [A, B] (opF op) else dg0
theorem apE_v {op : Int} {A B : Dg} (h : vE [A, B] ≠ 0) : apE op A B = vE [A, B] ∧ apD op A B = dg0 := by
  have e : apE op A B = vE [A, B] := by unfold apE; rw [if_pos h]
  exact ⟨e, by unfold apD; rw [if_neg (by rw [e]; exact h)]⟩
theorem apE_3 {op : Int} {A B : Dg} (h : vE [A, B] = 0) (h2 : op < 0 ∨ 15 < op) : apE op A B = 3 ∧ apD op A B = dg0 := by
  have e : apE op A B = 3 := by unfold apE; rw [if_neg (by omega), if_pos h2]
  exact ⟨e, by unfold apD; rw [if_neg (by omega)]⟩
theorem apE_0 {op : Int} {A B : Dg} (h : vE [A, B] = 0) (h2 : ¬ (op < 0 ∨ 15 < op)) : apE op A B = 0 ∧ apD op A B = cmD A.v [A, B] (opF op) := by
  have e : apE op A B = 0 := by unfold apE; rw [if_neg (by omega), if_neg h2]
  exact ⟨e, by unfold apD; rw [if_pos e]⟩
/- lists that may be combined -/
structure Cmb (vars : Int) (Ds : List Dg) : Prop where
  ok : DsOk vars Ds
  v : ∀ i : Int, 0 ≤ i → i < Ds.length → (dg Ds i).v = vars
  r : Rts Ds
theorem cmb_of {Ds : List Dg} (h1 : 1 ≤ Ds.length) (h3 : Ds.length ≤ 3) (h : vE Ds = 0) : Cmb (dg Ds 0).v Ds := by
  obtain ⟨hv, hs⟩ := vE_ok.1 h
  have h0 := hv 0 (Int.le_refl _) (by omega)
  refine ⟨⟨h0.1.1, h0.1.2, h3, fun i hi => ?_⟩, hs, fun i hi hl => ?_⟩
  · by_cases q : i < Ds.length
    · have := (hv i hi q).2.2.1.1
      rw [hs i hi q] at this; exact this
    · rw [dg_out hi (by omega)]; exact fm_nil
  · exact (hv i hi hl).2.2.1.rf
theorem cmb_small {vars : Int} {Ds : List Dg} {F : Bool → Bool → Bool → Bool} (h : vars ≤ 12) : (cmb vars Ds F).1.length ≤ 4096 := by
  have := cF_len vars (gF Ds F (rt Ds))
  have h2 : 2 ^ vars.toNat ≤ 2 ^ 12 := Nat.pow_le_pow_right (by omega) (by omega)
  unfold cmb; omega
/-- The combination of a list, if it is valid. -/
noncomputable def cbD (Ds : List Dg) (F : Bool → Bool → Bool → Bool) : Dg := if vE Ds = 0 then cmD (dg Ds 0).v Ds F else dg0
theorem cbD_0 {Ds : List Dg} {F : Bool → Bool → Bool → Bool} (h : vE Ds = 0) : cbD Ds F = cmD (dg Ds 0).v Ds F := if_pos h
theorem cbD_n {Ds : List Dg} {F : Bool → Bool → Bool → Bool} (h : vE Ds ≠ 0) : cbD Ds F = dg0 := if_neg h
noncomputable def cnE (vars : Int) : Int := if vars < 0 ∨ 40 < vars then 3 else 0
noncomputable def cnD (vars : Int) (p : Prop) : Dg := if vars < 0 ∨ 40 < vars then dg0 else ⟨vars, [], if p then 1 else 0⟩
noncomputable def vaE (vars i : Int) : Int := if vars < 0 ∨ 40 < vars ∨ i < 0 ∨ vars ≤ i then 3 else 0
noncomputable def vaD (vars i : Int) : Dg := if vars < 0 ∨ 40 < vars ∨ i < 0 ∨ vars ≤ i then dg0 else ⟨vars, [⟨i, 0, 1⟩], 2⟩
theorem cn_n {vars : Int} {p : Prop} (h : vars < 0 ∨ 40 < vars) : cnE vars = 3 ∧ cnD vars p = dg0 := ⟨if_pos h, if_pos h⟩
theorem cn_0 {vars : Int} {p : Prop} (h : ¬ (vars < 0 ∨ 40 < vars)) : cnE vars = 0 ∧ cnD vars p = ⟨vars, [], if p then 1 else 0⟩ := ⟨if_neg h, if_neg h⟩
theorem va_n {vars i : Int} (h : vars < 0 ∨ 40 < vars ∨ i < 0 ∨ vars ≤ i) : vaE vars i = 3 ∧ vaD vars i = dg0 := ⟨if_pos h, if_pos h⟩
theorem va_0 {vars i : Int} (h : ¬ (vars < 0 ∨ 40 < vars ∨ i < 0 ∨ vars ≤ i)) : vaE vars i = 0 ∧ vaD vars i = ⟨vars, [⟨i, 0, 1⟩], 2⟩ := ⟨if_neg h, if_neg h⟩
end Go.Proofs.Ytgehdgeiikjohaa
