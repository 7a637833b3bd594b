/- The example of the bdd chapter: what its answers are. No program in sight. -/
import Derived.Test.YtgehdgeiikjohaaBdC
namespace Go.Proofs.Ytgehdgeiikjohaa
open Go Go.Vc
open Classical
def X0 : Dg := ⟨2, [⟨0, 0, 1⟩], 2⟩
def Y0 : Dg := ⟨2, [⟨1, 0, 1⟩], 2⟩
def A0 : Dg := ⟨2, [⟨1, 0, 1⟩, ⟨0, 0, 2⟩], 3⟩
theorem va_x : vaE 2 0 = 0 ∧ vaD 2 0 = X0 := va_0 (by omega)
theorem va_y : vaE 2 1 = 0 ∧ vaD 2 1 = Y0 := va_0 (by omega)
theorem one_form {i : Int} (h0 : 0 ≤ i) (h1 : i < 2) : Form 2 [⟨i, 0, 1⟩] 2 := by
  refine ⟨nok_fm fun j j0 j1 => ?_, by omega, by show (2 : Int) ≤ 1 + ((1 : Nat) : Int); omega⟩
  have j1 : j < 1 := j1
  have : j = 0 := by omega
  subst this
  exact ⟨h0, h1, by show (0 : Int) ≠ 1; omega, fun k a b => by omega, ⟨Int.le_refl _, by show (0 : Int) ≤ 1 + 0; omega, h1⟩, ⟨by show (0 : Int) ≤ 1; omega, by show (1 : Int) ≤ 1 + 0; omega, h1⟩⟩
theorem x_ok : Ok 2 X0.N 2 := by
  have f : Form 2 X0.N 2 := one_form (i := 0) (by omega) (by omega)
  have e : layF X0.N 2 = (X0.N, 2) := by rw [lay_cF (vars := 2) f.1 f.rf (by omega)]; kernel_rfl
  exact ⟨by omega, by decide, f, by rw [e], by rw [e]⟩
theorem y_ok : Ok 2 Y0.N 2 := by
  have f : Form 2 Y0.N 2 := one_form (i := 1) (by omega) (by omega)
  have e : layF Y0.N 2 = (Y0.N, 2) := by rw [lay_cF (vars := 2) f.1 f.rf (by omega)]; kernel_rfl
  exact ⟨by omega, by decide, f, by rw [e], by rw [e]⟩
theorem vE2 {a b : Dg} (ha : Ok a.v a.N a.r) (hb : Ok b.v b.N b.r) (h : b.v = a.v) : vE [a, b] = 0 := vE_0 (fun i h0 h1 => by
  have h1 : i < 2 := h1
  have : i = 0 ∨ i = 1 := by omega
  rcases this with rfl | rfl
  · exact ha
  · exact hb) (fun i h0 h1 => by
  have h1 : i < 2 := h1
  have : i = 0 ∨ i = 1 := by omega
  rcases this with rfl | rfl
  · rfl
  · exact h)
theorem vE1 {a : Dg} (ha : Ok a.v a.N a.r) : vE [a] = 0 := vE_0 (vld1.2 ha) sam1
theorem and_ans : apE 8 X0 Y0 = 0 ∧ apD 8 X0 Y0 = A0 := by
  obtain ⟨e1, e2⟩ := apE_0 (op := 8) (vE2 (a := X0) (b := Y0) x_ok y_ok rfl) (by omega)
  refine ⟨e1, e2.trans ?_⟩
  have e : cmb 2 [X0, Y0] (opF 8) = (A0.N, 3) := by kernel_rfl
  show (⟨2, (cmb 2 [X0, Y0] (opF 8)).1, (cmb 2 [X0, Y0] (opF 8)).2⟩ : Dg) = A0
  rw [e]; rfl
theorem a_ok : Ok 2 A0.N 3 := by
  have e : cmb 2 [X0, Y0] (opF 8) = (A0.N, 3) := by kernel_rfl
  have := cF_ok (vars := 2) (by omega) (by omega) (gF [X0, Y0] (opF 8) (rt [X0, Y0])) (by show (cmb 2 [X0, Y0] (opF 8)).1.length ≤ 4096; rw [e]; decide)
  have e' : cF 2 (gF [X0, Y0] (opF 8) (rt [X0, Y0])) = (A0.N, 3) := e
  rw [e'] at this; exact this
theorem a_vE : vE [A0] = 0 := vE1 (a := A0) a_ok
theorem a_cnt : cnN A0 = 1 := by rw [cnN_0 a_vE]; kernel_rfl
end Go.Proofs.Ytgehdgeiikjohaa
