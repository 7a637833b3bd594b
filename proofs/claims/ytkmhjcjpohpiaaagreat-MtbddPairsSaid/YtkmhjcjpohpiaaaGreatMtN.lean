import Derived.Test.YtkmhjcjpohpiaaaGreatWn
/- What Apply returns. No program in sight. -/
namespace Go.Proofs.YtkmhjcjpohpiaaaGreat
open Go Go.Vc
open Classical
section
variable {op : Int} {A B : Mg}
/-- The code of two diagrams. -/
theorem two_1 (h : ¬ Ok A ∨ ¬ Ok B) : vE [A, B] = 1 := vE_1 fun q => h.elim (fun n => n (vld2.1 q).1) fun n => n (vld2.1 q).2
theorem two_2 (h1 : Ok A) (h2 : Ok B) (h : ¬ A.v = B.v) : vE [A, B] = 2 := vE_2 (vld2.2 ⟨h1, h2⟩) fun q => h (sam2.1 q)
theorem two_0 (h1 : Ok A) (h2 : Ok B) (h : A.v = B.v) : vE [A, B] = 0 := vE_0 (vld2.2 ⟨h1, h2⟩) (sam2.2 h)
end
end Go.Proofs.YtkmhjcjpohpiaaaGreat
