import Derived.Test.YtkmhjcjpohpiaaaWn
/- What Apply returns. No program in sight. -/
namespace Go.Proofs.Ytkmhjcjpohpiaaa
open Go Go.Vc
open Classical
noncomputable abbrev apT (op:Int) (A B:Mg):List Int:=tabv A.v fun e=>opV op (vl A e) (vl B e)
noncomputable def apE (op:Int) (A B:Mg):Int:=if vE [A,B]=0 then if op < 0 ∨ 8 < op then 3 else mkE A.v (apT op A B) else vE [A,B]
noncomputable def apD (op:Int) (A B:Mg):Mg:=orZ (dg A.v (apT op A B)) (apE op A B)
section
variable {op:Int} {A B:Mg}
theorem ap_v (h:vE [A,B] ≠ 0):apE op A B=vE [A,B]∧apD op A B=zM:=by
  have:apE op A B=vE [A,B]:=if_neg h
  exact ⟨this,orZ_n (by omega)⟩
theorem ap_3 (h:vE [A,B]=0) (q:op < 0 ∨ 8 < op):apE op A B=3∧apD op A B=zM:=by
  have:apE op A B=3:=by unfold apE; rw [if_pos h,if_pos q]
  exact ⟨this,orZ_n (by omega)⟩
theorem ap_0 (h:vE [A,B]=0) (q:¬ (op < 0 ∨ 8 < op)):apE op A B=mkE A.v (apT op A B)∧apD op A B=mkD A.v (apT op A B):=by
  have:apE op A B=mkE A.v (apT op A B):=by unfold apE; rw [if_pos h,if_neg q]
  exact ⟨this,by unfold apD mkD; rw [this]⟩
theorem two_0 (h1:Ok A) (h2:Ok B) (h:A.v=B.v):vE [A,B]=0:=vE_0 (vld2.2 ⟨h1,h2⟩) (sam2.2 h)
end
end Go.Proofs.Ytkmhjcjpohpiaaa
