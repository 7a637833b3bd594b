import Derived.Lib.AppendStr
import Derived.Lib.UnsafeStr
import Derived.Lib.Builder
import Derived.Laws.Externs
import Derived.Test.YtbchkopkgpfkgaaGreatQAG
set_option linter.unusedVariables false
set_option linter.unusedSimpArgs false
namespace Go.Vc
open Go Go.Lib Go.RowKit
section
variable {P:Program} {C:Cx} {N:Nat} {K:K3} {Q:Ex→K3} {env:cR} {V:HV} {σ:aY} {ops:Array Oper} {rest:List Oper}
variable {d k:Nat} {dst:Option Nat} {x y z:Operand} {t T T' E S:TypeId} {pos:String} {af:Array Edge} {g:Option (Nat×Bool)} {v:Value}
theorem aa1{n s yy c:Nat}{z0:Value}{xs:List Value}(hT:P.underlying T=some (.slice E))(hi:TI P E z0 s yy)(hx:ev env x=v)(hk:σ[k]? =some (Gr E s v n xs))(hy:ev env y= .slice none 0 c)
  (h:d6 P C N ops K rest (upd N env d v) V σ):d6 P C N ops K (⟨some d,.call {callee:=.builtin .append,args:= #[x,y],argTypes:= #[T,T]},t,pos,af,none⟩::rest) env V σ:=λa w hf hm=>by
 refine wpList_plain rfl λK' hK'=> ?_;unfold Oper.wp;obtain⟨i,i1,i2,i3,i4⟩:=hi.out;obtain⟨hs0,s1,s2,s3⟩:=hm.own;obtain⟨hh,e,hg⟩:=s1.get hk;have e':(execOp (ev env) ⟨some d,.call {callee:=.builtin .append,args:= #[x,y],argTypes:= #[T,T]},t,pos,af,none⟩).run P w= .ok (.value v) w:=by
  rcases hg.2 with⟨rfl,rfl,_⟩|⟨gb,cap,cur,rfl,_,hnc,_⟩
  simp[execOp,resolve,invoke,builtin,hx,hy,Builtin.append_,run_underlying hT,sizeOf,typeInfo,i1,Builtin.lenOf,Builtin.firstCells];simp[execOp,resolve,invoke,builtin,hx,hy,Builtin.append_,run_underlying hT,sizeOf,typeInfo,i1,Builtin.lenOf,Builtin.firstCells,hnc,storeCells]
 rw[hf.eval,e'];exact hK' _ _ (h _ _ (hf.put (some d) _) hm)
end
end Go.Vc
