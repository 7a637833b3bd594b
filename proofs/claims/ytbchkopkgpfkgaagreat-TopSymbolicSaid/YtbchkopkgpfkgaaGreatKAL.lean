import Derived.Lib.AppendStr
import Derived.Lib.UnsafeStr
import Derived.Lib.Builder
import Derived.Laws.Externs
import Derived.Test.YtbchkopkgpfkgaaGreatKAG
set_option linter.unusedVariables false
set_option linter.unusedSimpArgs false
namespace Go.Vc
open Go Go.Lib Go.RowKit
section
variable {P:Program} {C:Cx} {N:Nat} {K:K3} {Q:Ex→K3} {env:cR} {V:HV} {σ:aY} {ops:Array Oper} {rest:List Oper}
variable {d k:Nat} {dst:Option Nat} {x y z:Operand} {t T T' E S:TypeId} {pos:String} {af:Array Edge} {g:Option (Nat×Bool)} {v:Value}
theorem aa1{n s yy c:Nat}{z0:Value}{xs:List Value}(hT:P.underlying T=some (.slice E))(hi:TI P E z0 s yy)(hx:ev env x=v)(hk:σ[k]? =some (Gr E s v n xs))(hy:ev env y= .slice none 0 c)
  (h:d6 P C N ops K rest (upd N env d v) V σ):d6 P C N ops K (⟨some d,.call {callee:=.builtin .append,args:= #[x,y],argTypes:= #[T,T]},t,pos,af,none⟩::rest) env V σ:=λa w hf hm=>by
 refine wpList_plain rfl λK' hK'=> ?_;unfold Oper.wp;obtain⟨i,i1,i2,i3,i4⟩:=hi.out;obtain⟨hs0,s1,s2,s3⟩:=hm.own;obtain⟨hh,e,hg⟩:=s1.get hk;have e':(execOp (ev env) ⟨some d,.call {callee:=.builtin .append,args:= #[x,y],argTypes:= #[T,T]},t,pos,af,none⟩).run P w= .ok (.value v) w:=by
  rcases hg.2 with⟨rfl,rfl,_⟩|⟨gb,cap,cur,rfl,_,hnc,_⟩
  simp[execOp,resolve,invoke,builtin,hx,hy,Builtin.append_,run_underlying hT,sizeOf,typeInfo,i1,Builtin.lenOf,Builtin.firstCells];simp[execOp,resolve,invoke,builtin,hx,hy,Builtin.append_,run_underlying hT,sizeOf,typeInfo,i1,Builtin.lenOf,Builtin.firstCells,hnc,storeCells]
 rw[hf.eval,e'];exact hK' _ _ (h _ _ (hf.put (some d) _) hm)
theorem abE{n yy:Nat}{z0 u:Value}{xs news:List Value}(hT:P.underlying T=some (.slice E))(hi:TI P E z0 1 yy)(hzs:z0.cells.size=1)(hx:ev env x=v)(hk:σ[k]? =some (Gr E 1 v n xs))(hy:ev env y=u)(hs:Sl V u news)(h1:∀u∈news,u.oneCell'=true)
  (hb:(n+news.length)*yy≤140737488355328) (h63:n+news.length≤maxLen)
  (h:∀v',d6 P C N ops K rest (upd N env d v') V (σ.set k (Gr E 1 v' (n+news.length) (xs++news)))):
  d6 P C N ops K (⟨some d,.call {callee:=.builtin .append,args:= #[x,y],argTypes:= #[T,T]},t,pos,af,none⟩::rest) env V σ:=by
 rcases hs.cases with⟨cap,rfl,rfl⟩|⟨ad,cap,rfl,hn⟩
 refine aa1 hT hi hx hk hy ?_;have e:=h v;simp only[xP,Nat.add_zero,kN]at e;have hset:σ.set k (Gr E 1 v n xs)=σ:=by
  obtain⟨hk1,hk2⟩:=EG.1 hk;rw[←hk2];exact List.set_getElem_self hk1
 rwa[hset]at e;exact yJ hT hi hzs aB hx hk hy aB (λw hm=>hn w hm.view) h1 hb h63 (λv' _=>h v')
end
end Go.Vc
