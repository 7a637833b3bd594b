import Derived.Lib.SlicesCompact
import Derived.Test.YtbchkopkgpfkgaaGreatQAG
set_option linter.unusedVariables false
noncomputable section
namespace Go.Vc
open Go Go.RowKit
section
variable {P:Program} {C:Cx} {env:cR} {V:HV} {σ:aY} {x y z:Operand} {T E t:TypeId} {dst:Option Nat} {pos:String} {af:Array Edge} {g:Option (Nat×Bool)} {k n s:Nat} {xs:List Value} {u:Value}
theorem afT{l:List Operand}{at_:Array TypeId}{f:FuncId}{cap:Array Value}{args:List Value}{v:Value}(hk:σ[k]? =some (Gr E s u n xs))(h:∀V1,bR V V1→aR s V1 u n xs→aP P f args V1 [] (λv' _ _=>v'=v))(hx:ev env x= .func (.func f) #[] cap)(ha:l.map (ev env)++cap.toList=args):
  QV P C ⟨dst,.call {callee:=.value x,args:=l.toArray,argTypes:=at_},t,pos,af,g⟩ env V σ v:=λw hm=>by
 have hh:=h (hv w) hm.view (hm.grSls hk);rw[F9 hh.ok hx w,ha];refine⟨rfl,(hh.run w [] trivial .nil (.refl _) (λ_ hh=>by cases hh)).mono ?_⟩;rintro e w' ⟨v',V',σ',rfl,hv',hm'⟩;exact⟨by rw[hv'],hm.ext hm'.ext_of_none,hm'.ext_of_none⟩
end
end Go.Vc
namespace Go.Proofs.YtbchkopkgpfkgaaGreat.Dd
open Go Go.Vc
open Classical
variable{f:Int→Int}{t:List Int}
theorem map_take{n:Nat}:(t.map f).take n=(t.take n).map f:=by rw[List.map_take]
theorem map_drop{n:Nat}:(t.map f).drop n=(t.drop n).map f:=by rw[List.map_drop]
end Go.Proofs.YtbchkopkgpfkgaaGreat.Dd
namespace Go.Proofs.YtbchkopkgpfkgaaGreat.Dd
open Classical Go Go.Vc
variable{A:Mg}{high low:Int}
def oJ(low high x:Int):Int:=if high<(if x<low then low else x)then high else if x<low then low else x
theorem aDg(h:low≤high)(x:Int):low≤oJ low high x∧oJ low high x≤high:=by
 unfold oJ;by_cases a:x<low;rw[aK a];by_cases b:high<low;omega;rw[aC b];omega;rw[aC a];by_cases b:high<x;rw[aK b];omega;rw[aC b];omega
abbrev WB(A:Mg)(low high:Int):List Int:=dH A.v λe=>oJ low high (vl A e)
def uG(A:Mg)(low high:Int):Int:=if Ok A then if high<low∨¬bF low∨¬bF high then 3 else j6 A.v (WB A low high)else 1
def I5(A:Mg)(low high:Int):Mg:=TX (dg A.v (WB A low high)) (uG A low high)
theorem aJw(h:¬Ok A):uG A low high=1∧I5 A low high=zM:=by
 have:uG A low high=1:=aC h;exact⟨this,wJ aB⟩
theorem afW(h:Ok A)(q:high<low∨¬bF low∨¬bF high):uG A low high=3∧I5 A low high=zM:=by
 have:uG A low high=3:=by unfold uG;rw[aK h,aK q]
 exact⟨this,wJ aB⟩
theorem apS(h:Ok A)(q:¬(high<low∨¬bF low∨¬bF high)):uG A low high=j6 A.v (WB A low high)∧I5 A low high=pE A.v (WB A low high):=by
 have:uG A low high=j6 A.v (WB A low high):=by unfold uG;rw[aK h,aC q]
 exact⟨this,by unfold I5 pE;rw[this]⟩
theorem aBH(h:¬high<low)(h1:¬¬bF low)(h2:¬¬bF high):¬(high<low∨¬bF low∨¬bF high):=λq=>q.elim h λq=>q.elim h1 h2
theorem AZ{vars:Int}{t:List Int}(h12:vars≤12)(hl:t.length=2^vars.toNat)(hin:∀z∈t,bF z):j6 vars t=0∧pE vars t=dg vars t:=by
 have:=aAH hin (aaA h12 hl);exact⟨this,ag7 this⟩
end Go.Proofs.YtbchkopkgpfkgaaGreat.Dd
namespace Go.Vc
open Go
section
variable {P:Program} {C:Cx} {env:cR} {V:HV} {σ:aY} {dst:Option Nat} {x y:Operand} {t T T':TypeId} {pos:String} {af:Array Edge} {g:Option (Nat×Bool)} {m n:Int}
end
end Go.Vc
namespace Go.Proofs.YtbchkopkgpfkgaaGreat.Dd
open Go Go.Vc
open Classical
variable{x y:Int}
def mx(z:Int):Int:=if z< -z then-z else z
def ov(x y:Int):Prop:=x≠0∧1099511627776/mx x<mx y
def wO(x y:Int):Int:=if y=0 then 0 else if x.tmod y≠0∧¬(x<0↔y<0)then x.tdiv y-1 else x.tdiv y
theorem as3(h:y=0):wO x y=0:=aK h
theorem as2(h:y≠0)(q:x.tmod y≠0)(q2:¬(x<0↔y<0)):wO x y=x.tdiv y-1:=by unfold wO;rw[aC h,aK ⟨q,q2⟩]
theorem asX(h:y≠0)(q:¬(x.tmod y≠0∧¬(x<0↔y<0))):wO x y=x.tdiv y:=by unfold wO;rw[aC h,aC q]
theorem aw8(hx:bF x):-1099511627776≤x.tdiv y∧x.tdiv y≤1099511627776:=by
 have h:(x.tdiv y).natAbs≤x.natAbs:=by rw[Int.natAbs_tdiv];exact Nat.div_le_self ..
 unfold bF at hx;omega
theorem tH(hx:bF x)(hy:bF y):-4398046511104≤y*wO x y∧y*wO x y≤4398046511104:=by
 unfold bF at hx hy;by_cases a:y=0;rw[as3 a];omega;have e:=Int.tmod_add_mul_tdiv x y;have hm:(x.tmod y).natAbs<y.natAbs:=by rw[Int.natAbs_tmod];exact Nat.mod_lt _ aB
 by_cases b:x.tmod y≠0∧¬(x<0↔y<0);rw[as2 a b.1 b.2,Int.mul_sub];omega;rw[asX a b];omega
theorem rH{z:Int}(h:bF z):0≤mx z∧mx z≤1099511627776:=by
 unfold mx bF at*;split<;>omega
theorem aiP(h:¬ov x y):-1099511627776≤x*y∧x*y≤1099511627776:=by
 by_cases hx:x=0;rw[hx];omega;have hq:mx y≤1099511627776/mx x:=Int.not_lt.1 λq=>h ⟨hx,q⟩;have hp:0<mx x:=by unfold mx;split<;>omega
 have hm:mx y*mx x≤1099511627776:=(Int.le_ediv_iff_mul_le hp).1 hq;have ex:mx x=x.natAbs:=by unfold mx;split<;>omega
 have ey:mx y=y.natAbs:=by unfold mx;split<;>omega
 rw[ex,ey]at hm;have e:((x*y).natAbs:Int)=y.natAbs*x.natAbs:=by rw[Int.natAbs_mul,Int.natCast_mul,u6]
 omega
def eG(op x y:Int):Int:=
 if op=0 then x+y else if op=1 then x-y else if op=2 then(if ov x y then 1099511627777 else x*y)else if op=3 then wO x y else if op=4 then(if y=0 then 0 else x-y*wO x y)
 else if op=5 then(if y<x then y else x)else if op=6 then(if x<y then y else x)else if op=7 then(if x<y then 1 else 0)else if x=y then 1 else 0
section
variable {op x y:Int}
theorem op0(h:op=0):eG op x y=x+y:=by subst h;rfl
theorem aJ_(h:op=2)(q:ov x y):eG op x y=1099511627777:=by subst h;exact aK q
theorem aEs(h:op=2)(q:¬ov x y):eG op x y=x*y:=by subst h;exact aC q
theorem aJe(h:op=4)(q:y=0):eG op x y=0:=by subst h;exact aK q
theorem aIT(h:op=4)(q:¬y=0):eG op x y=x-y*wO x y:=by subst h;exact aC q
theorem op5(h:op=5):eG op x y=if y<x then y else x:=by subst h;rfl
theorem WV(h:op=7)(q:x<y):eG op x y=1:=by subst h;exact aK q
theorem ZB(h:op=7)(q:¬x<y):eG op x y=0:=by subst h;exact aC q
theorem aJm(h:op=8)(q:x=y):eG op x y=1:=by subst h;exact aK q
theorem aJY(h:op=8)(q:¬x=y):eG op x y=0:=by subst h;exact aC q
end
end Go.Proofs.YtbchkopkgpfkgaaGreat.Dd
namespace Go.Proofs.YtbchkopkgpfkgaaGreat.Dd
open Classical Go Go.Vc
abbrev apT(op:Int)(A B:Mg):List Int:=dH A.v λe=>eG op (vl A e) (vl B e)
def q7(op:Int)(A B:Mg):Int:=if vE [A,B]=0 then if op<0∨8<op then 3 else j6 A.v (apT op A B)else vE [A,B]
def yE(op:Int)(A B:Mg):Mg:=TX (dg A.v (apT op A B)) (q7 op A B)
section
variable {op:Int} {A B:Mg}
theorem aI5(h:vE [A,B]≠0):q7 op A B=vE [A,B]∧yE op A B=zM:=by
 have:q7 op A B=vE [A,B]:=aC h;exact⟨this,wJ aB⟩
theorem aCJ(h:vE [A,B]=0)(q:op<0∨8<op):q7 op A B=3∧yE op A B=zM:=by
 have:q7 op A B=3:=by unfold q7;rw[aK h,aK q]
 exact⟨this,wJ aB⟩
theorem aBG(h:vE [A,B]=0)(q:¬(op<0∨8<op)):q7 op A B=j6 A.v (apT op A B)∧yE op A B=pE A.v (apT op A B):=by
 have:q7 op A B=j6 A.v (apT op A B):=by unfold q7;rw[aK h,aC q]
 exact⟨this,by unfold yE pE;rw[this]⟩
end
end Go.Proofs.YtbchkopkgpfkgaaGreat.Dd
end
