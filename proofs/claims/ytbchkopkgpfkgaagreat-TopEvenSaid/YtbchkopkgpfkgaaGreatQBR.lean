import Derived.Test.YtbchkopkgpfkgaaGreatQBM
import Derived.Test.YtbchkopkgpfkgaaGreatQBO
set_option linter.unusedVariables false
noncomputable section
namespace Go.Proofs.YtbchkopkgpfkgaaGreat
open Classical Go Go.Vc
variable{H:HV}{R:List WO}
def tF1:Tm:=.mk 24 0 []
def vF1:Vr:=⟨⟨#[120]⟩,1,0,1,0⟩
def sF1:St:=.mk 1 3 0 0 tF1 [] [] []
def F1:Fl:=⟨[vF1],[],[sF1]⟩
theorem aHs{i:Int}(a:0≤i)(b:i<([vF1].length:Nat)):i=0:=by simp at b;omega
theorem aFj:dO F1.vs where
 each i a b:=by
  obtain rfl:=aHs a b;refine⟨⟨j_,λi a b=> ?_⟩,λj a b=>aB,by show¬((1:Int)≠0∧(1:Int)≠1∧(1:Int)≠2∧(1:Int)≠3);omega,by show(0:Int)≤1∧-1048576≤(0:Int)∧(1:Int)≤1048576;omega,by show¬(((1:Int)=0∧((0:Int)<0∨(1:Int)<0))∨((1:Int)≠0∧(0:Int)≠0));omega⟩;have:i=0:=by have:i<((1:Nat):Int):=b;omega
  subst this;exact .inl (by unfold S8;decide)
 s1:=j_
 s2:=j_
 s3:=j_
def pY(F:Fl)(B:List Int)(tm:Bool):aV→Ob:=λe=>((qC F (BE F.vs e) B (C3 F.vs e)).outs,yM tm (qC F (BE F.vs e) B (C3 F.vs e)).time)
def iE(F:Fl):aV→Bool:=λe=>uW F.vs (d8 F.vs) e (d8 F.vs).length
theorem aFI:iW F1.vs=1:=rfl
theorem asR:Dd.fk (d8 F1.vs) 0=⟨0,0,1⟩:=rfl
theorem ajI(e:aV):oG (d8 F1.vs) e 0=if e 0=true then 1 else 0:=by
 unfold oG;rw[asR];show(0:Int)+(if e (0+((0:Nat):Int))=true then 2^((1:Int)-1-((0:Nat):Int)).toNat else 0)=_;simp
theorem aGt(e:aV):vS F1.vs e 0=if e 0=true then 1 else 0:=by
 unfold vS;rw[ajI,Dd.op0 rfl,Dd.op5 rfl];show(if(1:Int)-0<(if e 0=true then 1 else 0)then(1:Int)-0 else(if e 0=true then 1 else 0))+0=_;split<;>(split<;>omega)
theorem awH(e:aV):iE F1 e=true:=by
 refine(RJ _).2 λc a b=> ?_;have b:c<((1:Nat):Int):=b;obtain rfl:c=0:=aB;rw[ajI,asR];show(if e 0=true then(1:Int)else 0)<1-0+1;split<;>omega
end Go.Proofs.YtbchkopkgpfkgaaGreat
end
