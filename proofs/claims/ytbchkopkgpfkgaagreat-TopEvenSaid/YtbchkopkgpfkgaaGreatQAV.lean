import Derived.StillTailTactics
import Derived.RangeFuncRecord
import Derived.Test.YtbchkopkgpfkgaaGreatQAD
import Derived.Test.YtbchkopkgpfkgaaGreatQAK
import Derived.Test.YtbchkopkgpfkgaaGreatQAU
import Derived.Test.YtbchkopkgpfkgaaGreatQAH
set_option linter.unusedVariables false
set_option maxRecDepth 100000
set_option maxHeartbeats 600000
namespace Go.Proofs.YtbchkopkgpfkgaaGreat.Dd
open Go Go.Lib Go.Proofs Go.RowKit Go.Shelf Go.Sort Go.Vc
variable{V:HV}{v:Value}
abbrev Pr:={p:P2//bF p.a∧bF p.b}
instance aKV:Inhabited Pr:=⟨⟨⟨0,0⟩,⟨j_,j_⟩,j_,j_⟩⟩
def PI(x y:P2):Int:=if x.a≠y.a then x.a-y.a else x.b-y.b
theorem aeZ(x y:Pr)(W:World):Calls Tryz.prog 149 #[p2a x.1,p2a y.1] W λe w'=>e= .returned (.int .i64 (PI x.1 y.1))∧∃q os',w'=grow (W.drewN q) os':=by
 obtain⟨⟨x1,x2⟩,hx⟩:=x;obtain⟨⟨y1,y2⟩,hy⟩:=y;obtain⟨⟨a1,a2⟩,a3,a4⟩:=hx;obtain⟨⟨b1,b2⟩,b3,b4⟩:=hy;have w1:wrap64 (x1-y1)=x1-y1:=(by unfold wrap64;dsimp only at*;omega);have w2:wrap64 (x2-y2)=x2-y2:=(by unfold wrap64;dsimp only at*;omega);dsimp only at*
 go_enter Tryz.func149,Tryz.ntmps149
 go_wp2
 ·rename_i h
  go_ret
  have h:x1≠y1:=by simpa using h
  exact⟨by unfold PI;rw[aK h];rfl,0,_,by rw[alloc_eq_grow,alloc_eq_grow,grow_grow];rfl⟩
 ·rename_i h
  go_ret
  have h:x1=y1:=by simpa using h
  exact⟨by unfold PI;rw[aC (λq=>q h)];rfl,0,_,by rw[alloc_eq_grow,alloc_eq_grow,grow_grow];rfl⟩
def oK(x y:P2):Prop:=x.a<y.a∨(x.a=y.a∧x.b<y.b)
theorem azP{x y:P2}:PI x y<0↔oK x y:=by
 unfold PI oK;by_cases h:x.a=y.a;rw[aC (λq=>q h)];omega;rw[aK h];omega
abbrev cfP(x y:Pr):Int:=PI x.1 y.1
theorem akQ{x y:Pr}:ltOf cfP x y=true↔oK x.1 y.1:=by
 unfold ltOf;rw[decide_eq_true_eq];exact azP
theorem SA{x y:Pr}:ltOf cfP x y=false↔¬oK x.1 y.1:=by
 rw[←akQ];cases ltOf cfP x y<;>simp
theorem aKb:SWO (ltOf cfP) where
 irrefl x:=by rw[SA];unfold oK;omega
 trans x y z h1 h2:=by rw[akQ]at*;unfold oK at*;omega
 ntrans x y z h1 h2:=by rw[SA]at*;unfold oK at*;omega
abbrev bQ(T:List Pr):List P2:=T.map (·.1)
theorem acP(T:List Pr):T.flatMap (λx=>OH x.1)=q6 (bQ T):=by unfold q6 bQ;rw[List.flatMap_map]
theorem azS{T:List Pr}(h:T.length<4611686018427387904):
  aP Tryz.prog 203 [v,.func (.func 149) #[] #[]] V [Gr 162 2 v T.length (q6 (bQ T))] (λu V' σ'=>u= .tuple #[]∧V'=V∧∃T':List Pr,T'.Perm T∧(∀i j:Nat,i<j→j<T'.length→¬oK (T'[j]!).1 (T'[i]!).1)∧σ'=[Gr 162 2 v T.length (q6 (bQ T'))]):=by
 rw[←acP];refine(aP.sortK (P:=Tryz.prog) (ρ:=Tryz.laysSlPair_ren) Tryz.laysSlPair (dA:=λx:Pr=>OH x.1) (k:=2) (E:=162) (λw=>by
   show(isAgg 162).run Tryz.prog w=_;simp[isAgg,run_underlying Tryz.underlying162]) (λw=>Go.Vc.eT Tryz.size162 w) (λ_=>rfl) (λx v hv=>by
   simp[OH]at hv;rcases hv with rfl|rfl<;>rfl) cfP aKb 149 (enters_of Tryz.func149 eD rfl) (λblk off size w m os dk _ x y=>aeZ x y _)
   ⟨_,Tryz.func203,dB,dB⟩ h).mono λu V' σ' _ hh=> ?_
 obtain⟨a,b,T',c,d,e⟩:=hh;exact⟨a,b,T',c,λi j hij hj=>SA.1 (d i j hij hj),by rw[e,acP]⟩
end Go.Proofs.YtbchkopkgpfkgaaGreat.Dd
