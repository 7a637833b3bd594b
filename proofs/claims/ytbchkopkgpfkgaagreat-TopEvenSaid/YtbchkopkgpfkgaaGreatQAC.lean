import Derived.Test.YtbchkopkgpfkgaaGreatQAB
set_option linter.unusedVariables false
set_option linter.unusedSimpArgs false
namespace Go.Vc
variable{q:Prop}
theorem px{l l':aY}(p:List Nat)(h:p.map (λi=>l.getD i (λ_=>True))=l')(hp:p.isPerm (List.range l.length)=true:=by kernel_rfl):l.Perm l':=fO l l' p hp h
theorem pz{l l':aY}(p:List Nat)(h:p.map (λi=>l.getD i (λ_=>True))=l')(hp:p.isPerm (List.range l.length)=true):l.Perm l':=fO l l' p hp h
section
variable {P:Program} {C:Cx} {N:Nat} {K:K3} {Q:Ex→K3} {env:cR} {V:HV} {σ:aY}
theorem aJC{c:Code}(S:List (Nat×Value))(h:VC P C N c (λe V' σ'=>bT e S∧V=V'∧σ=σ') Q env V σ)(k:∀e,K (dN N S e) V σ):VC P C N c K Q env V σ:=
 f5 h (λe V' σ' ⟨hs,h1,h2⟩=>by subst h1 h2;have:=k e;rwa[F7 hs]at this) (λ_ _ _ _ h=>h)
end
theorem ja{p r:Prop}(h:p)(i:q↔r):q↔p∧r:=⟨λx=>⟨h,i.1 x⟩,λx=>i.2 x.2⟩
theorem jo{p r:Prop}(h:¬p)(i:q↔r):q↔p∨r:=⟨λx=>.inr (i.1 x),λx=>i.2 (x.resolve_left h)⟩
theorem jb{p:Prop}{i:Decidable p}{j:Decidable q}(h:p↔q):Value.bool (@decide p i)= .bool (@decide q j):=congrArg Value.bool (decide_eq_decide.2 h)
theorem jt{j:Decidable q}(h:q):Value.bool true= .bool (@decide q j):=congrArg Value.bool (decide_eq_true h).symm
theorem jf{j:Decidable q}(h:¬q):Value.bool false= .bool (@decide q j):=congrArg Value.bool (decide_eq_false h).symm
theorem T6{j:Decidable q}(h:q):Value.bool (@decide q j)= .bool true:=congrArg Value.bool (decide_eq_true h)
theorem T5{j:Decidable q}(h:¬q):Value.bool (@decide q j)= .bool false:=congrArg Value.bool (decide_eq_false h)
end Go.Vc
