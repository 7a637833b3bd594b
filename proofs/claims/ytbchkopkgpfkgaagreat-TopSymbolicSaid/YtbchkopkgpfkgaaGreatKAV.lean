import Derived.StillTailTactics
import Derived.RangeFuncRecord
import Derived.Test.YtbchkopkgpfkgaaGreatKAD
import Derived.Test.YtbchkopkgpfkgaaGreatKAK
import Derived.Test.YtbchkopkgpfkgaaGreatKAU
import Derived.Test.YtbchkopkgpfkgaaGreatKAH
set_option linter.unusedVariables false
set_option linter.unusedSimpArgs false
set_option maxRecDepth 100000
set_option maxHeartbeats 600000
namespace Go.Proofs.YtbchkopkgpfkgaaGreat.Dd
open Go Go.Lib Go.Proofs Go.RowKit Go.Shelf Go.Sort Go.Vc
variable{V:HV}{v:Value}
abbrev Pr:={p:P2//bF p.a∧bF p.b}
instance aKV:Inhabited Pr:=⟨⟨⟨0,0⟩,⟨j_,j_⟩,j_,j_⟩⟩
def PI(x y:P2):Int:=if x.a≠y.a then x.a-y.a else x.b-y.b
theorem aeZ(x y:Pr)(W:World):Calls Tryz.prog 149 #[p2a x.1,p2a y.1] W λe w'=>e= .returned (.int .i64 (PI x.1 y.1))∧∃q os',w'=grow (W.drewN q) os':=by
 obtain⟨⟨x1,x2⟩,hx⟩:=x;obtain⟨⟨y1,y2⟩,hy⟩:=y;obtain⟨⟨a1,a2⟩,a3,a4⟩:=hx;obtain⟨⟨b1,b2⟩,b3,b4⟩:=hy;have w1:wrap64 (x1-y1)=x1-y1:=(by unfold wrap64;dsimp only at*;omega);have w2:wrap64 (x2-y2)=x2-y2:=(by unfold wrap64;dsimp only at*;omega);dsimp only at*
 go_enter Tryz.func149,Tryz.ntmps149
 go_wp2
 ·rename_i h
  go_ret
  have h:x1≠y1:=by simpa using h
  exact⟨by unfold PI;rw[aK h];rfl,0,_,by rw[alloc_eq_grow,alloc_eq_grow,grow_grow];rfl⟩
 ·rename_i h
  go_ret
  have h:x1=y1:=by simpa using h
  exact⟨by unfold PI;rw[aC (λq=>q h)];rfl,0,_,by rw[alloc_eq_grow,alloc_eq_grow,grow_grow];rfl⟩
def oK(x y:P2):Prop:=x.a<y.a∨(x.a=y.a∧x.b<y.b)
theorem azP{x y:P2}:PI x y<0↔oK x y:=by
 unfold PI oK;by_cases h:x.a=y.a;rw[aC (λq=>q h)];omega;rw[aK h];omega
abbrev cfP(x y:Pr):Int:=PI x.1 y.1
theorem akQ{x y:Pr}:ltOf cfP x y=true↔oK x.1 y.1:=by
 unfold ltOf;rw[decide_eq_true_eq];exact azP
theorem SA{x y:Pr}:ltOf cfP x y=false↔¬oK x.1 y.1:=by
 rw[←akQ];cases ltOf cfP x y<;>simp
theorem aKb:SWO (ltOf cfP) where
 irrefl x:=by rw[SA];unfold oK;omega
 trans x y z h1 h2:=by rw[akQ]at*;unfold oK at*;omega
 ntrans x y z h1 h2:=by rw[SA]at*;unfold oK at*;omega
abbrev bQ(T:List Pr):List P2:=T.map (·.1)
theorem acP(T:List Pr):T.flatMap (λx=>OH x.1)=q6 (bQ T):=by unfold q6 bQ;rw[List.flatMap_map]
theorem azS{T:List Pr}(h:T.length<4611686018427387904):
  aP Tryz.prog 203 [v,.func (.func 149) #[] #[]] V [Gr 162 2 v T.length (q6 (bQ T))] (λu V' σ'=>u= .tuple #[]∧V'=V∧∃T':List Pr,T'.Perm T∧(∀i j:Nat,i<j→j<T'.length→¬oK (T'[j]!).1 (T'[i]!).1)∧σ'=[Gr 162 2 v T.length (q6 (bQ T'))]):=by
 rw[←acP];refine(aP.sortK (P:=Tryz.prog) (ρ:=Tryz.laysSlPair_ren) Tryz.laysSlPair (dA:=λx:Pr=>OH x.1) (k:=2) (E:=162) (λw=>by
   show(isAgg 162).run Tryz.prog w=_;simp[isAgg,run_underlying Tryz.underlying162]) (λw=>Go.Vc.eT Tryz.size162 w) (λ_=>rfl) (λx v hv=>by
   simp[OH]at hv;rcases hv with rfl|rfl<;>rfl) cfP aKb 149 (enters_of Tryz.func149 eD rfl) (λblk off size w m os dk _ x y=>aeZ x y _)
   ⟨_,Tryz.func203,dB,dB⟩ h).mono λu V' σ' _ hh=> ?_
 obtain⟨a,b,T',c,d,e⟩:=hh;exact⟨a,b,T',c,λi j hij hj=>SA.1 (d i j hij hj),by rw[e,acP]⟩
theorem alU{w0 w':World}{E:TypeId}{s n:Nat}{xs:List Value}(h3:Vc.bR V (hv w0))(hr:w'.ownsRow w0.heap.size E s v n xs)(hb:kA w0 w'):bZ ⟨w0,V,iR []⟩ V [Gr E s v n xs] w':=by
 have m0:bZ ⟨w0,V,iR []⟩ V [] w0:=GN trivial List.Pairwise.nil h3 (λh hh=>by cases hh);have m:=m0.ext hb;obtain⟨hl,hr⟩:=hr;rcases hr with⟨rfl,hn⟩|⟨g,cap,cur,rfl,hbase,hg,r1,r2,r3,r4⟩
 refine⟨m.os,m.tape,m.output,m.dr,m.size,m.frame,m.sub,m.view,m.vold,[λ_=>none],⟨⟨hl,.inl ⟨rfl,hn,rfl⟩⟩,i_⟩,GA _ _,λh hh=> ?_⟩;rw[gY.1 hh];refine⟨?_,λb=>Or.inl rfl,λb _ hne=>bM rfl hne⟩;intro b o e;exact bM e bK;refine⟨m.os,m.tape,m.output,m.dr,m.size,m.frame,m.sub,m.view,m.vold,[Vc.one g (.cells cur E (0,0))],⟨⟨hl,.inr ⟨g,cap,cur,rfl,rfl,r1,r2,r3,r4⟩⟩,i_⟩,GA _ _,λh hh=> ?_⟩;rw[gY.1 hh];refine⟨λb o e=> ?_,λb=> ?_,λb hlt hne=> ?_⟩;unfold Vc.one at e;split at e;rename_i q;subst q;cases e;exact hg;cases e;by_cases q:b=g;subst q;right;cases e:V b with
 |none=>rfl
 |some o=>have:=jD (h3 b o e);omega
 left;unfold Vc.one;rw[aC q];unfold Vc.one at hne;split at hne;rename_i q;subst q;have:b<w0.heap.size:=hlt;omega;exact bM rfl hne
end Go.Proofs.YtbchkopkgpfkgaaGreat.Dd
