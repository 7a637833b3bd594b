import Derived.WalkKit
import Derived.ProofKit
import Derived.OpenShut
import Derived.ChangeOld
import Derived.Deep.Matrix
import Derived.Lib.SmallJoins
import Derived.Deep.Slices
import Derived.Test.YtbchkopkgpfkgaaGreatQAF
set_option linter.unusedVariables false
set_option linter.unusedSimpArgs false
namespace Go.Vc
open Go Go.ChangeShapes Go.WideShapes Go.ChangeAt Go.RowKit
variable{W:World}
theorem amJ{P:Program}{f:FuncId}{args:List Value}{v:Value}(h:aP P f args (hv W) [] (λu _ _=>u=v)):
  Calls P f args.toArray W λe w'=>e= .returned v∧Below W.heap.size W w':=
 (h.run W [] trivial List.Pairwise.nil (bR.refl _) (λ_ hh=>by cases hh)).mono λ_ _ ⟨_,_,_,h1,h2,h3⟩=>⟨by rw[h1,h2],h3.ext_of_none.toBelow⟩
theorem axJ{a:Addr}{n cap:Nat}{vals:List Value}(hl:vals.length=n)(hn:n≤cap)(hm:cap≤maxLen)(h:∀i,i<n→W.cell? (a.add i)=vals[i]?):
  Sl (hv W) (.slice (some a) n cap) vals:=by
 refine⟨some a,cap,by rw[hl],aB,by simpa[maxLen]using hm,λhne=> ?_⟩;have h0:0<n:=by rw[←hl];exact List.length_pos_iff.2 hne
 have c0:=h 0 h0;have e0:a.add 0=a:=by simp[Addr.add]
 rw[e0,dT aB]at c0;have hs:=World.cell?_spot c0;obtain⟨b,off,spot⟩:=a;simp only at hs;subst hs;have:∃cs T fz,hv W b=some (.cells cs T fz):=by
  unfold World.cell? at c0;unfold hv;split at c0;rename_i cs T fz hb;exact⟨cs,T,fz,hb⟩;cases c0
 obtain⟨cs,T,fz,hb⟩:=this;exact⟨b,off,cs,T,fz,rfl,hb,λi hi=>by rw[←zN (i:=i) (off:=off) hb];exact h i aB⟩
section
variable {H:Type} {dA:TypeId×Value→H} {P:Program} {W:World} {base:Nat} {held:Bool}
theorem BD{k:IntKind}{zs:List Int}{n i:Nat}(hi:i<n)(hn:n≤zs.length):((zs.take n).map (Value.int k))[i]? =some (.int k (zs.getD i 0)):=by
 rw[iZ,iH,aK hi,dT aB,bX,dT aB];rfl
theorem BV{t q:TypeId}{k:IntKind}{fuel:Nat}{v:Value}{x:DataW H×List MemPlace}(ht:P.underlying t=some (.slice q))(hq:P.underlying q=some (.int k))(cq:P.cellsOf q=1)
  {a0:Option Addr} {n0 c0:Nat} (hv0:v= .slice a0 n0 c0) (h:DataW.trod dA P W base (λ_=>true) held fuel t v.cells.toList=some x):
  ∃xs:List Int,aT k (hv W) v xs∧∀n∈xs,(Lit.int k n).wf=true:=by
 subst hv0;rcases open_ints ht hq cq h with⟨hcs,_⟩|⟨a,l,c,zs,hcs,_,hl,hm,hz,_,hcell,hwz⟩
 simp[Value.cells]at hcs;obtain⟨rfl,rfl,rfl⟩:=hcs;exact⟨[],aT.nil,bK⟩;simp[Value.cells]at hcs;obtain⟨rfl,rfl,rfl⟩:=hcs;simp only[if_true]at hz;refine⟨zs.take n0,axJ k6 hl hm λi hi=> ?_,λn hn=>hwz n (List.mem_of_mem_take hn)⟩;rw[hcell i aB,BD (zs:=zs) hi aB]
end
end Go.Vc
namespace Go.Vc
open Go Go.ChangeShapes Go.WideShapes Go.ChangeAt Go.RowKit Go.Deep
section
variable {H:Type} {dA:TypeId×Value→H} {P:Program} {w:World} {base:Nat} {spare:Nat→Bool} {held:Bool}
end
end Go.Vc
namespace Go.Vc
open Go Go.ChangeShapes Go.WideShapes Go.ChangeAt Go.RowKit Go.Deep
section
variable {H:Type} {dA:TypeId×Value→H} {P:Program} {W:World} {base:Nat} {held:Bool}
theorem arQ{W:World}{a:Addr}{n cap s:Nat}{xs:List Value}(hs0:0<s)(hl:xs.length=n*s)(hn:n≤cap)(hm:cap≤maxLen)(h:∀i,i<n*s→W.cell? (a.add i)=xs[i]?):
  aR s (hv W) (.slice (some a) n cap) n xs:=by
 refine⟨some a,cap,rfl,hn,by simpa[maxLen]using hm,hl,λhne=> ?_⟩;have h0:0<n*s:=Nat.mul_pos aB hs0;have c0:=h 0 h0;have e0:a.add 0=a:=by simp[Addr.add]
 rw[e0,dT aB]at c0;have hs:=World.cell?_spot c0;obtain⟨b,off,spot⟩:=a;simp only at hs;subst hs;have:∃cs T fz,hv W b=some (.cells cs T fz):=by
  unfold World.cell? at c0;unfold hv;split at c0;rename_i cs T fz hb;exact⟨cs,T,fz,hb⟩;cases c0
 obtain⟨cs,T,fz,hb⟩:=this;exact⟨b,off,cs,T,fz,rfl,hb,λi hi=>by rw[←zN (i:=i) (off:=off) hb];exact h i aB⟩
end
end Go.Vc
namespace Go.Vc
open Go Go.ChangeShapes Go.WideShapes Go.ChangeAt Go.RowKit
section
open Go.WideShapes
end
end Go.Vc
namespace Go.Vc
open Go Go.ChangeAt Go.ChangeShapes Go.Deep Go.RowKit Go.WideShapes
section
variable {H:Type} {dA:TypeId×Value→H} {P:Program} {W:World} {base:Nat} {held:Bool}
theorem HC{s:Nat}(f:Nat→List Value):∀n,(∀i,i<n→(f i).length=s)→((List.range n).flatMap f).length=n*s
 |0,_=>bK
 |n+1,hf=>by rw[sP,sV,dD,HC f n λi hi=>hf i aB];simp[hf n aB,o5]
theorem TN{s:Nat}(f:Nat→List Value):∀n i j,(∀i,i<n→(f i).length=s)→i<n→j<s→((List.range n).flatMap f)[i*s+j]? =(f i)[j]?
 |n+1,i,j,hf,hi,hj=>by
  have hl:=HC (s:=s) f n λi hi=>hf i aB;rw[sP,sV];by_cases e:i<n;have h1:i*s+j<n*s:=by
   have:(i+1)*s≤n*s:=vG s aB;rw[o5,CK]at this;omega
  rw[oR aB];exact TN f n i j (λi hi=>hf i aB) e hj;have:i=n:=aB;subst this;rw[qN aB,hl,show i*s+j-i*s=j by omega];simp
theorem arS{t:TypeId}{fuel:Nat}{cs:List Value}{x:DataW H×List MemPlace}(h:DataW.trod dA P W base (λ_=>true) held fuel t cs=some x):0<fuel:=by
 cases fuel with
 |zero=>simp[DataW.trod]at h
 |succ n=>omega
theorem yK{t e:TypeId}{s fuel:Nat}{c:Value}{x:DataW H×List MemPlace}(ht:P.underlying t=some (.slice e))(ce:P.cellsOf e=s)(hs:0<s)(h:DataW.trod dA P W base (λ_=>true) held fuel t [c]=some x):
  ∃(m n0:Nat) (cs:Nat→List Value),m<fuel∧aR s (hv W) c n0 ((List.range n0).flatMap cs)∧∀i,i<n0→(cs i).length=s∧∃x',DataW.trod dA P W base (λ_=>true) held m e (cs i)=some x':=by
 have h0:=arS h;rcases DataW.trod_slice ht h with⟨hcs,_⟩|⟨a,len,cap,elems,rest,m,hm,hcs,_,hb,hl,hcap,hlen,hel,_⟩
 obtain rfl:c= .slice none 0 0:=by simpa using hcs
 exact⟨fuel-1,0,λ_=> [],aB,aR.nil,λi hi=>aB⟩;obtain rfl:c= .slice (some a) len cap:=by simpa using hcs
 have each:∀i,i<len→∃cs':List Value,cs'.length=s∧(∀j,j<s→W.cell? (a.add (i*s+j))=cs'[j]?)∧∃x',DataW.trod dA P W base (λ_=>true) held m e cs'=some x':=λi hi=>by
  have q:=hel i hi;rw[dT aB]at q;cases hc:W.cells? base (a.add (i*P.cellsOf e)) (P.cellsOf e)with
  |none=>rw[hc]at q;cases q
  |some cs'=>
   rw[hc]at q;rw[ce]at hc;obtain⟨_,hlen',hcell⟩:=World.cells?_some hc;refine⟨cs',hlen',λj hj=> ?_,_,q⟩;have:=hcell j hj;rw[add_add]at this;exact this
 obtain⟨cs,hcs'⟩:=choose_lt each;refine⟨m,len,cs,aB,arQ hs (HC cs len λi hi=>(hcs' i hi).1) hl hcap λi hi=> ?_,λi hi=>⟨(hcs' i hi).1,(hcs' i hi).2.2⟩⟩;have e1:i=i/s*s+i%s:=by rw[Nat.mul_comm];exact(Nat.div_add_mod i s).symm
 have h1:i/s<len:=(Nat.div_lt_iff_lt_mul hs).2 hi;have h2:i%s<s:=Nat.mod_lt i hs;have g:=TN (s:=s) cs len (i/s) (i%s) (λi hi=>(hcs' i hi).1) h1 h2;rw[←e1]at g;rw[g,←(hcs' (i/s) h1).2.1 (i%s) h2,←e1]
theorem tG{fs:Array Field}{n:Nat}{cs:List Value}{xs:List (DataW H×List MemPlace)}
  (hf:∀(i:Nat) (f:Field),fs[i]? =some f→DataW.trod dA P W base (λ_=>true) held n f.type ((cs.drop f.offset).take (P.cellsOf f.type))=xs[i]?) (i:Nat) {f:Field} (h:fs[i]? =some f) {w:Nat} (c:P.cellsOf f.type=w) {l:List Value}
  (e:(cs.drop f.offset).take w=l) (hi:i<xs.length):∃y,DataW.trod dA P W base (λ_=>true) held n f.type l=some y:=by
 subst c;subst e;rw[hf i f h,dT hi];exact⟨_,rfl⟩
theorem kH{t:TypeId}{k:IntKind}{fuel:Nat}{c:Value}{x:DataW H×List MemPlace}(ht:P.underlying t=some (.int k))(h:DataW.trod dA P W base (λ_=>true) held fuel t [c]=some x):∃r,c= .int k r:=by
 obtain⟨r,q,_,_⟩:=DataW.trod_int ht h;exact⟨r,by simpa using q⟩
theorem VR{t:TypeId}{fuel:Nat}{c:Value}{x:DataW H×List MemPlace}(ht:P.underlying t=some .string)(h:DataW.trod dA P W base (λ_=>true) held fuel t [c]=some x):∃s:ByteArray,c= .string s∧s.size≤9223372036854775807:=by
 obtain⟨s,q,_,hs⟩:=DataW.trod_string ht h;exact⟨s,by simpa using q,by have:s.size≤maxLen:=hs;simp only[maxLen]at this;omega⟩
theorem aIL{α:Type}{l:List α}(h:l.length=3):∃a b c,l=[a,b,c]:=by match l,h with| [a,b,c],_=>exact⟨a,b,c,rfl⟩
theorem aIz{α:Type}{l:List α}(h:l.length=5):∃a b c d e,l=[a,b,c,d,e]:=by match l,h with| [a,b,c,d,e],_=>exact⟨a,b,c,d,e,rfl⟩
theorem aG0{α:Type}{l:List α}(h:l.length=6):∃a b c d e f,l=[a,b,c,d,e,f]:=by match l,h with| [a,b,c,d,e,f],_=>exact⟨a,b,c,d,e,f,rfl⟩
theorem aGu{α:Type}{l:List α}(h:l.length=10):∃a b c d e f g i j k,l=[a,b,c,d,e,f,g,i,j,k]:=by match l,h with| [a,b,c,d,e,f,g,i,j,k],_=>exact⟨a,b,c,d,e,f,g,i,j,k,rfl⟩
theorem yH{n:Nat}{f g:Nat→List Value}(h:∀i,i<n→f i=g i):(List.range n).flatMap f=(List.range n).flatMap g:=by
 rw[WU,WU,YH λi hi=>h i (CM.1 hi)]
theorem vN{α:Type}{n i:Nat}{f:Nat→α}{d:α}(h:i<n):((List.range n).map f).getD i d=f i:=by
 rw[bX,iZ,EF h];rfl
end
end Go.Vc
