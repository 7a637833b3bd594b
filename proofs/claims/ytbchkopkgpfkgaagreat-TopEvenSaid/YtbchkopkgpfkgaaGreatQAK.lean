import Derived.Shelf.SlSortCmp.WholeK
import Derived.Shelf.SlSortCmp.NoneTotal
import Derived.Test.YtbchkopkgpfkgaaGreatQAF
set_option linter.unusedVariables false
set_option linter.unusedSimpArgs false
namespace Go.Vc
open Go Go.Proofs Go.RowKit Go.Sort
variable{cur:Array Value}
theorem rB{V0:HV}{hs0:List HV}{w0:World}{σ0:aY}(h1:nO σ0 hs0)(h2:hs0.Pairwise kP)(h3:Vc.bR V0 (hv w0))(h4:∀h∈hs0,Vc.bR h (hv w0)∧kP h V0):bZ ⟨w0,V0,iR hs0⟩ V0 σ0 w0:=
 ⟨rfl,rfl,rfl,cV _,cV _,λ_ _ _=>rfl,.refl _,h3,λ_ _ _=>rfl,hs0,h1,h2,λh hh=>⟨(h4 h hh).1,(h4 h hh).2,λ_ _ hne=>⟨h,hh,hne⟩⟩⟩
theorem SP{w:World}{g n:Nat}{F:Array Value}{E:TypeId}(hb:w.heap[g]? =some (.cells cur E (0,0))):
  putRow id (Sort.ahead w n) g 0 F={({w with drawn:=w.drawn+n}:World)with heap:=w.heap.setIfInBounds g (.cells (putCells id 0 F cur) E (0,0))}:=by
 have hlt:g<w.heap.size:=jD (w:=w) hb;have hg:w.heap[g]= .cells cur E (0,0):=by rw[wC hlt]at hb;exact Option.some.inj hb
 unfold putRow mapBlock Sort.ahead;congr 1;apply Array.ext;simp;intro i h1 h2;simp only[Z4];by_cases hi:g=i;subst hi;simp[hg,onCells];rw[aC hi,adX _ hi]
theorem E1{F:Array Value}{n:Nat}(hn:F.size=n)(hc:n≤cur.size):(putCells id 0 F cur).toList.take n=F.toList:=by
 apply R5;simp[putCells];omega;intro i h1 h2;simp at h1 h2;simp[putCells,List.getElem_take,h2]
section
variable {α:Type} [Inhabited α] {dA:α→List Value} {k:Nat}
theorem wQ(d:Array α)(i:Nat):d.toList[i]! =d[i]! :=by
 by_cases h:i<d.size;rw[getElem!_pos d.toList i vB,getElem!_pos d i h,Array.getElem_toList];rw[getElem!_neg d.toList i vB,getElem!_neg d i h]
theorem WI(hk:∀x,(dA x).length=k):∀(l:List α) (t:Nat),t<l.length*k→(l.flatMap dA)[t]? =(dA l[t/k]!)[t%k]?
 | [],t,h=>by simp at h
 |a::l,t,h=>by
  have k0:0<k:=by
   rcases Nat.eq_zero_or_pos k with q|q;·subst q;simp at h
   exact q
  rw[List.flatMap_cons,List.getElem?_append];by_cases q:t<(dA a).length;rw[aK q];rw[hk]at q;rw[Nat.div_eq_of_lt q,Nat.mod_eq_of_lt q];rfl;rw[aC q,hk];rw[hk]at q;have h':t-k<l.length*k:=by rw[l4,o5,CK]at h;omega
  rw[WI hk l (t-k) h'];have e1:t/k=(t-k)/k+1:=by rw[Nat.div_eq_sub_div k0 aB]
  have e2:t%k=(t-k)%k:=Nat.mod_eq_sub_mod aB;rw[e1,e2];rfl
omit [Inhabited α] in
theorem EC(hk:∀x,(dA x).length=k):∀(l:List α),(l.flatMap dA).length=l.length*k
 | []=>bK
 |a::l=>by rw[List.flatMap_cons,dD,EC hk l,hk,l4,o5,CK];omega
theorem yS(hk : ∀ x, (dA x).length = k) (d : Array α) : (flatK dA k d).toList = d.toList.flatMap dA := by
  apply List.ext_getElem?;intro t;by_cases h : t < d.size * k
  · have k0 : 0 < k := by rcases Nat.eq_zero_or_pos k with q | q; · subst q; simp at h
                          · exact q
    rw [WI hk d.toList t vB];have hm : t % k < k := Nat.mod_lt _ k0;have e : (flatK dA k d)[t]! = (dA d[t / k]!)[t % k]! := get_flatK dA k d t h;have hs : t < (flatK dA k d).size := by simpa using h
    rw [getElem!_pos (flatK dA k d) t hs] at e;have e3 : d.toList[t / k]! = d[t / k]! := wQ d _;rw [e3];have hl : t % k < (dA d[t / k]!).length := by rw [hk]; exact hm
    rw [getElem!_pos (dA d[t / k]!) (t % k) hl] at e;rw [dT hl, LH, wC hs, e]
  · rw [CD (by simp; omega), CD (by rw [EC hk]; simp; omega)]
theorem aP.sortK{P:Program}{ρ:Go.Shelf.Ren}(L:Go.Proofs.SlLaysF0.n6 P ρ){E:TypeId}(aE:∀w,(isAgg (ρ.t 24)).run P w= .ok true w)(zE:∀w,(Go.sizeOf (ρ.t 24)).run P w= .ok k w)(hk:∀x,(dA x).length=k)(h1c:∀x,∀v∈dA x,v.oneCell'=true)(cf:α→α→Int)(hO:SWO (ltOf cf))(g:Nat)
  (eg:∀args w,(callFunc g args).run P w= .ok (.enter g args) w) (hcmp:∀blk off size w,CmpLays P g #[] dA k cf blk off size w) (hok:ZP P (ρ.f 6)) {V:HV} {v:Value} {T:List α} (eV:T.length<4611686018427387904):
  aP P (ρ.f 6) [v,.func (.func g) #[] #[]] V [Gr E k v T.length (T.flatMap dA)] (λu V' σ'=>u= .tuple #[]∧V'=V∧∃T':List α,T'.Perm T∧(∀i j:Nat,i<j→j<T'.length→ltOf cf T'[j]! T'[i]! =false)∧σ'=[Gr E k v T.length (T'.flatMap dA)]):=by
 refine⟨hok,λw0 hs0 h1 h2 h3 h4=> ?_⟩;have m0:=rB h1 h2 h3 h4;obtain⟨h,hh⟩:∃h,hs0=[h]:=by
  match hs0,h1 with
  | [h],_=>exact⟨h,rfl⟩
 subst hh;have hg:Gr E k v T.length (T.flatMap dA) h:=h1.1;obtain⟨hl,hg⟩:=hg;rcases hg with⟨rfl,hn,_⟩|⟨gb,cap,cur,rfl,rfl,q1,q2,q3,q4⟩
 have hz:T=[]:=rS hn;subst hz;refine(AnyF.slices_SortFunc_none L none 0 _ w0).mono λe w' ⟨he,hw⟩=> ?_;subst hw;exact⟨_,V,_,he,⟨rfl,rfl,[],.refl _,λi j _ hj=>by simp at hj,rfl⟩,by simpa using m0⟩;have hb:w0.heap[gb]? =some (.cells cur E (0,0)):=(h4 (Vc.one gb (.cells cur E (0,0))) (gY.2 rfl)).1 gb _ au4;have hH:HoldsK dA k w0 gb 0 T.toArray:=λj hj=>by
  have hj':j<T.length*k:=by simpa using hj
  have e:cur[j]? =some (flatK dA k T.toArray)[j]:=by
   have:=congrArg (λl=>l[j]?) q4;simp only[iH]at this;rw[aK aB,←yS hk T.toArray,LH,LH,wC hj]at this;exact this
  refine⟨?_,by simp[World.frozen?,hb]⟩;simp[World.cell?,hb,e];exact(getElem!_pos _ j hj).symm
 have hc:=AnyQ.slices_SortFunc L k aE zE dA hk h1c cf hO g #[] gb 0 cap T.toArray w0 eg (hcmp _ _ _ _) hH (jD (w:=w0) hb) (by simpa using eV);rw[show T.toArray.size=T.length by simp]at hc;refine hc.mono λe w' ⟨he,d',n,os,hp,hs,hw⟩=> ?_;have hdl:d'.size=T.length:=by rw[hp.1];simp
 have hfl:(flatK dA k d').size=T.length*k:=by rw[size_flatK,hdl]
 have hw':w'=grow {({w0 with drawn:=w0.drawn+n}:World)with heap:=w0.heap.setIfInBounds gb (.cells (putCells id 0 (flatK dA k d') cur) E (0,0))} os:=by
  rw[hw];show grow (putRow id (Sort.ahead w0 n) gb 0 (flatK dA k d')) os=_;rw[SP hb]
 have m1:bZ ⟨w0,V,iR [Vc.one gb (.cells cur E (0,0))]⟩ V [gV gb (.cells cur E (0,0))] w0:=
  rB (σ0:=[gV gb (.cells cur E (0,0))]) ⟨rfl,i_⟩ h2 h3 h4
 have m2:=(m1.drawn (w0.drawn+n)).setBlk (k:=0) rfl (.cells (putCells id 0 (flatK dA k d') cur) E (0,0)) _ rfl;have hext:∀(w:World),kA w (grow w os):=λw=>⟨⟨rfl,rfl,rfl,by simp[grow],λk hk=>by simp[grow,Array.getElem?_append,hk]⟩,cV _⟩;have m3:=m2.ext (hext _);rw[hw'];have hperm:d'.toList.Perm T:=by
  have:=hp.2.2;have e1:(d'.extract 0 T.toArray.size).toList=d'.toList:=by simp[←hdl]
  have e2:(T.toArray.extract 0 T.toArray.size).toList=T:=bK;rw[show T.length=T.toArray.size by simp,e1,e2]at this;exact this
 refine⟨_,V,_,he,⟨rfl,rfl,d'.toList,hperm,λi j hij hj=> ?_,rfl⟩,?_⟩;have:=hs i j (kE _) hij (by simpa[hdl]using hj);rw[wQ,wQ];exact this;obtain⟨hs',s1,s2,s3⟩:=m3.own;refine⟨m3.os,m3.tape,m3.output,m3.dr,m3.size,m3.frame,m3.sub,m3.view,m3.vold,hs',?_,s2,s3⟩;match hs',s1 with
 | [x],s1=>
  refine⟨⟨by rw[EC hk];simp[hdl],.inr ⟨gb,cap,_,rfl,s1.1,q1,q2,by simp[putCells];exact q3,?_⟩⟩,i_⟩;rw[←yS hk d'];exact E1 hfl (by rw[q3];exact vG k q1)
end
end Go.Vc
