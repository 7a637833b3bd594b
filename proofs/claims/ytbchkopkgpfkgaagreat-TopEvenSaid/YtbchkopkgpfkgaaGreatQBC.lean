import Derived.Test.YtbchkopkgpfkgaaGreatQAK
import Derived.Test.YtbchkopkgpfkgaaGreatQAD
import Derived.Test.YtbchkopkgpfkgaaGreatQBB
set_option linter.unusedVariables false
set_option linter.unusedSimpArgs false
namespace Go.Vc
open Go Go.Sort Go.RowKit Go.Proofs
theorem kA.growS{w w':World}(h:kA w w'):∃q os',w'=Go.Sort.grow (w.drewN q) os':=by
 refine⟨w'.drawn-w.drawn,w'.heap.extract w.heap.size w'.heap.size,?_⟩;have hh:w'.heap=w.heap++w'.heap.extract w.heap.size w'.heap.size:=by
  apply Array.ext_getElem?;intro i;rw[Array.getElem?_append];split;rename_i hi;exact h.block i hi;rename_i hi;rw[Array.getElem?_extract];by_cases hj:i<w'.heap.size;rw[aK (by have:=h.size;omega),show w.heap.size+(i-w.heap.size)=i by omega];rw[aC (by have:=h.size;omega),Array.getElem?_eq_none aB]
 have hd:w'.drawn=w.drawn+(w'.drawn-w.drawn):=by have:=h.dr;omega
 obtain⟨heap,tape,drawn,os,output⟩:=w;obtain⟨heap',tape',drawn',os',output'⟩:=w';have h1:=h.os;have h2:=h.tape;have h3:=h.output;simp only at h1 h2 h3 hh hd;subst h1;subst h2;subst h3;unfold Go.Sort.grow World.drewN;simp only;rw[←hh,←hd]
section
variable {α:Type} [Inhabited α] {dA:α→List Value} {k:Nat}
theorem aP.sortV{P:Program}{ρ:Go.Shelf.Ren}(L:Go.Proofs.SlLaysF0.n6 P ρ){E:TypeId}(aE:∀w,(isAgg (ρ.t 24)).run P w= .ok true w)(zE:∀w,(Go.sizeOf (ρ.t 24)).run P w= .ok k w)(hk:∀x,(dA x).length=k)(h1c:∀x,∀v∈dA x,v.oneCell'=true)(cf:α→α→Int)(hO:SWO (ltOf cf))(g:Nat)
  (eg:∀args w,(callFunc g args).run P w= .ok (.enter g args) w) {V:HV} (hclo:∀x y:α,aP P g [.agg (dA x).toArray,.agg (dA y).toArray] V [] (λv _ _=>v= .int .i64 (cf x y))) (hok:ZP P (ρ.f 6)) {v:Value} {T:List α} (eV:T.length<4611686018427387904):
  aP P (ρ.f 6) [v,.func (.func g) #[] #[]] V [Gr E k v T.length (T.flatMap dA)] (λu V' σ'=>u= .tuple #[]∧V'=V∧∃T':List α,T'.Perm T∧(∀i j:Nat,i<j→j<T'.length→ltOf cf T'[j]! T'[i]! =false)∧σ'=[Gr E k v T.length (T'.flatMap dA)]):=by
 refine⟨hok,λw0 hs0 h1 h2 h3 h4=> ?_⟩;have m0:=rB h1 h2 h3 h4;obtain⟨h,hh⟩:∃h,hs0=[h]:=by
  match hs0,h1 with
  | [h],_=>exact⟨h,rfl⟩
 subst hh;have hg:Gr E k v T.length (T.flatMap dA) h:=h1.1;obtain⟨hl,hg⟩:=hg;rcases hg with⟨rfl,hn,_⟩|⟨gb,cap,cur,rfl,rfl,q1,q2,q3,q4⟩
 have hz:T=[]:=rS hn;subst hz;refine(AnyF.slices_SortFunc_none L none 0 _ w0).mono λe w' ⟨he,hw⟩=> ?_;subst hw;exact⟨_,V,_,he,⟨rfl,rfl,[],.refl _,λi j _ hj=>by simp at hj,rfl⟩,by simpa using m0⟩;have hb:w0.heap[gb]? =some (.cells cur E (0,0)):=(h4 (Vc.one gb (.cells cur E (0,0))) (gY.2 rfl)).1 gb _ au4;have hgV:V gb=none:=by
  rcases(h4 (Vc.one gb (.cells cur E (0,0))) (gY.2 rfl)).2 gb with q|q
  simp[Vc.one]at q;exact q
 have hH:HoldsK dA k w0 gb 0 T.toArray:=λj hj=>by
  have hj':j<T.length*k:=by simpa using hj
  have e:cur[j]? =some (flatK dA k T.toArray)[j]:=by
   have:=congrArg (λl=>l[j]?) q4;simp only[iH]at this;rw[aK aB,←yS hk T.toArray,LH,LH,wC hj]at this;exact this
  refine⟨?_,by simp[World.frozen?,hb]⟩;simp[World.cell?,hb,e];exact(getElem!_pos _ j hj).symm
 have hcmp:CmpLays P g #[] dA k cf gb 0 T.toArray.size w0:=λm os dk _ x y=>by
  have hsub:Vc.bR V (hv (sortWorldK dA k w0 gb 0 m dk os)):=λb o hbo=>by
   have hb0:=h3 b o hbo;have hlt:=jD hb0;have hne:gb≠b:=λe=>by rw[←e,hgV]at hbo;cases hbo
   show(sortWorldK dA k w0 gb 0 m dk os).heap[b]? =_;unfold sortWorldK Sort.grow putRowK putRow mapBlock Sort.ahead;simp only;rw[Array.getElem?_append_left (by simpa using hlt),Array.getElem?_modify,aC hne];exact hb0
  have:=(hclo x y).run (sortWorldK dA k w0 gb 0 m dk os) [] trivial .nil hsub (λ_ h=>by cases h);exact this.mono λe w' ⟨v,V',σ',he,hv',hm'⟩=>⟨by rw[he,hv'],hm'.ext_of_none.growS⟩
 have hc:=AnyQ.slices_SortFunc L k aE zE dA hk h1c cf hO g #[] gb 0 cap T.toArray w0 eg hcmp hH (jD (w:=w0) hb) (by simpa using eV);rw[show T.toArray.size=T.length by simp]at hc;refine hc.mono λe w' ⟨he,d',n,os,hp,hs,hw⟩=> ?_;have hdl:d'.size=T.length:=by rw[hp.1];simp
 have hfl:(flatK dA k d').size=T.length*k:=by rw[size_flatK,hdl]
 have hw':w'=grow {({w0 with drawn:=w0.drawn+n}:World)with heap:=w0.heap.setIfInBounds gb (.cells (putCells id 0 (flatK dA k d') cur) E (0,0))} os:=by
  rw[hw];show grow (putRow id (Sort.ahead w0 n) gb 0 (flatK dA k d')) os=_;rw[SP hb]
 have m1:bZ ⟨w0,V,iR [Vc.one gb (.cells cur E (0,0))]⟩ V [gV gb (.cells cur E (0,0))] w0:=
  rB (σ0:=[gV gb (.cells cur E (0,0))]) ⟨rfl,Go.i_⟩ h2 h3 h4
 have m2:=(m1.drawn (w0.drawn+n)).setBlk (k:=0) rfl (.cells (putCells id 0 (flatK dA k d') cur) E (0,0)) _ rfl;have hext:∀(w:World),kA w (grow w os):=λw=>⟨⟨rfl,rfl,rfl,by simp[grow],λk hk=>by simp[grow,Array.getElem?_append,hk]⟩,cV _⟩;have m3:=m2.ext (hext _);rw[hw'];have hperm:d'.toList.Perm T:=by
  have:=hp.2.2;have e1:(d'.extract 0 T.toArray.size).toList=d'.toList:=by simp[←hdl]
  have e2:(T.toArray.extract 0 T.toArray.size).toList=T:=bK;rw[show T.length=T.toArray.size by simp,e1,e2]at this;exact this
 refine⟨_,V,_,he,⟨rfl,rfl,d'.toList,hperm,λi j hij hj=> ?_,rfl⟩,?_⟩;have:=hs i j (kE _) hij (by simpa[hdl]using hj);rw[wQ,wQ];exact this;obtain⟨hs',s1,s2,s3⟩:=m3.own;refine⟨m3.os,m3.tape,m3.output,m3.dr,m3.size,m3.frame,m3.sub,m3.view,m3.vold,hs',?_,s2,s3⟩;match hs',s1 with
 | [x],s1=>
  refine⟨⟨by rw[EC hk];simp[hdl],.inr ⟨gb,cap,_,rfl,s1.1,q1,q2,by simp[putCells];exact q3,?_⟩⟩,Go.i_⟩;rw[←yS hk d'];exact E1 hfl (by rw[q3];exact vG k q1)
end
end Go.Vc
namespace Go.Proofs.YtbchkopkgpfkgaaGreat
open Go Go.Vc Go.RowKit Go.Shelf Go.Sort
variable{V:HV}
abbrev WOv(V:HV):={p:WO//aT .i64 V p.1 p.2.1}
theorem az_{v:Value}{T:List WO}(hw:mS V T)(h:T.length<4611686018427387904):
  aP Tryz.prog 36 [v,.func (.func 37) #[] #[]] V [Gr 45 2 v T.length (eN T)] (λu V' σ'=>u= .tuple #[]∧V'=V∧∃T':List WO,T'.Perm T∧ag6 T'∧σ'=[Gr 45 2 v T.length (eN T')]):=by
 haveI:Inhabited (WOv V):=⟨⟨(.slice none 0 0,([],0)),⟨none,0,rfl,cV _,kE _,λh=>bM rfl h⟩⟩⟩;let S:List (WOv V):=T.attach.map λp=>⟨p.1,hw p.1 p.2⟩;have hS:S.map (·.1)=T:=by
  show(T.attach.map _).map _=T;rw[List.map_map];exact List.attach_map_subtype_val T
 have hl:S.length=T.length:=by simp[S]
 have hf:∀R:List (WOv V),R.flatMap (λx=>yF x.1)=eN (R.map (·.1)):=λR=>by unfold eN;rw[List.flatMap_map]
 have key:=aP.sortV (P:=Tryz.prog) (ρ:=Tryz.laysSlObs_ren) Tryz.laysSlObs (dA:=λx:WOv V=>yF x.1) (k:=2) (E:=45) (λw=>by
   show(isAgg 45).run Tryz.prog w=_;simp[isAgg,run_underlying Tryz.underlying45]) (λw=>Go.Vc.eT Tryz.size45 w) (λ_=>rfl) (λx u hu=>by
   simp[yF]at hu;rcases hu with rfl|rfl
   exact Sl.one x.2;rfl) (λx y=>j9 x.1.2 y.1.2) (aCd λx:WOv V=>x.1.2) 37 (enters_of Tryz.func37 eD rfl) (V:=V) (λx y=>PE x.2 y.2)
   ⟨_,Tryz.func36,dB,dB⟩ (v:=v) (T:=S) aB
 rw[hf,hS,hl]at key;refine key.mono λu V' σ' _ hh=> ?_;obtain⟨a,b,T',c,d,e⟩:=hh;refine⟨a,b,T'.map (·.1),?_,λi j h0 h1 h2=> ?_,by rw[e,hf]⟩;have:=c.map (·.1);rwa[hS]at this;rw[fT]at h2;have q:=d i.toNat j.toNat aB aB;have ee:∀i:Int,0≤i→i<T'.length→wo (T'.map (·.1)) i=(T'[i.toNat]!).1:=λi a b=>by
  rw[tU a (by rw[fT];exact b),getElem!_pos T' i.toNat aB];simp
 rw[ee i h0 aB,ee j aB h2];have q:decide (j9 (T'[j.toNat]!).1.2 (T'[i.toNat]!).1.2<0)=false:=q;show¬j9 (T'[j.toNat]!).1.2 (T'[i.toNat]!).1.2<0;simpa using q
theorem akV{x:Int}(h0:0≤x)(h1:x≤18446744073709551615):aP Tryz.prog 98 [.int .u64 x] V [] (λv _ _=>v= .int .i64 (Lib.bitLen x.toNat)):=by
 refine⟨⟨_,Tryz.func98,dB,dB⟩,λw0 hs0 q1 q2 q3 q4=> ?_⟩;have m0:=rB q1 q2 q3 q4;refine(Tryz.bits_Len x w0 h0 h1).mono λe w' ⟨he,hw⟩=> ?_;subst hw;exact⟨_,V,[],he,rfl,m0⟩
end Go.Proofs.YtbchkopkgpfkgaaGreat
