import Derived.Test.YtbchkopkgpfkgaaGreatKAE
import Derived.Test.YtbchkopkgpfkgaaGreatKAV
set_option linter.unusedVariables false
set_option linter.unusedSimpArgs false
namespace Go.Proofs.YtbchkopkgpfkgaaGreat
open Go Go.Lib Go.Proofs Go.RowKit Go.Vc
theorem aBz{V:HV}{n:Int}(h0:0≤n)(h1:n≤1000000):aP Tryz.prog 105 [.slice none 0 0,.int .i64 n] V [] (λv V' σ'=>V'=V∧σ'=[Gr 3 1 v 0 []]):=by
 refine⟨⟨_,Tryz.func105,dB,dB⟩,λw0 hs0 q1 q2 q3 q4=> ?_⟩;have m0:=rB q1 q2 q3 q4;obtain⟨k,rfl⟩:∃k:Nat,n=k:=⟨n.toNat,aB⟩;obtain rfl:hs0=[]:=by cases hs0 with|nil=>rfl|cons a l=>exact q1.elim
 by_cases hz:k=0;subst hz;refine(Any8.slices_Grow_room Tryz.laysGrow none 0 0 0 w0 aB aB aB aB).mono λe w' ⟨he,hw⟩=> ?_;subst hw;exact⟨_,V,_,he,⟨rfl,rfl⟩,m0.add_none 3 1⟩;obtain⟨i,hi⟩:∃i,Tryz.prog.info? 3=some i:=by
  have h:(Tryz.prog.info? 3).map (λi=>(i.zero,i.size,i.bytes))=_:=Tryz.ti3;cases hh:Tryz.prog.info? 3 with
  |none=>rw[hh]at h;cases h
  |some i=>exact⟨i,rfl⟩
 have h:(Tryz.prog.info? 3).map (λi=>(i.zero,i.size,i.bytes))=some (some (Value.int .i64 0),1,8):=Tryz.ti3;rw[hi]at h;have h:=Option.some.inj h;have e1:i.zero=some (Value.int .i64 0):=congrArg Prod.fst h;have e2:i.size=1:=congrArg (λx=>x.2.1) h;have e3:i.bytes=8:=congrArg (λx=>x.2.2) h;refine(Any8.slices_Grow_grow Tryz.laysGrow i (Value.int .i64 0) hi e1 aB none 0 0 k [] w0 aB aB (by rw[e3];omega) aB bK (λ_=>rfl) (λ_ h=>by cases h)).mono λe w' ⟨he,hw⟩=> ?_;refine⟨_,V,_,he,⟨rfl,rfl⟩,?_⟩;have hc:=grownCap_le_maxLen w0 (0+k) 0 (Tryz.laysGrow_ren.t 25) (by unfold maxLen;omega);have hg:=grownCap_ge w0 (0+k) 0 (Tryz.laysGrow_ren.t 25);have hx:kA w0 w':=by rw[hw];exact⟨⟨rfl,rfl,rfl,by show w0.heap.size≤(w0.heap.push _).size;rw[Array.size_push];exact Nat.le_succ _,λc hc=>Below.heap_alloc _ _ _ hc⟩,Nat.le_succ _⟩
 refine Dd.alU q3 ?_ hx;have hz:∀m,(Builtin.zeroCells (Value.int .i64 0).cells m).size=m:=λm=>by
  show((Array.range (m*1)).map _).size=m;simp
 refine⟨rfl,.inr ⟨w0.heap.size,_,_,rfl,cV _,by rw[hw];exact Array.getElem?_push_size ..,kE _,hc,?_,by rw[Nat.zero_mul,List.take_zero]⟩⟩;rw[Array.size_append,Array.size_append,hz,hz];show 0+(0+k-0)+_=_;omega
end Go.Proofs.YtbchkopkgpfkgaaGreat
