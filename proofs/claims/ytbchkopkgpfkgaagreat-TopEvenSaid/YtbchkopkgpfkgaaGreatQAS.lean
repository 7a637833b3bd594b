import Derived.Walk
import Derived.Deep.QuietTactic
import Derived.BigQuiet
import Derived.Test.YtbchkopkgpfkgaaGreatQAH
import Derived.Test.YtbchkopkgpfkgaaGreatQAD
set_option linter.unusedVariables false
set_option linter.unusedSimpArgs false
namespace Go.Proofs.YtbchkopkgpfkgaaGreat.Dd
open Go Go.RowKit Go.Sort Go.Vc
variable{L zs:List Int}{cur:Array Value}{w:World}
theorem an5{g n:Nat}{E:TypeId}(hb:w.heap[g]? =some (.cells cur E (0,0))):
  putRow (Value.int .i64) (Sort.ahead w n) g 0 zs.toArray={({w with drawn:=w.drawn+n}:World)with heap:=w.heap.setIfInBounds g (.cells (putCells (Value.int .i64) 0 zs.toArray cur) E (0,0))}:=by
 have hlt:g<w.heap.size:=jD (w:=w) hb;have hg:w.heap[g]= .cells cur E (0,0):=by rw[wC hlt]at hb;exact Option.some.inj hb
 unfold putRow mapBlock Sort.ahead;congr 1;apply Array.ext;simp;intro i h1 h2;simp only[Z4];by_cases hi:g=i;subst hi;simp[hg,onCells];rw[aC hi,adX _ hi]
theorem TY{n:Nat}(hn:zs.length=n)(hc:n≤cur.size):(putCells (Value.int .i64) 0 zs.toArray cur).toList.take n=zs.map (Value.int .i64):=by
 apply R5;simp[putCells];omega;intro i h1 h2;simp at h1 h2;have hi:i<zs.length:=aB;simp[putCells,List.getElem_take,hi]
theorem alE(w:World)(os:Array Obj):kA w (Go.Sort.grow w os):=⟨⟨rfl,rfl,rfl,by simp[Go.Sort.grow],λk hk=>by simp[Go.Sort.grow,Array.getElem?_append,hk]⟩,cV _⟩
theorem ayU{W:World}{pb bb c off n cap:Nat}{i j x y:Int}(h1:∀q,(W.drewN q).cell? ⟨pb,0,none⟩=some (.pointer (some ⟨bb,0,none⟩)))(h2:∀q,(W.drewN q).cell? ⟨bb,0,none⟩=some (.slice (some ⟨c,off,none⟩) n cap))
  (h3:∀q,(W.drewN q).cell? ⟨c,off+i.toNat,none⟩=some (.int .i64 x)) (h4:∀q,(W.drewN q).cell? ⟨c,off+j.toNat,none⟩=some (.int .i64 y)) (hi:0≤i) (hi2:i<n) (hj:0≤j) (hj2:j<n) (hw:IntKind.i64.wrap (x-y)=x-y):Calls Tryz.prog 223 #[.int .i64 i,.int .i64 j,.pointer (some ⟨pb,0,none⟩)] W λe w'=>e= .returned (.int .i64 (x-y))∧∃q,w'=W.drewN q:=by
 go_enter Tryz.func223,Tryz.ntmps223
 go_wp2
 go_quiet (fail)
 go_wp2
 go_ret
 exact⟨rfl,nq,rfl⟩
theorem azW{α:Type}[Inhabited α]{dA:α→Value}{g off m b:Nat}{dk:Array α}{os:Array Obj}(hb:b≠g)(hlt:b<w.heap.size):(sortWorld dA w g off m dk os).heap[b]? =w.heap[b]? :=by
 unfold sortWorld grow putRow mapBlock Sort.ahead;have hs:b<(w.heap.modify g (onCells (putCells dA off dk))).size:=by simpa using hlt
 show((w.heap.modify g (onCells (putCells dA off dk)))++os)[b]? =_;rw[Array.getElem?_append_left hs,wC hs,wC hlt,Z4,aC λe=>hb e.symm]
abbrev DC(L:List Int):={i:Int//0≤i∧i<L.length}
def L8(x:DC L):Value:=.int .i64 x.val
def KS(L:List Int)(x y:DC L):Int:=gi L x.val-gi L y.val
theorem aJ0(L:List Int):SWO (ltOf (KS L)) where
 irrefl:=λx=>by simp[ltOf,KS]
 trans:=λx y z h1 h2=>by unfold ltOf KS at*;have h1:=of_decide_eq_true h1;have h2:=of_decide_eq_true h2;exact decide_eq_true aB
 ntrans:=λx y z h1 h2=>by unfold ltOf KS at*;have h1:=of_decide_eq_false h1;have h2:=of_decide_eq_false h2;exact decide_eq_false aB
theorem aqW(zs:List (DC L))(c:Array Value)[Inhabited (DC L)]:putCells L8 0 zs.toArray c=putCells (Value.int .i64) 0 (zs.map (·.val)).toArray c:=by
 unfold putCells;apply Array.ext;simp;intro k h1 h2;simp only[Array.getElem_mapIdx,A_,fT];split;rename_i h;have hk:k<zs.length:=by simpa using h.2
 simp[L8,hk];rfl
theorem aa2[Inhabited (DC L)](zs:List (DC L))(w:World)(g:Nat):putRow L8 w g 0 zs.toArray=putRow (Value.int .i64) w g 0 (zs.map (·.val)).toArray:=by
 unfold putRow;congr 1;funext c;exact aqW zs c
theorem ax4{V:HV}{v u:Value}{pb bb:Nat}{cs:List Value}(hp:Cells V pb [.pointer (some ⟨bb,0,none⟩)])(hbb:Cells V bb (u::cs))(hL:aT .i64 V u L)(hz:∀z∈zs,0≤z∧z<L.length)
  (hin:∀z∈L,bF z) (hnod:∀i j:Int,0≤i→i<L.length→0≤j→j<L.length→gi L i=gi L j→i=j) (eV:zs.length<4611686018427387904):
  aP Tryz.prog 222 [v,.func (.func 223) #[] #[.pointer (some ⟨pb,0,none⟩)]] V [Gr 3 1 v zs.length (zs.map (Value.int .i64))] (λu V' σ'=>u= .tuple #[]∧V'=V∧σ'=[Gr 3 1 v zs.length ((mL L zs).map (Value.int .i64))]):=by
 refine⟨⟨_,Tryz.func222,dB,dB⟩,λw0 hs0 h1 h2 h3 h4=> ?_⟩;have m0:=GN h1 h2 h3 h4;obtain⟨h,hh⟩:∃h,hs0=[h]:=by
  match hs0,h1 with
  | [h],_=>exact⟨h,rfl⟩
 subst hh;have hg:Gr 3 1 v zs.length (zs.map (Value.int .i64)) h:=h1.1;obtain⟨hl,hg⟩:=hg;rcases hg with⟨rfl,hn,_⟩|⟨g,cap,cur,rfl,rfl,q1,q2,q3,q4⟩
 have hz:zs=[]:=rS hn;subst hz;refine(Tryz.slices_SortFunc_none (α:=Int) none 0 _ w0).mono λe w' ⟨he,hw⟩=> ?_;subst hw;exact⟨_,V,_,he,⟨rfl,rfl,rfl⟩,by simpa[mL]using m0⟩;by_cases hz0:zs=[];subst hz0;refine(Tryz.slices_SortFunc_none (α:=Int) _ _ _ w0).mono λe w' ⟨he,hw⟩=> ?_;subst hw;exact⟨_,V,_,he,⟨rfl,rfl,rfl⟩,by simpa[mL]using m0⟩;obtain⟨z0,hz0⟩:=List.exists_mem_of_ne_nil _ hz0;letI:Inhabited (DC L):=⟨⟨z0,hz z0 hz0⟩⟩;let ds:List (DC L):=zs.pmap (λx h=>(⟨x,h⟩:DC L)) hz;have hds:ds.map (·.val)=zs:=by simp[ds,List.map_pmap]
 have hdl:ds.length=zs.length:=by simp[ds]
 have hdz:(ds.mergeSort λx y=> !(ltOf (KS L)) y x).map (·.val)=mL L zs:=by
  unfold mL;rw[List.map_mergeSort (r:=λx y=> !(ltOf (KS L)) y x) (s:=λi j:Int=>decide (gi L i≤gi L j)) (f:=λx:DC L=>x.val) (λa _ b _=>by
   unfold ltOf KS;by_cases h:gi L a.val≤gi L b.val;rw[decide_eq_true h,decide_eq_false aB];rfl;rw[decide_eq_false h,decide_eq_true aB];rfl),hds]
 have hb:w0.heap[g]? =some (.cells cur 3 (0,0)):=(h4 (Vc.one g (.cells cur 3 (0,0))) (gY.2 rfl)).1 g _ (by show(if g=g then some _ else none)=_;rw[aK rfl]);have hgV:V g=none:=by
  rcases(h4 (Vc.one g (.cells cur 3 (0,0))) (gY.2 rfl)).2 g with q|q
  simp[Vc.one]at q;exact q
 have hH:Holds L8 w0 g 0 ds.toArray:=λj hj=>by
  have hj1:j<ds.length:=by simpa using hj
  have hj':j<zs.length:=aB;have e0:(ds.toArray[j]!).val=zs[j]:=by
   have:=congrArg (λl=>l[j]?) hds;simp only[iZ,dT hj',dT hj1,Option.map_some,Option.some.injEq]at this;simpa[hj1]using this
  have e:cur[j]? =some (.int .i64 zs[j]):=by
   have:=congrArg (λl=>l[j]?) q4;simp only[iH,iZ]at this;rw[aK aB]at this;simpa[dT hj']using this
  refine⟨?_,by simp[World.frozen?,hb]⟩;unfold L8;rw[e0];simp[World.cell?,hb,e]
 have hread:∀(b:Nat) (o:Obj),V b=some o→∀m os (dk:Array (DC L)),(sortWorld L8 w0 g 0 m dk os).heap[b]? =some o:=λb o hbo m os dk=>by
  have hlt:b<w0.heap.size:=jD (w:=w0) (h3 b o hbo);have:=azW (dA:=L8) (w:=w0) (g:=g) (off:=0) (m:=m) (dk:=dk) (os:=os) (b:=b) (λe=>by rw[e,hgV]at hbo;cases hbo) hlt;rw[this];exact h3 b o hbo
 obtain⟨a,c,rfl,hc1,hc2,hsl⟩:=hL;have hLn:L.map (Value.int .i64)≠ []:=λe=>by
  have:=(hz z0 hz0);have e2:L=[]:=by simpa using e
  rw[e2]at this;have e3:((([]:List Int).length:Nat):Int)=0:=rfl;omega
 obtain⟨lb,off,lc,T,fz,rfl,hlb,hle⟩:=hsl hLn;obtain⟨Tp,fp,hp⟩:=hp;obtain⟨Tb,fb,hbb⟩:=hbb;have hcmp:CmpLays1 Tryz.prog 223 #[.pointer (some ⟨pb,0,none⟩)] L8 (KS L) g 0 ds.toArray.size w0:=CmpReads.lays λm os dk _ x y=>by
  have hel:∀z:DC L,∀q,((sortWorld L8 w0 g 0 m dk os).drewN q).cell? ⟨lb,off+z.val.toNat,none⟩=some (.int .i64 (gi L z.val)):=λz q=>by
   have hzl:z.val.toNat<L.length:=by have:=z.2;omega
   have:=hle z.val.toNat (by simpa using hzl);rw[iZ,dT hzl]at this;simp only[Option.map_some]at this;simp[World.cell?,hread lb _ hlb m os dk,this,dT hzl]
  have hr:∀z:DC L,bF (gi L z.val):=λz=>hin _ (qB z.2.1 z.2.2);have r1:=hr x;have r2:=hr y;unfold bF at r1 r2;exact ayU (i:=x.val) (j:=y.val) (x:=gi L x.val) (y:=gi L y.val) (n:=L.length) (bb:=bb) (c:=lb) (off:=off) (cap:=c) (λq=>by simp[World.cell?,hread pb _ hp m os dk]) (λq=>by simp[World.cell?,hread bb _ hbb m os dk]) (hel x) (hel y) x.2.1 x.2.2 y.2.1 y.2.2 (IntWalk.i64_in _ aB)
 have eg:∀args w,(callFunc 223 args).run Tryz.prog w= .ok (.enter 223 args) w:=enters_of Tryz.func223 eD rfl;have call:=Tryz.slices_SortFunc_total L8 (λ_=>rfl) (KS L) (aJ0 L) 223 #[.pointer (some ⟨pb,0,none⟩)] g 0 cap ds.toArray w0 eg hcmp hH (jD (w:=w0) hb) (by simpa[hdl]using eV) (λx y a b=>by
  unfold ltOf KS at a b;have a:=of_decide_eq_false a;have b:=of_decide_eq_false b;exact Subtype.ext (hnod _ _ x.2.1 x.2.2 y.2.1 y.2.2 aB))
 rw[show ds.toArray.size=zs.length by simpa using hdl]at call;refine call.mono λe w' ⟨he,n,os,hw⟩=> ?_;have hlen:(mL L zs).length=zs.length:=D5 L zs;unfold sortWorld at hw;rw[aa2,hdz,an5 hb]at hw;have m1:bZ ⟨w0,V,iR [Vc.one g (.cells cur 3 (0,0))]⟩ V [gV g (.cells cur 3 (0,0))] w0:=
  GN (σ0:=[gV g (.cells cur 3 (0,0))]) ⟨rfl,i_⟩ h2 h3 h4
 have m2:=(m1.drawn (w0.drawn+n)).setBlk (k:=0) rfl (.cells (putCells (Value.int .i64) 0 (mL L zs).toArray cur) 3 (0,0)) _ rfl;have m3:=m2.ext (alE _ os);rw[hw];refine⟨_,V,_,he,⟨rfl,rfl,rfl⟩,?_⟩;obtain⟨hs,s1,s2,s3⟩:=m3.own;refine⟨m3.os,m3.tape,m3.output,m3.dr,m3.size,m3.frame,m3.sub,m3.view,m3.vold,hs,?_,s2,s3⟩;match hs,s1 with
 | [x],s1=>
  refine⟨⟨by simp[hlen],.inr ⟨g,cap,_,rfl,s1.1,q1,q2,by simp[putCells];omega,?_⟩⟩,i_⟩;rw[C_];exact TY hlen aB
end Go.Proofs.YtbchkopkgpfkgaaGreat.Dd
