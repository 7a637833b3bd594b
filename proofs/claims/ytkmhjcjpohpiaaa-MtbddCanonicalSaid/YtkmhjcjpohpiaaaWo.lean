/- Wo. -/
import Derived.Test.YtkmhjcjpohpiaaaWb
import Derived.Test.YtkmhjcjpohpiaaaWm
import Derived.Test.YtkmhjcjpohpiaaaTy
import Derived.Test.YtkmhjcjpohpiaaaSh
import Derived.Lib.SlicesCompact
import Derived.Walk
import Derived.Deep.QuietTactic
import Derived.BigQuiet
import Derived.Laws.CopyRow
import Derived.Test.YtkmhjcjpohpiaaaWd
import Derived.Test.YtkmhjcjpohpiaaaWn
import Derived.Test.YtkmhjcjpohpiaaaMtN
namespace Go.Proofs.Ytkmhjcjpohpiaaa
open Go Go.Vc Go.Sort Go.RowKit
theorem put_heap {w:World} {g n:Nat} {zs:List Int} {E:TypeId} {cur:Array Value} (hb:w.heap[g]? = some (.cells cur E (0,0))) :
    putRow (Value.int .i64) (Sort.ahead w n) g 0 zs.toArray = { ({ w with drawn:=w.drawn+n }:World) with heap:=w.heap.setIfInBounds g (.cells (putCells (Value.int .i64) 0 zs.toArray cur) E (0,0)) }:=by
  have hlt:g < w.heap.size:=hv_lt (w:=w) hb
  have hg:w.heap[g]=.cells cur E (0,0):=by rw [Array.getElem?_eq_getElem hlt] at hb; exact Option.some.inj hb
  unfold putRow mapBlock Sort.ahead
  congr 1
  apply Array.ext
  · simp
  · intro i h1 h2
    simp only [Array.getElem_modify]
    by_cases hi:g=i
    · subst hi; simp [hg,onCells]
    · rw [if_neg hi,Array.getElem_setIfInBounds_ne _ hi]
theorem putCells_take {zs:List Int} {cur:Array Value} {n:Nat} (hn:zs.length=n) (hc:n≤cur.size):(putCells (Value.int .i64) 0 zs.toArray cur).toList.take n=zs.map (Value.int .i64):=by
  apply List.ext_getElem
  · simp [putCells]; omega
  · intro i h1 h2
    simp at h1 h2
    have hi:i < zs.length:=by omega
    simp [putCells,List.getElem_take,hi]
theorem cmp_run {W:World} {pb bb c off n cap:Nat} {i j x y:Int} (h1:∀ q,(W.drewN q).cell? ⟨pb,0,none⟩=some (.pointer (some ⟨bb,0,none⟩))) (h2:∀ q,(W.drewN q).cell? ⟨bb,0,none⟩=some (.slice (some ⟨c,off,none⟩) n cap))
   (h3:∀ q,(W.drewN q).cell? ⟨c,off+i.toNat,none⟩=some (.int .i64 x)) (h4:∀ q,(W.drewN q).cell? ⟨c,off+j.toNat,none⟩=some (.int .i64 y)) (hi:0≤i) (hi2:i < n) (hj:0≤j) (hj2:j < n) (hw:IntKind.i64.wrap (x - y)=x - y):Calls Try.prog 130 #[.int .i64 i,.int .i64 j,.pointer (some ⟨pb,0,none⟩)] W fun e w'=>e=.returned (.int .i64 (x - y))∧∃ q,w' = W.drewN q:=by
  go_enter Try.func130,Try.ntmps130
  go_wp2
  go_quiet (fail)
  go_wp2
  go_ret
  exact ⟨rfl,nq,rfl⟩
theorem sw_heap {α:Type} [Inhabited α] {enc:α→Value} {w:World} {g off m b:Nat} {dk:Array α} {os:Array Obj} (hb:b ≠ g) (hlt:b < w.heap.size):(sortWorld enc w g off m dk os).heap[b]? = w.heap[b]?:=by
  unfold sortWorld grow putRow mapBlock Sort.ahead
  have hs:b < (w.heap.modify g (onCells (putCells enc off dk))).size:=by simpa using hlt
  show ((w.heap.modify g (onCells (putCells enc off dk)))++os)[b]? = _
  rw [Array.getElem?_append_left hs,Array.getElem?_eq_getElem hs,Array.getElem?_eq_getElem hlt,Array.getElem_modify,if_neg fun e=>hb e.symm]
abbrev LfI (L:List Int):={ i:Int // 0≤i∧i < L.length }
def enI {L:List Int} (x:LfI L):Value:=.int .i64 x.val
def cfI (L:List Int) (x y:LfI L):Int:=gi L x.val - gi L y.val
theorem swoI (L:List Int):SWO (ltOf (cfI L)) where
  irrefl:=fun x=>by simp [ltOf,cfI]
  trans:=fun x y z h1 h2=>by unfold ltOf cfI at *; have h1:=of_decide_eq_true h1; have h2:=of_decide_eq_true h2; exact decide_eq_true (by omega)
  ntrans:=fun x y z h1 h2=>by unfold ltOf cfI at *; have h1:=of_decide_eq_false h1; have h2:=of_decide_eq_false h2; exact decide_eq_false (by omega)
theorem put_mapI {L:List Int} (zs:List (LfI L)) (c:Array Value) [Inhabited (LfI L)]:putCells enI 0 zs.toArray c=putCells (Value.int .i64) 0 (zs.map (·.val)).toArray c:=by
  unfold putCells
  apply Array.ext
  · simp
  · intro k h1 h2
    simp only [Array.getElem_mapIdx,List.size_toArray,List.length_map]
    split
    · rename_i h
      have hk:k < zs.length:=by simpa using h.2
      simp [enI,hk]
    · rfl
theorem putRow_mapI {L:List Int} [Inhabited (LfI L)] (zs:List (LfI L)) (w:World) (g:Nat):putRow enI w g 0 zs.toArray=putRow (Value.int .i64) w g 0 (zs.map (·.val)).toArray:=by
  unfold putRow
  congr 1
  funext c
  exact put_mapI zs c
theorem SortL_c {V:HV} {v u:Value} {zs L:List Int} {pb bb:Nat} {cs:List Value} (hp:Cells V pb [.pointer (some ⟨bb,0,none⟩)]) (hbb:Cells V bb (u :: cs)) (hL:Ints .i64 V u L) (hz:∀ z ∈ zs,0≤z∧z < L.length)
    (hin:∀ z ∈ L,inR z) (hnod:∀ i j:Int,0≤i→i < L.length→0≤j→j < L.length→gi L i=gi L j→i=j) (hsz:zs.length < 4611686018427387904) :
    FnC Try.prog 129 [v,.func (.func 130) #[] #[.pointer (some ⟨pb,0,none⟩)]] V [Gr 3 1 v zs.length (zs.map (Value.int .i64))] (fun u V' σ'=>u=.tuple #[]∧V' = V∧σ' = [Gr 3 1 v zs.length ((lvS L zs).map (Value.int .i64))]):=by
  refine ⟨⟨_,Try.func129,by rfl,by rfl⟩,fun w0 hs0 h1 h2 h3 h4=>?_⟩
  have m0:=mem_start h1 h2 h3 h4
  obtain ⟨h,hh⟩:∃ h,hs0=[h]:=by
    match hs0,h1 with
    | [h],_=>exact ⟨h,rfl⟩
  subst hh
  have hg:Gr 3 1 v zs.length (zs.map (Value.int .i64)) h:=h1.1
  obtain ⟨hl,hg⟩:=hg
  rcases hg with ⟨rfl,hn,_⟩ | ⟨g,cap,cur,rfl,rfl,q1,q2,q3,q4⟩
  · have hz:zs=[]:=List.eq_nil_of_length_eq_zero hn
    subst hz
    refine (Try.slices_SortFunc_none (α:=Int) none 0 _ w0).mono fun e w' ⟨he,hw⟩=>?_
    subst hw
    exact ⟨_,V,_,he,⟨rfl,rfl,rfl⟩,by simpa [lvS] using m0⟩
  by_cases hz0:zs=[]
  · subst hz0
    refine (Try.slices_SortFunc_none (α:=Int) _ _ _ w0).mono fun e w' ⟨he,hw⟩=>?_
    subst hw
    exact ⟨_,V,_,he,⟨rfl,rfl,rfl⟩,by simpa [lvS] using m0⟩
  obtain ⟨z0,hz0⟩:=List.exists_mem_of_ne_nil _ hz0
  letI:Inhabited (LfI L):=⟨⟨z0,hz z0 hz0⟩⟩
  let ds:List (LfI L):=zs.pmap (fun x h=>(⟨x,h⟩:LfI L)) hz
  have hds:ds.map (·.val)=zs:=by simp [ds,List.map_pmap]
  have hdl:ds.length=zs.length:=by simp [ds]
  have hdz:(ds.mergeSort fun x y=>!(ltOf (cfI L)) y x).map (·.val)=lvS L zs:=by
    unfold lvS
    rw [List.map_mergeSort (r:=fun x y=>!(ltOf (cfI L)) y x) (s:=fun i j:Int=>decide (gi L i≤gi L j)) (f:=fun x:LfI L=>x.val) (fun a _ b _=>by
      unfold ltOf cfI
      by_cases h:gi L a.val≤gi L b.val
      · rw [decide_eq_true h,decide_eq_false (by omega)]; rfl
      · rw [decide_eq_false h,decide_eq_true (by omega)]; rfl),hds]
  have hb:w0.heap[g]? = some (.cells cur 3 (0,0)):=(h4 (Vc.one g (.cells cur 3 (0,0))) (List.mem_singleton.2 rfl)).1 g _ (by show (if g=g then some _ else none)=_; rw [if_pos rfl])
  have hgV:V g=none:=by
    rcases (h4 (Vc.one g (.cells cur 3 (0,0))) (List.mem_singleton.2 rfl)).2 g with q | q
    · simp [Vc.one] at q
    · exact q
  have hH:Holds enI w0 g 0 ds.toArray:=fun j hj=>by
    have hj1:j < ds.length:=by simpa using hj
    have hj':j < zs.length:=by omega
    have e0:(ds.toArray[j]!).val=zs[j]:=by
      have:=congrArg (fun l=>l[j]?) hds
      simp only [List.getElem?_map,List.getElem?_eq_getElem hj',List.getElem?_eq_getElem hj1,Option.map_some,Option.some.injEq] at this
      simpa [hj1] using this
    have e:cur[j]? = some (.int .i64 zs[j]):=by
      have:=congrArg (fun l=>l[j]?) q4
      simp only [List.getElem?_take,List.getElem?_map] at this
      rw [if_pos (by omega)] at this
      simpa [List.getElem?_eq_getElem hj'] using this
    refine ⟨?_,by simp [World.frozen?,hb]⟩
    unfold enI
    rw [e0]
    simp [World.cell?,hb,e]
  -- what the comparison reads
  have hread:∀ (b:Nat) (o:Obj),V b=some o→∀ m os (dk:Array (LfI L)),(sortWorld enI w0 g 0 m dk os).heap[b]? = some o:=fun b o hbo m os dk=>by
    have hlt:b < w0.heap.size:=hv_lt (w:=w0) (h3 b o hbo)
    have:=sw_heap (enc:=enI) (w:=w0) (g:=g) (off:=0) (m:=m) (dk:=dk) (os:=os) (b:=b) (fun e=>by rw [e,hgV] at hbo; cases hbo) hlt
    rw [this]; exact h3 b o hbo
  obtain ⟨a,c,rfl,hc1,hc2,hsl⟩:=hL
  have hLn:L.map (Value.int .i64) ≠ []:=fun e=>by
    have:=(hz z0 hz0)
    have e2:L=[]:=by simpa using e
    rw [e2] at this
    have e3:((([]:List Int).length:Nat):Int)=0:=rfl
    omega
  obtain ⟨lb,off,lc,T,fz,rfl,hlb,hle⟩:=hsl hLn
  obtain ⟨Tp,fp,hp⟩:=hp
  obtain ⟨Tb,fb,hbb⟩:=hbb
  have hcmp:CmpLays1 Try.prog 130 #[.pointer (some ⟨pb,0,none⟩)] enI (cfI L) g 0 ds.toArray.size w0:=CmpReads.lays fun m os dk _ x y=>by
    have hel:∀ z:LfI L,∀ q,((sortWorld enI w0 g 0 m dk os).drewN q).cell? ⟨lb,off+z.val.toNat,none⟩=some (.int .i64 (gi L z.val)):=fun z q=>by
      have hzl:z.val.toNat < L.length:=by have:=z.2; omega
      have:=hle z.val.toNat (by simpa using hzl)
      rw [List.getElem?_map,List.getElem?_eq_getElem hzl] at this
      simp only [Option.map_some] at this
      simp [World.cell?,hread lb _ hlb m os dk,this,List.getElem?_eq_getElem hzl]
    have hr:∀ z:LfI L,inR (gi L z.val):=fun z=>hin _ (gi_mem z.2.1 z.2.2)
    have r1:=hr x
    have r2:=hr y
    unfold inR at r1 r2
    exact cmp_run (i:=x.val) (j:=y.val) (x:=gi L x.val) (y:=gi L y.val) (n:=L.length) (bb:=bb) (c:=lb) (off:=off) (cap:=c) (fun q=>by simp [World.cell?,hread pb _ hp m os dk]) (fun q=>by simp [World.cell?,hread bb _ hbb m os dk]) (hel x) (hel y) x.2.1 x.2.2 y.2.1 y.2.2 (IntWalk.i64_in _ (by omega))
  have eg:∀ args w,(callFunc 130 args).run Try.prog w=.ok (.enter 130 args) w:=enters_of Try.func130 (by kernel_rfl) rfl
  have call:=Try.slices_SortFunc_total enI (fun _=>rfl) (cfI L) (swoI L) 130 #[.pointer (some ⟨pb,0,none⟩)] g 0 cap ds.toArray w0 eg hcmp hH (hv_lt (w:=w0) hb) (by simpa [hdl] using hsz) (fun x y a b=>by
    unfold ltOf cfI at a b
    have a:=of_decide_eq_false a
    have b:=of_decide_eq_false b
    exact Subtype.ext (hnod _ _ x.2.1 x.2.2 y.2.1 y.2.2 (by omega)))
  rw [show ds.toArray.size=zs.length by simpa using hdl] at call
  refine call.mono fun e w' ⟨he,n,os,hw⟩=>?_
  have hlen:(lvS L zs).length=zs.length:=lvS_len L zs
  unfold sortWorld at hw
  rw [putRow_mapI,hdz,put_heap hb] at hw
  have m1:Mem ⟨w0,V,dom [Vc.one g (.cells cur 3 (0,0))]⟩ V [Blk g (.cells cur 3 (0,0))] w0 :=
    mem_start (σ0:=[Blk g (.cells cur 3 (0,0))]) ⟨rfl,trivial⟩ h2 h3 h4
  have m2:=(m1.drawn (w0.drawn+n)).setBlk (k:=0) rfl (.cells (putCells (Value.int .i64) 0 (lvS L zs).toArray cur) 3 (0,0)) _ rfl
  have hext:∀ (w:World),Ext w (grow w os):=fun w=>⟨rfl,rfl,rfl,by simp [grow],fun k hk=>by simp [grow,Array.getElem?_append,hk]⟩
  have m3:=m2.ext (hext _)
  rw [hw]
  refine ⟨_,V,_,he,⟨rfl,rfl,rfl⟩,?_⟩
  obtain ⟨hs,s1,s2,s3⟩:=m3.own
  refine ⟨m3.os,m3.tape,m3.output,m3.size,m3.frame,m3.sub,m3.view,m3.vold,hs,?_,s2,s3⟩
  match hs,s1 with
  | [x],s1 =>
    refine ⟨⟨by simp [hlen],.inr ⟨g,cap,_,rfl,s1.1,q1,q2,by simp [putCells]; omega,?_⟩⟩,trivial⟩
    rw [Nat.mul_one]
    exact putCells_take hlen (by omega)
end Go.Proofs.Ytkmhjcjpohpiaaa
namespace Go.Vc
open Go.RowKit
def joinL:List HV→HV
  | []=>fun _=>none
  | h :: hs=>plus h (joinL hs)
/-- Pieces as one piece. -/
def Pk (σ:Res):Asrt:=fun h=>∃ hs,Sat σ hs∧hs.Pairwise Disj∧h=joinL hs
/-- A piece of one of several forms. -/
def ExA {α:Type} (A:α→Asrt):Asrt:=fun h=>∃ a,A a h
theorem plus_none {g h:HV} {b:Nat}:plus g h b=none ↔ g b=none∧h b=none:=by
  unfold plus
  cases g b with
  | some o=>simp
  | none=>simp
theorem joinL_none {b:Nat}:∀ {hs:List HV},joinL hs b=none ↔ ∀ h ∈ hs,h b=none
  | []=>by simp [joinL]
  | h :: hs=>by
    show plus h (joinL hs) b=none ↔ _
    rw [plus_none,joinL_none (hs:=hs)]; simp
theorem disj_joinL {k:HV} {hs:List HV} (h:∀ x ∈ hs,Disj x k):Disj (joinL hs) k:=fun b=>by
  by_cases q:k b=none
  · exact .inr q
  · exact .inl (joinL_none.2 fun x hx=>(h x hx b).resolve_right q)
theorem sub_joinL:∀ {hs:List HV},hs.Pairwise Disj→∀ h ∈ hs,Sub h (joinL hs)
  | [],_,_,hm=>by cases hm
  | x :: hs,hp,h,hm=>by
    have hp:=List.pairwise_cons.1 hp
    rcases List.mem_cons.1 hm with e | e
    · rw [e]; exact sub_plus_left _ _
    · have hd:Disj x (joinL hs):=(disj_joinL fun y hy=>(hp.1 y hy).symm).symm
      exact (sub_joinL hp.2 h e).trans (sub_plus_right hd)
theorem joinL_sub {k:HV}:∀ {hs:List HV},(∀ h ∈ hs,Sub h k)→Sub (joinL hs) k
  | [],_=>fun b o h=>by cases h
  | x :: hs,h=>sub_plus (h x (List.mem_cons_self ..)) (joinL_sub fun y hy=>h y (List.mem_cons_of_mem _ hy))
theorem Mem.unpack {C:Cx} {V:HV} {σ τ:Res} {w:World} (m:Mem C V (Pk σ :: τ) w):Mem C V (σ++τ) w:=by
  obtain ⟨hs,h1,h2,h3⟩:=m.own
  match hs,h1,h2,h3 with
  | x :: ht,h1,h2,h3 =>
    obtain ⟨ks,k1,k2,rfl⟩:=h1.1
    have h2:=List.pairwise_cons.1 h2
    have hx:=h3 _ (List.mem_cons_self ..)
    refine ⟨m.os,m.tape,m.output,m.size,m.frame,m.sub,m.view,m.vold,ks++ht,k1.append h1.2,?_,?_⟩
    · rw [List.pairwise_append]
      exact ⟨k2,h2.2,fun a ha b hb c=>(h2.1 b hb c).imp (fun q=>joinL_none.1 q a ha) id⟩
    · intro h hh
      rcases List.mem_append.1 hh with q | q
      · have s:=sub_joinL k2 h q
        refine ⟨s.trans hx.1,fun b=>(hx.2.1 b).imp (fun z=>joinL_none.1 z h q) id,fun b hb hne=>hx.2.2 b hb fun z=>hne (joinL_none.1 z h q)⟩
      · exact h3 h (List.mem_cons_of_mem _ q)
theorem Mem.pack {C:Cx} {V:HV} {σ τ:Res} {w:World} (m:Mem C V (σ++τ) w):Mem C V (Pk σ :: τ) w:=by
  obtain ⟨hs,h1,h2,h3⟩:=m.own
  obtain ⟨ks,ht,rfl,k1,k2⟩:=h1.split
  have h2:=List.pairwise_append.1 h2
  refine ⟨m.os,m.tape,m.output,m.size,m.frame,m.sub,m.view,m.vold,joinL ks :: ht,⟨⟨ks,k1,h2.1,rfl⟩,k2⟩,List.pairwise_cons.2 ⟨fun y hy=>disj_joinL fun x hx=>h2.2.2 x hx y hy,h2.2.1⟩,?_⟩
  intro h hh
  rcases List.mem_cons.1 hh with q | q
  · rw [q]
    refine ⟨joinL_sub fun x hx=>(h3 x (List.mem_append_left _ hx)).1,disj_joinL fun x hx=>(h3 x (List.mem_append_left _ hx)).2.1,fun b hb hne=>?_⟩
    apply Classical.byContradiction
    intro z
    exact hne (joinL_none.2 fun x hx=>Classical.byContradiction fun y=>z ((h3 x (List.mem_append_left _ hx)).2.2 b hb y))
  · exact h3 h (List.mem_append_right _ q)
theorem Mem.ex {α:Type} {A:α→Asrt} {C:Cx} {V:HV} {τ:Res} {w:World} (m:Mem C V (ExA A :: τ) w):∃ a,Mem C V (A a :: τ) w:=by
  obtain ⟨hs,h1,h2,h3⟩:=m.own
  match hs,h1,h2,h3 with
  | x :: ht,h1,h2,h3 =>
    obtain ⟨a,ha⟩:=h1.1
    exact ⟨a,m.os,m.tape,m.output,m.size,m.frame,m.sub,m.view,m.vold,x :: ht,⟨ha,h1.2⟩,h2,h3⟩
section
variable {P:Program} {C:Cx} {N:Nat} {K:K3} {Q:Ex→K3} {env:Env} {V:HV} {τ τ':Res} {c:Code} {α:Type}
end
theorem dom_one (hs:List HV):dom [joinL hs]=dom hs:=by
  funext b
  apply propext
  constructor
  · rintro ⟨h,hm,hne⟩
    rw [List.mem_singleton.1 hm] at hne
    exact Classical.byContradiction fun z=>hne (joinL_none.2 fun x hx=>Classical.byContradiction fun y=>z ⟨x,hx,y⟩)
  · rintro ⟨h,hm,hne⟩
    exact ⟨_,List.mem_singleton.2 rfl,fun z=>hne (joinL_none.1 z h hm)⟩
section
variable {P:Program} {f:FuncId} {args:List Value} {V:HV}
theorem pk_nil_dom (ks:List HV):dom (ks++[joinL []])=dom ks:=by
  funext b
  apply propext
  constructor
  · rintro ⟨h,hm,hne⟩
    rcases List.mem_append.1 hm with q | q
    · exact ⟨h,q,hne⟩
    · rw [List.mem_singleton.1 q] at hne; exact absurd rfl hne
  · rintro ⟨h,hm,hne⟩
    exact ⟨h,List.mem_append_left _ hm,hne⟩
/-- A state of nothing. -/
theorem FnC.pk_in {Φ:Value→HV→Res→Prop} (h:FnC P f args V [] Φ):FnC P f args V [Pk []] (fun v V' σ'=>σ' = [Pk []]∧∃ σ1,Φ v V' σ1):=by
  refine ⟨h.ok,fun w0 hs0 h1 h2 h3 h4=>?_⟩
  match hs0,h1,h2,h4 with
  | [x],h1,h2,h4 =>
    obtain ⟨ks,k1,k2,rfl⟩:=h1.1
    match ks,k1 with
    | [],_ =>
    refine (h.run w0 [] trivial .nil h3 fun y hy=>by cases hy).mono ?_
    rintro e w' ⟨v,V',σ',he,hφ,hm⟩
    refine ⟨v,V',_,he,⟨rfl,σ',hφ⟩,?_⟩
    rw [dom_one]
    exact Mem.pack (σ:=[]) (τ:=[]) (hm.drop (σq:=[]) (.refl _))
theorem FnC.pk_out {σ:Res} {Φ:Value→HV→Res→Prop} (h:FnC P f args V (σ++[Pk []]) (fun v V' σ'=>∃ σ1,σ' = σ1++[Pk []]∧Φ v V' σ1)):FnC P f args V σ Φ:=by
  refine ⟨h.ok,fun w0 hs0 h1 h2 h3 h4=>?_⟩
  refine (h.run w0 (hs0++[joinL []]) (h1.append ⟨⟨[],trivial,.nil,rfl⟩,trivial⟩) (List.pairwise_append.2 ⟨h2,by simp,fun a _ b hb c=>.inr (by rw [List.mem_singleton.1 hb]; rfl)⟩) h3 fun y hy=>?_).mono ?_
  · rcases List.mem_append.1 hy with q | q
    · exact h4 y q
    · rw [List.mem_singleton.1 q]; exact ⟨fun b o z=>(by cases z),fun b=>Or.inl rfl⟩
  · rintro e w' ⟨v,V',σ',he,⟨σ1,rfl,hφ⟩,hm⟩
    rw [pk_nil_dom] at hm
    have hm:=(hm.perm (List.perm_append_comm (l₁:=σ1))).unpack
    exact ⟨v,V',σ1,he,hφ,hm⟩
end
end Go.Vc
namespace Go.Vc
open Go Go.RowKit
section
variable {P:Program} {C:Cx} {N:Nat} {K:K3} {Q:Ex→K3} {env:Env} {V:HV} {σ:Res} {ops:Array Oper} {rest:List Oper} {w:World}
variable {d k b s:Nat} {dst:Option Nat} {x y z:Operand} {t T T' T2 E:TypeId} {pos:String} {af:Array Edge} {g:Option (Nat × Bool)} {v:Value} {c:Code}
theorem Mem.of_gr {n:Nat} {xs:List Value} (hm:Mem C V σ w) (hn:0 < n) (hk:σ[k]? = some (Gr E s v n xs)) :
    ∃ b cap cs,v=.slice (some ⟨b,0,none⟩) n cap∧n≤cap∧cap≤maxLen∧cs.length=cap * s∧cs.take (n * s)=xs∧Mem C V (σ.set k (Arr E b cs)) w:=by
  obtain ⟨hs,s1,s2,s3⟩:=hm.own
  obtain ⟨hh,e,hl,hg⟩:=s1.get hk
  rcases hg with ⟨_,hn',_⟩ | ⟨b,cap,cur,e1,e2,q1,q2,q3,q4⟩
  · omega
  · have hb:w.heap[b]? = some (.cells cur E (0,0)):=(s3 _ (List.mem_of_getElem? e)).1 b _ (by rw [e2]; simp [one])
    refine ⟨b,cap,cur.toList,e1,q1,q2,by simpa using q3,q4,hm.upd hk fun h hA hs hd=>?_⟩
    rcases hA.2 with ⟨f1,_⟩ | ⟨b',cap',cur',f1,f2,_⟩
    · rw [e1] at f1; cases f1
    · rw [e1] at f1
      simp only [Value.slice.injEq,Option.some.injEq,Addr.mk.injEq,and_true,true_and] at f1
      obtain ⟨rfl,rfl⟩:=f1
      have hb2:w.heap[b]? = some (.cells cur' E (0,0)):=hs b _ (by rw [f2]; simp [one])
      rw [hb] at hb2
      have hcc:cur=cur':=by injection hb2 with q; injection q
      subst hcc
      have hA2:Arr E b cur.toList h:=by show h=one b _; rw [f2]
      exact Mem.single rfl rfl rfl (Nat.le_refl _) (fun _ _ _=>rfl) hm.view hd hs hA2 (fun _ _ q=>q)
theorem vc_grshape {n:Nat} {xs:List Value} (hn:0 < n) (hk:σ[k]? = some (Gr E s v n xs)) (h:(∃ b c,v=.slice (some ⟨b,0,none⟩) n c)→VC P C N c K Q env V σ):VC P C N c K Q env V σ:=fun a w hf hm=>by
  obtain ⟨b,cap,cs,h1,_⟩:=hm.of_gr hn hk
  exact h ⟨b,cap,h1⟩ a w hf hm
theorem qv_iash {n:Nat} {i:Int} {kk:IntKind} (hT:P.underlying T=some (.slice E)) (hS:SizeIs P E s) (hx:ev env x=v) (hv:∃ b c,v=.slice (some ⟨b,0,none⟩) n c) (hy:ev env y=.int kk i) (h0:0≤i) (h1:i < n):QV P C ⟨dst,.indexAddr T x y,t,pos,af,g⟩ env V σ (eptr v i s):=qv_run fun w hm=>by
  obtain ⟨b,c,rfl⟩:=hv
  simp only [execOp,hx,hy,Instr.indexAt,asIntOf,underlying,eptr]
  simp [hT,run_sizeOf hS,h0,h1]
theorem vc_to_gr {b n cap:Nat} {cs:List Value} (s:Nat) (xs:List Value) (hk:σ[k]? = some (Arr E b cs)) (hx:xs.length=n * s) (hn:n≤cap) (hm':cap≤maxLen) (hc:cs.length=cap * s)
    (ht:cs.take (n * s)=xs) (h:VC P C N c K Q env V (σ.set k (Gr E s (.slice (some ⟨b,0,none⟩) n cap) n xs))):VC P C N c K Q env V σ:=fun a w hf hm =>
  h a w hf (hm.to_gr (cs:=cs.toArray) hk hx hn hm' (by simpa using hc) (by simpa using ht))
end
end Go.Vc
namespace Go.Proofs.Ytkmhjcjpohpiaaa
open Go Go.Vc
open Classical
/-- A binary diagram as one with the leaves 0 and 1. -/
def pM (v:Int) (N:List Fk) (r:Int):Mg:=⟨v,[0,1],N,r⟩
section
variable {v r:Int} {N:List Fk}
theorem pm_ge {i:Int} (h:¬ (mG (pM v N r)).lf i):2≤i:=by
  have h:¬ i < ((2:Nat):Int):=h
  omega
theorem pm_lt {i:Int} (h:(mG (pM v N r)).ok i):0≤i∧i < 2+N.length:=by
  have h1:i < ((2:Nat):Int)+N.length:=h.2
  exact ⟨h.1,by omega⟩
theorem pm_ok {i:Int} (h:Bd.Rf N i):(mG (pM v N r)).ok i:=⟨h.1,by have:=h.2; show i < ((2:Nat):Int)+N.length; omega⟩
theorem pm_nd (i:Int):(mG (pM v N r)).nd i=Bd.nd N i:=rfl
theorem pm_lev (i:Int):lev v (mG (pM v N r)) i=Bd.lev v N i:=by
  by_cases h:i < 2
  · rw [Bd.lev_const h,lev_lf (show (mG (pM v N r)).lf i from h)]
  · rw [Bd.lev_node h,lev_nd (show ¬ (mG (pM v N r)).lf i from h)]; rfl
theorem pm_red (f:Bd.Fm v N):GRed v (mG (pM v N r)) where
  vr:=fun i h hl=>f.vr i (pm_ge hl) (pm_lt h).2
  ne:=fun i h hl=>f.ne i (pm_ge hl) (pm_lt h).2
  lo:=fun i h hl=>by
    have h2:=pm_ge hl
    have a:=f.lo i h2 (pm_lt h).2
    have hq:=(pm_lt h).2
    have b:Bd.Rf N (Bd.nd N i).l:=⟨a.1,by omega⟩
    refine ⟨pm_ok b,?_,?_⟩
    · show ((Bd.nd N i).l+1 - ((2:Nat):Int)).toNat < (i+1 - ((2:Nat):Int)).toNat; omega
    · rw [pm_lev]; exact a.2.2
  hi:=fun i h hl=>by
    have h2:=pm_ge hl
    have a:=f.hi i h2 (pm_lt h).2
    have hq:=(pm_lt h).2
    have b:Bd.Rf N (Bd.nd N i).h:=⟨a.1,by omega⟩
    refine ⟨pm_ok b,?_,?_⟩
    · show ((Bd.nd N i).h+1 - ((2:Nat):Int)).toNat < (i+1 - ((2:Nat):Int)).toNat; omega
    · rw [pm_lev]; exact a.2.2
  uq:=fun i s h hl h' hl' e=>f.uq i s (pm_ge hl) (pm_lt h).2 (pm_ge hl') (pm_lt h').2 e
theorem pm_bd (f:Bd.Fm v N):∀ j:Int,0≤j→j < (pM v N r).N.length→(0≤(fk (pM v N r).N j).l∧(fk (pM v N r).N j).l < (pM v N r).L.length+j)∧(0≤(fk (pM v N r).N j).h∧(fk (pM v N r).N j).h < (pM v N r).L.length+j):=fun j h0 h1=>by
  have h1:j < N.length:=h1
  have a:=f.lo (j+2) (by omega) (by omega)
  have b:=f.hi (j+2) (by omega) (by omega)
  have e:Bd.nd N (j+2)=fk N j:=by unfold Bd.nd; rw [show j+2 - 2=j by omega]
  rw [e] at a b
  show (0≤(fk N j).l∧(fk N j).l < ((2:Nat):Int)+j)∧(0≤(fk N j).h∧(fk N j).h < ((2:Nat):Int)+j)
  omega
theorem pm_bd2 (f:Bd.Fm v N) {j:Int} (h0:0≤j) (h1:j < N.length):(0≤(fk N j).l∧(fk N j).l < 2+j)∧(0≤(fk N j).h∧(fk N j).h < 2+j):=pm_bd (r:=0) f j h0 h1
theorem pm_vr (f:Bd.Fm v N) {j:Int} (h0:0≤j) (h1:j < N.length):0≤(fk N j).v∧(fk N j).v < v:=by
  have a:=f.vr (j+2) (by omega) (by omega)
  have e:Bd.nd N (j+2)=fk N j:=by unfold Bd.nd; rw [show j+2 - 2=j by omega]
  rw [e] at a; exact a
theorem pm_vl (f:Bd.Fm v N) (e:Int→Bool):∀ (k:Nat) (i:Int),Bd.Rf N i→i≤k→gev (mG (pM v N r)) e i=if Bd.vl N e i=true then 1 else 0:=by
  intro k
  induction k with
  | zero =>
    intro i h hk
    have:i=0:=by have:=h.1; omega
    subst this
    rw [gev_lf (show (mG (pM v N r)).lf 0 by show (0:Int) < ((2:Nat):Int); omega),Bd.vl_const (by omega)]
    rfl
  | succ k ih =>
    intro i h hk
    by_cases h2:i < 2
    · rw [gev_lf (show (mG (pM v N r)).lf i from h2),Bd.vl_const h2]
      have:=h.1
      rcases (show i=0 ∨ i=1 by omega) with e | e <;> subst e <;> rfl
    · have a:=f.lo i (by omega) h.2
      have b:=f.hi i (by omega) h.2
      have h3:=h.2
      rw [gev_step (pm_red f) (pm_ok h) (show ¬ (mG (pM v N r)).lf i from h2),Bd.vl_step f (by omega) h.2,pm_nd]
      split
      · rw [ih _ ⟨b.1,by omega⟩ (by omega)]
      · rw [ih _ ⟨a.1,by omega⟩ (by omega)]
/-- The lifted diagram. -/
noncomputable def lfD (v:Int) (N:List Fk) (r:Int):Mg:=dg v (tabv v fun e=>if Bd.vl N e r=true then (1:Int) else 0)
theorem lf_0:RInv (pM v N r) (-1) false (lfR (lfR [] 0).1 1).1 [] [(lfR [] 0).2,(lfR (lfR [] 0).1 1).2]:=by
  have a:=rinv_leaf (A:=pM v N r) (i:=-1) (b:=false) rinv0 (k:=0) rfl (by show (0:Int) < ((2:Nat):Int); omega) (by show inR 0; unfold inR; omega)
  have c:=rinv_leaf a (k:=1) rfl (by show (1:Int) < ((2:Nat):Int); omega) (by show inR 1; unfold inR; omega)
  exact c
theorem lf_nd {M:List Fk} {R:List Int} {j:Int} (f:Bd.Fm v N) (h0:0≤j) (h1:j < N.length):rsN (pM v N r) (-1) false M R j=ndR M (fk N j).v (gi R (fk N j).l) (gi R (fk N j).h) :=
  rsN_n (A:=pM v N r) (by have:=(pm_vr f h0 h1).1; show (fk N j).v ≠ -1; omega)
theorem lf_step {L R:List Int} {M:List Fk} {j:Int} (f:Bd.Fm v N) (c:RInv (pM v N r) (-1) false L M R) (hk:(R.length:Int)=2+j) (h0:0≤j) (h1:j < N.length) :
    RInv (pM v N r) (-1) false L (ndR M (fk N j).v (gi R (fk N j).l) (gi R (fk N j).h)).1 (R++[(ndR M (fk N j).v (gi R (fk N j).l) (gi R (fk N j).h)).2]):=by
  have:=rinv_node (pm_red f) (pm_bd f) c (by show (R.length:Int)=((2:Nat):Int)+j; omega) h0 h1
  rw [lf_nd f h0 h1] at this; exact this
theorem lf_fin {L R:List Int} {M:List Fk} (h:Bd.Ok v N r) (c:RInv (pM v N r) (-1) false L M R) (hR:(R.length:Int)=2+N.length) :
    (bV L M).ok (gi R r)∧bD v L M (gi R r)=lfD v N r∧finE L (bD v L M (gi R r))=0:=by
  have hf:=h.2.2.1.1
  have hrf:Bd.Rf N r:=⟨h.2.2.1.2.1,by have:=h.2.2.1.2.2; omega⟩
  have hr:(mG (pM v N r)).ok r:=pm_ok hrf
  obtain ⟨a1,a2,a3,_⟩:=c.fin h.1.1 (by show 2≤4096; omega) h.2.1 (by show (R.length:Int)=((2:Nat):Int)+N.length; omega) hr
  refine ⟨a1,?_,a3⟩
  have e:(tabv v fun e=>vl (pM v N r) (up e (-1) false))=tabv v fun e=>if Bd.vl N e r=true then (1:Int) else 0:=by
    congr 1
    funext e
    have d:Dep v (fun e=>gev (mG (pM v N r)) e r):=gev_dep (pm_red hf) h.1.1 hr
    have e1:gev (mG (pM v N r)) (up e (-1) false) r=gev (mG (pM v N r)) e r:=d _ _ fun i h0 _=>if_neg (by omega)
    show gev (mG (pM v N r)) (up e (-1) false) r=_
    rw [e1]; exact pm_vl hf e r.toNat r hrf (by have:=hrf.1; omega)
  exact a2.trans (congrArg (dg v) e)
theorem lf_dep (h:Bd.Ok v N r):Dep v (fun e=>if Bd.vl N e r=true then (1:Int) else 0):=by
  have hrf:Bd.Rf N r:=⟨h.2.2.1.2.1,by have:=h.2.2.1.2.2; omega⟩
  have d:Dep v (fun e=>gev (mG (pM v N r)) e r):=gev_dep (pm_red h.2.2.1.1) h.1.1 (pm_ok hrf)
  have e:(fun e=>gev (mG (pM v N r)) e r)=fun e=>if Bd.vl N e r=true then (1:Int) else 0:=funext fun e=>pm_vl h.2.2.1.1 e r.toNat r hrf (by have:=hrf.1; omega)
  rwa [e] at d
theorem in01 (b:Bool):inR (if b=true then (1:Int) else 0):=by split <;> (unfold inR; omega)
theorem lf_ok (h:Bd.Ok v N r) (h12:v≤12):Ok (lfD v N r)∧(lfD v N r).v=v∧∀ e,vl (lfD v N r) e=if Bd.vl N e r=true then 1 else 0:=by
  have hd:=lf_dep h
  have hin:∀ z ∈ tabv v (fun e=>if Bd.vl N e r=true then (1:Int) else 0),inR z:=fun z hz=>by
    obtain ⟨e,rfl⟩:=(tabv_mem h.1.1 hd).1 hz
    exact in01 _
  obtain ⟨m0,m1⟩:=mk_small (vars:=v) h12 (tabv_len _) hin
  have ok:=mk_ok h.1.1 h.1.2 (tabv_len _) m0
  rw [m1] at ok
  exact ⟨ok,rfl,fun e=>vl_dg h.1.1 hd (fun e=>in01 _) e⟩
end
end Go.Proofs.Ytkmhjcjpohpiaaa
namespace Go.Proofs.Ytkmhjcjpohpiaaa
open Go Go.Vc
open Classical
/-- The numbers that finishBool gives to the references. -/
noncomputable def nmB (p0 p1:Int) (nds:List Int):Nat→Int→Option Int
  | 0=>setF (setF (fun _=>none) p0 0) p1 1
  | j+1=>setF (nmB p0 p1 nds j) (2 * gi nds j+1) (2+j)
theorem nmB_even {p0 p1:Int} {nds:List Int} {q:Int} (h:q % 2=0):∀ j,nmB p0 p1 nds j q=nmB p0 p1 nds 0 q
  | 0=>rfl
  | j+1=>by
    show setF (nmB p0 p1 nds j) (2 * gi nds j+1) _ q=_
    rw [setF_other (by omega),nmB_even h j]
theorem nmB_odd {p0 p1:Int} {nds:List Int} (hn:nds.Nodup):∀ {j:Nat} {i:Nat},i < j→j≤nds.length→nmB p0 p1 nds j (2 * gi nds i+1)=some (2+(i:Int))
  | j+1,i,h,hl=>by
    show setF (nmB p0 p1 nds j) (2 * gi nds j+1) _ (2 * gi nds i+1)=_
    by_cases e:i=j
    · subst e; rw [setF_same]
    · rw [setF_other,nmB_odd hn (by omega) (by omega)]
      intro q
      have q:nds.getD i 0=nds.getD j 0:=by unfold gi at q; simp only [Int.toNat_natCast] at q; omega
      rw [List.getD_eq_getElem?_getD,List.getD_eq_getElem?_getD,List.getElem?_eq_getElem (by omega),List.getElem?_eq_getElem (by omega)] at q
      exact e ((List.getElem_inj hn).1 q)
/-- What finishBool makes of the builder. -/
structure FinB (vars:Int) (N:List Fk) (root p0 p1:Int) (nds:List Int) (B:Bd.Dg):Prop where
  v:B.v=vars
  ndb:∀ j:Int,0≤j→j < nds.length→0≤gi nds j∧gi nds j < N.length
  len:B.N.length=nds.length
  nd:∀ j:Int,0≤j→j < nds.length→fk B.N j=⟨(fk N (gi nds j)).v,(nmB p0 p1 nds j.toNat (fk N (gi nds j)).l).getD 0,(nmB p0 p1 nds j.toNat (fk N (gi nds j)).h).getD 0⟩
  rt:(nmB p0 p1 nds nds.length root).getD 0=B.r
/-- The binary diagram of a table of zeros and ones. -/
def bB (vars:Int) (t:List Int):Bd.Dg:=⟨vars,(prt 2 vars.toNat [] 0 t).1,(prt 2 vars.toNat [] 0 t).2⟩
theorem prt_b01:∀ (m:Nat) (O:List Fk) (v:Int) (t:List Bool),prt 2 m O v (t.map fun b=>if b=true then (1:Int) else 0)=Bd.prt m O v t
  | 0,O,v,t=>by
    cases t with
    | nil=>rfl
    | cons a l=>cases a <;> rfl
  | m+1,O,v,t=>by
    rw [prt,Bd.prt]
    simp only [← List.map_take,← List.map_drop,prt_b01 m]
    rfl
theorem bB_bld {vars:Int} (t:List Bool):bB vars (t.map fun b=>if b=true then (1:Int) else 0)=Bd.bldD vars t:=by
  unfold bB; rw [prt_b01]; rfl
theorem finB_ok {vars:Int} {L:List Int} {N:List Fk} {root p0 p1:Int} (hv:0≤vars) (b:BOk vars L N) (hr:(bV L N).ok root) (h01:∀ e,gev (bV L N) e root=0 ∨ gev (bV L N) e root=1)
    (hp0:∀ i ∈ (oE N root).lv,gi L i=0→2 * i=p0) (hp1:∀ i ∈ (oE N root).lv,gi L i=1→2 * i=p1) (hne:p0 ≠ p1) :
    FinB vars N root p0 p1 (oE N root).nd (bB vars (tabv vars fun e=>gev (bV L N) e root)):=by
  have hO:=oE_ok b hr
  have hE:oE N root=ordF N (root.toNat+2) root os0:=rfl
  have hlv:=oE_lv b hr
  have hbd:∀ i ∈ (oE N root).lv,0≤i∧i < L.length:=fun i h=>lv_bd b hr h
  have hseen:∀ q,seen (oE N root) q→(bV L N).ok q:=fun q h=>(oE_clo b hr h).1
  have hlvq:∀ q,seen (oE N root) q→q % 2=0→q / 2 ∈ (oE N root).lv:=fun q h h2=>(hlv _).2 (by rw [show 2 * (q / 2)=q by omega]; exact h)
  have hval:∀ i ∈ (oE N root).lv,gi L i=0 ∨ gi L i=1:=fun i hi=>by
    obtain ⟨e,he⟩:=lv_val b hr hi
    rw [← he]; exact h01 e
  have f:GOk vars 2 (sG L N id (oE N root)):={
    toGRed:=sG_red b hr
    kr:=fun r h hl=>by
      have:=hval _ (hlvq r h hl)
      show 0≤gi L (r / 2)∧gi L (r / 2) < 2
      omega
    kq:=fun r s h hl h' hl' e=>by
      have hl:r % 2=0:=hl
      have hl':s % 2=0:=hl'
      have e2:gi L (r / 2)=gi L (s / 2):=e
      have:=b.nod _ _ (hbd _ (hlvq r h hl)).1 (hbd _ (hlvq r h hl)).2 (hbd _ (hlvq s h' hl')).1 (hbd _ (hlvq s h' hl')).2 e2
      omega }
  have K0:(0:Int)≤2:=by omega
  have hI0:=lyI0 f
  have hmu:(sG L N id (oE N root)).mu root < root.toNat+2:=mu_lt hr
  have hV:=vis_ok f K0 (root.toNat+2) root _ hO.at_ hmu hI0
  have hR:=rel_ok f b.red hseen K0 (root.toNat+2) root os0 ([],pl0 _) ((bV L N).mu root) hO.at_ hmu (Nat.le_refl _) hI0 (rel0 _)
  rw [← hE] at hR
  have hg:∀ e,gev (sG L N id (oE N root)) e root=gev (bV L N) e root:=fun e =>
    (gv_ext (G:=sG L N id (oE N root)) (G':=bV L N) (sG_red b hr) b.red (fun r h=>⟨hseen r h,Iff.rfl,rfl⟩) id (fun _ _ _=>rfl) e _ root hO.at_ (Nat.le_refl _)).symm
  have hC:=canon f K0 vars.toNat 0 root ([],pl0 (sG L N id (oE N root))) e0 (root.toNat+2) hI0 hO.at_ (by omega) (f.lev_nn hv hO.at_) hmu
  have hD:bB vars (tabv vars fun e=>gev (bV L N) e root)=⟨vars,(vis 2 (sG L N id (oE N root)) (root.toNat+2) root ([],pl0 (sG L N id (oE N root)))).1.1,(vis 2 (sG L N id (oE N root)) (root.toNat+2) root ([],pl0 (sG L N id (oE N root)))).2⟩:=by
    unfold bB
    have:(tabv vars fun e=>gev (bV L N) e root)=tab (fun e=>gev (sG L N id (oE N root)) e root) vars.toNat 0 e0:=by
      congr 1
      funext e
      exact (hg e).symm
    rw [this,hC]
  rw [hD]
  generalize vis 2 (sG L N id (oE N root)) (root.toNat+2) root ([],pl0 (sG L N id (oE N root)))=T at hV hR hC
  have hNn:(oE N root).nd.Nodup:=by
    refine List.pairwise_iff_getElem.2 fun i j hi hj hij e=>?_
    have a:=hR.pl i hi
    have c:=hR.pl j hj
    rw [List.getD_eq_getElem?_getD,List.getElem?_eq_getElem hi] at a
    rw [List.getD_eq_getElem?_getD,List.getElem?_eq_getElem hj] at c
    simp only [Option.getD_some] at a c
    rw [e,c] at a
    simp at a
    omega
  have hplace:∀ j:Int,0≤j→j < (oE N root).nd.length→T.1.2 (2 * gi (oE N root).nd j+1)=some (2+j):=fun j h0 h1=>by
    have:=hR.pl j.toNat (by omega)
    rw [show ((j.toNat:Nat):Int)=j by omega] at this
    exact this
  have hnum:∀ (j:Nat) (q a:Int),j≤(oE N root).nd.length→seen (oE N root) q→T.1.2 q=some a→a < 2+j→(nmB p0 p1 (oE N root).nd j q).getD 0=a:=fun j q a hj hq ha hlt=>by
    by_cases h2:q % 2=0
    · rw [nmB_even h2]
      have h1:=hV.inv.lf q hq h2
      rw [ha] at h1
      have ea:a=gi L (q / 2):=Option.some.inj h1
      rcases hval _ (hlvq q hq h2) with z | z
      · have hq0:q=p0:=by have:=hp0 _ (hlvq q hq h2) z; omega
        rw [ea,z,hq0]
        show (setF (setF (fun _=>none) p0 0) p1 1 p0).getD 0=0
        rw [setF_other hne,setF_same]; rfl
      · have hq1:q=p1:=by have:=hp1 _ (hlvq q hq h2) z; omega
        rw [ea,z,hq1]
        show (setF (setF (fun _=>none) p0 0) p1 1 p1).getD 0=1
        rw [setF_same]; rfl
    · have hge:=(hV.inv.rf q a ha).2.2.1 h2
      have hlt2:a < 2+((oE N root).nd.length:Int):=by omega
      obtain ⟨i,rfl⟩:∃ i:Nat,a=2+(i:Int):=⟨(a - 2).toNat,by omega⟩
      have e:=hV.inv.inj _ _ _ ha (hplace i (by omega) (by omega))
      rw [e,nmB_odd hNn (by omega) hj]
      rfl
  have hndseen:∀ j:Int,0≤j→j < (oE N root).nd.length→seen (oE N root) (2 * gi (oE N root).nd j+1):=fun j h0 h1=>(hV.inv.rf _ _ (hplace j h0 h1)).1
  refine ⟨rfl,fun j h0 h1=>?_,hR.len,fun j h0 h1=>?_,?_⟩
  · have:=hseen _ (hndseen j h0 h1)
    have a:=this.1
    have c:=this.2.2 (by omega)
    omega
  · have hs:=hndseen j h0 h1
    have hodd:¬ (sG L N id (oE N root)).lf (2 * gi (oE N root).nd j+1):=by show ¬ (2 * gi (oE N root).nd j+1) % 2=0; omega
    obtain ⟨a,c,n1,n2,n3,n4,n5⟩:=hV.inv.nd _ _ hodd (hplace j h0 h1)
    have e1:(sG L N id (oE N root)).nd (2 * gi (oE N root).nd j+1)=fk N (gi (oE N root).nd j):=by
      show fk N ((2 * gi (oE N root).nd j+1) / 2)=_
      rw [show (2 * gi (oE N root).nd j+1) / 2=gi (oE N root).nd j by omega]
    rw [e1] at n1 n2 n5
    have c1:=(oE_clo b hr hs).2 hodd
    rw [show (2 * gi (oE N root).nd j+1) / 2=gi (oE N root).nd j by omega] at c1
    rw [hnum j.toNat _ a (by omega) c1.1 n1 (by omega),hnum j.toNat _ c (by omega) c1.2 n2 (by omega),← n5]
    show fk T.1.1 j=ond 2 T.1.1 (2+j)
    unfold ond fk
    rw [show (2+j - 2:Int).toNat=j.toNat by omega]
  · have hp:=(hV.inv.rf _ _ hV.at_).2.1.2
    rw [hR.len] at hp
    exact hnum _ root T.2 (Nat.le_refl _) hO.at_ hV.at_ hp
end Go.Proofs.Ytkmhjcjpohpiaaa
namespace Go.Proofs.Ytkmhjcjpohpiaaa
open Go Go.Vc
open Classical
theorem lf_half {vars z:Int} {L:List Int} {N:List Fk} (b:BOk vars L N):(lfR L z).2 % 2=0∧0≤(lfR L z).2 / 2∧(lfR L z).2 / 2 < (lfR L z).1.length∧gi (lfR L z).1 ((lfR L z).2 / 2)=z:=by
  have o:=leaf_ok (z:=z) b
  have e:(lfR L z).2 % 2=0:=o.lf
  have r:=o.rf
  have r1:=r.1
  have r2:=r.2.1 e
  exact ⟨e,by omega,r2,o.vl⟩
theorem lf_pos {vars z i:Int} {L:List Int} {N:List Fk} (b:BOk vars L N) (h0:0≤i) (h1:i < L.length) (e:gi L i=z):2 * i=(lfR L z).2:=by
  have o:=leaf_ok (z:=z) b
  obtain ⟨a1,a2,a3,a4⟩:=lf_half (z:=z) b
  obtain ⟨X,hX⟩:=o.ext
  have e1:gi (lfR L z).1 i=z:=by rw [hX,gi_app h0 h1,e]
  have hl:=lfR_len (L:=L) (z:=z)
  have:=o.ok.nod i _ h0 (by omega) a2 a3 (e1.trans a4.symm)
  omega
theorem setF_comm {κ α:Type} {f:κ→Option α} {a b:κ} {x y:α} (h:a ≠ b):setF (setF f a x) b y=setF (setF f b y) a x:=by
  funext q
  by_cases ha:q=a
  · subst ha; rw [setF_other h,setF_same,setF_same]
  · by_cases hb:q=b
    · subst hb; rw [setF_same,setF_other (fun e=>h e.symm),setF_same]
    · rw [setF_other hb,setF_other ha,setF_other ha,setF_other hb]
theorem lf_ne {vars:Int} {L:List Int} {N:List Fk} (b:BOk vars L N):(lfR L 0).2 ≠ (lfR (lfR L 0).1 1).2:=fun q=>by
  have o:=leaf_ok (z:=0) b
  obtain ⟨a1,a2,a3,a4⟩:=lf_half (z:=0) b
  obtain ⟨c1,c2,c3,c4⟩:=lf_half (z:=1) o.ok
  obtain ⟨Y,hY⟩:=(leaf_ok (z:=1) o.ok).ext
  rw [← q,hY,gi_app a2 a3,a4] at c4
  omega
theorem nmB_step {p0 p1:Int} {nds:List Int} {j:Int} (h:0≤j):nmB p0 p1 nds (j+1).toNat=setF (nmB p0 p1 nds j.toNat) (2 * gi nds j+1) (2+j):=by
  rw [show (j+1).toNat=j.toNat+1 by omega]
  show setF (nmB p0 p1 nds j.toNat) (2 * gi nds (j.toNat:Int)+1) (2+(j.toNat:Int))=_
  rw [show ((j.toNat:Nat):Int)=j by omega]
theorem nmB_step2 {p0 p1:Int} {nds:List Int} {j:Int} (h:0≤j):nmB p0 p1 nds (j.toNat+1)=setF (nmB p0 p1 nds j.toNat) (2 * gi nds j+1) (2+j):=by
  rw [← nmB_step h,show (j+1).toNat=j.toNat+1 by omega]
noncomputable def fbE (B:Bd.Dg):Int:=if 4096 < B.N.length then 4 else 0
noncomputable def fbZ (B:Bd.Dg):Bd.Dg:=if 4096 < B.N.length then ⟨0,[],0⟩ else B
theorem fb_b {B:Bd.Dg} (h:4096 < B.N.length):fbE B=4∧fbZ B=⟨0,[],0⟩:=⟨if_pos h,if_pos h⟩
theorem fb_0 {B:Bd.Dg} (h:¬ 4096 < B.N.length):fbE B=0∧fbZ B=B:=⟨if_neg h,if_neg h⟩
theorem finB2 {vars:Int} {L:List Int} {N:List Fk} {root:Int} (hv:0≤vars) (b:BOk vars L N) (hr:(bV L N).ok root) (h01:∀ e,gev (bV L N) e root=0 ∨ gev (bV L N) e root=1) :
    FinB vars N root (lfR L 0).2 (lfR (lfR L 0).1 1).2 (oE N root).nd (bB vars (tabv vars fun e=>gev (bV L N) e root)):=by
  have o:=leaf_ok (z:=0) b
  obtain ⟨a1,a2,a3,a4⟩:=lf_half (z:=0) b
  obtain ⟨c1,c2,c3,c4⟩:=lf_half (z:=1) o.ok
  obtain ⟨X,hX⟩:=o.ext
  obtain ⟨Y,hY⟩:=(leaf_ok (z:=1) o.ok).ext
  have hl:=lfR_len (L:=L) (z:=0)
  refine finB_ok hv b hr h01 (fun i hi e=>?_) (fun i hi e=>?_) fun q=>?_
  · have hb:=lv_bd b hr hi
    exact lf_pos b hb.1 hb.2 e
  · have hb:=lv_bd b hr hi
    exact lf_pos o.ok hb.1 (by omega) (by rw [hX,gi_app hb.1 hb.2]; exact e)
  · rw [← q,hY,gi_app a2 a3,a4] at c4
    omega
end Go.Proofs.Ytkmhjcjpohpiaaa
namespace Go.Proofs.Ytkmhjcjpohpiaaa
open Go Go.Vc
open Classical
section
variable {v r no yes:Int} {N:List Fk}
noncomputable def ofT (v:Int) (N:List Fk) (r no yes:Int):List Int:=tabv v fun e=>if Bd.vl N e r=true then yes else no
noncomputable def ofE (v:Int) (N:List Fk) (r no yes:Int):Int:=if Bd.Ok v N r then if inR no∧inR yes then 0 else 3 else 1
noncomputable def ofD (v:Int) (N:List Fk) (r no yes:Int):Mg:=if ofE v N r no yes=0 then dg v (ofT v N r no yes) else zM
theorem of_1 (h:¬ Bd.Ok v N r):ofE v N r no yes=1∧ofD v N r no yes=zM:=by
  have e:ofE v N r no yes=1:=if_neg h
  exact ⟨e,if_neg (by rw [e]; omega)⟩
theorem of_3 (h:Bd.Ok v N r) (q:¬ inR no ∨ ¬ inR yes):ofE v N r no yes=3∧ofD v N r no yes=zM:=by
  have e:ofE v N r no yes=3:=by unfold ofE; rw [if_pos h,if_neg (fun z=>q.elim (fun n=>n z.1) fun n=>n z.2)]
  exact ⟨e,if_neg (by rw [e]; omega)⟩
theorem of_0 (h:Bd.Ok v N r) (h1:inR no) (h2:inR yes):ofE v N r no yes=0∧ofD v N r no yes=dg v (ofT v N r no yes):=by
  have e:ofE v N r no yes=0:=by unfold ofE; rw [if_pos h,if_pos ⟨h1,h2⟩]
  exact ⟨e,if_pos e⟩
theorem of_dep (h:Bd.Ok v N r):Dep v fun e=>if Bd.vl N e r=true then yes else no:=fun e e' he=>by
  have d:=lf_dep h e e' he
  have d:(if Bd.vl N e r=true then (1:Int) else 0)=if Bd.vl N e' r=true then (1:Int) else 0:=d
  show (if Bd.vl N e r=true then yes else no)=if Bd.vl N e' r=true then yes else no
  cases h1:Bd.vl N e r <;> cases h2:Bd.vl N e' r <;> simp [h1,h2] at d ⊢
theorem of_in (h:Bd.Ok v N r) (h1:inR no) (h2:inR yes):∀ z ∈ ofT v N r no yes,inR z:=fun z hz=>by
  obtain ⟨e,rfl⟩:=(tabv_mem h.1.1 (of_dep h)).1 hz
  split
  · exact h2
  · exact h1
theorem of_mk (h:Bd.Ok v N r) (h12:v≤12) (h1:inR no) (h2:inR yes):mkE v (ofT v N r no yes)=0∧mkD v (ofT v N r no yes)=dg v (ofT v N r no yes):=mk_small h12 (tabv_len _) (of_in h h1 h2)
/-- What the combination gives is the table. -/
theorem of_cT (h:Bd.Ok v N r) (h12:v≤12):(tabv v fun e=>if vl (lfD v N r) e=1 then yes else no)=ofT v N r no yes:=by
  unfold ofT
  congr 1
  funext e
  rw [(lf_ok h h12).2.2 e]
  cases Bd.vl N e r <;> simp
theorem of_len:(ofT v N r no yes).length=2 ^ v.toNat:=tabv_len _
theorem of_vl (h:Bd.Ok v N r) (h1:inR no) (h2:inR yes) (e:Int→Bool):vl (dg v (ofT v N r no yes)) e=if Bd.vl N e r=true then yes else no :=
  vl_dg h.1.1 (of_dep h) (fun e=>by split; exact h2; exact h1) e
end
end Go.Proofs.Ytkmhjcjpohpiaaa
namespace Go.Proofs.Ytkmhjcjpohpiaaa
open Go Go.Vc
open Classical
section
variable {A:Mg} {x0:Int}
noncomputable def lvT (A:Mg) (x0:Int):List Int:=tabv A.v fun e=>if vl A e=x0 then (1:Int) else 0
noncomputable def lvE (A:Mg) (x0:Int):Int:=if Ok A then fbE (bB A.v (lvT A x0)) else 1
noncomputable def lvB (A:Mg) (x0:Int):Bd.Dg:=if Ok A then fbZ (bB A.v (lvT A x0)) else ⟨0,[],0⟩
theorem lv_n (h:¬ Ok A):lvE A x0=1∧lvB A x0=⟨0,[],0⟩:=⟨if_neg h,if_neg h⟩
theorem lv_y (h:Ok A):lvE A x0=fbE (bB A.v (lvT A x0))∧lvB A x0=fbZ (bB A.v (lvT A x0)):=⟨if_pos h,if_pos h⟩
/-- What the combination leaves. -/
theorem lv_st {L:List Int} {M:List Fk} {p:Int} (s:Std A.v [A] (fun x _ _=>if x=x0 then (1:Int) else 0) L M (rt [A]) p) (e:Int→Bool):gev (bV L M) e p=if vl A e=x0 then 1 else 0:=s.val e
theorem lv_01 {L:List Int} {M:List Fk} {p:Int} (s:Std A.v [A] (fun x _ _=>if x=x0 then (1:Int) else 0) L M (rt [A]) p) (e:Int→Bool):gev (bV L M) e p=0 ∨ gev (bV L M) e p=1:=by
  rw [lv_st s e]; split
  · exact .inr rfl
  · exact .inl rfl
theorem lv_tab {L:List Int} {M:List Fk} {p:Int} (s:Std A.v [A] (fun x _ _=>if x=x0 then (1:Int) else 0) L M (rt [A]) p):(tabv A.v fun e=>gev (bV L M) e p)=lvT A x0:=by
  unfold lvT; congr 1; funext e; exact lv_st s e
theorem lv_in {L:List Int} (h:∀ z ∈ L,z ∈ ([]:List Int) ∨ ∃ e,gF [A] (fun x _ _=>if x=x0 then (1:Int) else 0) (rt [A]) e=z):∀ z ∈ L,inR z:=fun z hz=>by
  rcases h z hz with q | ⟨e,q⟩
  · cases q
  · rw [← q]
    show inR (if vl A e=x0 then (1:Int) else 0)
    split <;> (unfold inR; omega)
/-- The binary diagram of the level, by a table of truths. -/
theorem lv_bld {t:List Bool} (h:lvT A x0=t.map fun b=>if b=true then (1:Int) else 0):bB A.v (lvT A x0)=Bd.bldD A.v t:=by rw [h,bB_bld]
end
end Go.Proofs.Ytkmhjcjpohpiaaa
namespace Go.Proofs.Ytkmhjcjpohpiaaa
open Go Go.Vc
open Classical
section
variable {A B:Mg} {z:Int}
/-- Where the diagram has the value z. -/
noncomputable abbrev lvG (A:Mg) (z:Int):(Int→Bool)→Bool:=fun e=>decide (vl A e=z)
noncomputable abbrev lvF (A:Mg) (z:Int):Bd.Dg:=Bd.fD A.v (lvG A z)
theorem lvG_dep (h:Ok A):Dep A.v (lvG A z):=fun e e' he=>by
  have:=h.dep e e' he
  show decide (vl A e=z)=decide (vl A e' = z)
  rw [this]
theorem cl_ok (h:Ok A) (h12:A.v≤12):Bd.Ok A.v (lvF A z).N (lvF A z).r:=Bd.fD_ok h.1.1 h12 (lvG A z)
theorem cl_lv (h:Ok A) (h12:A.v≤12):lvE A z=0∧lvB A z=lvF A z:=by
  have y:=lv_y (x0:=z) h
  have e:lvT A z=(tbl A.v (lvG A z)).map fun b=>if b=true then (1:Int) else 0:=by
    rw [tbl_map,← tab_tbl h.1.1]
    show tabv A.v _=tabv A.v _
    congr 1
    funext e
    by_cases q:vl A e=z <;> simp [q]
  have b:bB A.v (lvT A z)=lvF A z:=(lv_bld e).trans (Bd.bld_fD h.1.1 (lvG A z))
  have hb:¬ 4096 < (lvF A z).N.length:=by have:=(cl_ok (z:=z) h h12).2.1; omega
  have w:=fb_0 hb
  rw [b] at y
  exact ⟨y.1.trans w.1,y.2.trans w.2⟩
theorem cl_gA (h:Ok A) (e:Int→Bool):Bd.vl (lvF A z).N e (lvF A z).r=decide (vl A e=z):=congrFun (Bd.gA_fD (g:=lvG A z) h.1.1 (lvG_dep h)) e
theorem trues_cnt {α:Type} (f:α→Int):∀ L:List α,Bd.trues (L.map fun x=>decide (f x=z))=((L.map f).count z:Nat)
  | []=>rfl
  | x :: L=>by
    have:=trues_cnt f L
    show (if decide (f x=z) then 1 else 0)+Bd.trues (L.map fun x=>decide (f x=z))=(((f x :: L.map f).count z:Nat):Int)
    rw [List.count_cons,this]
    by_cases q:f x=z <;> simp [q] <;> omega
theorem cl_cnt (h:Ok A) (h12:A.v≤12):Bd.cnN (lvF A z)=((vT A).count z:Nat):=by
  have hok:=cl_ok (z:=z) h h12
  have f:=hok.2.2.1.1
  have hr:=hok.2.2.1.rf
  have hn:=f.lev_nn hok.1.1 hr
  have t:=Bd.ct_tab f A.v.toNat 0 (lvF A z).r (fun _=>false) hr (by have:=hok.1.1; omega) hn
  rw [Int.sub_zero] at t
  have c:Bd.cnN (lvF A z)=Bd.ct A.v (lvF A z).N (lvF A z).r * 2 ^ (Bd.lev A.v (lvF A z).N (lvF A z).r).toNat:=Bd.cnN_0 (Bd.vE1 hok)
  rw [c,← t]
  have e1:Bd.tab (fun e=>Bd.vl (lvF A z).N e (lvF A z).r) A.v.toNat 0 (fun _=>false)=Bd.tbl A.v (fun e=>Bd.vl (lvF A z).N e (lvF A z).r):=Bd.tab_tbl h.1.1 _
  rw [e1]
  have e2:(fun e=>Bd.vl (lvF A z).N e (lvF A z).r)=fun e=>decide (vl A e=z):=funext fun e=>cl_gA h e
  rw [e2]
  have e3:vT A=(List.range (2 ^ A.v.toNat)).map fun k:Nat=>vl A (asg A.v (k:Int)):=tab_tbl h.1.1 (vl A)
  rw [e3]
  exact trues_cnt (fun k:Nat=>vl A (asg A.v (k:Int))) _
noncomputable def smG (A:Mg) (k:Nat):(Int→Bool)→Int:=fun e=>if vl A e ∈ A.L.take k then vl A e else 0
noncomputable abbrev smT (A:Mg) (k:Nat):List Int:=tabv A.v (smG A k)
noncomputable abbrev smD (A:Mg) (k:Nat):Mg:=dg A.v (smT A k)
theorem smG_dep (h:Ok A) (k:Nat):Dep A.v (smG A k):=fun e e' he=>by
  have:=h.dep e e' he
  show (if vl A e ∈ A.L.take k then vl A e else 0)=if vl A e' ∈ A.L.take k then vl A e' else 0
  rw [this]
theorem smG_in (h:Ok A) (k:Nat) (e:Int→Bool):inR (smG A k e):=by
  show inR (if _ then _ else _)
  split
  · exact vl_in h e
  · unfold inR; omega
theorem smT_in (h:Ok A) (k:Nat):∀ y ∈ smT A k,inR y:=fun y hy=>by
  obtain ⟨e,rfl⟩:=(tabv_mem h.1.1 (smG_dep h k)).1 hy
  exact smG_in h k e
theorem smD_mk (h:Ok A) (h12:A.v≤12) (k:Nat):mkE A.v (smT A k)=0∧mkD A.v (smT A k)=smD A k:=mk_small h12 (tabv_len _) (smT_in h k)
theorem smD_ok (h:Ok A) (h12:A.v≤12) (k:Nat):Ok (smD A k):=by
  obtain ⟨m0,m1⟩:=smD_mk h h12 k
  have:=mk_ok h.1.1 h.1.2 (tabv_len _) m0
  rwa [m1] at this
theorem smD_vl (h:Ok A) (k:Nat) (e:Int→Bool):vl (smD A k) e=smG A k e:=vl_dg h.1.1 (smG_dep h k) (smG_in h k) e
theorem smD_0:smD A 0=⟨A.v,[0],[],0⟩:=by
  rw [← cn_dg]
  show dg A.v (tabv A.v _)=dg A.v (tabv A.v _)
  congr 2
theorem cn_0' (h:Ok A):cnE A.v 0=0∧cnD A.v 0=smD A 0:=by
  have:=cn_0 (vars:=A.v) (v:=0) (fun q=>q.elim (fun q=>by have:=h.1.1; have:=h.1.2; omega) fun q=>q (by unfold inR; omega))
  rw [smD_0]; exact this
theorem vl_memL (h:Ok A) (e:Int→Bool):vl A e ∈ A.L:=by
  have e1:A.L=vls (vT A):=congrArg Mg.L h.dg.symm
  rw [e1]
  exact vls_mem.2 ((tabv_mem h.1.1 h.dep).2 ⟨e,rfl⟩)
theorem smG_all (h:Ok A) {k:Nat} (hk:A.L.length≤k):smG A k=vl A:=funext fun e=>by
  show (if _ then _ else _)=_
  rw [if_pos (by rw [List.take_of_length_le hk]; exact vl_memL h e)]
theorem smD_all (h:Ok A) {k:Nat} (hk:A.L.length≤k):smD A k=A:=by
  show dg A.v (tabv A.v (smG A k))=A
  rw [smG_all h hk]; exact h.dg
theorem L_ss (h:Ok A):A.L.Pairwise (· < ·):=by
  have e1:A.L=vls (vT A):=congrArg Mg.L h.dg.symm
  rw [e1]; exact vls_ss _
theorem take_mem {k:Int} (h0:0≤k) (h1:k < A.L.length) {y:Int}:y ∈ A.L.take (k.toNat+1) ↔ y ∈ A.L.take k.toNat ∨ y=gi A.L k:=by
  rw [tki h0 h1,List.mem_append,List.mem_singleton]
theorem take_not (h:Ok A) {k:Int} (h0:0≤k) (h1:k < A.L.length):gi A.L k ∉ A.L.take k.toNat:=fun q=>by
  obtain ⟨i,hi,e⟩:=List.mem_iff_getElem.1 q
  rw [List.length_take] at hi
  have e2:gi A.L (i:Int)=gi A.L k:=by
    rw [← e,List.getElem_take]
    unfold gi
    rw [List.getD_eq_getElem?_getD,Int.toNat_natCast,List.getElem?_eq_getElem (by omega)]; rfl
  have:=ss_inj (L_ss h) (i:=(i:Int)) (j:=k) (by omega) (by omega) h0 h1 e2
  omega
/-- What is added for the value number k. -/
noncomputable abbrev adD (A:Mg) (k:Int):Mg:=dg A.v (ofT A.v (lvF A (gi A.L k)).N (lvF A (gi A.L k)).r 0 (gi A.L k))
theorem gi_inR (h:Ok A) {k:Int} (h0:0≤k) (h1:k < A.L.length):inR (gi A.L k):=h.inr h0 h1
theorem zr:inR 0:=by unfold inR; omega
theorem ad_of (h:Ok A) (h12:A.v≤12) {k:Int} (h0:0≤k) (h1:k < A.L.length) :
    ofE A.v (lvF A (gi A.L k)).N (lvF A (gi A.L k)).r 0 (gi A.L k)=0∧ofD A.v (lvF A (gi A.L k)).N (lvF A (gi A.L k)).r 0 (gi A.L k)=adD A k:=of_0 (cl_ok h h12) zr (gi_inR h h0 h1)
theorem ad_ok (h:Ok A) (h12:A.v≤12) {k:Int} (h0:0≤k) (h1:k < A.L.length):Ok (adD A k):=by
  obtain ⟨m0,m1⟩:=of_mk (cl_ok (z:=gi A.L k) h h12) h12 zr (gi_inR h h0 h1)
  have:=mk_ok h.1.1 h.1.2 of_len m0
  rwa [m1] at this
theorem ad_vl (h:Ok A) (h12:A.v≤12) {k:Int} (h0:0≤k) (h1:k < A.L.length) (e:Int→Bool):vl (adD A k) e=if vl A e=gi A.L k then gi A.L k else 0:=by
  have:=of_vl (cl_ok (z:=gi A.L k) h h12) zr (gi_inR h h0 h1) e
  rw [cl_gA h e] at this
  rw [this]
  by_cases q:vl A e=gi A.L k <;> simp [q]
theorem ad_step (h:Ok A) (h12:A.v≤12) {k:Int} (h0:0≤k) (h1:k < A.L.length):apE 0 (smD A k.toNat) (adD A k)=0∧apD 0 (smD A k.toNat) (adD A k)=smD A (k.toNat+1):=by
  have s:=smD_ok h h12 k.toNat
  have d:=ad_ok h h12 h0 h1
  have z0:=two_0 s d rfl
  have a:=ap_0 (op:=0) z0 (by omega)
  have e:apT 0 (smD A k.toNat) (adD A k)=smT A (k.toNat+1):=by
    show tabv A.v _=tabv A.v _
    congr 1
    funext e
    show opV 0 (vl (smD A k.toNat) e) (vl (adD A k) e)=_
    rw [op0 rfl,smD_vl h,ad_vl h h12 h0 h1]
    show (if vl A e ∈ A.L.take k.toNat then vl A e else 0)+_=if vl A e ∈ A.L.take (k.toNat+1) then vl A e else 0
    by_cases q:vl A e=gi A.L k
    · rw [if_neg (by rw [q]; exact take_not h h0 h1),if_pos q,if_pos ((take_mem h0 h1).2 (.inr q)),q]; omega
    · rw [if_neg q]
      by_cases p:vl A e ∈ A.L.take k.toNat
      · rw [if_pos p,if_pos ((take_mem h0 h1).2 (.inl p))]; omega
      · rw [if_neg p,if_neg (fun w=>((take_mem h0 h1).1 w).elim p q)]; rfl
  obtain ⟨m0,m1⟩:=smD_mk h h12 (k.toNat+1)
  rw [e] at a
  exact ⟨a.1.trans m0,a.2.trans m1⟩
noncomputable def tcN (A:Mg) (k:Nat):Int:=(((vT A).countP fun y=>decide (y ∈ A.L.take k):Nat):Int)
theorem tc_0:tcN A 0=0:=by unfold tcN; simp
theorem countP_or {p:Int→Bool} {y:Int} (hp:p y=false):∀ T:List Int,(T.countP fun x=>p x || decide (x=y))=T.countP p+T.count y
  | []=>rfl
  | x :: T=>by
    rw [List.countP_cons,List.countP_cons,List.count_cons,countP_or hp T]
    by_cases q:x=y
    · subst q; simp [hp]; omega
    · simp [q]; omega
theorem tc_step (h:Ok A) {k:Int} (h0:0≤k) (h1:k < A.L.length):tcN A (k.toNat+1)=tcN A k.toNat+((vT A).count (gi A.L k):Nat):=by
  unfold tcN
  have e:(fun y=>decide (y ∈ A.L.take (k.toNat+1)))=fun y=>(fun y=>decide (y ∈ A.L.take k.toNat)) y || decide (y=gi A.L k):=funext fun y=>by
    rw [← Bool.decide_or]; exact decide_eq_decide.2 (take_mem h0 h1)
  rw [e,countP_or (decide_eq_false (take_not h h0 h1))]
  omega
theorem tc_all (h:Ok A) {k:Nat} (hk:A.L.length≤k):tcN A k=2 ^ A.v.toNat:=by
  unfold tcN
  have e:(vT A).countP (fun y=>decide (y ∈ A.L.take k))=(vT A).length:=by
    rw [List.countP_eq_length]
    intro y hy
    obtain ⟨e,rfl⟩:=(tabv_mem h.1.1 h.dep).1 hy
    rw [List.take_of_length_le hk]
    exact decide_eq_true (vl_memL h e)
  rw [e]; exact tabv_lenI h.1.1
theorem tc_bd (h:Ok A) (h12:A.v≤12) (k:Nat):0≤tcN A k∧tcN A k≤4096:=by
  unfold tcN
  have a:=List.countP_le_length (p:=fun y=>decide (y ∈ A.L.take k)) (l:=vT A)
  have b:((vT A).length:Int)=2 ^ A.v.toNat:=tabv_lenI h.1.1
  have c:=pow2_12 (n:=A.v.toNat) (by omega)
  omega
theorem ct_bd' (h:Ok A) (h12:A.v≤12) (y:Int):(0:Int)≤((vT A).count y:Nat)∧(((vT A).count y:Nat):Int)≤4096:=by
  have a:=List.count_le_length (a:=y) (l:=vT A)
  have b:((vT A).length:Int)=2 ^ A.v.toNat:=tabv_lenI h.1.1
  have c:=pow2_12 (n:=A.v.toNat) (by omega)
  omega
theorem hg_at {k:Int} (h0:0≤k) (h1:k < A.L.length):p2 (hgL A) k=⟨gi A.L k,((vT A).count (gi A.L k):Nat)⟩:=by
  unfold hgL p2
  rw [List.getD_eq_getElem?_getD,List.getElem?_map,List.getElem?_eq_getElem (by omega)]
  have e2:A.L[k.toNat]'(by omega)=gi A.L k:=by unfold gi; rw [List.getD_eq_getElem?_getD,List.getElem?_eq_getElem (by omega)]; rfl
  show (some _).getD _=_
  rw [e2]; rfl
theorem few_len (h:Ok A) (f:fewP A):A.L.length≤300:=by
  have h1:=h.2.1.1
  have h2:=h.2.1.2
  unfold fewP at f
  rw [IntWalk.i64_in _ (by omega)] at f
  omega
theorem canon_iff (h:Ok A) (g:Ok B) (e:A.v=B.v):A=B ↔ vT A=vT B:=⟨fun q=>by rw [q],fun q=>by
  have:=h.dg
  rw [q,e] at this
  exact this.symm.trans g.dg⟩
end
end Go.Proofs.Ytkmhjcjpohpiaaa
