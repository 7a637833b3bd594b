import Derived.Test.YtkmhjcjpohpiaaaWa
import Derived.WalkKit
import Derived.ProofKit
import Derived.OpenShut
import Derived.ChangeOld
import Derived.Below
import Derived.Deep.Matrix
import Derived.Lib.SmallJoins
import Derived.Test.YtkmhjcjpohpiaaaWb
import Derived.Deep.Slices
/- Several texts in one. No program in sight. -/
/- From the rows' readings of arguments to the facts that the walks ask for; from a contract to a call. No program in sight. -/
namespace Go.Vc
open Go Go.ChangeShapes Go.WideShapes Go.ChangeAt Go.RowKit
theorem law_calls {P:Program} {f:FuncId} {args:List Value} {W:World} {v:Value} (h:FnC P f args (hv W) [] (fun u _ _=>u=v)) :
    Calls P f args.toArray W fun e w'=>e=.returned v∧Below W.heap.size W w' :=
  (h.run W [] trivial List.Pairwise.nil (Sub.refl _) (fun _ hh=>by cases hh)).mono fun _ _ ⟨_,_,_,h1,h2,h3⟩=>⟨by rw [h1,h2],h3.ext_of_none⟩
theorem sl_read {W:World} {a:Addr} {n cap:Nat} {vals:List Value} (hl:vals.length=n) (hn:n≤cap) (hm:cap≤maxLen) (h:∀ i,i < n→W.cell? (a.add i)=vals[i]?) :
    Sl (hv W) (.slice (some a) n cap) vals:=by
  refine ⟨some a,cap,by rw [hl],by omega,by simpa [maxLen] using hm,fun hne=>?_⟩
  have h0:0 < n:=by rw [← hl]; exact List.length_pos_iff.2 hne
  have c0:=h 0 h0
  have e0:a.add 0=a:=by simp [Addr.add]
  rw [e0,List.getElem?_eq_getElem (by omega)] at c0
  have hs:=World.cell?_spot c0
  obtain ⟨b,off,spot⟩:=a
  simp only at hs
  subst hs
  have:∃ cs T fz,hv W b=some (.cells cs T fz):=by
    unfold World.cell? at c0
    unfold hv
    split at c0
    · rename_i cs T fz hb; exact ⟨cs,T,fz,hb⟩
    · cases c0
  obtain ⟨cs,T,fz,hb⟩:=this
  exact ⟨b,off,cs,T,fz,rfl,hb,fun i hi=>by rw [← add_cell (i:=i) (off:=off) hb]; exact h i (by omega)⟩
section
variable {H:Type} {enc:TypeId × Value→H} {P:Program} {W:World} {base:Nat} {held:Bool}
theorem getD_take {k:IntKind} {zs:List Int} {n i:Nat} (hi:i < n) (hn:n≤zs.length):((zs.take n).map (Value.int k))[i]? = some (.int k (zs.getD i 0)):=by
  rw [List.getElem?_map,List.getElem?_take,if_pos hi,List.getElem?_eq_getElem (by omega),List.getD_eq_getElem?_getD,List.getElem?_eq_getElem (by omega)]
  rfl
/-- A slice of integers that came in. -/
theorem read_ints {t q:TypeId} {k:IntKind} {fuel:Nat} {v:Value} {x:DataW H × List MemPlace} (ht:P.underlying t=some (.slice q)) (hq:P.underlying q=some (.int k)) (cq:P.cellsOf q=1)
    {a0:Option Addr} {n0 c0:Nat} (hv0:v=.slice a0 n0 c0) (h:DataW.trod enc P W base (fun _=>true) held fuel t v.cells.toList=some x) :
    ∃ xs:List Int,Ints k (hv W) v xs∧∀ n ∈ xs,(Lit.int k n).wf=true:=by
  subst hv0
  rcases open_ints ht hq cq h with ⟨hcs,_⟩ | ⟨a,l,c,zs,hcs,_,hl,hm,hz,_,hcell,hwz⟩
  · simp [Value.cells] at hcs
    obtain ⟨rfl,rfl,rfl⟩:=hcs
    exact ⟨[],Ints.nil,by simp⟩
  · simp [Value.cells] at hcs
    obtain ⟨rfl,rfl,rfl⟩:=hcs
    simp only [if_true] at hz
    refine ⟨zs.take n0,sl_read (by simp; omega) hl hm fun i hi=>?_,fun n hn=>hwz n (List.mem_of_mem_take hn)⟩
    rw [hcell i (by omega),getD_take (zs:=zs) hi (by omega)]
end
end Go.Vc
/- Reading arguments that are structs of one field, and the bounds of integers that came in. No program in sight. -/
namespace Go.Vc
open Go Go.ChangeShapes Go.WideShapes Go.ChangeAt Go.RowKit Go.Deep
section
variable {H:Type} {enc:TypeId × Value→H} {P:Program} {w:World} {base:Nat} {spare:Nat→Bool} {held:Bool}
end
end Go.Vc
/- Reading arguments: slices of truth values, and slices of structs of three integers. No program in sight. -/
namespace Go.Vc
open Go Go.ChangeShapes Go.WideShapes Go.ChangeAt Go.RowKit Go.Deep
section
variable {H:Type} {enc:TypeId × Value→H} {P:Program} {W:World} {base:Nat} {held:Bool}
theorem sls_read {W:World} {a:Addr} {n cap s:Nat} {xs:List Value} (hs0:0 < s) (hl:xs.length=n * s) (hn:n≤cap) (hm:cap≤maxLen) (h:∀ i,i < n * s→W.cell? (a.add i)=xs[i]?) :
    SlS s (hv W) (.slice (some a) n cap) n xs:=by
  refine ⟨some a,cap,rfl,hn,by simpa [maxLen] using hm,hl,fun hne=>?_⟩
  have h0:0 < n * s:=Nat.mul_pos (by omega) hs0
  have c0:=h 0 h0
  have e0:a.add 0=a:=by simp [Addr.add]
  rw [e0,List.getElem?_eq_getElem (by omega)] at c0
  have hs:=World.cell?_spot c0
  obtain ⟨b,off,spot⟩:=a
  simp only at hs
  subst hs
  have:∃ cs T fz,hv W b=some (.cells cs T fz):=by
    unfold World.cell? at c0
    unfold hv
    split at c0
    · rename_i cs T fz hb; exact ⟨cs,T,fz,hb⟩
    · cases c0
  obtain ⟨cs,T,fz,hb⟩:=this
  exact ⟨b,off,cs,T,fz,rfl,hb,fun i hi=>by rw [← add_cell (i:=i) (off:=off) hb]; exact h i (by omega)⟩
theorem flat3_len' (f:Nat→List Value) (hf:∀ i,(f i).length=3):∀ n,((List.range n).flatMap f).length=n * 3
  | 0=>rfl
  | n+1=>by rw [List.range_succ,List.flatMap_append,List.length_append,flat3_len' f hf n]; simp [hf]; omega
theorem flat3_get (f:Nat→List Value) (hf:∀ i,(f i).length=3):∀ n i j,i < n→j < 3→((List.range n).flatMap f)[i * 3+j]? = (f i)[j]?
  | n+1,i,j,hi,hj=>by
    have hl:=flat3_len' f hf n
    rw [List.range_succ,List.flatMap_append]
    by_cases e:i < n
    · rw [List.getElem?_append_left (by omega)]; exact flat3_get f hf n i j e hj
    · have:i=n:=by omega
      subst this
      rw [List.getElem?_append_right (by omega),hl,show i * 3+j - i * 3=j by omega]
      simp
/-- A slice of structs of three integers that came in. -/
theorem read_recs {t e:TypeId} {f0 f1 f2:Field} {k0 k1 k2:IntKind} {fuel:Nat} {v:Value} {x:DataW H × List MemPlace} (ht:P.underlying t=some (.slice e)) (he:P.underlying e=some (.struct #[f0,f1,f2])) (ce:P.cellsOf e=3)
    (ho:f0.offset=0∧f1.offset=1∧f2.offset=2) (hc:P.cellsOf f0.type=1∧P.cellsOf f1.type=1∧P.cellsOf f2.type=1) (hq0:P.underlying f0.type=some (.int k0)) (hq1:P.underlying f1.type=some (.int k1)) (hq2:P.underlying f2.type=some (.int k2))
    {a0:Option Addr} {n0 c0:Nat} (hv0:v=.slice a0 n0 c0) (h:DataW.trod enc P W base (fun _=>true) held fuel t v.cells.toList=some x) :
    ∃ R:Nat→Int × Int × Int,SlS 3 (hv W) v n0 ((List.range n0).flatMap fun i=>[.int k0 (R i).1,.int k1 (R i).2.1,.int k2 (R i).2.2]) ∧
      ∀ i,i < n0→(Lit.int k0 (R i).1).wf=true∧(Lit.int k1 (R i).2.1).wf=true∧(Lit.int k2 (R i).2.2).wf=true:=by
  subst hv0
  rcases open_slice ht h with ⟨hcs,_⟩ | ⟨a,len,cap,m,n,D,Pl,hcs,hb,hl,hm,hmm,_,hx⟩
  · simp [Value.cells] at hcs
    obtain ⟨rfl,rfl,rfl⟩:=hcs
    exact ⟨fun _=>(0,0,0),SlS.nil,fun i hi=>by omega⟩
  · simp [Value.cells] at hcs
    obtain ⟨rfl,rfl,rfl⟩:=hcs
    simp only [if_true] at hmm
    have each:∀ i,i < n0→∃ r:Int × Int × Int,(∀ j,j < 3→W.cell? (a.add (i * 3+j))=[Value.int k0 r.1,.int k1 r.2.1,.int k2 r.2.2][j]?)∧(Lit.int k0 r.1).wf=true∧(Lit.int k1 r.2.1).wf=true∧(Lit.int k2 r.2.2).wf=true:=fun i hi=>by
      obtain ⟨cs',h1,h2⟩:=hx i (by omega)
      rw [ce] at h1
      obtain ⟨_,hlen,hcell⟩:=World.cells?_some h1
      obtain ⟨xs,k,hk,hxy,_,hxl,hf⟩:=DataW.trod_struct he h2
      match xs,hxl,cs',hlen with
      | [y0,y1,y2],_,[v0,v1,v2],_ =>
        have g0:=hf 0 f0 rfl
        have g1:=hf 1 f1 rfl
        have g2:=hf 2 f2 rfl
        simp [ho.1,ho.2.1,ho.2.2,hc.1,hc.2.1,hc.2.2] at g0 g1 g2
        obtain ⟨r0,q0,_,w0⟩:=DataW.trod_int hq0 g0
        obtain ⟨r1,q1,_,w1⟩:=DataW.trod_int hq1 g1
        obtain ⟨r2,q2,_,w2⟩:=DataW.trod_int hq2 g2
        simp at q0 q1 q2
        subst q0 q1 q2
        refine ⟨(r0,r1,r2),fun j hj=>?_,w0,w1,w2⟩
        have:=hcell j (by omega)
        rw [add_add] at this
        exact this
    obtain ⟨R,hR⟩:=choose_lt each
    refine ⟨R,sls_read (by omega) (by rw [flat3_len' _ (fun _=>rfl)]) hl hm fun i hi=>?_,fun i hi=>(hR i hi).2⟩
    have e1:i=i / 3 * 3+i % 3:=by omega
    rw [e1,flat3_get _ (fun _=>rfl) n0 (i / 3) (i % 3) (by omega) (by omega),(hR (i / 3) (by omega)).1 (i % 3) (by omega)]
end
end Go.Vc
/- Reading arguments that are arrays of integers. No program in sight. -/
namespace Go.Vc
open Go Go.ChangeShapes Go.WideShapes Go.ChangeAt Go.RowKit
section
open Go.WideShapes
end
end Go.Vc
