import Derived.Test.YtkmhjcjpohpiaaaWn
import Derived.Test.YtkmhjcjpohpiaaaWb
import Derived.Test.YtkmhjcjpohpiaaaWa
/- The plain law of binary diagrams, beside that of the others. No program in sight. -/
namespace Go.Proofs.Ytkmhjcjpohpiaaa.Bd
open Go.Vc
def nd (N:List Fk) (r:Int):Fk:=N.getD (r - 2).toNat ⟨0,0,0⟩
def lev (vars:Int) (N:List Fk) (r:Int):Int:=if r < 2 then vars else (nd N r).v
/-- r is a reference. -/
def Rf (N:List Fk) (r:Int):Prop:=0≤r∧r < 2+N.length
structure Fm (vars:Int) (N:List Fk):Prop where
  vr:∀ r:Int,2≤r→r < 2+N.length→0≤(nd N r).v∧(nd N r).v < vars
  ne:∀ r:Int,2≤r→r < 2+N.length→(nd N r).l ≠ (nd N r).h
  lo:∀ r:Int,2≤r→r < 2+N.length→0≤(nd N r).l∧(nd N r).l < r∧(nd N r).v < lev vars N (nd N r).l
  hi:∀ r:Int,2≤r→r < 2+N.length→0≤(nd N r).h∧(nd N r).h < r∧(nd N r).v < lev vars N (nd N r).h
  uq:∀ r s:Int,2≤r→r < 2+N.length→2≤s→s < 2+N.length→nd N r=nd N s→r=s
theorem lev_const {vars r:Int} {N:List Fk} (h:r < 2):lev vars N r=vars:=if_pos h
theorem lev_node {vars r:Int} {N:List Fk} (h:¬ r < 2):lev vars N r=(nd N r).v:=if_neg h
theorem Fm.lev_le {vars r:Int} {N:List Fk} (f:Fm vars N) (h:Rf N r):lev vars N r≤vars:=by
  by_cases h2:r < 2
  · rw [lev_const h2]; omega
  · rw [lev_node h2]; have:=f.vr r (by omega) h.2; omega
theorem Fm.lev_nn {vars r:Int} {N:List Fk} (f:Fm vars N) (hv:0≤vars) (h:Rf N r):0≤lev vars N r:=by
  by_cases h2:r < 2
  · rw [lev_const h2]; exact hv
  · rw [lev_node h2]; exact (f.vr r (by omega) h.2).1
/-- Below the last variable there are only constants. -/
theorem Fm.lev_node_lt {vars r:Int} {N:List Fk} (f:Fm vars N) (h:Rf N r) (h2:lev vars N r=vars):r < 2:=by
  refine Classical.byContradiction fun q=>?_
  rw [lev_node q] at h2
  have:=f.vr r (by omega) h.2; omega
theorem nd_append {N M:List Fk} {r:Int} (_h0:2≤r) (h:r < 2+N.length):nd (N++M) r=nd N r:=by
  unfold nd
  rw [List.getD_eq_getElem?_getD,List.getD_eq_getElem?_getD,List.getElem?_append_left (by omega)]
theorem nd_last {N:List Fk} {n:Fk}:nd (N++[n]) (2+N.length)=n:=by
  unfold nd
  rw [List.getD_eq_getElem?_getD,show ((2:Int)+N.length - 2).toNat=N.length by omega]
  simp
theorem lev_append {vars r:Int} {N M:List Fk} (h:r < 2+N.length):lev vars (N++M) r=lev vars N r:=by
  unfold lev
  by_cases h2:r < 2
  · rw [if_pos h2,if_pos h2]
  · rw [if_neg h2,if_neg h2,nd_append (by omega) h]
def vlF (N:List Fk) (e:Int→Bool):Nat→Int→Bool
  | 0,r=>decide (r=1)
  | k+1,r=>if r < 2 then decide (r=1) else vlF N e k (if e (nd N r).v then (nd N r).h else (nd N r).l)
def vl (N:List Fk) (e:Int→Bool) (r:Int):Bool:=vlF N e N.length r
theorem vlF_fuel {vars:Int} {N:List Fk} (f:Fm vars N) (e:Int→Bool):∀ (k j:Nat) (r:Int),Rf N r→r≤k+1→r≤j+1→vlF N e k r=vlF N e j r
  | 0,j,r,h,hk,hj=>by
    have h2:r < 2:=by omega
    cases j with
    | zero=>rfl
    | succ j=>show decide (r=1)=if r < 2 then decide (r=1) else _; rw [if_pos h2]
  | k+1,j,r,h,hk,hj=>by
    by_cases h2:r < 2
    · cases j with
      | zero=>show (if r < 2 then decide (r=1) else _)=decide (r=1); rw [if_pos h2]
      | succ j=>show (if r < 2 then decide (r=1) else _)=(if r < 2 then decide (r=1) else _); rw [if_pos h2,if_pos h2]
    · have hlt:2≤r:=by omega
      have a:=f.lo r hlt h.2
      have b:=f.hi r hlt h.2
      cases j with
      | zero=>omega
      | succ j =>
        show (if r < 2 then decide (r=1) else _)=(if r < 2 then decide (r=1) else _)
        rw [if_neg h2,if_neg h2]
        refine vlF_fuel f e k j _ ?_ ?_ ?_
        · unfold Rf; have:=h.2; split <;> omega
        · split <;> omega
        · split <;> omega
theorem vl_const {N:List Fk} {e:Int→Bool} {r:Int} (h:r < 2):vl N e r=decide (r=1):=by
  unfold vl
  cases hN:N.length with
  | zero=>rfl
  | succ k=>show (if r < 2 then decide (r=1) else _)=_; rw [if_pos h]
theorem vl_step {vars:Int} {N:List Fk} (f:Fm vars N) {e:Int→Bool} {r:Int} (h2:2≤r) (h:r < 2+N.length):vl N e r=vl N e (if e (nd N r).v then (nd N r).h else (nd N r).l):=by
  have a:=f.lo r h2 h
  have b:=f.hi r h2 h
  unfold vl
  cases hN:N.length with
  | zero=>rw [hN] at h; omega
  | succ k =>
    show (if r < 2 then decide (r=1) else _)=_
    rw [if_neg (by omega)]
    refine vlF_fuel f e k (k+1) _ ?_ ?_ ?_
    · unfold Rf; split <;> omega
    · split <;> omega
    · split <;> omega
theorem vl_append {vars:Int} {N M:List Fk} (f:Fm vars N) (g:Fm vars (N++M)) (e:Int→Bool):∀ (k:Nat) (r:Int),Rf N r→r≤k+1→vl (N++M) e r=vl N e r
  | 0,r,h,hk=>by rw [vl_const (by omega),vl_const (by omega)]
  | k+1,r,h,hk=>by
    by_cases h2:r < 2
    · rw [vl_const h2,vl_const h2]
    · have a:=f.lo r (by omega) h.2
      have b:=f.hi r (by omega) h.2
      have hl:(N++M).length=N.length+M.length:=List.length_append
      have h3:=h.2
      rw [vl_step f (by omega) h.2,vl_step g (by omega) (by omega),nd_append (by omega) h.2]
      refine vl_append f g e k _ ?_ ?_
      · unfold Rf; split <;> omega
      · split <;> omega
/-- Only the variables from the level on count. -/
theorem vl_congr {vars:Int} {N:List Fk} (f:Fm vars N) {e e':Int→Bool}:∀ (k:Nat) (r:Int),Rf N r→r≤k+1→(∀ i,lev vars N r≤i→i < vars→e i=e' i)→vl N e r=vl N e' r
  | 0,r,h,hk,_=>by rw [vl_const (by omega),vl_const (by omega)]
  | k+1,r,h,hk,he=>by
    by_cases h2:r < 2
    · rw [vl_const h2,vl_const h2]
    · have a:=f.lo r (by omega) h.2
      have b:=f.hi r (by omega) h.2
      have c:=f.vr r (by omega) h.2
      have h3:=h.2
      rw [lev_node h2] at he
      rw [vl_step f (by omega) h.2,vl_step f (e:=e') (by omega) h.2,he _ (Int.le_refl _) c.2]
      refine vl_congr f k _ ?_ ?_ fun i hi=>he i ?_
      · unfold Rf; split <;> omega
      · split <;> omega
      · split at hi <;> omega
def tab (f:(Int→Bool)→Bool):Nat→Int→(Int→Bool)→List Bool
  | 0,_,e=>[f e]
  | m+1,v,e=>tab f m (v+1) (up e v false)++tab f m (v+1) (up e v true)
theorem tab_len (f:(Int→Bool)→Bool):∀ (m:Nat) (v:Int) (e:Int→Bool),(tab f m v e).length=2 ^ m
  | 0,_,_=>rfl
  | m+1,v,e=>by
    show (tab f m (v+1) (up e v false)++tab f m (v+1) (up e v true)).length=_
    rw [List.length_append,tab_len f m,tab_len f m,Nat.pow_succ]; omega
theorem tab_congr {f g:(Int→Bool)→Bool}:∀ (m:Nat) (v:Int) (e:Int→Bool),(∀ e',(∀ i,i < v→e' i=e i)→f e' = g e')→tab f m v e=tab g m v e
  | 0,v,e,h=>by show [f e]=[g e]; rw [h e fun _ _=>rfl]
  | m+1,v,e,h=>by
    show tab f m (v+1) (up e v false)++tab f m (v+1) (up e v true)=tab g m (v+1) (up e v false)++tab g m (v+1) (up e v true)
    have key:∀ b,tab f m (v+1) (up e v b)=tab g m (v+1) (up e v b):=fun b=>tab_congr m (v+1) _ fun e' he=>h e' fun i hi=>by
      rw [he i (by omega)]; unfold up; rw [if_neg (by omega)]
    rw [key,key]
noncomputable def vis (N:List Fk):Nat→Int→Ly→Ly × Int
  | 0,_,s=>(s,0)
  | k+1,r,s=>match s.2 r with
    | some p=>(s,p)
    | none=>((((vis N k (nd N r).h (vis N k (nd N r).l s).1).1.1++[⟨(nd N r).v,(vis N k (nd N r).l s).2,(vis N k (nd N r).h (vis N k (nd N r).l s).1).2⟩]),
        setF (vis N k (nd N r).h (vis N k (nd N r).l s).1).1.2 r (2+(vis N k (nd N r).h (vis N k (nd N r).l s).1).1.1.length)),2+(vis N k (nd N r).h (vis N k (nd N r).l s).1).1.1.length)
noncomputable def pl0:Int→Option Int:=setF (setF (fun _=>none) 0 0) 1 1
structure LyI (N:List Fk) (s:Ly):Prop where
  z:s.2 0=some 0
  o:s.2 1=some 1
  rf:∀ r p:Int,s.2 r=some p→Rf N r∧Rf s.1 p∧(2≤r ↔ 2≤p)
  nd:∀ r p:Int,2≤r→s.2 r=some p→∃ a b,s.2 (nd N r).l=some a∧s.2 (nd N r).h=some b∧a < p∧b < p∧Proofs.Ytkmhjcjpohpiaaa.Bd.nd s.1 p=⟨(Proofs.Ytkmhjcjpohpiaaa.Bd.nd N r).v,a,b⟩
  inj:∀ r q p:Int,s.2 r=some p→s.2 q=some p→r=q
  sur:∀ p:Int,Rf s.1 p→∃ r,s.2 r=some p
theorem pl0_z:pl0 0=some 0:=by unfold pl0; rw [setF_other (by omega),setF_same]
theorem pl0_o:pl0 1=some 1:=setF_same
theorem pl0_n {r:Int} (h:2≤r ∨ r < 0):pl0 r=none:=by unfold pl0; rw [setF_other (by omega),setF_other (by omega)]
theorem pl0_some {r p:Int} (h:pl0 r=some p):p=r∧(r=0 ∨ r=1):=by
  by_cases h0:r=0
  · subst h0; rw [pl0_z] at h; simp at h; omega
  · by_cases h1:r=1
    · subst h1; rw [pl0_o] at h; simp at h; omega
    · rw [pl0_n (by omega)] at h; cases h
theorem lyI0 (N:List Fk):LyI N ([],pl0) where
  z:=pl0_z
  o:=pl0_o
  rf:=fun r p h=>by
    obtain ⟨rfl,h⟩:=pl0_some h
    refine ⟨⟨by omega,by omega⟩,⟨by omega,?_⟩,Iff.rfl⟩
    show p < 2+((0:Nat):Int); omega
  nd:=fun r p h2 h=>by obtain ⟨_,h⟩:=pl0_some h; omega
  inj:=fun r q p h1 h2=>by obtain ⟨h1,_⟩:=pl0_some h1; obtain ⟨h2,_⟩:=pl0_some h2; omega
  sur:=fun p h=>by
    have h0:=h.1
    have h1:p < 2+((0:Nat):Int):=h.2
    by_cases q:p=0
    · subst q; exact ⟨0,pl0_z⟩
    · have:p=1:=by omega
      subst this; exact ⟨1,pl0_o⟩
/-- What a visit does. -/
structure VisOk (N:List Fk) (r:Int) (s:Ly) (x:Ly × Int):Prop where
  inv:LyI N x.1
  at_:x.1.2 r=some x.2
  ext:∀ q p:Int,s.2 q=some p→x.1.2 q=some p
  only:∀ q:Int,r < q→x.1.2 q=s.2 q
  len:s.1.length≤x.1.1.length
theorem vis_hit {N:List Fk} {k:Nat} {r p:Int} {s:Ly} (h:s.2 r=some p):vis N (k+1) r s=(s,p):=by
  unfold vis; rw [h]
theorem vis_ok {vars:Int} {N:List Fk} (f:Fm vars N):∀ (k:Nat) (r:Int) (s:Ly),Rf N r→r < k→LyI N s→VisOk N r s (vis N k r s)
  | 0,r,s,h,hk,_=>by have:=h.1; omega
  | k+1,r,s,h,hk,hI=>by
    cases hs:s.2 r with
    | some p=>rw [vis_hit hs]; exact ⟨hI,hs,fun _ _ h=>h,fun _ _=>rfl,Nat.le_refl _⟩
    | none =>
      have h2:2≤r:=by
        have h0:=h.1
        refine Classical.byContradiction fun q=>?_
        by_cases e:r=0
        · subst e; rw [hI.z] at hs; cases hs
        · have:r=1:=by omega
          subst this; rw [hI.o] at hs; cases hs
      have hl:=f.lo r h2 h.2
      have hh:=f.hi r h2 h.2
      have h3:=h.2
      have A:=vis_ok f k (nd N r).l s ⟨hl.1,by omega⟩ (by omega) hI
      have B:=vis_ok f k (nd N r).h (vis N k (nd N r).l s).1 ⟨hh.1,by omega⟩ (by omega) A.inv
      have e:vis N (k+1) r s=(((((vis N k (nd N r).h (vis N k (nd N r).l s).1).1.1++[⟨(nd N r).v,(vis N k (nd N r).l s).2,(vis N k (nd N r).h (vis N k (nd N r).l s).1).2⟩]),
        setF (vis N k (nd N r).h (vis N k (nd N r).l s).1).1.2 r (2+(vis N k (nd N r).h (vis N k (nd N r).l s).1).1.1.length)),2+(vis N k (nd N r).h (vis N k (nd N r).l s).1).1.1.length):Ly × Int):=by
        rw [vis,hs]
      rw [e]
      generalize (vis N k (nd N r).l s)=x at A B
      generalize (vis N k (nd N r).h x.1)=y at B
      have hat:=B.ext _ _ A.at_
      have hnone:y.1.2 r=none:=by rw [B.only r hh.2.1,A.only r hl.2.1,hs]
      have ra:=(B.inv.rf _ _ hat).2.1
      have rb:=(B.inv.rf _ _ B.at_).2.1
      have hlen:(y.1.1++[(⟨(nd N r).v,x.2,y.2⟩:Fk)]).length=y.1.1.length+1:=by simp
      have oth:∀ {q p:Int},y.1.2 q=some p→setF y.1.2 r (2+(y.1.1.length:Int)) q=some p:=fun {q p} hq=>by
        rw [setF_other]; exact hq
        intro e; subst e; rw [hnone] at hq; cases hq
      have cases_:∀ {q p:Int},setF y.1.2 r (2+(y.1.1.length:Int)) q=some p→(q=r∧p=2+(y.1.1.length:Int)) ∨ (q ≠ r∧y.1.2 q=some p):=fun {q p} hq=>by
        by_cases e:q=r
        · subst e; rw [setF_same] at hq; simp at hq; exact Or.inl ⟨rfl,hq.symm⟩
        · rw [setF_other e] at hq; exact Or.inr ⟨e,hq⟩
      refine ⟨⟨oth B.inv.z,oth B.inv.o,fun q p hq=>?_,fun q p hq2 hq=>?_,fun q q' p hq hq'=>?_,fun p hp=>?_⟩,setF_same,fun q p hq=>oth (B.ext _ _ (A.ext _ _ hq)),fun q hq=>?_,?_⟩
      · rcases cases_ hq with ⟨rfl,rfl⟩ | ⟨_,hq⟩
        · refine ⟨h,⟨by omega,?_⟩,by omega⟩
          show _ < 2+(((y.1.1++[(⟨(nd N q).v,x.2,y.2⟩:Fk)]).length:Nat):Int)
          rw [hlen]; omega
        · obtain ⟨a,b,c⟩:=B.inv.rf q p hq
          refine ⟨a,⟨b.1,?_⟩,c⟩
          have:=b.2
          show _ < 2+(((y.1.1++[(⟨(nd N r).v,x.2,y.2⟩:Fk)]).length:Nat):Int)
          rw [hlen]; omega
      · rcases cases_ hq with ⟨rfl,rfl⟩ | ⟨_,hq⟩
        · exact ⟨x.2,y.2,oth hat,oth B.at_,ra.2,rb.2,nd_last⟩
        · obtain ⟨a,b,c1,c2,c3,c4,c5⟩:=B.inv.nd q p hq2 hq
          have hp:=(B.inv.rf q p hq)
          exact ⟨a,b,oth c1,oth c2,c3,c4,by rw [← c5]; exact nd_append (hp.2.2.1 hq2) hp.2.1.2⟩
      · rcases cases_ hq with ⟨rfl,rfl⟩ | ⟨n1,hq⟩
        · rcases cases_ hq' with ⟨rfl,_⟩ | ⟨_,hq'⟩
          · rfl
          · have:=(B.inv.rf _ _ hq').2.1.2; omega
        · rcases cases_ hq' with ⟨e1,e2⟩ | ⟨_,hq2⟩
          · have:=(B.inv.rf _ _ hq).2.1.2; omega
          · exact B.inv.inj _ _ _ hq hq2
      · have h1:p < 2+(((y.1.1++[(⟨(nd N r).v,x.2,y.2⟩:Fk)]).length:Nat):Int):=hp.2
        rw [hlen] at h1
        by_cases e:p=2+(y.1.1.length:Int)
        · exact ⟨r,by rw [e]; exact setF_same⟩
        · obtain ⟨q,hq⟩:=B.inv.sur p ⟨hp.1,by omega⟩
          exact ⟨q,oth hq⟩
      · show setF y.1.2 r _ q=_
        rw [setF_other (by omega),B.only q (by omega),A.only q (by omega)]
      · have:=A.len; have:=B.len
        show _≤(y.1.1++[(⟨(nd N r).v,x.2,y.2⟩:Fk)]).length
        rw [hlen]; omega
def prt:Nat→List Fk→Int→List Bool→List Fk × Int
  | 0,O,_,t=>(O,if t.getD 0 false then 1 else 0)
  | m+1,O,v,t =>
    if (prt m O (v+1) (t.take (2 ^ m))).2=(prt m (prt m O (v+1) (t.take (2 ^ m))).1 (v+1) (t.drop (2 ^ m))).2 then ((prt m (prt m O (v+1) (t.take (2 ^ m))).1 (v+1) (t.drop (2 ^ m))).1,(prt m O (v+1) (t.take (2 ^ m))).2)
    else match fx ⟨v,(prt m O (v+1) (t.take (2 ^ m))).2,(prt m (prt m O (v+1) (t.take (2 ^ m))).1 (v+1) (t.drop (2 ^ m))).2⟩ (prt m (prt m O (v+1) (t.take (2 ^ m))).1 (v+1) (t.drop (2 ^ m))).1 with
      | some i=>((prt m (prt m O (v+1) (t.take (2 ^ m))).1 (v+1) (t.drop (2 ^ m))).1,2+i)
      | none=>((prt m (prt m O (v+1) (t.take (2 ^ m))).1 (v+1) (t.drop (2 ^ m))).1++[⟨v,(prt m O (v+1) (t.take (2 ^ m))).2,(prt m (prt m O (v+1) (t.take (2 ^ m))).1 (v+1) (t.drop (2 ^ m))).2⟩],2+(prt m (prt m O (v+1) (t.take (2 ^ m))).1 (v+1) (t.drop (2 ^ m))).1.length)
theorem prt_step {m:Nat} {O:List Fk} {v:Int} {t1 t2:List Bool} (h1:t1.length=2 ^ m) {A B:List Fk} {a b:Int} (ha:prt m O (v+1) t1=(A,a)) (hb:prt m A (v+1) t2=(B,b)) :
    prt (m+1) O v (t1++t2)=if a=b then (B,a) else match fx ⟨v,a,b⟩ B with | some i=>(B,2+(i:Int)) | none=>(B++[⟨v,a,b⟩],2+(B.length:Int)):=by
  have e1:(t1++t2).take (2 ^ m)=t1:=by rw [← h1]; simp
  have e2:(t1++t2).drop (2 ^ m)=t2:=by rw [← h1]; simp
  rw [prt,e1,e2,ha]
  simp only [hb]
theorem prt_len:∀ (m:Nat) (O:List Fk) (v:Int) (t:List Bool),O.length≤(prt m O v t).1.length∧(prt m O v t).1.length+1≤O.length+2 ^ m
  | 0,O,v,t=>by show O.length≤O.length∧O.length+1≤O.length+1; omega
  | m+1,O,v,t=>by
    have a:=prt_len m O (v+1) (t.take (2 ^ m))
    have b:=prt_len m (prt m O (v+1) (t.take (2 ^ m))).1 (v+1) (t.drop (2 ^ m))
    have p:2 ^ (m+1)=2 ^ m+2 ^ m:=by rw [Nat.pow_succ]; omega
    rw [prt]
    split
    · show _≤(prt m (prt m O (v+1) (t.take (2 ^ m))).1 (v+1) (t.drop (2 ^ m))).1.length∧(prt m (prt m O (v+1) (t.take (2 ^ m))).1 (v+1) (t.drop (2 ^ m))).1.length+1≤_
      omega
    · split
      · show _≤(prt m (prt m O (v+1) (t.take (2 ^ m))).1 (v+1) (t.drop (2 ^ m))).1.length∧(prt m (prt m O (v+1) (t.take (2 ^ m))).1 (v+1) (t.drop (2 ^ m))).1.length+1≤_
        omega
      · simp only [List.length_append,List.length_cons,List.length_nil]; omega
/-- The walk of nodes and the walk of the truth table make the same diagram. -/
theorem canon {vars:Int} {N:List Fk} (f:Fm vars N):∀ (m:Nat) (v:Int) (r:Int) (s:Ly) (e:Int→Bool) (k:Nat),LyI N s→Rf N r→v=vars - m→v≤lev vars N r→r < k →
    prt m s.1 v (tab (fun e=>vl N e r) m v e)=((vis N k r s).1.1,(vis N k r s).2)
  | 0,v,r,s,e,k,hI,hr,hv,hl,hk=>by
    have hc:=f.lev_node_lt hr (by have:=f.lev_le hr; omega)
    obtain ⟨k,rfl⟩:∃ j,k=j+1:=⟨k - 1,by have:=hr.1; omega⟩
    show (s.1,if (vl N e r)=true then (1:Int) else 0)=_
    rw [vl_const hc]
    have h0:=hr.1
    by_cases h1:r=1
    · subst h1; rw [vis_hit hI.o]; rfl
    · have:r=0:=by omega
      subst this; rw [vis_hit hI.z]; rfl
  | m+1,v,r,s,e,k,hI,hr,hv,hl,hk=>by
    have V:=vis_ok f k r s hr hk hI
    have h1:v+1=vars - m:=by omega
    obtain ⟨k,rfl⟩:∃ j,k=j+1:=⟨k - 1,by have:=hr.1; omega⟩
    show prt (m+1) s.1 v (tab _ m (v+1) (up e v false)++tab _ m (v+1) (up e v true))=_
    by_cases hlt:v < lev vars N r
    · have A:=canon f m (v+1) r s (up e v false) (k+1) hI hr h1 (by omega) hk
      have B:=canon f m (v+1) r (vis N (k+1) r s).1 (up e v true) (k+1) V.inv hr h1 (by omega) hk
      rw [vis_hit V.at_] at B
      rw [prt_step (tab_len _ _ _ _) A B,if_pos rfl]
    · have hlv:lev vars N r=v:=by omega
      have h2:2≤r:=by
        refine Classical.byContradiction fun q=>?_
        rw [lev_const (by omega)] at hlv; omega
      rw [lev_node (by omega)] at hlv
      have hlo:=f.lo r h2 hr.2
      have hhi:=f.hi r h2 hr.2
      have h3:=hr.2
      have rl:Rf N (nd N r).l:=⟨hlo.1,by omega⟩
      have rh:Rf N (nd N r).h:=⟨hhi.1,by omega⟩
      have t1:tab (fun e=>vl N e r) m (v+1) (up e v false)=tab (fun e=>vl N e (nd N r).l) m (v+1) (up e v false):=tab_congr m _ _ fun e' he=>by
        have:e' v=false:=by rw [he v (by omega)]; exact if_pos rfl
        show vl N e' r=_
        rw [vl_step f h2 hr.2,hlv,this]; rfl
      have t2:tab (fun e=>vl N e r) m (v+1) (up e v true)=tab (fun e=>vl N e (nd N r).h) m (v+1) (up e v true):=tab_congr m _ _ fun e' he=>by
        have:e' v=true:=by rw [he v (by omega)]; exact if_pos rfl
        show vl N e' r=_
        rw [vl_step f h2 hr.2,hlv,this]; rfl
      rw [t1,t2]
      cases hs:s.2 r with
      | some p =>
        obtain ⟨a,b,c1,c2,c3,c4,c5⟩:=hI.nd r p h2 hs
        have A:=canon f m (v+1) (nd N r).l s (up e v false) (k+1) hI rl h1 (by omega) (by omega)
        rw [vis_hit c1] at A
        have B:=canon f m (v+1) (nd N r).h s (up e v true) (k+1) hI rh h1 (by omega) (by omega)
        rw [vis_hit c2] at B
        rw [vis_hit hs,prt_step (tab_len _ _ _ _) A B]
        have hab:a ≠ b:=fun q=>f.ne r h2 hr.2 (hI.inj _ _ _ c1 (q ▸ c2))
        rw [if_neg hab]
        have hp:=hI.rf r p hs
        have hp2:=hp.2.2.1 h2
        have hp3:=hp.2.1.2
        cases hf:fx ⟨v,a,b⟩ s.1 with
        | none =>
          exact absurd (by have q:=c5; rw [hlv] at q; exact q) (fx_none hf (p - 2).toNat (by omega))
        | some i =>
          obtain ⟨q1,q2,q3⟩:=fx_some hf
          have hi:nd s.1 (2+i)=⟨v,a,b⟩:=by unfold nd; rw [show ((2:Int)+i - 2).toNat=i by omega]; exact q2
          obtain ⟨r',hr'⟩:=hI.sur (2+i) ⟨by omega,by omega⟩
          obtain ⟨a',b',d1,d2,d3,d4,d5⟩:=hI.nd r' (2+i) ((hI.rf _ _ hr').2.2.2 (by omega)) hr'
          rw [hi] at d5
          simp only [Fk.mk.injEq] at d5
          have e1:=hI.inj _ _ _ c1 (d5.2.1 ▸ d1)
          have e2:=hI.inj _ _ _ c2 (d5.2.2 ▸ d2)
          have:r=r':=f.uq r r' h2 hr.2 ((hI.rf _ _ hr').2.2.2 (by omega)) (hI.rf _ _ hr').1.2 (Fk.eq (by rw [hlv]; exact d5.1) e1 e2)
          subst this
          rw [hs] at hr'; simp at hr'
          show (s.1,2+(i:Int))=(s.1,p)
          rw [hr']
      | none =>
        have VA:=vis_ok f k (nd N r).l s rl (by omega) hI
        have VB:=vis_ok f k (nd N r).h (vis N k (nd N r).l s).1 rh (by omega) VA.inv
        have A:=canon f m (v+1) (nd N r).l s (up e v false) k hI rl h1 (by omega) (by omega)
        have B:=canon f m (v+1) (nd N r).h (vis N k (nd N r).l s).1 (up e v true) k VA.inv rh h1 (by omega) (by omega)
        have E:vis N (k+1) r s=(((((vis N k (nd N r).h (vis N k (nd N r).l s).1).1.1++[⟨(nd N r).v,(vis N k (nd N r).l s).2,(vis N k (nd N r).h (vis N k (nd N r).l s).1).2⟩]),
          setF (vis N k (nd N r).h (vis N k (nd N r).l s).1).1.2 r (2+(vis N k (nd N r).h (vis N k (nd N r).l s).1).1.1.length)),2+(vis N k (nd N r).h (vis N k (nd N r).l s).1).1.1.length):Ly × Int):=by
          rw [vis,hs]
        rw [E,prt_step (tab_len _ _ _ _) A B]
        clear E A B V
        generalize (vis N k (nd N r).l s)=x at VA VB
        generalize (vis N k (nd N r).h x.1)=y at VB
        have hat:=VB.ext _ _ VA.at_
        have hab:x.2 ≠ y.2:=fun q=>f.ne r h2 hr.2 (VB.inv.inj _ _ _ hat (by rw [q]; exact VB.at_))
        rw [if_neg hab]
        have hnone:y.1.2 r=none:=by rw [VB.only r hhi.2.1,VA.only r hlo.2.1,hs]
        cases hf:fx ⟨v,x.2,y.2⟩ y.1.1 with
        | none=>rw [← hlv]
        | some i =>
          exfalso
          obtain ⟨q1,q2,q3⟩:=fx_some hf
          have hi:nd y.1.1 (2+i)=⟨v,x.2,y.2⟩:=by unfold nd; rw [show ((2:Int)+i - 2).toNat=i by omega]; exact q2
          obtain ⟨r',hr'⟩:=VB.inv.sur (2+i) ⟨by omega,by omega⟩
          obtain ⟨a',b',d1,d2,d3,d4,d5⟩:=VB.inv.nd r' (2+i) ((VB.inv.rf _ _ hr').2.2.2 (by omega)) hr'
          rw [hi] at d5
          simp only [Fk.mk.injEq] at d5
          have e1:=VB.inv.inj _ _ _ hat (d5.2.1 ▸ d1)
          have e2:=VB.inv.inj _ _ _ VB.at_ (d5.2.2 ▸ d2)
          have:r=r':=f.uq r r' h2 hr.2 ((VB.inv.rf _ _ hr').2.2.2 (by omega)) (VB.inv.rf _ _ hr').1.2 (Fk.eq (by rw [hlv]; exact d5.1) e1 e2)
          subst this
          rw [hnone] at hr'; cases hr'
end Go.Proofs.Ytkmhjcjpohpiaaa.Bd
namespace Go.Proofs.Ytkmhjcjpohpiaaa.Bd
open Go Go.Vc
open Classical
theorem nd_fk (N:List Fk) (r:Int):nd N r=fk N (r - 2):=rfl
/-- laying out -/
noncomputable def layF (N:List Fk) (root:Int):List Fk × Int:=((vis N (root.toNat+1) root ([],pl0)).1.1,(vis N (root.toNat+1) root ([],pl0)).2)
/-- No more than were there. -/
theorem vis_len {vars:Int} {N:List Fk} (f:Fm vars N) {s:Ly} (hI:LyI N s):s.1.length≤N.length:=by
  -- the places are hit by different references
  have h:∀ p:_root_.Fin s.1.length,∃ r:_root_.Fin N.length,s.2 (2+(r.val:Int))=some (2+(p.val:Int)):=fun p=>by
    obtain ⟨r,hr⟩:=hI.sur (2+(p.val:Int)) ⟨by omega,by have:=p.isLt; omega⟩
    obtain ⟨q1,q2,q3⟩:=hI.rf r _ hr
    have h2:=q3.2 (by omega)
    have h3:=q1.2
    exact ⟨⟨(r - 2).toNat,by omega⟩,by show s.2 (2+((r - 2).toNat:Int))=_; rw [show (2:Int)+((r - 2).toNat:Int)=r by omega]; exact hr⟩
  refine Classical.byContradiction fun q=>?_
  -- pigeons
  have key:∀ (n m:Nat) (F:_root_.Fin n→_root_.Fin m),m < n→∃ a b,a ≠ b∧F a=F b:=by
    intro n
    induction n with
    | zero=>intro m F h; omega
    | succ n ih =>
      intro m F hlt
      by_cases hm:m≤n
      · by_cases hex:∃ a:_root_.Fin n,F a.castSucc=F (Fin.last n)
        · obtain ⟨a,ha⟩:=hex
          exact ⟨a.castSucc,Fin.last n,by intro e; have:=congrArg Fin.val e; simp at this; have:=a.isLt; omega,ha⟩
        · by_cases hm0:m=0
          · subst hm0; exact (F (Fin.last n)).elim0
          · obtain ⟨m',rfl⟩:∃ m',m=m'+1:=⟨m - 1,by omega⟩
            by_cases hmn:m'+1 < n
            · obtain ⟨a,b,hab,e⟩:=ih (m'+1) (fun a=>F a.castSucc) hmn
              exact ⟨a.castSucc,b.castSucc,by intro e; exact hab (Fin.castSucc_inj.1 e),e⟩
            · -- as many as places: the last value is left out
              let L:=F (Fin.last n)
              have hne:∀ a:_root_.Fin n,F a.castSucc ≠ L:=fun a e=>hex ⟨a,e⟩
              let G:_root_.Fin n→_root_.Fin m':=fun a=>if hlt:(F a.castSucc).val < L.val then ⟨(F a.castSucc).val,by have:=L.isLt; omega⟩ else ⟨(F a.castSucc).val - 1,by
                have h1:=(F a.castSucc).isLt
                have h2:(F a.castSucc).val ≠ L.val:=fun e=>hne a (Fin.ext e)
                omega⟩
              obtain ⟨a,b,hab,e⟩:=ih m' G (by omega)
              refine ⟨a.castSucc,b.castSucc,by intro e; exact hab (Fin.castSucc_inj.1 e),Fin.ext ?_⟩
              have ha:(F a.castSucc).val ≠ L.val:=fun e=>hne a (Fin.ext e)
              have hb:(F b.castSucc).val ≠ L.val:=fun e=>hne b (Fin.ext e)
              have e':=congrArg Fin.val e
              simp only [G] at e'
              split at e' <;> split at e' <;> simp at e' <;> omega
      · omega
  obtain ⟨a,b,hab,e⟩:=key s.1.length N.length (fun p=>(h p).choose) (by omega)
  have h1:=(h a).choose_spec
  have h2:=(h b).choose_spec
  have e:(h a).choose=(h b).choose:=e
  rw [e] at h1
  rw [h1] at h2
  simp at h2
  exact hab (Fin.ext (by omega))
/-- The reference below a reference, for a variable that is not below its level. -/
noncomputable def fol (vars:Int) (N:List Fk) (r v:Int) (hi:Prop):Int:=if lev vars N r ≠ v then r else if hi then (nd N r).h else (nd N r).l
theorem fol_0 {vars r v:Int} {N:List Fk} {hi:Prop} (h:lev vars N r ≠ v):fol vars N r v hi=r:=if_pos h
theorem fol_h {vars r v:Int} {N:List Fk} {hi:Prop} (h:lev vars N r=v) (q:hi):fol vars N r v hi=(nd N r).h:=by unfold fol; rw [if_neg (fun e=>e h),if_pos q]
theorem fol_l {vars r v:Int} {N:List Fk} {hi:Prop} (h:lev vars N r=v) (q:¬ hi):fol vars N r v hi=(nd N r).l:=by unfold fol; rw [if_neg (fun e=>e h),if_neg q]
theorem LyI.ge2 {N:List Fk} {s:Ly} (h:LyI N s) {r:Int} (hr:Rf N r) (hn:s.2 r=none):2≤r:=by
  have h0:=hr.1
  refine Classical.byContradiction fun q=>?_
  by_cases e:r=0
  · subst e; rw [h.z] at hn; cases hn
  · have:r=1:=by omega
    subst this; rw [h.o] at hn; cases hn
theorem vis_miss {N:List Fk} {k:Nat} {r:Int} {s:Ly} {x y:Ly × Int} (hs:s.2 r=none) (hx:x=vis N k (fk N (r - 2)).l s) (hy:y=vis N k (fk N (r - 2)).h x.1) :
    vis N (k+1) r s=((y.1.1++[⟨(fk N (r - 2)).v,x.2,y.2⟩],setF y.1.2 r (2+(y.1.1.length:Int))),2+(y.1.1.length:Int)):=by
  subst hx; subst hy
  rw [vis,hs]
  rfl
end Go.Proofs.Ytkmhjcjpohpiaaa.Bd
namespace Go.Proofs.Ytkmhjcjpohpiaaa.Bd
open Go Go.Vc
open Classical
/-- A reference below the node at place j. -/
def Chk (vars:Int) (N:List Fk) (j r:Int):Prop:=0≤r∧r≤1+j∧(fk N j).v < lev vars N r
def Nok (vars:Int) (N:List Fk) (j:Int):Prop :=
  0≤(fk N j).v∧(fk N j).v < vars∧(fk N j).l ≠ (fk N j).h∧(∀ k:Int,0≤k→k < j→fk N k ≠ fk N j)∧Chk vars N j (fk N j).l∧Chk vars N j (fk N j).h
theorem fm_nok {vars:Int} {N:List Fk} (f:Fm vars N) {j:Int} (h0:0≤j) (h1:j < N.length):Nok vars N j:=by
  have e:nd N (2+j)=fk N j:=by rw [nd_fk,show (2+j - 2:Int)=j by omega]
  have a:=f.vr (2+j) (by omega) (by omega)
  have b:=f.ne (2+j) (by omega) (by omega)
  have c:=f.lo (2+j) (by omega) (by omega)
  have d:=f.hi (2+j) (by omega) (by omega)
  rw [e] at a b c d
  refine ⟨a.1,a.2,b,fun k k0 k1 q=>?_,⟨c.1,by omega,c.2.2⟩,⟨d.1,by omega,d.2.2⟩⟩
  have:=f.uq (2+k) (2+j) (by omega) (by omega) (by omega) (by omega) (by rw [nd_fk,nd_fk,show (2+k - 2:Int)=k by omega,show (2+j - 2:Int)=j by omega]; exact q)
  omega
theorem nok_fm {vars:Int} {N:List Fk} (h:∀ j:Int,0≤j→j < N.length→Nok vars N j):Fm vars N where
  vr:=fun r h0 h1=>by have:=h (r - 2) (by omega) (by omega); exact ⟨this.1,this.2.1⟩
  ne:=fun r h0 h1=>(h (r - 2) (by omega) (by omega)).2.2.1
  lo:=fun r h0 h1=>by have:=(h (r - 2) (by omega) (by omega)).2.2.2.2.1; rw [nd_fk]; exact ⟨this.1,by have:=this.2.1; omega,this.2.2⟩
  hi:=fun r h0 h1=>by have:=(h (r - 2) (by omega) (by omega)).2.2.2.2.2; rw [nd_fk]; exact ⟨this.1,by have:=this.2.1; omega,this.2.2⟩
  uq:=fun r s r0 r1 s0 s1 e=>by
    rw [nd_fk,nd_fk] at e
    by_cases q:r < s
    · exact absurd e ((h (s - 2) (by omega) (by omega)).2.2.2.1 (r - 2) (by omega) (by omega))
    · by_cases q2:s < r
      · exact absurd e.symm ((h (r - 2) (by omega) (by omega)).2.2.2.1 (s - 2) (by omega) (by omega))
      · omega
def Form (vars:Int) (N:List Fk) (root:Int):Prop:=Fm vars N∧0≤root∧root≤1+N.length
theorem gi_2 {a b x:Int} (h0:0≤x) (h1:x < 2):gi [a,b] x=if x=0 then a else b:=by
  by_cases e:x=0
  · subst e; rfl
  · have:x=1:=by omega
    subst this; rfl
theorem fm_chk {vars:Int} {N:List Fk} (f:Fm vars N) {i x:Int} (h0:0≤i) (h1:i < N.length) (x0:0≤x) (x1:x < 2):Chk vars N i (gi [(fk N i).l,(fk N i).h] x):=by
  have hn:=fm_nok f h0 h1
  rw [gi_2 x0 x1]
  by_cases e:x=0
  · rw [if_pos e]; exact hn.2.2.2.2.1
  · rw [if_neg e]; exact hn.2.2.2.2.2
theorem ext_fk {A B:List Fk} (hl:A.length=B.length) (h:∀ x:Int,0≤x→x < A.length→fk A x=fk B x):A=B:=by
  refine List.ext_getElem hl fun i h1 h2=>?_
  have:=h i (by omega) (by omega)
  unfold fk at this
  rw [List.getD_eq_getElem?_getD,List.getD_eq_getElem?_getD,show (i:Int).toNat=i by omega,List.getElem?_eq_getElem h1,List.getElem?_eq_getElem h2] at this
  exact this
/-- A valid diagram. -/
def Ok (vars:Int) (N:List Fk) (root:Int):Prop:=(0≤vars∧vars≤40)∧N.length≤4096∧Form vars N root∧(layF N root).1=N∧(layF N root).2=root
noncomputable def chkC (vars:Int) (N:List Fk) (root:Int):Int:=if vars < 0 ∨ 40 < vars then 3 else if 4096 < N.length then 4 else if Ok vars N root then 0 else 1
section
variable {vars root:Int} {N:List Fk}
theorem chk_3 (h:vars < 0 ∨ 40 < vars):chkC vars N root=3:=if_pos h
theorem chk_4 (h:¬ (vars < 0 ∨ 40 < vars)) (h2:4096 < N.length):chkC vars N root=4:=by unfold chkC; rw [if_neg h,if_pos h2]
theorem chk_1 (h:¬ (vars < 0 ∨ 40 < vars)) (h2:¬ 4096 < N.length) (h3:¬ Ok vars N root):chkC vars N root=1:=by unfold chkC; rw [if_neg h,if_neg h2,if_neg h3]
theorem chk_0 (h:Ok vars N root):chkC vars N root=0:=by
  have h1:=h.1
  have h2:=h.2.1
  unfold chkC; rw [if_neg (by omega),if_neg (by omega),if_pos h]
theorem chk_ok:chkC vars N root=0 ↔ Ok vars N root:=by
  refine ⟨fun h=>?_,chk_0⟩
  unfold chkC at h
  by_cases h1:vars < 0 ∨ 40 < vars
  · rw [if_pos h1] at h; omega
  · rw [if_neg h1] at h
    by_cases h2:4096 < N.length
    · rw [if_pos h2] at h; omega
    · rw [if_neg h2] at h
      by_cases h3:Ok vars N root
      · exact h3
      · rw [if_neg h3] at h; omega
theorem Form.rf (h:Form vars N root):Rf N root:=⟨h.2.1,by have:=h.2.2; omega⟩
end
end Go.Proofs.Ytkmhjcjpohpiaaa.Bd
namespace Go.Proofs.Ytkmhjcjpohpiaaa.Bd
open Go Go.Vc
open Classical
structure Dg where
  v:Int
  N:List Fk
  r:Int
abbrev dg (D:List Dg) (i:Int):Dg:=D.getD i.toNat ⟨0,[],0⟩
def dgc (nvs:List Value) (D:List Dg) (i:Nat):List Value:=[.int .i64 (dg D i).v,gv nvs i,.int .i64 (dg D i).r]
def bdls (nvs:List Value) (D:List Dg):List Value:=(List.range D.length).flatMap (dgc nvs D)
theorem flat3_len (f:Nat→List Value) (hf:∀ i,(f i).length=3):∀ n,((List.range n).flatMap f).length=n * 3
  | 0=>rfl
  | n+1=>by
    rw [List.range_succ,List.flatMap_append,List.length_append,flat3_len f hf n]
    simp [hf]; omega
theorem flat3 (f:Nat→List Value) (hf:∀ i,(f i).length=3):∀ n i,i < n→(((List.range n).flatMap f).drop (i * 3)).take 3=f i
  | 0,i,h=>by omega
  | n+1,i,h=>by
    rw [List.range_succ,List.flatMap_append]
    have hl:=flat3_len f hf n
    by_cases e:i=n
    · subst e
      rw [List.drop_append,List.drop_eq_nil_of_le (by omega),hl,Nat.sub_self]
      simp
      exact List.take_of_length_le (by rw [hf]; omega)
    · rw [List.drop_append_of_le_length (by omega),List.take_append_of_le_length (by rw [List.length_drop]; omega)]
      exact flat3 f hf n i (by omega)
theorem bdls_at {nvs:List Value} {D:List Dg} {i:Int} (h0:0≤i) (h1:i < D.length):((bdls nvs D).drop (i.toNat * 3)).take 3=[.int .i64 (dg D i).v,gv nvs i,.int .i64 (dg D i).r]:=by
  have h:=flat3 (dgc nvs D) (fun _=>rfl) D.length i.toNat (by omega)
  unfold dgc at h
  rw [show ((i.toNat:Nat):Int)=i by omega] at h
  exact h
theorem bdls_el {nvs:List Value} {D:List Dg} {i:Int} {o:Nat} {u:Value} (h0:0≤i) (h1:i < D.length) (ho:o < 3) (hu:[Value.int .i64 (dg D i).v,gv nvs i,.int .i64 (dg D i).r][o]? = some u):(bdls nvs D)[i.toNat * 3+o]? = some u:=by
  rw [← hu,← bdls_at h0 h1,List.getElem?_take,if_pos ho,List.getElem?_drop]
/-- A list of diagrams in memory. -/
structure Bdl (H:HV) (v:Value) (nvs:List Value) (D:List Dg):Prop where
  sl:SlS 3 H v D.length (bdls nvs D)
  at_:∀ i:Int,0≤i→i < D.length→Fks H (gv nvs i) (dg D i).N
theorem Bdl.mono {H H':HV} {v:Value} {nvs:List Value} {D:List Dg} (h:Bdl H v nvs D) (s:Vc.Sub H H'):Bdl H' v nvs D:=⟨h.sl.mono s,fun i a b=>(h.at_ i a b).mono s⟩
/-- Lists of one, two, three. -/
theorem Bdl.one {H:HV} {b:Nat} {v r:Int} {n:Value} {N:List Fk} (h:Cells H b [.int .i64 v,n,.int .i64 r]) (hN:Fks H n N):Bdl H (.slice (some ⟨b,0,none⟩) 1 1) [n] [⟨v,N,r⟩] :=
  ⟨cells_sls h rfl (Nat.le_refl _) (by omega),fun i h0 h1=>by
    have h1:i < 1:=h1
    have:i=0:=by omega
    subst this; exact hN⟩
theorem Bdl.two {H:HV} {b:Nat} {v r v2 r2:Int} {n n2:Value} {N N2:List Fk} (h:Cells H b [.int .i64 v,n,.int .i64 r,.int .i64 v2,n2,.int .i64 r2]) (hN:Fks H n N) (hN2:Fks H n2 N2) :
    Bdl H (.slice (some ⟨b,0,none⟩) 2 2) [n,n2] [⟨v,N,r⟩,⟨v2,N2,r2⟩] :=
  ⟨cells_sls h rfl (Nat.le_refl _) (by omega),fun i h0 h1=>by
    have h1:i < 2:=h1
    have:i=0 ∨ i=1:=by omega
    rcases this with rfl | rfl
    · exact hN
    · exact hN2⟩
theorem Bdl.three {H:HV} {b:Nat} {v r v2 r2 v3 r3:Int} {n n2 n3:Value} {N N2 N3:List Fk} (h:Cells H b [.int .i64 v,n,.int .i64 r,.int .i64 v2,n2,.int .i64 r2,.int .i64 v3,n3,.int .i64 r3]) (hN:Fks H n N) (hN2:Fks H n2 N2) (hN3:Fks H n3 N3) :
    Bdl H (.slice (some ⟨b,0,none⟩) 3 3) [n,n2,n3] [⟨v,N,r⟩,⟨v2,N2,r2⟩,⟨v3,N3,r3⟩] :=
  ⟨cells_sls h rfl (Nat.le_refl _) (by omega),fun i h0 h1=>by
    have h1:i < 3:=h1
    have:i=0 ∨ i=1 ∨ i=2:=by omega
    rcases this with rfl | rfl | rfl
    · exact hN
    · exact hN2
    · exact hN3⟩
def dOk (d:Dg):Prop:=Ok d.v d.N d.r
def Vld (D:List Dg):Prop:=∀ i:Int,0≤i→i < D.length→dOk (dg D i)
def Sam (D:List Dg):Prop:=∀ i:Int,0≤i→i < D.length→(dg D i).v=(dg D 0).v
noncomputable def vE (D:List Dg):Int:=if Vld D then if Sam D then 0 else 2 else 1
theorem vE_1 {D:List Dg} (h:¬ Vld D):vE D=1:=if_neg h
theorem vE_2 {D:List Dg} (h:Vld D) (h2:¬ Sam D):vE D=2:=by unfold vE; rw [if_pos h,if_neg h2]
theorem vE_0 {D:List Dg} (h:Vld D) (h2:Sam D):vE D=0:=by unfold vE; rw [if_pos h,if_pos h2]
theorem vE_ok {D:List Dg}:vE D=0 ↔ Vld D∧Sam D:=by
  refine ⟨fun h=>?_,fun h=>vE_0 h.1 h.2⟩
  by_cases h1:Vld D
  · by_cases h2:Sam D
    · exact ⟨h1,h2⟩
    · rw [vE_2 h1 h2] at h; omega
  · rw [vE_1 h1] at h; omega
theorem vld1 {v r:Int} {N:List Fk}:Vld [⟨v,N,r⟩] ↔ Ok v N r:=⟨fun h=>h 0 (by omega) (by show (0:Int) < ((1:Nat):Int); omega),fun h i h0 h1=>by
  have h1:i < 1:=h1
  have:i=0:=by omega
  subst this; exact h⟩
theorem sam1 {v r:Int} {N:List Fk}:Sam [⟨v,N,r⟩]:=fun i h0 h1=>by
  have h1:i < 1:=h1
  have:i=0:=by omega
  subst this; rfl
end Go.Proofs.Ytkmhjcjpohpiaaa.Bd
namespace Go.Proofs.Ytkmhjcjpohpiaaa.Bd
open Go Go.Vc
open Classical
/-- The builder's node. -/
def nodeR (M:List Fk) (v l h:Int):List Fk × Int:=if l=h then (M,l) else match fx ⟨v,l,h⟩ M with
  | some i=>(M,2+(i:Int))
  | none=>(M++[⟨v,l,h⟩],2+(M.length:Int))
theorem node_eq {M:List Fk} {v l h:Int} (e:l=h):nodeR M v l h=(M,l):=if_pos e
/-- What a builder's node does. -/
structure NodeOk (vars:Int) (M:List Fk) (v l h:Int) (x:List Fk × Int):Prop where
  fm:Fm vars x.1
  ext:∃ X,x.1=M++X∧X.length≤1
  rf:Rf x.1 x.2
  lv:v≤lev vars x.1 x.2
  vl:∀ e,Proofs.Ytkmhjcjpohpiaaa.Bd.vl x.1 e x.2=if e v then Proofs.Ytkmhjcjpohpiaaa.Bd.vl M e h else Proofs.Ytkmhjcjpohpiaaa.Bd.vl M e l
theorem Fm.snoc {vars v l h:Int} {M:List Fk} (f:Fm vars M) (hv:0≤v) (hv2:v < vars) (hl:Rf M l) (hh:Rf M h) (ll:v < lev vars M l) (lh:v < lev vars M h) (hne:l ≠ h) (hn:fx ⟨v,l,h⟩ M=none):Fm vars (M++[⟨v,l,h⟩]):=by
  have hlen:(M++[(⟨v,l,h⟩:Fk)]).length=M.length+1:=by simp
  have old:∀ r:Int,2≤r→r < 2+M.length→nd (M++[⟨v,l,h⟩]) r=nd M r:=fun r a b=>nd_append a b
  have lst:nd (M++[⟨v,l,h⟩]) (2+(M.length:Int))=⟨v,l,h⟩:=nd_last
  have sp:∀ r:Int,2≤r→r < 2+((M++[(⟨v,l,h⟩:Fk)]).length:Int)→r < 2+(M.length:Int) ∨ r=2+(M.length:Int):=fun r a b=>by rw [hlen] at b; omega
  refine ⟨fun r a b=>?_,fun r a b=>?_,fun r a b=>?_,fun r a b=>?_,fun r s a b c d e=>?_⟩
  · rcases sp r a b with q | rfl
    · rw [old r a q]; exact f.vr r a q
    · rw [lst]; exact ⟨hv,hv2⟩
  · rcases sp r a b with q | rfl
    · rw [old r a q]; exact f.ne r a q
    · rw [lst]; exact hne
  · rcases sp r a b with q | rfl
    · rw [old r a q,lev_append (by have:=(f.lo r a q).2.1; omega)]; exact f.lo r a q
    · rw [lst]; exact ⟨hl.1,hl.2,by show v < _; rw [lev_append hl.2]; exact ll⟩
  · rcases sp r a b with q | rfl
    · rw [old r a q,lev_append (by have:=(f.hi r a q).2.1; omega)]; exact f.hi r a q
    · rw [lst]; exact ⟨hh.1,hh.2,by show v < _; rw [lev_append hh.2]; exact lh⟩
  · have key:∀ r:Int,2≤r→r < 2+(M.length:Int)→nd M r ≠ ⟨v,l,h⟩:=fun r a b q=>fx_none hn (r - 2).toNat (by omega) q
    rcases sp r a b with q | rfl
    · rcases sp s c d with q2 | rfl
      · rw [old r a q,old s c q2] at e; exact f.uq r s a q c q2 e
      · rw [old r a q,lst] at e; exact absurd e (key r a q)
    · rcases sp s c d with q2 | rfl
      · rw [lst,old s c q2] at e; exact absurd e.symm (key s c q2)
      · rfl
theorem node_ok {vars v l h:Int} {M:List Fk} (f:Fm vars M) (hv:0≤v) (hv2:v < vars) (hl:Rf M l) (hh:Rf M h) (ll:v < lev vars M l) (lh:v < lev vars M h):NodeOk vars M v l h (nodeR M v l h):=by
  by_cases e:l=h
  · rw [node_eq e]
    subst e
    exact ⟨f,⟨[],by simp,by simp⟩,hl,by show v≤lev vars M l; omega,fun e=>by show vl M e l=_; split <;> rfl⟩
  · unfold nodeR
    rw [if_neg e]
    cases q:fx ⟨v,l,h⟩ M with
    | some i =>
      obtain ⟨q1,q2,q3⟩:=fx_some q
      have hi:nd M (2+(i:Int))=⟨v,l,h⟩:=by unfold nd; rw [show ((2:Int)+i - 2).toNat=i by omega]; exact q2
      have hr:Rf M (2+(i:Int)):=⟨by omega,by omega⟩
      refine ⟨f,⟨[],by simp,by simp⟩,hr,?_,fun e=>?_⟩
      · show v≤lev vars M (2+(i:Int))
        rw [lev_node (by omega),hi]; exact Int.le_refl _
      · show vl M e (2+(i:Int))=_
        rw [vl_step f (by omega) hr.2,hi]
        show vl M e (if e v=true then h else l)=_
        split <;> rfl
    | none =>
      have g:=f.snoc hv hv2 hl hh ll lh e q
      have hlen:(M++[(⟨v,l,h⟩:Fk)]).length=M.length+1:=by simp
      have hi:nd (M++[⟨v,l,h⟩]) (2+(M.length:Int))=⟨v,l,h⟩:=nd_last
      refine ⟨g,⟨[⟨v,l,h⟩],rfl,by simp⟩,⟨by show 0≤2+(M.length:Int); omega,by show 2+(M.length:Int) < 2+((M++[(⟨v,l,h⟩:Fk)]).length:Int); omega⟩,?_,fun e=>?_⟩
      · show v≤lev vars (M++[⟨v,l,h⟩]) (2+(M.length:Int))
        rw [lev_node (by omega),hi]; exact Int.le_refl _
      · show vl (M++[⟨v,l,h⟩]) e (2+(M.length:Int))=_
        rw [vl_step g (by omega) (by omega),hi]
        show vl _ e (if e v=true then h else l)=_
        split
        · exact vl_append f g e h.toNat h hh (by omega)
        · exact vl_append f g e l.toNat l hl (by omega)
end Go.Proofs.Ytkmhjcjpohpiaaa.Bd
namespace Go.Proofs.Ytkmhjcjpohpiaaa.Bd
open Go Go.Vc
open Classical
/-- Good references: one in each diagram, 0 where there is no diagram. -/
def KOk (Ds:List Dg) (k:K3r):Prop:=∀ i:Int,0≤i→i < 3→Rf (dg Ds i).N (kg k i)∧(Ds.length≤i→kg k i=0)
def tpN (vars:Int) (Ds:List Dg) (k:K3r):Nat→Int
  | 0=>vars
  | n+1=>if lev vars (dg Ds n).N (kg k n) < tpN vars Ds k n then lev vars (dg Ds n).N (kg k n) else tpN vars Ds k n
/-- The least level. -/
def mlv (vars:Int) (Ds:List Dg) (k:K3r):Int:=tpN vars Ds k 3
def gF (Ds:List Dg) (F:Bool→Bool→Bool→Bool) (k:K3r) (e:Int→Bool):Bool :=
  F (vl (dg Ds 0).N e (kg k 0)) (vl (dg Ds 1).N e (kg k 1)) (vl (dg Ds 2).N e (kg k 2))
/-- What all diagrams of the list are. -/
structure DsOk (vars:Int) (Ds:List Dg):Prop where
  v0:0≤vars
  v1:vars≤40
  le:Ds.length≤3
  fm:∀ i:Int,0≤i→Fm vars (dg Ds i).N
theorem dg_out {Ds:List Dg} {i:Int} (h0:0≤i) (h:Ds.length≤i):dg Ds i=⟨0,[],0⟩:=by
  unfold dg; rw [List.getD_eq_getElem?_getD,List.getElem?_eq_none (by omega)]; rfl
theorem fm_nil {vars:Int}:Fm vars [] where
  vr:=fun r h0 h1=>by have h1:r < 2+((0:Nat):Int):=h1; omega
  ne:=fun r h0 h1=>by have h1:r < 2+((0:Nat):Int):=h1; omega
  lo:=fun r h0 h1=>by have h1:r < 2+((0:Nat):Int):=h1; omega
  hi:=fun r h0 h1=>by have h1:r < 2+((0:Nat):Int):=h1; omega
  uq:=fun r s h0 h1=>by have h1:r < 2+((0:Nat):Int):=h1; omega
section
variable {vars:Int} {Ds:List Dg} {k:K3r} {F:Bool→Bool→Bool→Bool}
theorem tpN_le (n:Nat):tpN vars Ds k n≤vars:=by
  induction n with
  | zero=>exact Int.le_refl _
  | succ n ih =>
    show (if lev vars (dg Ds n).N (kg k n) < tpN vars Ds k n then lev vars (dg Ds n).N (kg k n) else tpN vars Ds k n)≤vars
    split <;> omega
theorem tpN_el {n i:Nat} (h:i < n):tpN vars Ds k n≤lev vars (dg Ds i).N (kg k i):=by
  induction n with
  | zero=>omega
  | succ n ih =>
    show (if lev vars (dg Ds n).N (kg k n) < tpN vars Ds k n then lev vars (dg Ds n).N (kg k n) else tpN vars Ds k n)≤_
    by_cases e:i=n
    · subst e; split <;> omega
    · have:=ih (by omega)
      split <;> omega
theorem tpN_nn (d:DsOk vars Ds) (h:KOk Ds k):∀ n:Nat,n≤3→0≤tpN vars Ds k n
  | 0,_=>d.v0
  | n+1,hn=>by
    have a:=tpN_nn d h n (by omega)
    have b:=(d.fm n (by omega)).lev_nn d.v0 (h n (by omega) (by omega)).1
    show 0≤if lev vars (dg Ds n).N (kg k n) < tpN vars Ds k n then lev vars (dg Ds n).N (kg k n) else tpN vars Ds k n
    split <;> omega
/-- It is the level of one of them. -/
theorem tpN_at:∀ n:Nat,tpN vars Ds k n=vars ∨ ∃ i,i < n∧tpN vars Ds k n=lev vars (dg Ds i).N (kg k i)
  | 0=>Or.inl rfl
  | n+1=>by
    show (if lev vars (dg Ds n).N (kg k n) < tpN vars Ds k n then lev vars (dg Ds n).N (kg k n) else tpN vars Ds k n)=vars ∨ ∃ i,i < n+1∧(if lev vars (dg Ds n).N (kg k n) < tpN vars Ds k n then lev vars (dg Ds n).N (kg k n) else tpN vars Ds k n)=_
    by_cases q:lev vars (dg Ds n).N (kg k n) < tpN vars Ds k n
    · rw [if_pos q]; exact Or.inr ⟨n,by omega,rfl⟩
    · rw [if_neg q]
      rcases tpN_at n with e | ⟨i,hi,e⟩
      · exact Or.inl e
      · exact Or.inr ⟨i,by omega,e⟩
theorem tpN_all (h:KOk Ds k) {n:Nat} (h1:n≤3) (h2:Ds.length≤n):tpN vars Ds k n=mlv vars Ds k:=by
  have key:∀ m:Nat,Ds.length≤m→m < 3→tpN vars Ds k (m+1)=tpN vars Ds k m:=fun m a b=>by
    have e:=(h m (by omega) (by omega)).2 (by omega)
    have l:lev vars (dg Ds m).N (kg k m)=vars:=by rw [e]; exact lev_const (by omega)
    have t:=tpN_le (vars:=vars) (Ds:=Ds) (k:=k) m
    show (if lev vars (dg Ds m).N (kg k m) < tpN vars Ds k m then lev vars (dg Ds m).N (kg k m) else tpN vars Ds k m)=_
    rw [l,if_neg (by omega)]
  unfold mlv
  by_cases e3:n=3
  · rw [e3]
  · rw [key 2 (by omega) (by omega)]
    by_cases e2:n=2
    · rw [e2]
    · rw [key 1 (by omega) (by omega)]
      by_cases e1:n=1
      · rw [e1]
      · rw [key 0 (by omega) (by omega),show n=0 by omega]
theorem mlv_le {i:Int} (h0:0≤i) (h1:i < 3):mlv vars Ds k≤lev vars (dg Ds i).N (kg k i):=by
  have:=tpN_el (vars:=vars) (Ds:=Ds) (k:=k) (n:=3) (i:=i.toNat) (by omega)
  rwa [show ((i.toNat:Nat):Int)=i by omega] at this
theorem mlv_bd (d:DsOk vars Ds) (h:KOk Ds k):0≤mlv vars Ds k∧mlv vars Ds k≤vars:=⟨tpN_nn d h 3 (by omega),tpN_le 3⟩
def bt (Ds:List Dg) (k:K3r) (n j:Nat):Prop:=j < n∧kg k j=1
theorem bt_vl (d:DsOk vars Ds) (h:KOk Ds k) (ht:mlv vars Ds k=vars) {n:Nat} (h2:Ds.length≤n) (e:Int→Bool) {j:Nat} (hj:j < 3):decide (bt Ds k n j)=vl (dg Ds j).N e (kg k j):=by
  have hk:=h j (by omega) (by omega)
  have hlt:kg k j < 2:=(d.fm j (by omega)).lev_node_lt hk.1 (by have:=mlv_le (vars:=vars) (Ds:=Ds) (k:=k) (i:=j) (by omega) (by omega); have:=(d.fm j (by omega)).lev_le hk.1; omega)
  rw [vl_const hlt]
  refine decide_eq_decide.2 ⟨fun q=>q.2,fun q=>⟨?_,q⟩⟩
  refine Classical.byContradiction fun z=>?_
  have:=hk.2 (by omega)
  omega
theorem leaf_val (d:DsOk vars Ds) (h:KOk Ds k) (ht:mlv vars Ds k=vars) {n:Nat} (h2:Ds.length≤n) (e:Int→Bool):F (decide (bt Ds k n 0)) (decide (bt Ds k n 1)) (decide (bt Ds k n 2))=gF Ds F k e:=by
  unfold gF
  rw [bt_vl d h ht h2 e (j:=0) (by omega),bt_vl d h ht h2 e (j:=1) (by omega),bt_vl d h ht h2 e (j:=2) (by omega)]
  rfl
noncomputable def lw (vars:Int) (Ds:List Dg) (k:K3r) (tp:Int) (hi:Prop) (n j:Nat):Int:=if j < n then fol vars (dg Ds j).N (kg k j) tp hi else kg k j
noncomputable def lwL (vars:Int) (Ds:List Dg) (k:K3r) (tp:Int) (hi:Prop) (n:Nat):K3r:=(lw vars Ds k tp hi n 0,lw vars Ds k tp hi n 1,lw vars Ds k tp hi n 2)
theorem lw_0 {tp:Int} {hi:Prop} {j:Nat}:lw vars Ds k tp hi 0 j=kg k j:=if_neg (by omega)
theorem lw_same {tp:Int} {hi:Prop} {n j:Nat} (h:j ≠ n):lw vars Ds k tp hi (n+1) j=lw vars Ds k tp hi n j:=by
  unfold lw
  by_cases q:j < n
  · rw [if_pos q,if_pos (by omega)]
  · rw [if_neg q,if_neg (by omega)]
theorem lw_new {tp:Int} {hi:Prop} {n:Nat}:lw vars Ds k tp hi (n+1) n=fol vars (dg Ds n).N (kg k n) tp hi:=if_pos (by omega)
theorem lwL_step {tp:Int} {hi:Prop} {i:Int} (h0:0≤i) (h1:i < 3):(lwV (lwL vars Ds k tp hi i.toNat)).set (0+i.toNat) (.int .i64 (fol vars (dg Ds i).N (gi [k.1,k.2.1,k.2.2] i) tp hi))=lwV (lwL vars Ds k tp hi (i+1).toNat):=by
  have hi':i=0 ∨ i=1 ∨ i=2:=by omega
  rcases hi' with rfl | rfl | rfl
  · show [_,_,_]=lwV (lw vars Ds k tp hi (0+1) 0,lw vars Ds k tp hi (0+1) 1,lw vars Ds k tp hi (0+1) 2)
    rw [lw_new,lw_same (j:=1) (by omega),lw_same (j:=2) (by omega)]; rfl
  · show [_,_,_]=lwV (lw vars Ds k tp hi (1+1) 0,lw vars Ds k tp hi (1+1) 1,lw vars Ds k tp hi (1+1) 2)
    rw [lw_new,lw_same (j:=0) (by omega),lw_same (j:=2) (by omega)]; rfl
  · show [_,_,_]=lwV (lw vars Ds k tp hi (2+1) 0,lw vars Ds k tp hi (2+1) 1,lw vars Ds k tp hi (2+1) 2)
    rw [lw_new,lw_same (j:=0) (by omega),lw_same (j:=1) (by omega)]; rfl
/-- The keys below. -/
noncomputable def lk_ (vars:Int) (Ds:List Dg) (k:K3r) (hi:Prop):K3r:=lwL vars Ds k (mlv vars Ds k) hi Ds.length
theorem fol_rf {N':List Fk} (f:Fm vars N') {r x:Int} {hi:Prop} (h:Rf N' r) (hx:x < vars) (hl:x≤lev vars N' r):Rf N' (fol vars N' r x hi)∧x < lev vars N' (fol vars N' r x hi):=by
  by_cases q:lev vars N' r=x
  · have h2:2≤r:=by
      refine Classical.byContradiction fun z=>?_
      rw [lev_const (by omega)] at q; omega
    have q2:=q
    rw [lev_node (by omega)] at q2
    have a:=f.lo r h2 h.2
    have b:=f.hi r h2 h.2
    have h3:=h.2
    by_cases p:hi
    · rw [fol_h q p]; exact ⟨⟨b.1,by omega⟩,by omega⟩
    · rw [fol_l q p]; exact ⟨⟨a.1,by omega⟩,by omega⟩
  · rw [fol_0 q]; exact ⟨h,by omega⟩
theorem fol_vl {N':List Fk} (f:Fm vars N') {r x:Int} {hi:Prop} (h:Rf N' r) (hx:x < vars) (e:Int→Bool) (he:e x=true ↔ hi):vl N' e (fol vars N' r x hi)=vl N' e r:=by
  by_cases q:lev vars N' r=x
  · have h2:2≤r:=by
      refine Classical.byContradiction fun z=>?_
      rw [lev_const (by omega)] at q; omega
    have q2:=q
    rw [lev_node (by omega)] at q2
    rw [vl_step f h2 h.2 (r:=r),q2]
    by_cases p:hi
    · rw [fol_h q p,if_pos (he.2 p)]
    · rw [fol_l q p,if_neg fun z=>p (he.1 z)]
  · rw [fol_0 q]
theorem lk_el {hi:Prop} {i:Nat} (h1:i < 3):kg (lk_ vars Ds k hi) i=if i < Ds.length then fol vars (dg Ds i).N (kg k i) (mlv vars Ds k) hi else kg k i:=by
  have:i=0 ∨ i=1 ∨ i=2:=by omega
  rcases this with rfl | rfl | rfl <;> rfl
theorem lk_ok (d:DsOk vars Ds) (h:KOk Ds k) (ht:mlv vars Ds k < vars) (hi:Prop):KOk Ds (lk_ vars Ds k hi)∧mlv vars Ds k < mlv vars Ds (lk_ vars Ds k hi):=by
  have each:∀ i:Nat,i < 3→Rf (dg Ds i).N (kg (lk_ vars Ds k hi) i)∧(Ds.length≤i→kg (lk_ vars Ds k hi) i=0)∧mlv vars Ds k < lev vars (dg Ds i).N (kg (lk_ vars Ds k hi) i):=fun i hi3=>by
    have hk:=h i (by omega) (by omega)
    rw [lk_el hi3]
    by_cases q:i < Ds.length
    · rw [if_pos q]
      have:=fol_rf (d.fm i (by omega)) (hi:=hi) hk.1 ht (mlv_le (by omega) (by omega))
      exact ⟨this.1,fun z=>by omega,this.2⟩
    · rw [if_neg q]
      have e:=hk.2 (by omega)
      refine ⟨hk.1,fun z=>hk.2 (by omega),?_⟩
      rw [e,lev_const (by omega)]; exact ht
  refine ⟨fun i h0 h1=>?_,?_⟩
  · have:=each i.toNat (by omega)
    rw [show ((i.toNat:Nat):Int)=i by omega] at this
    exact ⟨this.1,fun z=>this.2.1 (by omega)⟩
  · rcases tpN_at (vars:=vars) (Ds:=Ds) (k:=lk_ vars Ds k hi) 3 with e | ⟨i,h3,e⟩
    · unfold mlv at ht ⊢; rw [e]; exact ht
    · have:=(each i h3).2.2
      show _ < tpN vars Ds (lk_ vars Ds k hi) 3
      rw [e]; exact this
theorem lk_gF (d:DsOk vars Ds) (h:KOk Ds k) (ht:mlv vars Ds k < vars) {hi:Prop} {e:Int→Bool} (he:e (mlv vars Ds k)=true ↔ hi):gF Ds F (lk_ vars Ds k hi) e=gF Ds F k e:=by
  have each:∀ i:Nat,i < 3→vl (dg Ds i).N e (kg (lk_ vars Ds k hi) i)=vl (dg Ds i).N e (kg k i):=fun i hi3=>by
    have hk:=h i (by omega) (by omega)
    rw [lk_el hi3]
    by_cases q:i < Ds.length
    · rw [if_pos q]; exact fol_vl (d.fm i (by omega)) hk.1 ht e he
    · rw [if_neg q]
  unfold gF
  have e0:vl (dg Ds 0).N e (kg (lk_ vars Ds k hi) 0)=vl (dg Ds 0).N e (kg k 0):=each 0 (by omega)
  have e1:vl (dg Ds 1).N e (kg (lk_ vars Ds k hi) 1)=vl (dg Ds 1).N e (kg k 1):=each 1 (by omega)
  have e2:vl (dg Ds 2).N e (kg (lk_ vars Ds k hi) 2)=vl (dg Ds 2).N e (kg k 2):=each 2 (by omega)
  rw [e0,e1,e2]
end
/-- What one reference stands for. -/
structure Std (vars:Int) (Ds:List Dg) (F:Bool→Bool→Bool→Bool) (M:List Fk) (k:K3r) (p:Int):Prop where
  rf:Rf M p
  lv:mlv vars Ds k≤lev vars M p
  val:∀ e,vl M e p=gF Ds F k e
structure CInv (vars:Int) (Ds:List Dg) (F:Bool→Bool→Bool→Bool) (M:List Fk) (Dn:K3r→Option Int):Prop where
  fm:Fm vars M
  dn:∀ k p,Dn k=some p→KOk Ds k→Std vars Ds F M k p
structure COk (vars:Int) (Ds:List Dg) (F:Bool→Bool→Bool→Bool) (k:K3r) (M M':List Fk) (Dn':K3r→Option Int) (p:Int):Prop where
  inv:CInv vars Ds F M' Dn'
  ext:∃ X,M' = M++X
  std:Std vars Ds F M' k p
  len:M'.length+1≤M.length+2 ^ (vars - mlv vars Ds k).toNat
section
variable {vars:Int} {Ds:List Dg} {k:K3r} {F:Bool→Bool→Bool→Bool} {M:List Fk} {Dn:K3r→Option Int}
theorem Std.up {X:List Fk} {p:Int} (s:Std vars Ds F M k p) (f:Fm vars M) (g:Fm vars (M++X)):Std vars Ds F (M++X) k p where
  rf:=⟨s.rf.1,by have:=s.rf.2; rw [List.length_append]; omega⟩
  lv:=by rw [lev_append s.rf.2]; exact s.lv
  val:=fun e=>by rw [vl_append f g e p.toNat p s.rf (by omega)]; exact s.val e
theorem CInv.up {X:List Fk} (c:CInv vars Ds F M Dn) (g:Fm vars (M++X)):CInv vars Ds F (M++X) Dn:=⟨g,fun k p h hk=>(c.dn k p h hk).up c.fm g⟩
theorem CInv.set {p:Int} (c:CInv vars Ds F M Dn) (s:Std vars Ds F M k p):CInv vars Ds F M (setF Dn k p):=⟨c.fm,fun q r h hk=>by
  by_cases e:q=k
  · subst e; rw [setF_same] at h; cases h; exact s
  · rw [setF_other e] at h; exact c.dn q r h hk⟩
theorem comb_hit {p:Int} (c:CInv vars Ds F M Dn) (hk:KOk Ds k) (h:Dn k=some p):COk vars Ds F k M M Dn p :=
  ⟨c,⟨[],by simp⟩,c.dn k p h hk,by have:=one_le_two_pow' (vars - mlv vars Ds k).toNat; omega⟩
theorem comb_leaf (c:CInv vars Ds F M Dn) (d:DsOk vars Ds) (hk:KOk Ds k) (ht:mlv vars Ds k=vars) {n:Nat} (h2:Ds.length≤n) {p:Int}
    (hp:p=if F (decide (bt Ds k n 0)) (decide (bt Ds k n 1)) (decide (bt Ds k n 2))=true then 1 else 0):COk vars Ds F k M M (setF Dn k p) p:=by
  have h01:0≤p∧p < 2:=by rw [hp]; split <;> omega
  have s:Std vars Ds F M k p:=⟨⟨h01.1,by omega⟩,by rw [lev_const h01.2]; omega,fun e=>by
    rw [vl_const h01.2,← leaf_val d hk ht h2 e,hp]
    cases F (decide (bt Ds k n 0)) (decide (bt Ds k n 1)) (decide (bt Ds k n 2)) <;> rfl⟩
  exact ⟨c.set s,⟨[],by simp⟩,s,by have:=one_le_two_pow' (vars - mlv vars Ds k).toNat; omega⟩
theorem comb_node {M1 M2:List Fk} {D1 D2:K3r→Option Int} {p1 p2:Int} {x:List Fk × Int} (d:DsOk vars Ds) (hk:KOk Ds k) (ht:mlv vars Ds k < vars)
    (A:COk vars Ds F (lk_ vars Ds k False) M M1 D1 p1) (B:COk vars Ds F (lk_ vars Ds k True) M1 M2 D2 p2) (hx:x=nodeR M2 (mlv vars Ds k) p1 p2):COk vars Ds F k M x.1 (setF D2 k x.2) x.2:=by
  obtain ⟨X1,e1⟩:=A.ext
  obtain ⟨X2,e2⟩:=B.ext
  have l1:=lk_ok d hk ht False
  have l2:=lk_ok d hk ht True
  have mb:=mlv_bd d hk
  have g2:Fm vars (M1++X2):=e2 ▸ B.inv.fm
  have s1:Std vars Ds F M2 (lk_ vars Ds k False) p1:=by rw [e2]; exact A.std.up A.inv.fm g2
  have n:=node_ok B.inv.fm mb.1 ht s1.rf B.std.rf (by have:=s1.lv; omega) (by have:=B.std.lv; omega)
  rw [← hx] at n
  obtain ⟨X3,e3,l3⟩:=n.ext
  have g3:Fm vars (M2++X3):=e3 ▸ n.fm
  have s:Std vars Ds F x.1 k x.2:=⟨n.rf,n.lv,fun e=>by
    rw [n.vl e]
    by_cases q:e (mlv vars Ds k)=true
    · rw [if_pos q,B.std.val e,lk_gF d hk ht (by simp [q])]
    · rw [if_neg q,s1.val e,lk_gF d hk ht (by simp [q])]⟩
  refine ⟨?_,⟨X1++X2++X3,by rw [e3,e2,e1]; simp⟩,s,?_⟩
  · have:=B.inv.up g3
    rw [← e3] at this
    exact this.set s
  · have a:=A.len
    have b:=B.len
    have w:x.1.length≤M2.length+1:=by rw [e3,List.length_append]; omega
    have m1:2 ^ (vars - mlv vars Ds (lk_ vars Ds k False)).toNat≤2 ^ ((vars - mlv vars Ds k).toNat - 1):=Nat.pow_le_pow_right (by omega) (by have:=(mlv_bd d l1.1); omega)
    have m2:2 ^ (vars - mlv vars Ds (lk_ vars Ds k True)).toNat≤2 ^ ((vars - mlv vars Ds k).toNat - 1):=Nat.pow_le_pow_right (by omega) (by have:=(mlv_bd d l2.1); omega)
    have m3:2 ^ (vars - mlv vars Ds k).toNat=2 ^ ((vars - mlv vars Ds k).toNat - 1)+2 ^ ((vars - mlv vars Ds k).toNat - 1):=by
      conv=>lhs; rw [show (vars - mlv vars Ds k).toNat=((vars - mlv vars Ds k).toNat - 1)+1 by omega]
      rw [Nat.pow_succ]; omega
    omega
/-- The number of nodes stays small. -/
theorem COk.small {M':List Fk} {Dn':K3r→Option Int} {p:Int} (c:COk vars Ds F k M M' Dn' p) (d:DsOk vars Ds) (hk:KOk Ds k):M'.length+1≤M.length+1099511627776:=by
  have:=c.len
  have mb:=mlv_bd d hk
  have h1:=d.v1
  have:2 ^ (vars - mlv vars Ds k).toNat≤2 ^ 40:=Nat.pow_le_pow_right (by omega) (by omega)
  omega
theorem tpN_step {i:Int} (h0:0≤i):tpN vars Ds k (i+1).toNat=if lev vars (dg Ds i).N (kg k i) < tpN vars Ds k i.toNat then lev vars (dg Ds i).N (kg k i) else tpN vars Ds k i.toNat:=by
  rw [show (i+1).toNat=i.toNat+1 by omega]
  show (if lev vars (dg Ds (i.toNat:Int)).N (kg k (i.toNat:Int)) < _ then lev vars (dg Ds (i.toNat:Int)).N (kg k (i.toNat:Int)) else _)=_
  rw [show ((i.toNat:Nat):Int)=i by omega]
theorem lk_pow (d:DsOk vars Ds) (hk:KOk Ds k) (ht:mlv vars Ds k < vars) (hi:Prop):2 ^ (vars - mlv vars Ds (lk_ vars Ds k hi)).toNat+2 ^ (vars - mlv vars Ds (lk_ vars Ds k hi)).toNat≤2 ^ (vars - mlv vars Ds k).toNat:=by
  have l1:=lk_ok d hk ht hi
  have b:=mlv_bd d l1.1
  have m1:2 ^ (vars - mlv vars Ds (lk_ vars Ds k hi)).toNat≤2 ^ ((vars - mlv vars Ds k).toNat - 1):=Nat.pow_le_pow_right (by omega) (by omega)
  have m3:2 ^ (vars - mlv vars Ds k).toNat=2 ^ ((vars - mlv vars Ds k).toNat - 1)+2 ^ ((vars - mlv vars Ds k).toNat - 1):=by
    conv=>lhs; rw [show (vars - mlv vars Ds k).toNat=((vars - mlv vars Ds k).toNat - 1)+1 by omega]
    rw [Nat.pow_succ]; omega
  omega
end
end Go.Proofs.Ytkmhjcjpohpiaaa.Bd
namespace Go.Proofs.Ytkmhjcjpohpiaaa.Bd
open Go Go.Vc
open Classical
/-- The diagram of a function of assignments. -/
def cF (vars:Int) (g:(Int→Bool)→Bool):List Fk × Int:=prt vars.toNat [] 0 (tab g vars.toNat 0 (fun _=>false))
theorem lay_cF {vars p:Int} {M:List Fk} (f:Fm vars M) (h:Rf M p) (hv:0≤vars):layF M p=cF vars (fun e=>vl M e p):=by
  have:=canon f vars.toNat 0 p ([],pl0) (fun _=>false) (p.toNat+1) (lyI0 M) h (by omega) (f.lev_nn hv h) (by have:=h.1; omega)
  exact this.symm
theorem cF_len (vars:Int) (g:(Int→Bool)→Bool):(cF vars g).1.length+1≤2 ^ vars.toNat:=by
  have:=(prt_len vars.toNat [] 0 (tab g vars.toNat 0 (fun _=>false))).2
  have e:([]:List Fk).length=0:=rfl
  unfold cF; omega
abbrev rt (Ds:List Dg):K3r:=((dg Ds 0).r,(dg Ds 1).r,(dg Ds 2).r)
def rn (Ds:List Dg) (n j:Nat):Int:=if j < n then (dg Ds j).r else 0
def rnL (Ds:List Dg) (n:Nat):K3r:=(rn Ds n 0,rn Ds n 1,rn Ds n 2)
theorem rn_0 {Ds:List Dg} {j:Nat}:rn Ds 0 j=0:=if_neg (by omega)
theorem rn_same {Ds:List Dg} {n j:Nat} (h:j ≠ n):rn Ds (n+1) j=rn Ds n j:=by
  unfold rn
  by_cases q:j < n
  · rw [if_pos q,if_pos (by omega)]
  · rw [if_neg q,if_neg (by omega)]
theorem rn_new {Ds:List Dg} {n:Nat}:rn Ds (n+1) n=(dg Ds n).r:=if_pos (by omega)
theorem rnL_step {Ds:List Dg} {i:Int} (h0:0≤i) (h1:i < 3):(lwV (rnL Ds i.toNat)).set (0+i.toNat) (.int .i64 (dg Ds i).r)=lwV (rnL Ds (i+1).toNat):=by
  have hi':i=0 ∨ i=1 ∨ i=2:=by omega
  rcases hi' with rfl | rfl | rfl
  · show [_,_,_]=lwV (rn Ds (0+1) 0,rn Ds (0+1) 1,rn Ds (0+1) 2)
    rw [rn_new,rn_same (j:=1) (by omega),rn_same (j:=2) (by omega)]; rfl
  · show [_,_,_]=lwV (rn Ds (1+1) 0,rn Ds (1+1) 1,rn Ds (1+1) 2)
    rw [rn_new,rn_same (j:=0) (by omega),rn_same (j:=2) (by omega)]; rfl
  · show [_,_,_]=lwV (rn Ds (2+1) 0,rn Ds (2+1) 1,rn Ds (2+1) 2)
    rw [rn_new,rn_same (j:=0) (by omega),rn_same (j:=1) (by omega)]; rfl
theorem rnL_all {Ds:List Dg} {n:Nat} (h:Ds.length≤n):rnL Ds n=rt Ds:=by
  have key:∀ j:Nat,rn Ds n j=(dg Ds j).r:=fun j=>by
    unfold rn
    by_cases q:j < n
    · rw [if_pos q]
    · rw [if_neg q,dg_out (by omega) (by omega)]
  unfold rnL
  rw [key 0,key 1,key 2]; rfl
/-- All roots are references. -/
def Rts (Ds:List Dg):Prop:=∀ i:Int,0≤i→i < Ds.length→Rf (dg Ds i).N (dg Ds i).r
theorem kg_rt {Ds:List Dg} {i:Int} (h0:0≤i) (h1:i < 3):kg (rt Ds) i=(dg Ds i).r:=by
  have:i=0 ∨ i=1 ∨ i=2:=by omega
  rcases this with rfl | rfl | rfl <;> rfl
theorem rt_ok {Ds:List Dg} (h:Rts Ds):KOk Ds (rt Ds):=fun i h0 h1=>by
  rw [kg_rt h0 h1]
  by_cases q:i < Ds.length
  · exact ⟨h i h0 q,fun z=>by omega⟩
  · rw [dg_out h0 (by omega)]
    exact ⟨⟨Int.le_refl _,by show (0:Int) < 2+((0:Nat):Int); omega⟩,fun _=>rfl⟩
theorem comb_pow {vars:Int} {Ds:List Dg} {k:K3r} (d:DsOk vars Ds) (hk:KOk Ds k):2 ^ (vars - mlv vars Ds k).toNat≤1099511627776:=by
  have mb:=mlv_bd d hk
  have h1:=d.v1
  have:2 ^ (vars - mlv vars Ds k).toNat≤2 ^ 40:=Nat.pow_le_pow_right (by omega) (by omega)
  omega
/-- The combination of the diagrams of a list. -/
def cmb (vars:Int) (Ds:List Dg) (F:Bool→Bool→Bool→Bool):List Fk × Int:=cF vars (gF Ds F (rt Ds))
end Go.Proofs.Ytkmhjcjpohpiaaa.Bd
namespace Go.Proofs.Ytkmhjcjpohpiaaa.Bd
open Go Go.Vc
open Classical
section
variable {P:Program} {C:Cx} {env:Env} {V:HV} {σ:Res} {dst:Option Nat} {x y:Operand} {t T T':TypeId} {pos:String} {af:Array Edge} {g:Option (Nat × Bool)} {m n:Int} {k2:IntKind}
end
/-- The operation with a number. -/
def opF (op:Int) (a b _c:Bool):Bool:=decide (op / 2 ^ (((if a then 2 else 0)+(if b then 1 else 0):Nat)) % 2=1)
def dgv (u:Value) (d:Dg):Value:=.agg #[.int .i64 d.v,u,.int .i64 d.r]
def dg0:Dg:=⟨0,[],0⟩
def RB (D:Dg) (v:Value) (V':HV) (σ':Res):Prop:=σ' = []∧∃ u',v=dgv u' D∧Fks V' u' D.N
noncomputable def apE (op:Int) (A B:Dg):Int:=if vE [A,B] ≠ 0 then vE [A,B] else if op < 0 ∨ 15 < op then 3 else 0
def cmD (vars:Int) (Ds:List Dg) (F:Bool→Bool→Bool→Bool):Dg:=⟨vars,(cmb vars Ds F).1,(cmb vars Ds F).2⟩
noncomputable def apD (op:Int) (A B:Dg):Dg:=if apE op A B=0 then cmD A.v [A,B] (opF op) else dg0
structure Cmb (vars:Int) (Ds:List Dg):Prop where
  ok:DsOk vars Ds
  v:∀ i:Int,0≤i→i < Ds.length→(dg Ds i).v=vars
  r:Rts Ds
theorem cmb_of {Ds:List Dg} (h1:1≤Ds.length) (h3:Ds.length≤3) (h:vE Ds=0):Cmb (dg Ds 0).v Ds:=by
  obtain ⟨hv,hs⟩:=vE_ok.1 h
  have h0:=hv 0 (Int.le_refl _) (by omega)
  refine ⟨⟨h0.1.1,h0.1.2,h3,fun i hi=>?_⟩,hs,fun i hi hl=>?_⟩
  · by_cases q:i < Ds.length
    · have:=(hv i hi q).2.2.1.1
      rw [hs i hi q] at this; exact this
    · rw [dg_out hi (by omega)]; exact fm_nil
  · exact (hv i hi hl).2.2.1.rf
noncomputable def cnE (vars:Int):Int:=if vars < 0 ∨ 40 < vars then 3 else 0
noncomputable def cnD (vars:Int) (p:Prop):Dg:=if vars < 0 ∨ 40 < vars then dg0 else ⟨vars,[],if p then 1 else 0⟩
theorem cn_0 {vars:Int} {p:Prop} (h:¬ (vars < 0 ∨ 40 < vars)):cnE vars=0∧cnD vars p=⟨vars,[],if p then 1 else 0⟩:=⟨if_neg h,if_neg h⟩
end Go.Proofs.Ytkmhjcjpohpiaaa.Bd
namespace Go.Proofs.Ytkmhjcjpohpiaaa.Bd
open Go Go.Vc
open Classical
/-- What a reference stands for, with the variable i set to b. -/
structure Rs (vars:Int) (N:List Fk) (i:Int) (b:Bool) (M:List Fk) (r p:Int):Prop where
  rf:Rf M p
  lv:lev vars N r≤lev vars M p
  val:∀ e,vl M e p=vl N (up e i b) r
structure RInv (vars:Int) (N:List Fk) (i:Int) (b:Bool) (M:List Fk) (Dn:Int→Option Int):Prop where
  fm:Fm vars M
  z:Dn 0=some 0
  o:Dn 1=some 1
  dn:∀ r p,Dn r=some p→Rf N r→Rs vars N i b M r p
structure ROk (vars:Int) (N:List Fk) (i:Int) (b:Bool) (r:Int) (M M':List Fk) (Dn':Int→Option Int) (p:Int):Prop where
  inv:RInv vars N i b M' Dn'
  ext:∃ X,M' = M++X
  std:Rs vars N i b M' r p
  len:M'.length+1≤M.length+2 ^ (vars - lev vars N r).toNat
section
variable {vars:Int} {N:List Fk} {i:Int} {b:Bool} {M:List Fk} {Dn:Int→Option Int} {r:Int}
theorem Rs.up {X:List Fk} {p:Int} (s:Rs vars N i b M r p) (f:Fm vars M) (g:Fm vars (M++X)):Rs vars N i b (M++X) r p where
  rf:=⟨s.rf.1,by have:=s.rf.2; rw [List.length_append]; omega⟩
  lv:=by rw [lev_append s.rf.2]; exact s.lv
  val:=fun e=>by rw [vl_append f g e p.toNat p s.rf (by omega)]; exact s.val e
theorem RInv.up {X:List Fk} (c:RInv vars N i b M Dn) (g:Fm vars (M++X)):RInv vars N i b (M++X) Dn:=⟨g,c.z,c.o,fun r p h hk=>(c.dn r p h hk).up c.fm g⟩
theorem RInv.set {p:Int} (c:RInv vars N i b M Dn) (h2:2≤r) (s:Rs vars N i b M r p):RInv vars N i b M (setF Dn r p):=⟨c.fm,by rw [setF_other (by omega)]; exact c.z,by rw [setF_other (by omega)]; exact c.o,fun q t h hk=>by
  by_cases e:q=r
  · subst e; rw [setF_same] at h; cases h; exact s
  · rw [setF_other e] at h; exact c.dn q t h hk⟩
theorem rinv0:RInv vars N i b [] pl0:=⟨fm_nil,pl0_z,pl0_o,fun r p h _=>by
  obtain ⟨rfl,h⟩:=pl0_some h
  exact ⟨⟨by omega,by show p < 2+((0:Nat):Int); omega⟩,by rw [lev_const (by omega),lev_const (by omega)]; exact Int.le_refl _,fun e=>by rw [vl_const (by omega),vl_const (by omega)]⟩⟩
theorem RInv.ge2 (c:RInv vars N i b M Dn) (hr:Rf N r) (h:Dn r=none):2≤r:=by
  have h0:=hr.1
  refine Classical.byContradiction fun q=>?_
  by_cases e:r=0
  · subst e; rw [c.z] at h; cases h
  · have:r=1:=by omega
    subst this; rw [c.o] at h; cases h
theorem up_same {e:Int→Bool} {v:Int}:up e v b v=b:=if_pos rfl
end
/-- The restriction of a diagram. -/
def rsF (vars:Int) (N:List Fk) (root i:Int) (b:Bool):List Fk × Int:=cF vars (fun e=>vl N (up e i b) root)
def rsD (A:Dg) (i:Int) (b:Bool):Dg:=⟨A.v,(rsF A.v A.N A.r i b).1,(rsF A.v A.N A.r i b).2⟩
theorem rst_pow {vars r:Int} {N:List Fk} (f:Fm vars N) (hr:Rf N r) (h0:0≤vars) (h1:vars≤40):2 ^ (vars - lev vars N r).toNat≤1099511627776:=by
  have:=f.lev_nn h0 hr
  have:2 ^ (vars - lev vars N r).toNat≤2 ^ 40:=Nat.pow_le_pow_right (by omega) (by omega)
  omega
theorem ROk.small {vars i r p:Int} {b:Bool} {N M M':List Fk} {Dn':Int→Option Int} (c:ROk vars N i b r M M' Dn' p) (f:Fm vars N) (hr:Rf N r) (h0:0≤vars) (h1:vars≤40):M'.length+1≤M.length+1099511627776:=by
  have:=c.len
  have:=rst_pow f hr h0 h1
  omega
end Go.Proofs.Ytkmhjcjpohpiaaa.Bd
namespace Go.Proofs.Ytkmhjcjpohpiaaa.Bd
open Go Go.Vc
open Classical
theorem prt_node {m:Nat} {O:List Fk} {v:Int} {t1 t2:List Bool} (h1:t1.length=2 ^ m):prt (m+1) O v (t1++t2)=nodeR (prt m (prt m O (v+1) t1).1 (v+1) t2).1 v (prt m O (v+1) t1).2 (prt m (prt m O (v+1) t1).1 (v+1) t2).2:=by
  rw [prt_step h1 (A:=(prt m O (v+1) t1).1) (a:=(prt m O (v+1) t1).2) rfl (B:=(prt m (prt m O (v+1) t1).1 (v+1) t2).1) (b:=(prt m (prt m O (v+1) t1).1 (v+1) t2).2) rfl]
  unfold nodeR
  by_cases e:(prt m O (v+1) t1).2=(prt m (prt m O (v+1) t1).1 (v+1) t2).2
  · first | rw [if_pos e,if_pos e] | rw [if_pos e]
  · first | (rw [if_neg e,if_neg e]; done) | (rw [if_neg e]; done) | (rw [if_neg e,if_neg e]; rfl) | (rw [if_neg e]; rfl)
structure PrtOk (vars:Int) (O:List Fk) (m:Nat) (v:Int) (t:List Bool) (x:List Fk × Int):Prop where
  fm:Fm vars x.1
  ext:∃ X,x.1=O++X
  rf:Rf x.1 x.2
  lv:v≤lev vars x.1 x.2
  tb:∀ e,tab (fun e=>vl x.1 e x.2) m v e=t
theorem prt_ok {vars:Int}:∀ (m:Nat) (O:List Fk) (v:Int) (t:List Bool),Fm vars O→v=vars - m→0≤v→t.length=2 ^ m→PrtOk vars O m v t (prt m O v t)
  | 0,O,v,t,f,hv,h0,ht=>by
    have h2:(if t.getD 0 false then (1:Int) else 0) < 2:=by split <;> omega
    have h3:0≤(if t.getD 0 false then (1:Int) else 0):=by split <;> omega
    refine ⟨f,⟨[],by simp [prt]⟩,⟨h3,by show (if t.getD 0 false then (1:Int) else 0) < 2+(O.length:Int); omega⟩,by show v≤lev vars O (if t.getD 0 false then (1:Int) else 0); rw [lev_const h2]; omega,fun e=>?_⟩
    show [vl O e (if t.getD 0 false then (1:Int) else 0)]=t
    rw [vl_const h2]
    match t,ht with
    | [b],_=>cases b <;> rfl
  | m+1,O,v,t,f,hv,h0,ht=>by
    have hp:2 ^ (m+1)=2 ^ m+2 ^ m:=by rw [Nat.pow_succ]; omega
    have e:t=t.take (2 ^ m)++t.drop (2 ^ m):=(List.take_append_drop _ _).symm
    have l1:(t.take (2 ^ m)).length=2 ^ m:=by rw [List.length_take]; omega
    have l2:(t.drop (2 ^ m)).length=2 ^ m:=by rw [List.length_drop]; omega
    rw [e]
    generalize t.take (2 ^ m)=t1 at l1
    generalize t.drop (2 ^ m)=t2 at l2
    rw [prt_node l1]
    have A:=prt_ok m O (v+1) t1 f (by omega) (by omega) l1
    have B:=prt_ok m (prt m O (v+1) t1).1 (v+1) t2 A.fm (by omega) (by omega) l2
    generalize prt m O (v+1) t1=x at A B
    generalize prt m x.1 (v+1) t2=y at B
    obtain ⟨X1,e1⟩:=A.ext
    obtain ⟨X2,e2⟩:=B.ext
    have g2:Fm vars (x.1++X2):=e2 ▸ B.fm
    have ra:Rf y.1 x.2:=⟨A.rf.1,by rw [e2,List.length_append]; have:=A.rf.2; omega⟩
    have la:lev vars y.1 x.2=lev vars x.1 x.2:=by rw [e2,lev_append A.rf.2]
    have va:∀ e,vl y.1 e x.2=vl x.1 e x.2:=fun e=>by rw [e2]; exact vl_append A.fm g2 e x.2.toNat x.2 A.rf (by omega)
    have n:=node_ok B.fm h0 (by omega) ra B.rf (by have:=A.lv; omega) (by have:=B.lv; omega)
    obtain ⟨X3,e3,_⟩:=n.ext
    refine ⟨n.fm,⟨X1++X2++X3,by rw [e3,e2,e1]; simp⟩,n.rf,n.lv,fun e=>?_⟩
    show tab _ m (v+1) (up e v false)++tab _ m (v+1) (up e v true)=t1++t2
    rw [tab_congr m (v+1) (up e v false) (g:=fun e=>vl x.1 e x.2) fun e' he=>?_,tab_congr m (v+1) (up e v true) (g:=fun e=>vl y.1 e y.2) fun e' he=>?_,A.tb,B.tb]
    · have:e' v=true:=by rw [he v (by omega)]; exact if_pos rfl
      rw [n.vl,if_pos this]
    · have:e' v=false:=by rw [he v (by omega)]; exact if_pos rfl
      rw [n.vl,if_neg (by rw [this]; simp),va]
theorem cF_prt {vars:Int} (h:0≤vars) (g:(Int→Bool)→Bool):PrtOk vars [] vars.toNat 0 (tab g vars.toNat 0 (fun _=>false)) (cF vars g) :=
  prt_ok vars.toNat [] 0 _ fm_nil (by omega) (Int.le_refl _) (tab_len _ _ _ _)
theorem cF_form {vars:Int} (h:0≤vars) (g:(Int→Bool)→Bool):Form vars (cF vars g).1 (cF vars g).2:=by
  have p:=cF_prt h g
  exact ⟨p.fm,p.rf.1,by have:=p.rf.2; omega⟩
/-- Laying out what was built changes nothing. -/
theorem cF_lay {vars:Int} (h:0≤vars) (g:(Int→Bool)→Bool):layF (cF vars g).1 (cF vars g).2=cF vars g:=by
  have p:=cF_prt h g
  rw [lay_cF p.fm p.rf h]
  unfold cF at p ⊢
  rw [p.tb]
theorem cF_ok {vars:Int} (h:0≤vars) (h2:vars≤40) (g:(Int→Bool)→Bool) (hl:(cF vars g).1.length≤4096):Ok vars (cF vars g).1 (cF vars g).2 :=
  ⟨⟨h,h2⟩,hl,cF_form h g,by rw [cF_lay h g],by rw [cF_lay h g]⟩
/-- What it stands for. -/
theorem cF_tab {vars:Int} (h:0≤vars) (g:(Int→Bool)→Bool) (e:Int→Bool):tab (fun e=>vl (cF vars g).1 e (cF vars g).2) vars.toNat 0 e=tab g vars.toNat 0 (fun _=>false):=(cF_prt h g).tb e
noncomputable def rsE (A:Dg) (i:Int):Int:=if vE [A] ≠ 0 then vE [A] else if i < 0 ∨ A.v≤i then 3 else 0
noncomputable def rsR (A:Dg) (i:Int) (b:Bool):Dg:=if rsE A i=0 then rsD A i b else dg0
theorem rsE_3 {A:Dg} {i:Int} {b:Bool} (h:vE [A]=0) (h2:i < 0 ∨ A.v≤i):rsE A i=3∧rsR A i b=dg0:=by
  have e:rsE A i=3:=by unfold rsE; rw [if_neg (by omega),if_pos h2]
  exact ⟨e,by unfold rsR; rw [if_neg (by omega)]⟩
theorem rsE_0 {A:Dg} {i:Int} {b:Bool} (h:vE [A]=0) (h2:¬ (i < 0 ∨ A.v≤i)):rsE A i=0∧rsR A i b=rsD A i b:=by
  have e:rsE A i=0:=by unfold rsE; rw [if_neg (by omega),if_neg h2]
  exact ⟨e,by unfold rsR; rw [if_pos e]⟩
theorem ok_of {A:Dg} (h:vE [A]=0):Ok A.v A.N A.r:=(vE_ok.1 h).1 0 (Int.le_refl _) (by show (0:Int) < ((1:Nat):Int); omega)
end Go.Proofs.Ytkmhjcjpohpiaaa.Bd
namespace Go.Proofs.Ytkmhjcjpohpiaaa.Bd
open Go Go.Vc
open Classical
section
variable {P:Program} {C:Cx} {env:Env} {V:HV} {σ:Res} {dst:Option Nat} {x y:Operand} {t T T':TypeId} {pos:String} {af:Array Edge} {g:Option (Nat × Bool)} {m n:Int} {k2:IntKind}
end
def ctF (vars:Int) (N:List Fk):Nat→Int→Int
  | 0,r=>r
  | k+1,r=>if r < 2 then r else ctF vars N k (nd N r).l * 2 ^ (lev vars N (nd N r).l - (nd N r).v - 1).toNat+ctF vars N k (nd N r).h * 2 ^ (lev vars N (nd N r).h - (nd N r).v - 1).toNat
def ct (vars:Int) (N:List Fk) (r:Int):Int:=ctF vars N N.length r
theorem ctF_fuel {vars:Int} {N:List Fk} (f:Fm vars N):∀ (k j:Nat) (r:Int),Rf N r→r≤k+1→r≤j+1→ctF vars N k r=ctF vars N j r
  | 0,j,r,h,hk,hj=>by
    have h2:r < 2:=by omega
    cases j with
    | zero=>rfl
    | succ j=>show r=if r < 2 then r else _; rw [if_pos h2]
  | k+1,j,r,h,hk,hj=>by
    by_cases h2:r < 2
    · cases j with
      | zero=>show (if r < 2 then r else _)=r; rw [if_pos h2]
      | succ j=>show (if r < 2 then r else _)=(if r < 2 then r else _); rw [if_pos h2,if_pos h2]
    · have hlt:2≤r:=by omega
      have a:=f.lo r hlt h.2
      have b:=f.hi r hlt h.2
      have h3:=h.2
      cases j with
      | zero=>omega
      | succ j =>
        show (if r < 2 then r else _)=(if r < 2 then r else _)
        rw [if_neg h2,if_neg h2,ctF_fuel f k j (nd N r).l ⟨a.1,by omega⟩ (by omega) (by omega),ctF_fuel f k j (nd N r).h ⟨b.1,by omega⟩ (by omega) (by omega)]
theorem ct_const {vars r:Int} {N:List Fk} (h:r < 2):ct vars N r=r:=by
  unfold ct
  cases hN:N.length with
  | zero=>rfl
  | succ k=>show (if r < 2 then r else _)=_; rw [if_pos h]
theorem ct_step {vars r:Int} {N:List Fk} (f:Fm vars N) (h2:2≤r) (h:r < 2+N.length) :
    ct vars N r=ct vars N (nd N r).l * 2 ^ (lev vars N (nd N r).l - (nd N r).v - 1).toNat+ct vars N (nd N r).h * 2 ^ (lev vars N (nd N r).h - (nd N r).v - 1).toNat:=by
  have a:=f.lo r h2 h
  have b:=f.hi r h2 h
  unfold ct
  cases hN:N.length with
  | zero=>rw [hN] at h; omega
  | succ k =>
    show (if r < 2 then r else ctF vars N k _ * _+ctF vars N k _ * _)=_
    rw [if_neg (by omega),ctF_fuel f k (k+1) (nd N r).l ⟨a.1,by omega⟩ (by omega) (by omega),ctF_fuel f k (k+1) (nd N r).h ⟨b.1,by omega⟩ (by omega) (by omega)]
/-- How many of a table are true. -/
def trues:List Bool→Int
  | []=>0
  | b :: t=>(if b then 1 else 0)+trues t
theorem trues_append:∀ (a b:List Bool),trues (a++b)=trues a+trues b
  | [],b=>by show trues b=0+trues b; omega
  | x :: a,b=>by show (if x then 1 else 0)+trues (a++b)=(if x then 1 else 0)+trues a+trues b; rw [trues_append a b]; omega
theorem trues_bd:∀ (t:List Bool),0≤trues t∧trues t≤t.length
  | []=>⟨Int.le_refl _,Int.le_refl _⟩
  | x :: t=>by
    have:=trues_bd t
    show 0≤(if x then 1 else 0)+trues t∧(if x then 1 else 0)+trues t≤((t.length+1:Nat):Int)
    split <;> omega
theorem pow_dbl (n:Nat):(2:Int) ^ (n+1)=2 ^ n+2 ^ n:=by rw [Int.pow_succ]; omega
/-- The count is the number of true elements of the table. -/
theorem ct_tab {vars:Int} {N:List Fk} (f:Fm vars N):∀ (m:Nat) (v r:Int) (e:Int→Bool),Rf N r→v=vars - m→v≤lev vars N r →
    trues (tab (fun e=>vl N e r) m v e)=ct vars N r * 2 ^ (lev vars N r - v).toNat
  | 0,v,r,e,hr,hv,hl=>by
    have hc:=f.lev_node_lt hr (by have:=f.lev_le hr; omega)
    have h0:=hr.1
    have hlv:lev vars N r=v:=by have:=f.lev_le hr; omega
    show (if vl N e r then (1:Int) else 0)+0=_
    rw [vl_const hc,ct_const hc,hlv,Int.sub_self]
    have:r=0 ∨ r=1:=by omega
    rcases this with rfl | rfl <;> rfl
  | m+1,v,r,e,hr,hv,hl=>by
    show trues (tab _ m (v+1) (up e v false)++tab _ m (v+1) (up e v true))=_
    rw [trues_append]
    by_cases hlt:v < lev vars N r
    · rw [ct_tab f m (v+1) r _ hr (by omega) (by omega),ct_tab f m (v+1) r _ hr (by omega) (by omega)]
      rw [show (lev vars N r - v).toNat=(lev vars N r - (v+1)).toNat+1 by omega,pow_dbl,Int.mul_add]
    · have hlv:lev vars N r=v:=by omega
      have h2:2≤r:=by
        refine Classical.byContradiction fun q=>?_
        rw [lev_const (by omega)] at hlv; omega
      have hnv:=hlv
      rw [lev_node (by omega)] at hnv
      have lo:=f.lo r h2 hr.2
      have hi:=f.hi r h2 hr.2
      have h3:=hr.2
      rw [tab_congr m (v+1) (up e v false) (g:=fun e=>vl N e (nd N r).l) fun e' he=>?_,tab_congr m (v+1) (up e v true) (g:=fun e=>vl N e (nd N r).h) fun e' he=>?_]
      · rw [ct_tab f m (v+1) (nd N r).l _ ⟨lo.1,by omega⟩ (by omega) (by omega),ct_tab f m (v+1) (nd N r).h _ ⟨hi.1,by omega⟩ (by omega) (by omega),ct_step f h2 hr.2,hlv,Int.sub_self,hnv]
        rw [show (lev vars N (nd N r).l - v - 1)=lev vars N (nd N r).l - (v+1) by omega,show (lev vars N (nd N r).h - v - 1)=lev vars N (nd N r).h - (v+1) by omega]
        show _=_ * (2:Int) ^ 0
        rw [Int.pow_zero,Int.mul_one]
      · have:e' v=true:=by rw [he v (by omega)]; exact if_pos rfl
        rw [vl_step f h2 hr.2,hnv,if_pos this]
      · have:e' v=false:=by rw [he v (by omega)]; exact if_pos rfl
        rw [vl_step f h2 hr.2,hnv,if_neg (by rw [this]; simp)]
theorem ct_bd {vars r:Int} {N:List Fk} (f:Fm vars N) (hr:Rf N r):0≤ct vars N r∧ct vars N r≤2 ^ (vars - lev vars N r).toNat:=by
  have hl:=f.lev_le hr
  have t:=ct_tab f (vars - lev vars N r).toNat (lev vars N r) r (fun _=>false) hr (by omega) (Int.le_refl _)
  rw [Int.sub_self] at t
  have e:ct vars N r * 2 ^ (0:Int).toNat=ct vars N r:=by show ct vars N r * (2:Int) ^ 0=_; rw [Int.pow_zero,Int.mul_one]
  rw [e] at t
  have b:=trues_bd (tab (fun e=>vl N e r) (vars - lev vars N r).toNat (lev vars N r) (fun _=>false))
  rw [t,tab_len] at b
  refine ⟨b.1,?_⟩
  have:=b.2
  rw [Int.natCast_pow] at this
  exact this
/-- A part of a count. -/
theorem ct_part {vars c v:Int} {N:List Fk} (f:Fm vars N) (hc:Rf N c) (h:v < lev vars N c) (h0:0≤v) (h40:vars≤40) :
    0≤ct vars N c * 2 ^ (lev vars N c - v - 1).toNat∧ct vars N c * 2 ^ (lev vars N c - v - 1).toNat≤1099511627776:=by
  have b:=ct_bd f hc
  have hl:=f.lev_le hc
  have p:(0:Int)≤2 ^ (lev vars N c - v - 1).toNat:=Int.le_of_lt (Int.pow_pos (by omega))
  refine ⟨Int.mul_nonneg b.1 p,?_⟩
  have h1:=Int.mul_le_mul_of_nonneg_right b.2 p
  rw [← Int.pow_add] at h1
  have h2:(2:Int) ^ ((vars - lev vars N c).toNat+(lev vars N c - v - 1).toNat)≤2 ^ 40:=by
    have:2 ^ ((vars - lev vars N c).toNat+(lev vars N c - v - 1).toNat)≤2 ^ 40:=Nat.pow_le_pow_right (by omega) (by omega)
    exact_mod_cast this
  exact Int.le_trans h1 (by simpa using h2)
structure CnI (vars:Int) (N:List Fk) (Dn:Int→Option Int):Prop where
  z:Dn 0=some 0
  o:Dn 1=some 1
  dn:∀ r p,Dn r=some p→p=ct vars N r
theorem cnI0 {vars:Int} {N:List Fk}:CnI vars N pl0:=⟨pl0_z,pl0_o,fun r p h=>by
  obtain ⟨rfl,h⟩:=pl0_some h
  rw [ct_const (by omega)]⟩
theorem CnI.set {vars r:Int} {N:List Fk} {Dn:Int→Option Int} (c:CnI vars N Dn) (h2:2≤r):CnI vars N (setF Dn r (ct vars N r)):=⟨by rw [setF_other (by omega)]; exact c.z,by rw [setF_other (by omega)]; exact c.o,fun q p h=>by
  by_cases e:q=r
  · subst e; rw [setF_same] at h; cases h; rfl
  · rw [setF_other e] at h; exact c.dn q p h⟩
theorem CnI.ge2 {vars r:Int} {N:List Fk} {Dn:Int→Option Int} (c:CnI vars N Dn) (hr:Rf N r) (h:Dn r=none):2≤r:=by
  have h0:=hr.1
  refine Classical.byContradiction fun q=>?_
  by_cases e:r=0
  · subst e; rw [c.z] at h; cases h
  · have:r=1:=by omega
    subst this; rw [c.o] at h; cases h
noncomputable def cnN (A:Dg):Int:=if vE [A]=0 then ct A.v A.N A.r * 2 ^ (lev A.v A.N A.r).toNat else 0
theorem cnN_0 {A:Dg} (h:vE [A]=0):cnN A=ct A.v A.N A.r * 2 ^ (lev A.v A.N A.r).toNat:=if_pos h
theorem cnN_n {A:Dg} (h:vE [A] ≠ 0):cnN A=0:=if_neg h
theorem ct_all {vars r:Int} {N:List Fk} (f:Fm vars N) (hr:Rf N r) (h0:0≤vars) (h40:vars≤40):0≤ct vars N r * 2 ^ (lev vars N r).toNat∧ct vars N r * 2 ^ (lev vars N r).toNat≤1099511627776:=by
  have b:=ct_bd f hr
  have hl:=f.lev_le hr
  have hn:=f.lev_nn h0 hr
  have p:(0:Int)≤2 ^ (lev vars N r).toNat:=Int.le_of_lt (Int.pow_pos (by omega))
  refine ⟨Int.mul_nonneg b.1 p,?_⟩
  have h1:=Int.mul_le_mul_of_nonneg_right b.2 p
  rw [← Int.pow_add] at h1
  have h2:(2:Int) ^ ((vars - lev vars N r).toNat+(lev vars N r).toNat)≤2 ^ 40:=by
    have:2 ^ ((vars - lev vars N r).toNat+(lev vars N r).toNat)≤2 ^ 40:=Nat.pow_le_pow_right (by omega) (by omega)
    exact_mod_cast this
  exact Int.le_trans h1 (by simpa using h2)
end Go.Proofs.Ytkmhjcjpohpiaaa.Bd
namespace Go.Proofs.Ytkmhjcjpohpiaaa.Bd
open Go Go.Vc
open Classical
def X0:Dg:=⟨2,[⟨0,0,1⟩],2⟩
def Y0:Dg:=⟨2,[⟨1,0,1⟩],2⟩
theorem vE1 {a:Dg} (ha:Ok a.v a.N a.r):vE [a]=0:=vE_0 (vld1.2 ha) sam1
end Go.Proofs.Ytkmhjcjpohpiaaa.Bd
namespace Go.Proofs.Ytkmhjcjpohpiaaa.Bd
open Go Go.Vc
open Classical
/-- The nodes that were finished, and the places that the walk gave. -/
structure Fin_ (N:List Fk) (done:List Int) (s:Ly):Prop where
  len:done.length=s.1.length
  at_:∀ k:Int,0≤k→k < done.length→s.2 (gi done k+2)=some (2+k)
theorem fin0 (N:List Fk):Fin_ N [] ([],pl0):=⟨rfl,fun k h0 h1=>by have h1:k < ((0:Nat):Int):=h1; omega⟩
/-- A node that has a place is among those that were finished. -/
theorem Fin_.mem {N:List Fk} {done:List Int} {s:Ly} (f:Fin_ N done s) (hI:LyI N s) {r p:Int} (h2:2≤r) (h:s.2 r=some p):∃ k:Int,0≤k∧k < done.length∧gi done k=r - 2:=by
  obtain ⟨q1,q2,q3⟩:=hI.rf r p h
  have hp:=q3.1 h2
  have hp2:=q2.2
  have hl:=f.len
  refine ⟨p - 2,by omega,by omega,?_⟩
  have:=f.at_ (p - 2) (by omega) (by omega)
  rw [show (2:Int)+(p - 2)=p by omega] at this
  have:=hI.inj _ _ _ this h
  omega
theorem Fin_.only {N:List Fk} {done:List Int} {s:Ly} (f:Fin_ N done s) {r k:Int} (h0:0≤k) (h1:k < done.length) (h:gi done k=r - 2):(s.2 r).isSome=true:=by
  have:=f.at_ k h0 h1
  rw [h,show r - 2+2=r by omega] at this
  rw [this]; rfl
theorem gi_app1 {xs:List Int} {y k:Int} (h0:0≤k) (h1:k < xs.length):gi (xs++[y]) k=gi xs k:=by
  unfold gi
  rw [List.getD_eq_getElem?_getD,List.getD_eq_getElem?_getD,List.getElem?_append_left (by omega)]
theorem gi_app2 {xs:List Int} {y k:Int} (h:k=xs.length):gi (xs++[y]) k=y:=by
  unfold gi
  rw [List.getD_eq_getElem?_getD,List.getElem?_append_right (by omega),show k.toNat - xs.length=0 by omega]
  rfl
theorem fin_push {N:List Fk} {done:List Int} {s:Ly} {r:Int} {n:Fk} (f:Fin_ N done s) (hn:s.2 r=none):Fin_ N (done++[r - 2]) (s.1++[n],setF s.2 r (2+(s.1.length:Int))):=by
  have hl:=f.len
  refine ⟨by simp [hl],fun k h0 h1=>?_⟩
  rw [List.length_append] at h1
  have h1:k < ((done.length+1:Nat):Int):=h1
  show setF s.2 r (2+(s.1.length:Int)) (gi (done++[r - 2]) k+2)=_
  by_cases e:k=done.length
  · rw [gi_app2 e,show r - 2+2=r by omega,setF_same,e,hl]
  · rw [gi_app1 h0 (by omega),setF_other,f.at_ k h0 (by omega)]
    intro q
    have:=f.at_ k h0 (by omega)
    rw [q,hn] at this; cases this
/-- The state in which the walk from the root ends. -/
noncomputable abbrev visR (N:List Fk) (root:Int):Ly × Int:=vis N (root.toNat+1) root ([],pl0)
theorem visR_ok {vars root:Int} {N:List Fk} (f:Fm vars N) (hr:Rf N root):VisOk N root ([],pl0) (visR N root):=vis_ok f _ root ([],pl0) hr (by have:=hr.1; omega) (lyI0 N)
/-- The nodes are finished in their order, all of them: then the walk changes nothing. -/
theorem fin_id {vars root:Int} {N:List Fk} {done:List Int} (f:Fm vars N) (hr:Rf N root) (F:Fin_ N done (visR N root).1) (hl:(done.length:Int)=N.length) (hid:∀ i:Int,0≤i→i < done.length→gi done i=i) :
    (layF N root).1=N∧(layF N root).2=root:=by
  have V:=visR_ok f hr
  generalize hx:visR N root=x at V F
  have e1:(layF N root).1=x.1.1:=by rw [← hx]; rfl
  have e2:(layF N root).2=x.2:=by rw [← hx]; rfl
  rw [e1,e2]
  have hp:∀ r,Rf N r→x.1.2 r=some r:=fun r h=>by
    have h0:=h.1; have h1:=h.2
    by_cases q0:r=0
    · subst q0; exact V.inv.z
    · by_cases q1:r=1
      · subst q1; exact V.inv.o
      · have:=F.at_ (r - 2) (by omega) (by omega)
        rw [hid (r - 2) (by omega) (by omega)] at this
        rw [show r - 2+2=r by omega,show (2:Int)+(r - 2)=r by omega] at this
        exact this
  have hlen:=F.len
  refine ⟨ext_fk (by omega) (fun k k0 k1=>?_),?_⟩
  · have hk:Rf N (k+2):=⟨by omega,by omega⟩
    obtain ⟨a,b,c1,c2,c3,c4,c5⟩:=V.inv.nd (k+2) (k+2) (by omega) (hp _ hk)
    have hlo:=f.lo (k+2) (by omega) hk.2
    have hhi:=f.hi (k+2) (by omega) hk.2
    have h3:=hk.2
    have d1:=hp (nd N (k+2)).l ⟨hlo.1,by omega⟩
    have d2:=hp (nd N (k+2)).h ⟨hhi.1,by omega⟩
    rw [c1] at d1; rw [c2] at d2
    simp only [Option.some.injEq] at d1 d2
    have e3:nd x.1.1 (k+2)=nd N (k+2):=by rw [c5,d1,d2]
    rw [nd_fk,nd_fk,show k+2 - 2=k by omega] at e3
    exact e3
  · have:=V.at_
    rw [hp root hr] at this
    simp only [Option.some.injEq] at this
    exact this.symm
/-- A diagram in canonical form: its nodes are finished in their order. -/
theorem id_fin {vars root:Int} {N:List Fk} {done:List Int} (f:Fm vars N) (hr:Rf N root) (F:Fin_ N done (visR N root).1) (h1:(layF N root).1=N) :
    (done.length:Int)=N.length∧∀ i:Int,0≤i→i < done.length→gi done i=i:=by
  have V:=visR_ok f hr
  generalize hx:visR N root=x at V F
  have e1:(layF N root).1=x.1.1:=by rw [← hx]; rfl
  rw [e1] at h1
  have hlen:=F.len
  rw [h1] at hlen
  refine ⟨by omega,?_⟩
  suffices h:∀ n:Nat,∀ i:Int,0≤i→i < n→i < done.length→gi done i=i from fun i h0 hi=>h done.length i h0 hi hi
  intro n
  induction n with
  | zero=>intro i h0 hn; omega
  | succ n ih =>
    intro i h0 hn hi
    by_cases hlt:i < n
    · exact ih i h0 hlt hi
    have at1:=F.at_ i h0 hi
    generalize hd:gi done i+2=r at at1
    obtain ⟨q1,q2,q3⟩:=V.inv.rf r _ at1
    have hr2:2≤r:=q3.2 (by omega)
    obtain ⟨a,b,c1,c2,c3,c4,c5⟩:=V.inv.nd r _ hr2 at1
    have key:∀ c p:Int,x.1.2 c=some p→p < 2+i→p=c:=fun c p hc hp=>by
      obtain ⟨u1,u2,u3⟩:=V.inv.rf c p hc
      by_cases h2:2≤p
      · have:=F.at_ (p - 2) (by omega) (by omega)
        rw [ih (p - 2) (by omega) (by omega) (by omega),show p - 2+2=p by omega,show (2:Int)+(p - 2)=p by omega] at this
        exact V.inv.inj _ _ _ this hc
      · have hp0:=u2.1
        by_cases p0:p=0
        · subst p0; exact V.inv.inj _ _ _ V.inv.z hc
        · have:p=1:=by omega
          subst this; exact V.inv.inj _ _ _ V.inv.o hc
    rw [h1,key _ _ c1 c3,key _ _ c2 c4] at c5
    have:=f.uq (2+i) r (by omega) (by omega) hr2 q1.2 c5
    omega
end Go.Proofs.Ytkmhjcjpohpiaaa.Bd
namespace Go.Proofs.Ytkmhjcjpohpiaaa.Bd
open Go Go.Vc
open Classical
/-- The entry k of a table over m variables from v on. -/
theorem tab_get (f:(Int→Bool)→Bool):∀ (m:Nat) (v:Int) (e:Int→Bool) (k:Int),0≤k→k < 2 ^ m →
    gb (tab f m v e) k=f (fun i=>if v≤i∧i < v+m then decide (k / 2 ^ (v+m - 1 - i).toNat % 2=1) else e i)
  | 0,v,e,k,h0,h1=>by
    have hk:k=0:=by have h1:k < 1:=h1; omega
    subst hk
    show f e=_
    congr 1; funext i
    rw [if_neg (by omega)]
  | m+1,v,e,k,h0,h1=>by
    have hp:(2:Int) ^ (m+1)=2 ^ m+2 ^ m:=by rw [Int.pow_succ]; omega
    have hp0:=pow2_pos m
    have hl:=tab_len f m (v+1) (up e v false)
    have hl2:((tab f m (v+1) (up e v false)).length:Int)=2 ^ m:=by rw [hl]; simp
    show gb (tab f m (v+1) (up e v false)++tab f m (v+1) (up e v true)) k=_
    by_cases hk:k < 2 ^ m
    · have e1:gb (tab f m (v+1) (up e v false)++tab f m (v+1) (up e v true)) k=gb (tab f m (v+1) (up e v false)) k:=by
        unfold gb
        rw [List.getD_eq_getElem?_getD,List.getD_eq_getElem?_getD,List.getElem?_append_left (by omega)]
      rw [e1,tab_get f m (v+1) _ k h0 hk]
      congr 1; funext i
      by_cases hi:v≤i∧i < v+(m+1:Nat)
      · rw [if_pos hi]
        by_cases hv:i=v
        · subst hv
          rw [if_neg (by omega)]
          unfold up
          rw [if_pos rfl,show (i+((m+1:Nat):Int) - 1 - i).toNat=m by omega,half_bit h0 hp0 (by omega),if_pos hk]; rfl
        · rw [if_pos (by omega),show (v+1+(m:Int) - 1 - i).toNat=(v+((m+1:Nat):Int) - 1 - i).toNat by omega]
      · rw [if_neg hi,if_neg (by omega)]
        unfold up; rw [if_neg (by omega)]
    · have e1:gb (tab f m (v+1) (up e v false)++tab f m (v+1) (up e v true)) k=gb (tab f m (v+1) (up e v true)) (k - 2 ^ m):=by
        unfold gb
        rw [List.getD_eq_getElem?_getD,List.getD_eq_getElem?_getD,List.getElem?_append_right (by omega),show k.toNat - (tab f m (v+1) (up e v false)).length=(k - 2 ^ m).toNat by omega]
      rw [e1,tab_get f m (v+1) _ (k - 2 ^ m) (by omega) (by omega)]
      congr 1; funext i
      by_cases hi:v≤i∧i < v+(m+1:Nat)
      · rw [if_pos hi]
        by_cases hv:i=v
        · subst hv
          rw [if_neg (by omega)]
          unfold up
          rw [if_pos rfl,show (i+((m+1:Nat):Int) - 1 - i).toNat=m by omega,half_bit h0 hp0 (by omega),if_neg hk]; rfl
        · rw [if_pos (by omega),show (v+1+(m:Int) - 1 - i).toNat=(v+((m+1:Nat):Int) - 1 - i).toNat by omega,low_bits (m:=m) (by omega) rfl]
      · rw [if_neg hi,if_neg (by omega)]
        unfold up; rw [if_neg (by omega)]
/-- A table, entry by entry. -/
def tbl (vars:Int) (g:(Int→Bool)→Bool):List Bool:=(List.range (2 ^ vars.toNat)).map (fun k:Nat=>g (asg vars (k:Int)))
theorem tbl_len (vars:Int) (g:(Int→Bool)→Bool):(tbl vars g).length=2 ^ vars.toNat:=by simp [tbl]
theorem tbl_lenI (vars:Int) (g:(Int→Bool)→Bool):((tbl vars g).length:Int)=2 ^ vars.toNat:=by rw [tbl_len]; simp
theorem tbl_get {vars k:Int} {g:(Int→Bool)→Bool} (h0:0≤k) (h1:k < 2 ^ vars.toNat):gb (tbl vars g) k=g (asg vars k):=by
  have h2:k < ((2 ^ vars.toNat:Nat):Int):=by simpa using h1
  unfold tbl
  rw [gb_map_range _ _ _ h0 h2,Int.toNat_of_nonneg h0]
theorem tab_tbl {vars:Int} (h:0≤vars) (g:(Int→Bool)→Bool):tab g vars.toNat 0 (fun _=>false)=tbl vars g:=by
  refine ext_gb (by rw [tab_len,tbl_len]) fun k h0 h1=>?_
  rw [tab_len] at h1
  have h2:k < 2 ^ vars.toNat:=by simpa using h1
  rw [tab_get g _ _ _ k h0 h2,tbl_get h0 h2]
  congr 1; funext i
  unfold asg
  by_cases hi:0≤i∧i < 0+(vars.toNat:Int)
  · rw [if_pos hi]
    have:(0≤i∧i < vars∧k / 2 ^ (vars - 1 - i).toNat % 2=1) ↔ k / 2 ^ (0+(vars.toNat:Int) - 1 - i).toNat % 2=1:=by
      rw [show (0+(vars.toNat:Int) - 1 - i).toNat=(vars - 1 - i).toNat by omega]
      exact ⟨fun q=>q.2.2,fun q=>⟨by omega,by omega,q⟩⟩
    exact (decide_eq_decide.2 this).symm
  · rw [if_neg hi]
    exact (decide_eq_false (by omega)).symm
/-- What is built of the table of a function. -/
theorem prt_tbl {vars:Int} (h:0≤vars) (g:(Int→Bool)→Bool):prt vars.toNat [] 0 (tbl vars g)=cF vars g:=by
  unfold cF; rw [tab_tbl h]
/-- The diagram with a truth table. -/
def bldD (vars:Int) (t:List Bool):Dg:=⟨vars,(prt vars.toNat [] 0 t).1,(prt vars.toNat [] 0 t).2⟩
theorem bldD_tbl {vars:Int} (h:0≤vars) (g:(Int→Bool)→Bool):bldD vars (tbl vars g)=⟨vars,(cF vars g).1,(cF vars g).2⟩:=by
  unfold bldD; rw [prt_tbl h]
/-- The truth table of a diagram. -/
def tbD (A:Dg):List Bool:=tbl A.v (fun e=>vl A.N e A.r)
/-- A function that looks at the variables alone. -/
def Dep (vars:Int) (g:(Int→Bool)→Bool):Prop:=∀ e e':Int→Bool,(∀ i,0≤i→i < vars→e i=e' i)→g e=g e'
theorem vl_dep {vars r:Int} {N:List Fk} (f:Fm vars N) (hv:0≤vars) (hr:Rf N r):Dep vars (fun e=>vl N e r):=fun e e' h=>by
  have hr1:=hr.1
  refine vl_congr f r.toNat r hr (by omega) fun i hi hi2=>h i ?_ hi2
  have:=f.lev_nn hv hr; omega
end Go.Proofs.Ytkmhjcjpohpiaaa.Bd
namespace Go.Proofs.Ytkmhjcjpohpiaaa.Bd
open Go Go.Vc
open Classical
theorem Dep.up {vars i:Int} {b:Bool} {g:(Int→Bool)→Bool} (h:Dep vars g):Dep vars (fun e=>g (up e i b)):=fun e e' he=>h _ _ fun j h0 h1=>by
  unfold Proofs.Ytkmhjcjpohpiaaa.up; rw [he j h0 h1]
theorem Dep.two {vars:Int} {g1 g2:(Int→Bool)→Bool} (F:Bool→Bool→Bool) (h1:Dep vars g1) (h2:Dep vars g2):Dep vars (fun e=>F (g1 e) (g2 e)):=fun e e' he=>by
  show F (g1 e) (g2 e)=F (g1 e') (g2 e'); rw [h1 e e' he,h2 e e' he]
theorem vld2 {A B:Dg} (ha:chkC A.v A.N A.r=0) (hb:chkC B.v B.N B.r=0):Vld [A,B]:=fun i h0 h1=>by
  have h1:i < ((2:Nat):Int):=h1
  rcases (show i=0 ∨ i=1 by omega) with rfl | rfl
  · exact chk_ok.1 ha
  · exact chk_ok.1 hb
theorem vl_asL {vars k r:Int} {N:List Fk} (f:Fm vars N) (hv:0≤vars) (hr:Rf N r):vl N (fun i=>gb (asL vars k) i) r=vl N (asg vars k) r:=vl_dep f hv hr _ _ fun i h0 h1=>asL_gb h0 h1
end Go.Proofs.Ytkmhjcjpohpiaaa.Bd
namespace Go.Proofs.Ytkmhjcjpohpiaaa.Bd
open Go Go.Vc
open Classical
/-- The canonical diagram of a function. -/
def fD (vars:Int) (g:(Int→Bool)→Bool):Dg:=⟨vars,(cF vars g).1,(cF vars g).2⟩
/-- The function of a diagram. -/
def gA (A:Dg):(Int→Bool)→Bool:=fun e=>vl A.N e A.r
theorem bld_fD {vars:Int} (h:0≤vars) (g:(Int→Bool)→Bool):bldD vars (tbl vars g)=fD vars g:=bldD_tbl h g
theorem fD_ok {vars:Int} (h0:0≤vars) (h12:vars≤12) (g:(Int→Bool)→Bool):dOk (fD vars g):=cF_ok h0 (by omega) g (by
  have:=cF_len vars g
  have:2 ^ vars.toNat≤2 ^ 12:=Nat.pow_le_pow_right (by omega) (by omega)
  omega)
/-- A function that looks at the variables alone is given by its table. -/
theorem dep_tbl {vars:Int} {g g':(Int→Bool)→Bool} (h0:0≤vars) (hg:Dep vars g) (hg':Dep vars g') (h:tbl vars g=tbl vars g'):g=g':=by
  funext e
  have hl:(((List.range vars.toNat).map (fun j:Nat=>e (j:Int))).length:Int)=vars:=by simp; omega
  have hb:=nm_bd ((List.range vars.toNat).map (fun j:Nat=>e (j:Int))) ((List.range vars.toNat).map (fun j:Nat=>e (j:Int))).length
  have ha:=asg_nm hl
  generalize hk:nm_ ((List.range vars.toNat).map (fun j:Nat=>e (j:Int))) ((List.range vars.toNat).map (fun j:Nat=>e (j:Int))).length=k at hb ha
  have hlen:((List.range vars.toNat).map (fun j:Nat=>e (j:Int))).length=vars.toNat:=by simp
  rw [hlen] at hb
  have he:∀ i:Int,0≤i→i < vars→e i=asg vars k i:=fun i i0 i1=>by
    rw [ha]
    show e i=decide _
    rw [gb_map_range _ _ _ i0 (by omega),Int.toNat_of_nonneg i0]
    cases e i
    · exact (decide_eq_false (by simp)).symm
    · exact (decide_eq_true ⟨i0,i1,rfl⟩).symm
  have e1:=tbl_get (g:=g) hb.1 hb.2
  have e2:=tbl_get (g:=g') hb.1 hb.2
  rw [h] at e1
  rw [hg e _ he,hg' e _ he,← e1,← e2]
theorem gA_fD {vars:Int} (h0:0≤vars) {g:(Int→Bool)→Bool} (hg:Dep vars g):gA (fD vars g)=g:=by
  refine dep_tbl h0 (vl_dep (cF_form h0 g).1 h0 (cF_form h0 g).rf) hg ?_
  rw [← tab_tbl h0,← tab_tbl h0]
  exact cF_tab h0 g _
noncomputable def tbE (A:Dg):Int:=if chkC A.v A.N A.r ≠ 0 then 1 else if 12 < A.v then 4 else 0
noncomputable def tbT (A:Dg):List Bool:=if tbE A=0 then tbD A else []
theorem tb_1 {A:Dg} (h:chkC A.v A.N A.r ≠ 0):tbE A=1∧tbT A=[]:=by
  have e:tbE A=1:=if_pos h
  exact ⟨e,by unfold tbT; rw [if_neg (by omega)]⟩
theorem tb_4 {A:Dg} (h:chkC A.v A.N A.r=0) (h2:12 < A.v):tbE A=4∧tbT A=[]:=by
  have e:tbE A=4:=by unfold tbE; rw [if_neg (by omega),if_pos h2]
  exact ⟨e,by unfold tbT; rw [if_neg (by omega)]⟩
theorem tb_0 {A:Dg} (h:chkC A.v A.N A.r=0) (h2:¬ 12 < A.v):tbE A=0∧tbT A=tbD A:=by
  have e:tbE A=0:=by unfold tbE; rw [if_neg (by omega),if_neg h2]
  exact ⟨e,by unfold tbT; rw [if_pos e]⟩
noncomputable def ftE (vars:Int) (t:List Bool):Int:=if vars < 0 ∨ 12 < vars then 3 else if t.length ≠ 2 ^ vars.toNat then 2 else 0
noncomputable def ftD (vars:Int) (t:List Bool):Dg:=if ftE vars t=0 then bldD vars t else dg0
theorem ft_3 {vars:Int} {t:List Bool} (h:vars < 0 ∨ 12 < vars):ftE vars t=3∧ftD vars t=dg0:=by
  have e:ftE vars t=3:=if_pos h
  exact ⟨e,by unfold ftD; rw [if_neg (by omega)]⟩
theorem pow_int (n:Nat):((2 ^ n:Nat):Int)=(2:Int) ^ n:=by simp
theorem ft_2 {vars:Int} {t:List Bool} (h:¬ (vars < 0 ∨ 12 < vars)) (h2:(t.length:Int) ≠ 2 ^ vars.toNat):ftE vars t=2∧ftD vars t=dg0:=by
  have e:ftE vars t=2:=by
    unfold ftE
    rw [if_neg h,if_pos]
    intro q
    rw [q,pow_int] at h2
    exact h2 rfl
  exact ⟨e,by unfold ftD; rw [if_neg (by omega)]⟩
theorem ft_len {vars:Int} {t:List Bool} (h2:(t.length:Int)=2 ^ vars.toNat):t.length=2 ^ vars.toNat:=by
  rw [← pow_int] at h2
  omega
theorem ft_0 {vars:Int} {t:List Bool} (h:¬ (vars < 0 ∨ 12 < vars)) (h2:(t.length:Int)=2 ^ vars.toNat):ftE vars t=0∧ftD vars t=bldD vars t:=by
  have e:ftE vars t=0:=by
    unfold ftE
    rw [if_neg h,if_neg (by rw [ft_len h2]; simp)]
  exact ⟨e,by unfold ftD; rw [if_pos e]⟩
theorem ok2 {A B:Dg} (h:vE [A,B]=0):dOk A∧dOk B∧B.v=A.v:=by
  obtain ⟨a,b⟩:=vE_ok.1 h
  exact ⟨a 0 (by omega) (by show (0:Int) < ((2:Nat):Int); omega),a 1 (by omega) (by show (1:Int) < ((2:Nat):Int); omega),b 1 (by omega) (by show (1:Int) < ((2:Nat):Int); omega)⟩
end Go.Proofs.Ytkmhjcjpohpiaaa.Bd
