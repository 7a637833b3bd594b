/- Wm. -/
import Derived.Test.YtkmhjcjpohpiaaaWb
namespace Go.Proofs.Ytkmhjcjpohpiaaa
open Go Go.Vc
open Classical
structure Fk where
  v:Int
  l:Int
  h:Int
theorem Fk.eq {a b:Fk} (h1:a.v=b.v) (h2:a.l=b.l) (h3:a.h=b.h):a=b:=by
  cases a; cases b; simp at h1 h2 h3; subst h1; subst h2; subst h3; rfl
instance:DecidableEq Fk:=fun a b=>decidable_of_iff (a.v=b.v∧a.l=b.l∧a.h=b.h) ⟨fun h=>Fk.eq h.1 h.2.1 h.2.2,fun h=>by subst h; exact ⟨rfl,rfl,rfl⟩⟩
/-- A graph: which references are leaves, the rank of a leaf, the decision of another one. -/
structure Gph where
  ok:Int→Prop
  lf:Int→Prop
  rk:Int→Int
  nd:Int→Fk
  mu:Int→Nat
noncomputable def lev (vars:Int) (G:Gph) (r:Int):Int:=if G.lf r then vars else (G.nd r).v
/-- A graph that is reduced and ordered. -/
structure GRed (vars:Int) (G:Gph):Prop where
  vr:∀ r,G.ok r→¬ G.lf r→0≤(G.nd r).v∧(G.nd r).v < vars
  ne:∀ r,G.ok r→¬ G.lf r→(G.nd r).l ≠ (G.nd r).h
  lo:∀ r,G.ok r→¬ G.lf r→G.ok (G.nd r).l∧G.mu (G.nd r).l < G.mu r∧(G.nd r).v < lev vars G (G.nd r).l
  hi:∀ r,G.ok r→¬ G.lf r→G.ok (G.nd r).h∧G.mu (G.nd r).h < G.mu r∧(G.nd r).v < lev vars G (G.nd r).h
  uq:∀ r s,G.ok r→¬ G.lf r→G.ok s→¬ G.lf s→G.nd r=G.nd s→r=s
/-- .. with K ranks, each leaf one of its own. -/
structure GOk (vars K:Int) (G:Gph):Prop extends GRed vars G where
  kr:∀ r,G.ok r→G.lf r→0≤G.rk r∧G.rk r < K
  kq:∀ r s,G.ok r→G.lf r→G.ok s→G.lf s→G.rk r=G.rk s→r=s
theorem lev_lf {vars r:Int} {G:Gph} (h:G.lf r):lev vars G r=vars:=if_pos h
theorem lev_nd {vars r:Int} {G:Gph} (h:¬ G.lf r):lev vars G r=(G.nd r).v:=if_neg h
section
variable {vars:Int} {G:Gph} (f:GRed vars G)
include f
theorem GRed.lev_le {r:Int} (h:G.ok r):lev vars G r≤vars:=by
  by_cases h2:G.lf r
  · rw [lev_lf h2]; omega
  · rw [lev_nd h2]; have:=f.vr r h h2; omega
theorem GRed.lev_nn {r:Int} (hv:0≤vars) (h:G.ok r):0≤lev vars G r:=by
  by_cases h2:G.lf r
  · rw [lev_lf h2]; exact hv
  · rw [lev_nd h2]; exact (f.vr r h h2).1
theorem GRed.lev_lt {r:Int} (h:G.ok r) (h2:lev vars G r=vars):G.lf r:=by
  refine Classical.byContradiction fun q=>?_
  rw [lev_nd q] at h2
  have:=f.vr r h q; omega
end
noncomputable def gevF (G:Gph) (e:Int→Bool):Nat→Int→Int
  | 0,r=>G.rk r
  | k+1,r=>if G.lf r then G.rk r else gevF G e k (if e (G.nd r).v then (G.nd r).h else (G.nd r).l)
noncomputable def gev (G:Gph) (e:Int→Bool) (r:Int):Int:=gevF G e (G.mu r) r
theorem gev_lf {G:Gph} {e:Int→Bool} {r:Int} (h:G.lf r):gev G e r=G.rk r:=by
  unfold gev
  cases G.mu r with
  | zero=>rfl
  | succ k=>exact if_pos h
theorem gevF_fuel {vars:Int} {G:Gph} (f:GRed vars G) (e:Int→Bool):∀ (k j:Nat) (r:Int),G.ok r→G.mu r≤k→G.mu r≤j→gevF G e k r=gevF G e j r:=by
  intro k
  induction k with
  | zero =>
    intro j r h hk hj
    have hl:G.lf r:=Classical.byContradiction fun q=>by have:=(f.lo r h q).2.1; omega
    cases j with
    | zero=>rfl
    | succ j=>exact (if_pos hl).symm
  | succ k ih =>
    intro j r h hk hj
    by_cases hl:G.lf r
    · rw [show gevF G e (k+1) r=G.rk r from if_pos hl]
      cases j with
      | zero=>rfl
      | succ j=>exact (if_pos hl).symm
    · have hlo:=f.lo r h hl
      have hhi:=f.hi r h hl
      obtain ⟨j,rfl⟩:∃ q,j=q+1:=⟨j - 1,by omega⟩
      show (if G.lf r then G.rk r else gevF G e k (if e (G.nd r).v then (G.nd r).h else (G.nd r).l))=(if G.lf r then G.rk r else gevF G e j (if e (G.nd r).v then (G.nd r).h else (G.nd r).l))
      rw [if_neg hl,if_neg hl]
      refine ih j _ ?_ ?_ ?_
      · split
        · exact hhi.1
        · exact hlo.1
      · split <;> omega
      · split <;> omega
theorem gev_step {vars:Int} {G:Gph} (f:GRed vars G) {e:Int→Bool} {r:Int} (h:G.ok r) (hl:¬ G.lf r):gev G e r=gev G e (if e (G.nd r).v then (G.nd r).h else (G.nd r).l):=by
  have hlo:=f.lo r h hl
  have hhi:=f.hi r h hl
  obtain ⟨k,hk⟩:∃ k,G.mu r=k+1:=⟨G.mu r - 1,by omega⟩
  unfold gev
  rw [hk]
  show (if G.lf r then G.rk r else gevF G e k (if e (G.nd r).v then (G.nd r).h else (G.nd r).l))=_
  rw [if_neg hl]
  refine gevF_fuel f e _ _ _ ?_ ?_ ?_
  · split
    · exact hhi.1
    · exact hlo.1
  · split <;> omega
  · split <;> omega
theorem gev_congr {vars:Int} {G:Gph} (f:GRed vars G) {e e':Int→Bool}:∀ (k:Nat) (r:Int),G.ok r→G.mu r≤k→(∀ i,lev vars G r≤i→i < vars→e i=e' i)→gev G e r=gev G e' r
  | 0,r,h,hk,he=>by
    have hl:G.lf r:=Classical.byContradiction fun q=>by have:=(f.lo r h q).2.1; omega
    rw [gev_lf hl,gev_lf hl]
  | k+1,r,h,hk,he=>by
    by_cases hl:G.lf r
    · rw [gev_lf hl,gev_lf hl]
    · have hlo:=f.lo r h hl
      have hhi:=f.hi r h hl
      have hv:=f.vr r h hl
      rw [lev_nd hl] at he
      rw [gev_step f h hl,gev_step f h hl,he _ (by omega) hv.2]
      refine gev_congr f k _ ?_ ?_ fun i hi=>he i ?_
      · split
        · exact hhi.1
        · exact hlo.1
      · split <;> omega
      · split at hi <;> omega
def up (e:Int→Bool) (v:Int) (b:Bool):Int→Bool:=fun i=>if i=v then b else e i
def tab {α:Type} (f:(Int→Bool)→α):Nat→Int→(Int→Bool)→List α
  | 0,_,e=>[f e]
  | m+1,v,e=>tab f m (v+1) (up e v false)++tab f m (v+1) (up e v true)
theorem tab_len {α:Type} (f:(Int→Bool)→α):∀ (m:Nat) (v:Int) (e:Int→Bool),(tab f m v e).length=2 ^ m
  | 0,_,_=>rfl
  | m+1,v,e=>by
    show (tab f m (v+1) (up e v false)++tab f m (v+1) (up e v true)).length=_
    rw [List.length_append,tab_len f m,tab_len f m,Nat.pow_succ]; omega
theorem tab_congr {α:Type} {f g:(Int→Bool)→α}:∀ (m:Nat) (v:Int) (e:Int→Bool),(∀ e',(∀ i,i < v→e' i=e i)→f e' = g e')→tab f m v e=tab g m v e
  | 0,v,e,h=>by show [f e]=[g e]; rw [h e fun _ _=>rfl]
  | m+1,v,e,h=>by
    show tab f m (v+1) (up e v false)++tab f m (v+1) (up e v true)=tab g m (v+1) (up e v false)++tab g m (v+1) (up e v true)
    have key:∀ b,tab f m (v+1) (up e v b)=tab g m (v+1) (up e v b):=fun b=>tab_congr m (v+1) _ fun e' he=>h e' fun i hi=>by
      rw [he i (by omega)]; unfold up; rw [if_neg (by omega)]
    rw [key,key]
theorem tab_map {α β:Type} (h:α→β) (f:(Int→Bool)→α):∀ (m:Nat) (v:Int) (e:Int→Bool),(tab f m v e).map h=tab (fun e=>h (f e)) m v e
  | 0,_,_=>rfl
  | m+1,v,e=>by
    show (tab f m (v+1) (up e v false)++tab f m (v+1) (up e v true)).map h=_
    rw [List.map_append,tab_map h f m,tab_map h f m]; rfl
def ond (K:Int) (O:List Fk) (p:Int):Fk:=O.getD (p - K).toNat ⟨0,0,0⟩
theorem ond_app {K p:Int} {O X:List Fk} (_h0:K≤p) (h:p < K+O.length):ond K (O++X) p=ond K O p:=by
  unfold ond
  rw [List.getD_eq_getElem?_getD,List.getD_eq_getElem?_getD,List.getElem?_append_left (by omega)]
theorem ond_last {K:Int} {O:List Fk} {n:Fk}:ond K (O++[n]) (K+O.length)=n:=by
  unfold ond
  rw [show (K+(O.length:Int) - K).toNat=O.length by omega,List.getD_eq_getElem?_getD,List.getElem?_append_right (Nat.le_refl _),Nat.sub_self]; rfl
abbrev Ly:=List Fk × (Int→Option Int)
noncomputable def vis (K:Int) (G:Gph):Nat→Int→Ly→Ly × Int
  | 0,_,s=>(s,0)
  | k+1,r,s=>match s.2 r with
    | some p=>(s,p)
    | none=>((((vis K G k (G.nd r).h (vis K G k (G.nd r).l s).1).1.1++[⟨(G.nd r).v,(vis K G k (G.nd r).l s).2,(vis K G k (G.nd r).h (vis K G k (G.nd r).l s).1).2⟩]),
        setF (vis K G k (G.nd r).h (vis K G k (G.nd r).l s).1).1.2 r (K+(vis K G k (G.nd r).h (vis K G k (G.nd r).l s).1).1.1.length)),K+(vis K G k (G.nd r).h (vis K G k (G.nd r).l s).1).1.1.length)
/-- Where the leaves lie from the start. -/
noncomputable def pl0 (G:Gph):Int→Option Int:=fun r=>if G.ok r∧G.lf r then some (G.rk r) else none
structure LyI (K:Int) (G:Gph) (s:Ly):Prop where
  lf:∀ r,G.ok r→G.lf r→s.2 r=some (G.rk r)
  rf:∀ r p:Int,s.2 r=some p→G.ok r∧(0≤p∧p < K+s.1.length)∧(¬ G.lf r ↔ K≤p)
  nd:∀ r p:Int,¬ G.lf r→s.2 r=some p→∃ a b,s.2 (G.nd r).l=some a∧s.2 (G.nd r).h=some b∧a < p∧b < p∧ond K s.1 p=⟨(G.nd r).v,a,b⟩
  inj:∀ r q p:Int,s.2 r=some p→s.2 q=some p→r=q
  sur:∀ p:Int,K≤p→p < K+s.1.length→∃ r,s.2 r=some p
theorem pl0_some {G:Gph} {r p:Int} (h:pl0 G r=some p):(G.ok r∧G.lf r)∧p=G.rk r:=by
  unfold pl0 at h
  by_cases q:G.ok r∧G.lf r
  · rw [if_pos q] at h; simp at h; exact ⟨q,h.symm⟩
  · rw [if_neg q] at h; cases h
theorem lyI0 {vars K:Int} {G:Gph} (f:GOk vars K G):LyI K G ([],pl0 G) where
  lf:=fun r h hl=>if_pos ⟨h,hl⟩
  rf:=fun r p h=>by
    obtain ⟨⟨h1,h2⟩,rfl⟩:=pl0_some h
    have:=f.kr r h1 h2
    refine ⟨h1,⟨this.1,?_⟩,fun q=>absurd h2 q,fun q=>by omega⟩
    show _ < K+((0:Nat):Int); omega
  nd:=fun r p hl h=>absurd (pl0_some h).1.2 hl
  inj:=fun r q p h1 h2=>by
    obtain ⟨⟨a,b⟩,e⟩:=pl0_some h1
    obtain ⟨⟨c,d⟩,e2⟩:=pl0_some h2
    exact f.kq r q a b c d (by omega)
  sur:=fun p h0 h1=>by have h1:p < K+((0:Nat):Int):=h1; omega
structure VisOk (K:Int) (G:Gph) (r:Int) (s:Ly) (x:Ly × Int):Prop where
  inv:LyI K G x.1
  at_:x.1.2 r=some x.2
  ext:∀ q p:Int,s.2 q=some p→x.1.2 q=some p
  only:∀ q:Int,q ≠ r→G.mu r≤G.mu q→x.1.2 q=s.2 q
  len:s.1.length≤x.1.1.length
theorem vis_hit {K:Int} {G:Gph} {k:Nat} {r p:Int} {s:Ly} (h:s.2 r=some p):vis K G (k+1) r s=(s,p):=by
  unfold vis; rw [h]
theorem vis_ok {vars K:Int} {G:Gph} (f:GOk vars K G) (K0:0≤K):∀ (k:Nat) (r:Int) (s:Ly),G.ok r→G.mu r < k→LyI K G s→VisOk K G r s (vis K G k r s)
  | 0,r,s,h,hk,_=>by omega
  | k+1,r,s,h,hk,hI=>by
    cases hs:s.2 r with
    | some p=>rw [vis_hit hs]; exact ⟨hI,hs,fun _ _ h=>h,fun _ _ _=>rfl,Nat.le_refl _⟩
    | none =>
      have h2:¬ G.lf r:=fun q=>by rw [hI.lf r h q] at hs; cases hs
      have hl:=f.lo r h h2
      have hh:=f.hi r h h2
      have A:=vis_ok f K0 k (G.nd r).l s hl.1 (by omega) hI
      have B:=vis_ok f K0 k (G.nd r).h (vis K G k (G.nd r).l s).1 hh.1 (by omega) A.inv
      have e:vis K G (k+1) r s=(((((vis K G k (G.nd r).h (vis K G k (G.nd r).l s).1).1.1++[⟨(G.nd r).v,(vis K G k (G.nd r).l s).2,(vis K G k (G.nd r).h (vis K G k (G.nd r).l s).1).2⟩]),
        setF (vis K G k (G.nd r).h (vis K G k (G.nd r).l s).1).1.2 r (K+(vis K G k (G.nd r).h (vis K G k (G.nd r).l s).1).1.1.length)),K+(vis K G k (G.nd r).h (vis K G k (G.nd r).l s).1).1.1.length):Ly × Int):=by
        rw [vis,hs]
      rw [e]
      generalize (vis K G k (G.nd r).l s)=x at A B
      generalize (vis K G k (G.nd r).h x.1)=y at B
      have hat:=B.ext _ _ A.at_
      have hrl:r ≠ (G.nd r).l:=fun z=>by have:=hl.2.1; rw [← z] at this; omega
      have hrh:r ≠ (G.nd r).h:=fun z=>by have:=hh.2.1; rw [← z] at this; omega
      have hnone:y.1.2 r=none:=by rw [B.only r hrh (by omega),A.only r hrl (by omega),hs]
      have ra:=(B.inv.rf _ _ hat).2.1
      have rb:=(B.inv.rf _ _ B.at_).2.1
      have hlen:(y.1.1++[(⟨(G.nd r).v,x.2,y.2⟩:Fk)]).length=y.1.1.length+1:=by simp
      have oth:∀ {q p:Int},y.1.2 q=some p→setF y.1.2 r (K+(y.1.1.length:Int)) q=some p:=fun {q p} hq=>by
        rw [setF_other]; exact hq
        intro e; subst e; rw [hnone] at hq; cases hq
      have cases_:∀ {q p:Int},setF y.1.2 r (K+(y.1.1.length:Int)) q=some p→(q=r∧p=K+(y.1.1.length:Int)) ∨ (q ≠ r∧y.1.2 q=some p):=fun {q p} hq=>by
        by_cases e:q=r
        · subst e; rw [setF_same] at hq; simp at hq; exact Or.inl ⟨rfl,hq.symm⟩
        · rw [setF_other e] at hq; exact Or.inr ⟨e,hq⟩
      refine ⟨⟨fun q hq hql=>oth (B.inv.lf q hq hql),fun q p hq=>?_,fun q p hq2 hq=>?_,fun q q' p hq hq'=>?_,fun p hp0 hp=>?_⟩,setF_same,fun q p hq=>oth (B.ext _ _ (A.ext _ _ hq)),fun q hne hq=>?_,?_⟩
      · rcases cases_ hq with ⟨rfl,rfl⟩ | ⟨_,hq⟩
        · refine ⟨h,⟨by omega,?_⟩,fun _=>by omega,fun _=>h2⟩
          show _ < K+(((y.1.1++[(⟨(G.nd q).v,x.2,y.2⟩:Fk)]).length:Nat):Int)
          rw [hlen]; omega
        · obtain ⟨a,b,c⟩:=B.inv.rf q p hq
          refine ⟨a,⟨b.1,?_⟩,c⟩
          have:=b.2
          show _ < K+(((y.1.1++[(⟨(G.nd r).v,x.2,y.2⟩:Fk)]).length:Nat):Int)
          rw [hlen]; omega
      · rcases cases_ hq with ⟨rfl,rfl⟩ | ⟨_,hq⟩
        · exact ⟨x.2,y.2,oth hat,oth B.at_,ra.2,rb.2,ond_last⟩
        · obtain ⟨a,b,c1,c2,c3,c4,c5⟩:=B.inv.nd q p hq2 hq
          have hp:=(B.inv.rf q p hq)
          exact ⟨a,b,oth c1,oth c2,c3,c4,by rw [← c5]; exact ond_app (hp.2.2.1 hq2) hp.2.1.2⟩
      · rcases cases_ hq with ⟨rfl,rfl⟩ | ⟨n1,hq⟩
        · rcases cases_ hq' with ⟨rfl,_⟩ | ⟨_,hq'⟩
          · rfl
          · have:=(B.inv.rf _ _ hq').2.1.2; omega
        · rcases cases_ hq' with ⟨e1,e2⟩ | ⟨_,hq2⟩
          · have:=(B.inv.rf _ _ hq).2.1.2; omega
          · exact B.inv.inj _ _ _ hq hq2
      · have h1:p < K+(((y.1.1++[(⟨(G.nd r).v,x.2,y.2⟩:Fk)]).length:Nat):Int):=hp
        rw [hlen] at h1
        by_cases e:p=K+(y.1.1.length:Int)
        · exact ⟨r,by rw [e]; exact setF_same⟩
        · obtain ⟨q,hq⟩:=B.inv.sur p hp0 (by omega)
          exact ⟨q,oth hq⟩
      · show setF y.1.2 r _ q=_
        have n1:q ≠ (G.nd r).l:=fun z=>by have:=hl.2.1; rw [← z] at this; omega
        have n2:q ≠ (G.nd r).h:=fun z=>by have:=hh.2.1; rw [← z] at this; omega
        rw [setF_other hne,B.only q n2 (by omega),A.only q n1 (by omega)]
      · have:=A.len; have:=B.len
        show _≤(y.1.1++[(⟨(G.nd r).v,x.2,y.2⟩:Fk)]).length
        rw [hlen]; omega
def fx (n:Fk):List Fk→Option Nat
  | []=>none
  | a :: r=>if a=n then some 0 else (fx n r).map (·+1)
theorem fx_some {n:Fk}:∀ {O:List Fk} {i:Nat},fx n O=some i→i < O.length∧O.getD i ⟨0,0,0⟩=n∧∀ j:Nat,j < i→O.getD j ⟨0,0,0⟩ ≠ n
  | [],_,h=>by cases h
  | a :: r,i,h=>by
    unfold fx at h
    by_cases e:a=n
    · rw [if_pos e] at h; simp at h; subst h; exact ⟨by simp,by simpa using e,fun j hj=>by omega⟩
    · rw [if_neg e] at h
      cases hr:fx n r with
      | none=>rw [hr] at h; cases h
      | some j =>
        rw [hr] at h; simp at h; subst h
        obtain ⟨h1,h2,h3⟩:=fx_some hr
        refine ⟨by simpa using h1,by simpa using h2,fun k hk=>?_⟩
        cases k with
        | zero=>simpa using e
        | succ k=>simpa using h3 k (by omega)
theorem fx_none {n:Fk}:∀ {O:List Fk},fx n O=none→∀ i:Nat,i < O.length→O.getD i ⟨0,0,0⟩ ≠ n
  | [],_,i,hi=>by simp at hi
  | a :: r,h,i,hi=>by
    unfold fx at h
    by_cases e:a=n
    · rw [if_pos e] at h; cases h
    · rw [if_neg e] at h
      cases hr:fx n r with
      | some j=>rw [hr] at h; cases h
      | none =>
        cases i with
        | zero=>simpa using e
        | succ i=>simpa using fx_none hr i (by simpa using hi)
def prt (K:Int):Nat→List Fk→Int→List Int→List Fk × Int
  | 0,O,_,t=>(O,t.getD 0 0)
  | m+1,O,v,t=>if (prt K m O (v+1) (t.take (2 ^ m))).2=(prt K m (prt K m O (v+1) (t.take (2 ^ m))).1 (v+1) (t.drop (2 ^ m))).2 then ((prt K m (prt K m O (v+1) (t.take (2 ^ m))).1 (v+1) (t.drop (2 ^ m))).1,(prt K m O (v+1) (t.take (2 ^ m))).2)
    else match fx ⟨v,(prt K m O (v+1) (t.take (2 ^ m))).2,(prt K m (prt K m O (v+1) (t.take (2 ^ m))).1 (v+1) (t.drop (2 ^ m))).2⟩ (prt K m (prt K m O (v+1) (t.take (2 ^ m))).1 (v+1) (t.drop (2 ^ m))).1 with
      | some i=>((prt K m (prt K m O (v+1) (t.take (2 ^ m))).1 (v+1) (t.drop (2 ^ m))).1,K+(i:Int))
      | none=>((prt K m (prt K m O (v+1) (t.take (2 ^ m))).1 (v+1) (t.drop (2 ^ m))).1++[⟨v,(prt K m O (v+1) (t.take (2 ^ m))).2,(prt K m (prt K m O (v+1) (t.take (2 ^ m))).1 (v+1) (t.drop (2 ^ m))).2⟩],K+((prt K m (prt K m O (v+1) (t.take (2 ^ m))).1 (v+1) (t.drop (2 ^ m))).1.length:Int))
theorem prt_step {K:Int} {m:Nat} {O:List Fk} {v:Int} {t1 t2:List Int} (h1:t1.length=2 ^ m) {A B:List Fk} {a b:Int} (ha:prt K m O (v+1) t1=(A,a)) (hb:prt K m A (v+1) t2=(B,b)) :
    prt K (m+1) O v (t1++t2)=if a=b then (B,a) else match fx ⟨v,a,b⟩ B with | some i=>(B,K+(i:Int)) | none=>(B++[⟨v,a,b⟩],K+(B.length:Int)):=by
  have e1:(t1++t2).take (2 ^ m)=t1:=by rw [← h1]; simp
  have e2:(t1++t2).drop (2 ^ m)=t2:=by rw [← h1]; simp
  rw [prt,e1,e2,ha]
  simp only [hb]
theorem prt_len {K:Int}:∀ (m:Nat) (O:List Fk) (v:Int) (t:List Int),O.length≤(prt K m O v t).1.length∧(prt K m O v t).1.length+1≤O.length+2 ^ m
  | 0,O,v,t=>by show O.length≤O.length∧O.length+1≤O.length+1; omega
  | m+1,O,v,t=>by
    have a:=prt_len (K:=K) m O (v+1) (t.take (2 ^ m))
    have b:=prt_len (K:=K) m (prt K m O (v+1) (t.take (2 ^ m))).1 (v+1) (t.drop (2 ^ m))
    have p:2 ^ (m+1)=2 ^ m+2 ^ m:=by rw [Nat.pow_succ]; omega
    rw [prt]
    split
    · show _≤(prt K m (prt K m O (v+1) (t.take (2 ^ m))).1 (v+1) (t.drop (2 ^ m))).1.length∧(prt K m (prt K m O (v+1) (t.take (2 ^ m))).1 (v+1) (t.drop (2 ^ m))).1.length+1≤_
      omega
    · split
      · show _≤(prt K m (prt K m O (v+1) (t.take (2 ^ m))).1 (v+1) (t.drop (2 ^ m))).1.length∧(prt K m (prt K m O (v+1) (t.take (2 ^ m))).1 (v+1) (t.drop (2 ^ m))).1.length+1≤_
        omega
      · simp only [List.length_append,List.length_cons,List.length_nil]; omega
/-- The walk of the graph and the walk of the table make the same diagram. -/
theorem canon {vars K:Int} {G:Gph} (f:GOk vars K G) (K0:0≤K):∀ (m:Nat) (v:Int) (r:Int) (s:Ly) (e:Int→Bool) (k:Nat),LyI K G s→G.ok r→v=vars - m→v≤lev vars G r→G.mu r < k →
    prt K m s.1 v (tab (fun e=>gev G e r) m v e)=((vis K G k r s).1.1,(vis K G k r s).2)
  | 0,v,r,s,e,k,hI,hr,hv,hl,hk=>by
    have hc:=f.lev_lt hr (by have:=f.lev_le hr; omega)
    obtain ⟨k,rfl⟩:∃ j,k=j+1:=⟨k - 1,by omega⟩
    rw [vis_hit (hI.lf r hr hc)]
    show (s.1,gev G e r)=_
    rw [gev_lf hc]
  | m+1,v,r,s,e,k,hI,hr,hv,hl,hk=>by
    have V:=vis_ok f K0 k r s hr hk hI
    have h1:v+1=vars - m:=by omega
    obtain ⟨k,rfl⟩:∃ j,k=j+1:=⟨k - 1,by omega⟩
    show prt K (m+1) s.1 v (tab _ m (v+1) (up e v false)++tab _ m (v+1) (up e v true))=_
    by_cases hlt:v < lev vars G r
    · have A:=canon f K0 m (v+1) r s (up e v false) (k+1) hI hr h1 (by omega) hk
      have B:=canon f K0 m (v+1) r (vis K G (k+1) r s).1 (up e v true) (k+1) V.inv hr h1 (by omega) hk
      rw [vis_hit V.at_] at B
      rw [prt_step (tab_len _ _ _ _) A B,if_pos rfl]
    · have hlv:lev vars G r=v:=by omega
      have h2:¬ G.lf r:=fun q=>by rw [lev_lf q] at hlv; omega
      rw [lev_nd h2] at hlv
      have hlo:=f.lo r hr h2
      have hhi:=f.hi r hr h2
      have t1:tab (fun e=>gev G e r) m (v+1) (up e v false)=tab (fun e=>gev G e (G.nd r).l) m (v+1) (up e v false):=tab_congr m _ _ fun e' he=>by
        have:e' v=false:=by rw [he v (by omega)]; exact if_pos rfl
        show gev G e' r=_
        rw [gev_step f.toGRed hr h2,hlv,this]; rfl
      have t2:tab (fun e=>gev G e r) m (v+1) (up e v true)=tab (fun e=>gev G e (G.nd r).h) m (v+1) (up e v true):=tab_congr m _ _ fun e' he=>by
        have:e' v=true:=by rw [he v (by omega)]; exact if_pos rfl
        show gev G e' r=_
        rw [gev_step f.toGRed hr h2,hlv,this]; rfl
      rw [t1,t2]
      cases hs:s.2 r with
      | some p =>
        obtain ⟨a,b,c1,c2,c3,c4,c5⟩:=hI.nd r p h2 hs
        have A:=canon f K0 m (v+1) (G.nd r).l s (up e v false) (k+1) hI hlo.1 h1 (by omega) (by omega)
        rw [vis_hit c1] at A
        have B:=canon f K0 m (v+1) (G.nd r).h s (up e v true) (k+1) hI hhi.1 h1 (by omega) (by omega)
        rw [vis_hit c2] at B
        rw [vis_hit hs,prt_step (tab_len _ _ _ _) A B]
        have hab:a ≠ b:=fun q=>f.ne r hr h2 (hI.inj _ _ _ c1 (q ▸ c2))
        rw [if_neg hab]
        have hp:=hI.rf r p hs
        have hp2:=hp.2.2.1 h2
        have hp3:=hp.2.1.2
        cases hf:fx ⟨v,a,b⟩ s.1 with
        | none =>
          exact absurd (by have q:=c5; rw [hlv] at q; exact q) (fx_none hf (p - K).toNat (by omega))
        | some i =>
          obtain ⟨q1,q2,q3⟩:=fx_some hf
          have hi:ond K s.1 (K+i)=⟨v,a,b⟩:=by unfold ond; rw [show (K+(i:Int) - K).toNat=i by omega]; exact q2
          obtain ⟨r',hr'⟩:=hI.sur (K+i) (by omega) (by omega)
          have hok':=(hI.rf _ _ hr').1
          have hl':¬ G.lf r':=(hI.rf _ _ hr').2.2.2 (by omega)
          obtain ⟨a',b',d1,d2,d3,d4,d5⟩:=hI.nd r' (K+i) hl' hr'
          rw [hi] at d5
          simp only [Fk.mk.injEq] at d5
          have e1:=hI.inj _ _ _ c1 (d5.2.1 ▸ d1)
          have e2:=hI.inj _ _ _ c2 (d5.2.2 ▸ d2)
          have:r=r':=f.uq r r' hr h2 hok' hl' (Fk.eq (by rw [hlv]; exact d5.1) e1 e2)
          subst this
          rw [hs] at hr'; simp at hr'
          show (s.1,K+(i:Int))=(s.1,p)
          rw [hr']
      | none =>
        have VA:=vis_ok f K0 k (G.nd r).l s hlo.1 (by omega) hI
        have VB:=vis_ok f K0 k (G.nd r).h (vis K G k (G.nd r).l s).1 hhi.1 (by omega) VA.inv
        have A:=canon f K0 m (v+1) (G.nd r).l s (up e v false) k hI hlo.1 h1 (by omega) (by omega)
        have B:=canon f K0 m (v+1) (G.nd r).h (vis K G k (G.nd r).l s).1 (up e v true) k VA.inv hhi.1 h1 (by omega) (by omega)
        have E:vis K G (k+1) r s=(((((vis K G k (G.nd r).h (vis K G k (G.nd r).l s).1).1.1++[⟨(G.nd r).v,(vis K G k (G.nd r).l s).2,(vis K G k (G.nd r).h (vis K G k (G.nd r).l s).1).2⟩]),
          setF (vis K G k (G.nd r).h (vis K G k (G.nd r).l s).1).1.2 r (K+(vis K G k (G.nd r).h (vis K G k (G.nd r).l s).1).1.1.length)),K+(vis K G k (G.nd r).h (vis K G k (G.nd r).l s).1).1.1.length):Ly × Int):=by
          rw [vis,hs]
        rw [E,prt_step (tab_len _ _ _ _) A B]
        clear E A B V
        generalize (vis K G k (G.nd r).l s)=x at VA VB
        generalize (vis K G k (G.nd r).h x.1)=y at VB
        have hat:=VB.ext _ _ VA.at_
        have hab:x.2 ≠ y.2:=fun q=>f.ne r hr h2 (VB.inv.inj _ _ _ hat (by rw [q]; exact VB.at_))
        rw [if_neg hab]
        have hrl:r ≠ (G.nd r).l:=fun z=>by have:=hlo.2.1; rw [← z] at this; omega
        have hrh:r ≠ (G.nd r).h:=fun z=>by have:=hhi.2.1; rw [← z] at this; omega
        have hnone:y.1.2 r=none:=by rw [VB.only r hrh (by omega),VA.only r hrl (by omega),hs]
        cases hf:fx ⟨v,x.2,y.2⟩ y.1.1 with
        | none=>rw [← hlv]
        | some i =>
          exfalso
          obtain ⟨q1,q2,q3⟩:=fx_some hf
          have hi:ond K y.1.1 (K+i)=⟨v,x.2,y.2⟩:=by unfold ond; rw [show (K+(i:Int) - K).toNat=i by omega]; exact q2
          obtain ⟨r',hr'⟩:=VB.inv.sur (K+i) (by omega) (by omega)
          have hok':=(VB.inv.rf _ _ hr').1
          have hl':¬ G.lf r':=(VB.inv.rf _ _ hr').2.2.2 (by omega)
          obtain ⟨a',b',d1,d2,d3,d4,d5⟩:=VB.inv.nd r' (K+i) hl' hr'
          rw [hi] at d5
          simp only [Fk.mk.injEq] at d5
          have e1:=VB.inv.inj _ _ _ hat (d5.2.1 ▸ d1)
          have e2:=VB.inv.inj _ _ _ VB.at_ (d5.2.2 ▸ d2)
          have:r=r':=f.uq r r' hr h2 hok' hl' (Fk.eq (by rw [hlv]; exact d5.1) e1 e2)
          subst this
          rw [hnone] at hr'; cases hr'
end Go.Proofs.Ytkmhjcjpohpiaaa
namespace Go.Proofs.Ytkmhjcjpohpiaaa
open Go Go.Vc
open Classical
/-- The node at a place. -/
abbrev fk (N:List Fk) (i:Int):Fk:=N.getD i.toNat ⟨0,0,0⟩
def fkc (n:Fk):List Value:=[.int .i64 n.v,.int .i64 n.l,.int .i64 n.h]
def fks (N:List Fk):List Value:=N.flatMap fkc
theorem fks_snoc (N:List Fk) (n:Fk):fks (N++[n])=fks N++[.int .i64 n.v,.int .i64 n.l,.int .i64 n.h]:=by simp [fks,fkc]
theorem fks_get:∀ (N:List Fk) (i:Nat),i < N.length→((fks N).drop (i * 3)).take 3=fkc (N.getD i ⟨0,0,0⟩)
  | [],i,h=>by simp at h
  | a :: N,0,_=>by
    show ((fkc a++fks N).drop (0 * 3)).take 3=_
    simp [fkc]
  | a :: N,i+1,h=>by
    have ih:=fks_get N i (by simpa using h)
    show ((fkc a++fks N).drop ((i+1) * 3)).take 3=fkc (N.getD i ⟨0,0,0⟩)
    rw [← ih,show (i+1) * 3=(fkc a).length+i * 3 by simp [fkc]; omega,List.drop_append,List.drop_eq_nil_of_le (by omega)]
    simp
theorem fks_at {N:List Fk} {i:Int} (_h0:0≤i) (h1:i < N.length):((fks N).drop (i.toNat * 3)).take 3=[.int .i64 (fk N i).v,.int .i64 (fk N i).l,.int .i64 (fk N i).h]:=fks_get N i.toNat (by omega)
theorem fks_el {N:List Fk} {i:Int} {o:Nat} {u:Value} (h0:0≤i) (h1:i < N.length) (ho:o < 3) (hu:[Value.int .i64 (fk N i).v,.int .i64 (fk N i).l,.int .i64 (fk N i).h][o]? = some u):(fks N)[i.toNat * 3+o]? = some u:=by
  rw [← hu,← fks_at h0 h1,List.getElem?_take,if_pos ho,List.getElem?_drop]
/-- Nodes in memory. -/
def Fks (H:HV) (v:Value) (N:List Fk):Prop:=SlS 3 H v N.length (fks N)
theorem Fks.mono {H H':HV} {v:Value} {N:List Fk} (h:Fks H v N) (s:Vc.Sub H H'):Fks H' v N:=SlS.mono h s
theorem Fks.nil {H:HV}:Fks H (.slice none 0 0) []:=SlS.nil
def fkv (n:Fk):Value:=.agg #[.int .i64 n.v,.int .i64 n.l,.int .i64 n.h]
abbrev pt (b:Nat):Value:=.pointer (some ⟨b,0,none⟩)
theorem bool_dec (b:Bool):Value.bool b=Value.bool (decide (b=true)):=by cases b <;> rfl
theorem qv_to {P:Program} {C:Cx} {o:Oper} {env:Env} {V:HV} {σ:Res} {v v':Value} (e:v=v') (h:QV P C o env V σ v):QV P C o env V σ v':=e ▸ h
theorem fk_eq3 {a b:Fk} (h:a.v=b.v∧a.l=b.l∧a.h=b.h):a=b:=Fk.eq h.1 h.2.1 h.2.2
theorem ext_fk {A B:List Fk} (hl:A.length=B.length) (h:∀ x:Int,0≤x→x < A.length→fk A x=fk B x):A=B:=by
  refine List.ext_getElem hl fun i h1 h2=>?_
  have:=h i (by omega) (by omega)
  simp only [List.getD_eq_getElem?_getD,Int.toNat_natCast,List.getElem?_eq_getElem h1,List.getElem?_eq_getElem h2,Option.getD_some] at this
  exact this
/-- A diagram with leaves. -/
structure Mg where
  v:Int
  L:List Int
  N:List Fk
  r:Int
theorem mg_ext {a b:Mg} (h1:a.v=b.v) (h2:a.L=b.L) (h3:a.N=b.N) (h4:a.r=b.r):a=b:=by
  cases a; cases b; simp at h1 h2 h3 h4; subst h1; subst h2; subst h3; subst h4; rfl
/-- Its slices in memory. -/
structure Mt (H:HV) (lv nv:Value) (A:Mg):Prop where
  l:Ints .i64 H lv A.L
  n:Fks H nv A.N
theorem Mt.mono {H H':HV} {lv nv:Value} {A:Mg} (h:Mt H lv nv A) (s:Vc.Sub H H'):Mt H' lv nv A:=⟨h.l.mono s,h.n.mono s⟩
theorem Mt.nil {H:HV} {v r:Int}:Mt H (.slice none 0 0) (.slice none 0 0) ⟨v,[],[],r⟩:=⟨Ints.nil,Fks.nil⟩
/-- The variable of a reference. -/
def tp (A:Mg) (r:Int):Int:=if r < A.L.length then A.v else (fk A.N (r - A.L.length)).v
theorem tp_l {A:Mg} {r:Int} (h:r < A.L.length):tp A r=A.v:=if_pos h
theorem tp_n {A:Mg} {r:Int} (h:¬ r < A.L.length):tp A r=(fk A.N (r - A.L.length)).v:=if_neg h
/-- The reference that follows. -/
noncomputable def stp (A:Mg) (r x:Int) (hi:Prop):Int:=if tp A r ≠ x then r else if hi then (fk A.N (r - A.L.length)).h else (fk A.N (r - A.L.length)).l
theorem stp_0 {A:Mg} {r x:Int} {hi:Prop} (h:tp A r ≠ x):stp A r x hi=r:=if_pos h
theorem stp_h {A:Mg} {r x:Int} {hi:Prop} (h:tp A r=x) (q:hi):stp A r x hi=(fk A.N (r - A.L.length)).h:=by unfold stp; rw [if_neg (fun e=>e h),if_pos q]
theorem stp_l {A:Mg} {r x:Int} {hi:Prop} (h:tp A r=x) (q:¬ hi):stp A r x hi=(fk A.N (r - A.L.length)).l:=by unfold stp; rw [if_neg (fun e=>e h),if_neg q]
def gx (n:Int):List Int→Option Nat
  | []=>none
  | a :: r=>if a=n then some 0 else (gx n r).map (·+1)
theorem gx_some {n:Int}:∀ {O:List Int} {i:Nat},gx n O=some i→i < O.length∧O.getD i 0=n∧∀ j:Nat,j < i→O.getD j 0 ≠ n
  | [],_,h=>by cases h
  | a :: r,i,h=>by
    unfold gx at h
    by_cases e:a=n
    · rw [if_pos e] at h; simp at h; subst h; exact ⟨by simp,by simpa using e,fun j hj=>by omega⟩
    · rw [if_neg e] at h
      cases hr:gx n r with
      | none=>rw [hr] at h; cases h
      | some j =>
        rw [hr] at h; simp at h; subst h
        obtain ⟨h1,h2,h3⟩:=gx_some hr
        refine ⟨by simpa using h1,by simpa using h2,fun k hk=>?_⟩
        cases k with
        | zero=>simpa using e
        | succ k=>simpa using h3 k (by omega)
theorem gx_none {n:Int}:∀ {O:List Int},gx n O=none→∀ i:Nat,i < O.length→O.getD i 0 ≠ n
  | [],_,i,hi=>by simp at hi
  | a :: r,h,i,hi=>by
    unfold gx at h
    by_cases e:a=n
    · rw [if_pos e] at h; cases h
    · rw [if_neg e] at h
      cases hr:gx n r with
      | some j=>rw [hr] at h; cases h
      | none =>
        cases i with
        | zero=>simpa using e
        | succ i=>simpa using gx_none hr i (by simpa using hi)
theorem fx_snoc {n q:Fk}:∀ (M:List Fk),fx q (M++[n])=match fx q M with | some i=>some i | none=>if n=q then some M.length else none
  | []=>by
    show (if n=q then some 0 else (fx q []).map (·+1))=_
    by_cases h:n=q
    · rw [if_pos h]; show some 0=if n=q then some 0 else none; rw [if_pos h]
    · rw [if_neg h]; show none=if n=q then some 0 else none; rw [if_neg h]
  | a :: M=>by
    show (if a=q then some 0 else (fx q (M++[n])).map (·+1))=match (if a=q then some 0 else (fx q M).map (·+1)) with | some i=>some i | none=>if n=q then some (a :: M).length else none
    by_cases h:a=q
    · rw [if_pos h,if_pos h]
    · rw [if_neg h,if_neg h,fx_snoc M]
      cases fx q M with
      | some i=>rfl
      | none =>
        show (if n=q then some M.length else none).map (·+1)=if n=q then some (M.length+1) else none
        by_cases h2:n=q
        · rw [if_pos h2,if_pos h2]; rfl
        · rw [if_neg h2,if_neg h2]; rfl
theorem gx_snoc {n q:Int}:∀ (M:List Int),gx q (M++[n])=match gx q M with | some i=>some i | none=>if n=q then some M.length else none
  | []=>by
    show (if n=q then some 0 else (gx q []).map (·+1))=_
    by_cases h:n=q
    · rw [if_pos h]; show some 0=if n=q then some 0 else none; rw [if_pos h]
    · rw [if_neg h]; show none=if n=q then some 0 else none; rw [if_neg h]
  | a :: M=>by
    show (if a=q then some 0 else (gx q (M++[n])).map (·+1))=match (if a=q then some 0 else (gx q M).map (·+1)) with | some i=>some i | none=>if n=q then some (a :: M).length else none
    by_cases h:a=q
    · rw [if_pos h,if_pos h]
    · rw [if_neg h,if_neg h,gx_snoc M]
      cases gx q M with
      | some i=>rfl
      | none =>
        show (if n=q then some M.length else none).map (·+1)=if n=q then some (M.length+1) else none
        by_cases h2:n=q
        · rw [if_pos h2,if_pos h2]; rfl
        · rw [if_neg h2,if_neg h2]; rfl
/-- The places of the leaves, and of the nodes. -/
noncomputable def lfF (L:List Int):Int→Option Int:=fun n=>(gx n L).map fun i:Nat=>(i:Int)
noncomputable def idF (N:List Fk):Fk→Option Int:=fun n=>(fx n N).map fun i:Nat=>(i:Int)
theorem lfF_step {M:List Int} {n:Int} (h:lfF M n=none):setF (lfF M) n (M.length:Int)=lfF (M++[n]):=by
  funext q
  have hn:gx n M=none:=by unfold lfF at h; simpa using h
  unfold lfF
  rw [gx_snoc]
  by_cases e:q=n
  · subst e; rw [setF_same,hn]; show _=Option.map _ (if q=q then some M.length else none); rw [if_pos rfl]; rfl
  · rw [setF_other e]
    cases gx q M with
    | some i=>rfl
    | none=>show none=Option.map _ (if n=q then some M.length else none); rw [if_neg fun z=>e z.symm]; rfl
theorem idF_step {M:List Fk} {n:Fk} (h:idF M n=none):setF (idF M) n (M.length:Int)=idF (M++[n]):=by
  funext q
  have hn:fx n M=none:=by unfold idF at h; simpa using h
  unfold idF
  rw [fx_snoc]
  by_cases e:q=n
  · subst e; rw [setF_same,hn]; show _=Option.map _ (if q=q then some M.length else none); rw [if_pos rfl]; rfl
  · rw [setF_other e]
    cases fx q M with
    | some i=>rfl
    | none=>show none=Option.map _ (if n=q then some M.length else none); rw [if_neg fun z=>e z.symm]; rfl
def inR (z:Int):Prop:=-1099511627776≤z∧z≤1099511627776
/-- A leaf is out of range. -/
def wd (L:List Int):Prop:=∃ z ∈ L,¬ inR z
theorem wd_nil:¬ wd []:=fun ⟨_,h,_⟩=>by cases h
theorem wd_snoc {L:List Int} {z:Int}:wd (L++[z]) ↔ wd L ∨ ¬ inR z:=⟨fun ⟨x,hx,h⟩=>by
  rcases List.mem_append.1 hx with q | q
  · exact .inl ⟨x,q,h⟩
  · rw [List.mem_singleton] at q; subst q; exact .inr h,fun h=>by
  rcases h with ⟨x,hx,h⟩ | h
  · exact ⟨x,List.mem_append_left _ hx,h⟩
  · exact ⟨z,List.mem_append_right _ (List.mem_singleton.2 rfl),h⟩⟩
/-- The builder's leaf. -/
def lfR (L:List Int) (z:Int):List Int × Int:=match gx z L with
  | some i=>(L,2 * (i:Int))
  | none=>(L++[z],2 * (L.length:Int))
theorem lf_hit {L:List Int} {z:Int} (i:(lfF L z).isSome=true):lfR L z=(L,2 * (lfF L z).getD 0):=by
  unfold lfR
  unfold lfF at *
  cases q:gx z L with
  | none=>rw [q] at i; cases i
  | some k=>rfl
theorem lf_new {L:List Int} {z:Int} (i:¬ (lfF L z).isSome=true):lfF L z=none∧lfR L z=(L++[z],2 * (L.length:Int)):=by
  unfold lfR
  unfold lfF at *
  cases q:gx z L with
  | none=>exact ⟨rfl,rfl⟩
  | some k=>rw [q] at i; exact absurd rfl i
/-- The builder's node. -/
def ndR (N:List Fk) (v l h:Int):List Fk × Int:=if l=h then (N,l) else match fx ⟨v,l,h⟩ N with
  | some i=>(N,2 * (i:Int)+1)
  | none=>(N++[⟨v,l,h⟩],2 * (N.length:Int)+1)
theorem nd_eq {N:List Fk} {v l h:Int} (e:l=h):ndR N v l h=(N,l):=if_pos e
theorem nd_hit {N:List Fk} {v l h:Int} (e:l ≠ h) (i:(idF N ⟨v,l,h⟩).isSome=true):ndR N v l h=(N,2 * (idF N ⟨v,l,h⟩).getD 0+1):=by
  unfold ndR; rw [if_neg e]
  unfold idF at *
  cases q:fx ⟨v,l,h⟩ N with
  | none=>rw [q] at i; cases i
  | some k=>rfl
theorem nd_new {N:List Fk} {v l h:Int} (e:l ≠ h) (i:¬ (idF N ⟨v,l,h⟩).isSome=true):idF N ⟨v,l,h⟩=none∧ndR N v l h=(N++[⟨v,l,h⟩],2 * (N.length:Int)+1):=by
  unfold ndR; rw [if_neg e]
  unfold idF at *
  cases q:fx ⟨v,l,h⟩ N with
  | none=>exact ⟨rfl,rfl⟩
  | some k=>rw [q] at i; exact absurd rfl i
theorem ndR_len {N:List Fk} {v l h:Int}:N.length≤(ndR N v l h).1.length∧(ndR N v l h).1.length≤N.length+1:=by
  unfold ndR
  split
  · exact ⟨Nat.le_refl _,Nat.le_succ _⟩
  · split
    · exact ⟨Nat.le_refl _,Nat.le_succ _⟩
    · simp
theorem lfR_len {L:List Int} {z:Int}:L.length≤(lfR L z).1.length∧(lfR L z).1.length≤L.length+1:=by
  unfold lfR
  split
  · exact ⟨Nat.le_refl _,Nat.le_succ _⟩
  · simp
theorem lfF_bd (L:List Int) (z:Int):0≤(lfF L z).getD 0∧(lfF L z).getD 0≤L.length:=by
  unfold lfF
  cases q:gx z L with
  | none=>exact ⟨Int.le_refl _,by show (0:Int)≤_; omega⟩
  | some k=>have:=(gx_some q).1; exact ⟨by show (0:Int)≤(k:Int); omega,by show (k:Int)≤_; omega⟩
theorem idF_bd (N:List Fk) (n:Fk):0≤(idF N n).getD 0∧(idF N n).getD 0≤N.length:=by
  unfold idF
  cases q:fx n N with
  | none=>exact ⟨Int.le_refl _,by show (0:Int)≤_; omega⟩
  | some k=>have:=(fx_some q).1; exact ⟨by show (0:Int)≤(k:Int); omega,by show (k:Int)≤_; omega⟩
end Go.Proofs.Ytkmhjcjpohpiaaa
namespace Go.Proofs.Ytkmhjcjpohpiaaa
open Go Go.Vc
open Classical
/-- A graph within another one has its values. -/
theorem gv_ext {vars:Int} {G G':Gph} (f:GRed vars G) (g:GRed vars G') (h:∀ r,G.ok r→G'.ok r∧(G'.lf r ↔ G.lf r)∧G'.nd r=G.nd r) (φ:Int→Int) (hk:∀ r,G.ok r→G.lf r→G'.rk r=φ (G.rk r)) (e:Int→Bool):∀ (k:Nat) (r:Int),G.ok r→G.mu r≤k→gev G' e r=φ (gev G e r)
  | 0,r,hr,hm=>by
    have hl:G.lf r:=Classical.byContradiction fun q=>by have:=(f.lo r hr q).2.1; omega
    rw [gev_lf hl,gev_lf ((h r hr).2.1.2 hl),hk r hr hl]
  | k+1,r,hr,hm=>by
    obtain ⟨a,b,c⟩:=h r hr
    by_cases hl:G.lf r
    · rw [gev_lf hl,gev_lf (b.2 hl),hk r hr hl]
    · have hlo:=f.lo r hr hl
      have hhi:=f.hi r hr hl
      rw [gev_step f hr hl,gev_step g a fun q=>hl (b.1 q),c]
      refine gv_ext f g h φ hk e k _ ?_ ?_
      · split
        · exact hhi.1
        · exact hlo.1
      · split <;> omega
/-- The builder's graph: 2i is the leaf i, 2i + 1 the node i; a leaf's rank is a function of its value. -/
def bG (L:List Int) (N:List Fk) (φ:Int→Int):Gph where
  ok:=fun r=>0≤r∧(r % 2=0→r / 2 < L.length)∧(r % 2=1→r / 2 < N.length)
  lf:=fun r=>r % 2=0
  rk:=fun r=>φ (gi L (r / 2))
  nd:=fun r=>fk N (r / 2)
  mu:=fun r=>if r % 2=0 then 0 else (r / 2).toNat+1
abbrev bV (L:List Int) (N:List Fk):Gph:=bG L N id
structure BOk (vars:Int) (L:List Int) (N:List Fk):Prop where
  red:GRed vars (bV L N)
  nod:∀ i j:Int,0≤i→i < L.length→0≤j→j < L.length→gi L i=gi L j→i=j
theorem gi_app {L X:List Int} {i:Int} (h0:0≤i) (h1:i < L.length):gi (L++X) i=gi L i:=by
  unfold gi
  rw [List.getD_eq_getElem?_getD,List.getD_eq_getElem?_getD,List.getElem?_append_left (by omega)]
theorem gi_last {L:List Int} {z:Int}:gi (L++[z]) L.length=z:=by
  unfold gi
  rw [List.getD_eq_getElem?_getD,Int.toNat_natCast,List.getElem?_append_right (Nat.le_refl _),Nat.sub_self]; rfl
theorem fk_app {N X:List Fk} {i:Int} (h0:0≤i) (h1:i < N.length):fk (N++X) i=fk N i:=by
  unfold fk
  rw [List.getD_eq_getElem?_getD,List.getD_eq_getElem?_getD,List.getElem?_append_left (by omega)]
theorem fk_last {N:List Fk} {n:Fk}:fk (N++[n]) N.length=n:=by
  unfold fk
  rw [List.getD_eq_getElem?_getD,Int.toNat_natCast,List.getElem?_append_right (Nat.le_refl _),Nat.sub_self]; rfl
theorem bG_sub {L X:List Int} {N Y:List Fk} {φ:Int→Int} {r:Int} (h:(bG L N φ).ok r):(bG (L++X) (N++Y) φ).ok r∧((bG (L++X) (N++Y) φ).lf r ↔ (bG L N φ).lf r)∧(r % 2=1→(bG (L++X) (N++Y) φ).nd r=(bG L N φ).nd r)∧(r % 2=0→(bG (L++X) (N++Y) φ).rk r=(bG L N φ).rk r):=by
  obtain ⟨a,b,c⟩:=h
  refine ⟨⟨a,fun q=>?_,fun q=>?_⟩,Iff.rfl,fun q=>?_,fun q=>?_⟩
  · have:=b q; rw [List.length_append]; omega
  · have:=c q; rw [List.length_append]; omega
  · exact fk_app (by omega) (c q)
  · show φ (gi (L++X) (r / 2))=φ (gi L (r / 2))
    rw [gi_app (by omega) (b q)]
theorem bG_lev {vars:Int} {L X:List Int} {N Y:List Fk} {φ:Int→Int} {r:Int} (h:(bG L N φ).ok r):lev vars (bG (L++X) (N++Y) φ) r=lev vars (bG L N φ) r:=by
  have s:=bG_sub (X:=X) (Y:=Y) h
  by_cases hl:r % 2=0
  · rw [lev_lf (G:=bG L N φ) hl,lev_lf (G:=bG (L++X) (N++Y) φ) hl]
  · rw [lev_nd (G:=bG L N φ) hl,lev_nd (G:=bG (L++X) (N++Y) φ) hl,s.2.2.1 (by omega)]
theorem bG_gev {vars:Int} {L X:List Int} {N Y:List Fk} (f:GRed vars (bV L N)) (g:GRed vars (bV (L++X) (N++Y))) {r:Int} (h:(bV L N).ok r) (e:Int→Bool):gev (bV (L++X) (N++Y)) e r=gev (bV L N) e r:=by
  suffices H:∀ (k:Nat) (r:Int),(bV L N).ok r→(bV L N).mu r≤k→gev (bV (L++X) (N++Y)) e r=gev (bV L N) e r from H _ r h (Nat.le_refl _)
  intro k
  induction k with
  | zero =>
    intro r hr hm
    have hl:r % 2=0:=Classical.byContradiction fun q=>by have:=(f.lo r hr q).2.1; omega
    rw [gev_lf (G:=bV L N) hl,gev_lf (G:=bV (L++X) (N++Y)) hl,(bG_sub hr).2.2.2 hl]
  | succ k ih =>
    intro r hr hm
    by_cases hl:r % 2=0
    · rw [gev_lf (G:=bV L N) hl,gev_lf (G:=bV (L++X) (N++Y)) hl,(bG_sub hr).2.2.2 hl]
    · have hlo:=f.lo r hr hl
      have hhi:=f.hi r hr hl
      rw [gev_step f hr hl,gev_step g (bG_sub hr).1 hl,(bG_sub hr).2.2.1 (by omega)]
      have c1:(bV L N).mu (if e ((bV L N).nd r).v then ((bV L N).nd r).h else ((bV L N).nd r).l)≤k:=by split <;> omega
      refine ih _ ?_ c1
      split
      · exact hhi.1
      · exact hlo.1
theorem bok_nil {vars:Int}:BOk vars [] [] where
  red:={
    vr:=fun r h hl=>by
      have h3:=h.2.2
      have hl:¬ r % 2=0:=hl
      have h3:r / 2 < ((0:Nat):Int):=h3 (by omega)
      have:=h.1
      omega
    ne:=fun r h hl=>by
      have h3:=h.2.2
      have hl:¬ r % 2=0:=hl
      have h3:r / 2 < ((0:Nat):Int):=h3 (by omega)
      have:=h.1
      omega
    lo:=fun r h hl=>by
      have h3:=h.2.2
      have hl:¬ r % 2=0:=hl
      have h3:r / 2 < ((0:Nat):Int):=h3 (by omega)
      have:=h.1
      omega
    hi:=fun r h hl=>by
      have h3:=h.2.2
      have hl:¬ r % 2=0:=hl
      have h3:r / 2 < ((0:Nat):Int):=h3 (by omega)
      have:=h.1
      omega
    uq:=fun r s h hl=>by
      have h3:=h.2.2
      have hl:¬ r % 2=0:=hl
      have h3:r / 2 < ((0:Nat):Int):=h3 (by omega)
      have:=h.1
      omega }
  nod:=fun i j h0 h1=>by have h1:i < ((0:Nat):Int):=h1; omega
/-- More leaves. -/
theorem bok_leaf {vars z:Int} {L:List Int} {N:List Fk} (b:BOk vars L N) (hz:gx z L=none):BOk vars (L++[z]) N:=by
  have key:∀ r,(bV (L++[z]) N).ok r→¬ r % 2=0→(bV L N).ok r:=fun r h hl=>⟨h.1,fun q=>absurd q hl,h.2.2⟩
  have lv:∀ r,(bV L N).ok r→lev vars (bV (L++[z]) N) r=lev vars (bV L N) r:=fun r h=>by
    have:=bG_lev (vars:=vars) (X:=[z]) (Y:=[]) (φ:=id) h
    rw [List.append_nil] at this
    exact this
  have up:∀ r,(bV L N).ok r→(bV (L++[z]) N).ok r:=fun r h=>⟨h.1,fun q=>by have:=h.2.1 q; rw [List.length_append]; omega,h.2.2⟩
  refine ⟨⟨fun r h hl=>b.red.vr r (key r h hl) hl,fun r h hl=>b.red.ne r (key r h hl) hl,fun r h hl=>?_,fun r h hl=>?_,fun r s h hl h' hl'=>b.red.uq r s (key r h hl) hl (key s h' hl') hl'⟩,fun i j i0 i1 j0 j1 q=>?_⟩
  · have w:=b.red.lo r (key r h hl) hl
    exact ⟨up _ w.1,w.2.1,(lv _ w.1).symm ▸ w.2.2⟩
  · have w:=b.red.hi r (key r h hl) hl
    exact ⟨up _ w.1,w.2.1,(lv _ w.1).symm ▸ w.2.2⟩
  · have hlen:((L++[z]).length:Int)=L.length+1:=by simp
    have hno:∀ i:Int,0≤i→i < L.length→gi L i ≠ z:=fun i a c q=>gx_none hz i.toNat (by omega) q
    by_cases ei:i=L.length
    · by_cases ej:j=L.length
      · omega
      · rw [ei,gi_last,gi_app j0 (by omega)] at q
        exact absurd q.symm (hno j j0 (by omega))
    · by_cases ej:j=L.length
      · rw [ej,gi_last,gi_app i0 (by omega)] at q
        exact absurd q (hno i i0 (by omega))
      · rw [gi_app i0 (by omega),gi_app j0 (by omega)] at q
        exact b.nod i j i0 (by omega) j0 (by omega) q
/-- What the builder's leaf does. -/
structure LfOk (vars:Int) (L:List Int) (N:List Fk) (z:Int) (x:List Int × Int):Prop where
  ok:BOk vars x.1 N
  ext:∃ X,x.1=L++X
  rf:(bV x.1 N).ok x.2
  lf:x.2 % 2=0
  vl:gi x.1 (x.2 / 2)=z
theorem leaf_ok {vars z:Int} {L:List Int} {N:List Fk} (b:BOk vars L N):LfOk vars L N z (lfR L z):=by
  unfold lfR
  cases q:gx z L with
  | some i =>
    obtain ⟨q1,q2,q3⟩:=gx_some q
    refine ⟨b,⟨[],by simp⟩,⟨by show 0≤2 * (i:Int); omega,fun _=>by show 2 * (i:Int) / 2 < (L.length:Int); omega,fun w=>by have w:2 * (i:Int) % 2=1:=w; omega⟩,by show 2 * (i:Int) % 2=0; omega,?_⟩
    show gi L (2 * (i:Int) / 2)=z
    rw [show 2 * (i:Int) / 2=i by omega]; exact q2
  | none =>
    refine ⟨bok_leaf b q,⟨[z],rfl⟩,⟨by show 0≤2 * (L.length:Int); omega,fun _=>by show 2 * (L.length:Int) / 2 < ((L++[z]).length:Int); rw [List.length_append]; show _ < ((L.length+1:Nat):Int); omega,fun w=>by have w:2 * (L.length:Int) % 2=1:=w; omega⟩,by show 2 * (L.length:Int) % 2=0; omega,?_⟩
    show gi (L++[z]) (2 * (L.length:Int) / 2)=z
    rw [show 2 * (L.length:Int) / 2=L.length by omega,gi_last]
/-- One more node. -/
theorem bok_node {vars v l h:Int} {L:List Int} {N:List Fk} (b:BOk vars L N) (hv:0≤v) (hv2:v < vars) (hl:(bV L N).ok l) (hh:(bV L N).ok h) (ll:v < lev vars (bV L N) l) (lh:v < lev vars (bV L N) h) (hne:l ≠ h) (hn:fx ⟨v,l,h⟩ N=none):BOk vars L (N++[⟨v,l,h⟩]):=by
  have hlen:((N++[(⟨v,l,h⟩:Fk)]).length:Int)=N.length+1:=by simp
  have up:∀ r,(bV L N).ok r→(bV L (N++[⟨v,l,h⟩])).ok r:=fun r h=>⟨h.1,h.2.1,fun q=>by have:=h.2.2 q; omega⟩
  have lv:∀ r,(bV L N).ok r→lev vars (bV L (N++[⟨v,l,h⟩])) r=lev vars (bV L N) r:=fun r h'=>by
    have:=bG_lev (vars:=vars) (X:=[]) (Y:=[⟨v,l,h⟩]) (φ:=id) h'
    rw [List.append_nil] at this
    exact this
  have old:∀ r,(bV L (N++[⟨v,l,h⟩])).ok r→¬ r % 2=0→r / 2 ≠ N.length→(bV L N).ok r∧(bV L (N++[⟨v,l,h⟩])).nd r=(bV L N).nd r:=fun r hr hl' hne'=>by
    have h1:r / 2 < ((N++[(⟨v,l,h⟩:Fk)]).length:Int):=hr.2.2 (by omega)
    have h0:=hr.1
    exact ⟨⟨h0,fun q=>absurd q hl',fun _=>by omega⟩,fk_app (by omega) (by omega)⟩
  have new:∀ r:Int,r / 2=N.length→(bV L (N++[⟨v,l,h⟩])).nd r=⟨v,l,h⟩:=fun r e=>by
    show fk (N++[⟨v,l,h⟩]) (r / 2)=_
    rw [e,fk_last]
  have mu0:∀ r:Int,¬ r % 2=0→(bV L (N++[⟨v,l,h⟩])).mu r=(r / 2).toNat+1:=fun r q=>if_neg q
  have muo:∀ r:Int,(bV L N).ok r→r / 2 < N.length ∨ r % 2=0:=fun r q=>by
    by_cases z:r % 2=0
    · exact .inr z
    · exact .inl (q.2.2 (by omega))
  have mu1:∀ r q:Int,(bV L N).ok q→¬ r % 2=0→r / 2=N.length→(bV L (N++[⟨v,l,h⟩])).mu q < (bV L (N++[⟨v,l,h⟩])).mu r:=fun r q hq hr e=>by
    rw [mu0 r hr]
    have hq0:=hq.1
    rcases muo q hq with z | z
    · by_cases y:q % 2=0
      · show (if q % 2=0 then 0 else (q / 2).toNat+1) < _
        rw [if_pos y]; omega
      · rw [mu0 q y]; omega
    · show (if q % 2=0 then 0 else (q / 2).toNat+1) < _
      rw [if_pos z]; omega
  have hno:∀ i:Int,0≤i→i < N.length→fk N i ≠ ⟨v,l,h⟩:=fun i a c q=>fx_none hn i.toNat (by omega) q
  refine ⟨⟨fun r hr hrl=>?_,fun r hr hrl=>?_,fun r hr hrl=>?_,fun r hr hrl=>?_,fun r s hr hrl hs hsl q=>?_⟩,b.nod⟩
  · by_cases e:r / 2=N.length
    · rw [new r e]; exact ⟨hv,hv2⟩
    · obtain ⟨o1,o2⟩:=old r hr hrl e
      rw [o2]; exact b.red.vr r o1 hrl
  · by_cases e:r / 2=N.length
    · rw [new r e]; exact hne
    · obtain ⟨o1,o2⟩:=old r hr hrl e
      rw [o2]; exact b.red.ne r o1 hrl
  · by_cases e:r / 2=N.length
    · rw [new r e]; exact ⟨up _ hl,mu1 r l hl hrl e,by rw [lv l hl]; exact ll⟩
    · obtain ⟨o1,o2⟩:=old r hr hrl e
      have w:=b.red.lo r o1 hrl
      rw [o2]; exact ⟨up _ w.1,w.2.1,by rw [lv _ w.1]; exact w.2.2⟩
  · by_cases e:r / 2=N.length
    · rw [new r e]; exact ⟨up _ hh,mu1 r h hh hrl e,by rw [lv h hh]; exact lh⟩
    · obtain ⟨o1,o2⟩:=old r hr hrl e
      have w:=b.red.hi r o1 hrl
      rw [o2]; exact ⟨up _ w.1,w.2.1,by rw [lv _ w.1]; exact w.2.2⟩
  · have hrl:¬ r % 2=0:=hrl
    have hsl:¬ s % 2=0:=hsl
    have hr0:=hr.1
    have hs0:=hs.1
    by_cases e:r / 2=N.length
    · by_cases e':s / 2=N.length
      · omega
      · obtain ⟨o1,o2⟩:=old s hs hsl e'
        rw [new r e,o2] at q
        exact absurd q.symm (hno (s / 2) (by omega) (o1.2.2 (by omega)))
    · obtain ⟨o1,o2⟩:=old r hr hrl e
      by_cases e':s / 2=N.length
      · rw [new s e',o2] at q
        exact absurd q (hno (r / 2) (by omega) (o1.2.2 (by omega)))
      · obtain ⟨p1,p2⟩:=old s hs hsl e'
        rw [o2,p2] at q
        exact b.red.uq r s o1 hrl p1 hsl q
/-- What the builder's node does. -/
structure NdOk (vars:Int) (L:List Int) (N:List Fk) (v l h:Int) (x:List Fk × Int):Prop where
  ok:BOk vars L x.1
  ext:∃ Y,x.1=N++Y
  rf:(bV L x.1).ok x.2
  lv:v≤lev vars (bV L x.1) x.2
  vl:∀ e,gev (bV L x.1) e x.2=if e v then gev (bV L N) e h else gev (bV L N) e l
theorem node_ok {vars v l h:Int} {L:List Int} {N:List Fk} (b:BOk vars L N) (hv:0≤v) (hv2:v < vars) (hl:(bV L N).ok l) (hh:(bV L N).ok h) (ll:v < lev vars (bV L N) l) (lh:v < lev vars (bV L N) h):NdOk vars L N v l h (ndR N v l h):=by
  by_cases e:l=h
  · rw [nd_eq e]
    subst e
    exact ⟨b,⟨[],by simp⟩,hl,by show v≤lev vars (bV L N) l; omega,fun e=>by show gev (bV L N) e l=_; split <;> rfl⟩
  · unfold ndR
    rw [if_neg e]
    cases q:fx ⟨v,l,h⟩ N with
    | some i =>
      obtain ⟨q1,q2,q3⟩:=fx_some q
      have hi:(bV L N).nd (2 * (i:Int)+1)=⟨v,l,h⟩:=by
        show fk N ((2 * (i:Int)+1) / 2)=_
        rw [show (2 * (i:Int)+1) / 2=i by omega]; exact q2
      have hr:(bV L N).ok (2 * (i:Int)+1):=⟨by omega,fun w=>by omega,fun _=>by omega⟩
      have hlf:¬ (bV L N).lf (2 * (i:Int)+1):=by show ¬ (2 * (i:Int)+1) % 2=0; omega
      refine ⟨b,⟨[],by simp⟩,hr,?_,fun e=>?_⟩
      · show v≤lev vars (bV L N) (2 * (i:Int)+1)
        rw [lev_nd hlf,hi]; exact Int.le_refl _
      · show gev (bV L N) e (2 * (i:Int)+1)=_
        rw [gev_step b.red hr hlf,hi]
        show gev (bV L N) e (if e v=true then h else l)=_
        split <;> rfl
    | none =>
      have g:=bok_node b hv hv2 hl hh ll lh e q
      have hi:(bV L (N++[⟨v,l,h⟩])).nd (2 * (N.length:Int)+1)=⟨v,l,h⟩:=by
        show fk (N++[⟨v,l,h⟩]) ((2 * (N.length:Int)+1) / 2)=_
        rw [show (2 * (N.length:Int)+1) / 2=N.length by omega,fk_last]
      have hlen:((N++[(⟨v,l,h⟩:Fk)]).length:Int)=N.length+1:=by simp
      have hr:(bV L (N++[⟨v,l,h⟩])).ok (2 * (N.length:Int)+1):=⟨by omega,fun w=>by omega,fun _=>by omega⟩
      have hlf:¬ (bV L (N++[⟨v,l,h⟩])).lf (2 * (N.length:Int)+1):=by show ¬ (2 * (N.length:Int)+1) % 2=0; omega
      have ex:∀ (e:Int→Bool) (r:Int),(bV L N).ok r→gev (bV L (N++[⟨v,l,h⟩])) e r=gev (bV L N) e r:=fun e r h'=>by
        have g':GRed vars (bV (L++[]) (N++[⟨v,l,h⟩])):=by rw [List.append_nil]; exact g.red
        have:=bG_gev b.red g' h' e
        rw [List.append_nil] at this
        exact this
      refine ⟨g,⟨[⟨v,l,h⟩],rfl⟩,hr,?_,fun e=>?_⟩
      · show v≤lev vars (bV L (N++[⟨v,l,h⟩])) (2 * (N.length:Int)+1)
        rw [lev_nd hlf,hi]; exact Int.le_refl _
      · show gev (bV L (N++[⟨v,l,h⟩])) e (2 * (N.length:Int)+1)=_
        rw [gev_step g.red hr hlf,hi]
        show gev _ e (if e v=true then h else l)=_
        split
        · exact ex e h hh
        · exact ex e l hl
end Go.Proofs.Ytkmhjcjpohpiaaa
namespace Go.Proofs.Ytkmhjcjpohpiaaa
open Go Go.Vc
open Classical
abbrev K3r:=Int × Int × Int
abbrev kl (k:K3r):List Int:=[k.1,k.2.1,k.2.2]
abbrev kg (k:K3r) (i:Int):Int:=gi (kl k) i
def kv (k:K3r):Value:=.agg ((kl k).map (Value.int .i64)).toArray
/-- Where there is no diagram: the value 0. -/
def m0:Mg:=⟨0,[0],[],0⟩
abbrev dm (Ds:List Mg) (i:Int):Mg:=Ds.getD i.toNat m0
theorem dm_out {Ds:List Mg} {i:Int} (h0:0≤i) (h:Ds.length≤i):dm Ds i=m0:=by
  unfold dm; rw [List.getD_eq_getElem?_getD,List.getElem?_eq_none (by omega)]; rfl
/-- A diagram's graph: below the number of its leaves a reference is a leaf. -/
def mG (A:Mg):Gph where
  ok:=fun r=>0≤r∧r < A.L.length+A.N.length
  lf:=fun r=>r < A.L.length
  rk:=fun r=>gi A.L r
  nd:=fun r=>fk A.N (r - A.L.length)
  mu:=fun r=>(r+1 - A.L.length).toNat
theorem tp_lev {A:Mg} {vars r:Int} (h:A.v=vars):tp A r=lev vars (mG A) r:=by
  by_cases q:r < A.L.length
  · rw [tp_l q,lev_lf (G:=mG A) q,h]
  · rw [tp_n q,lev_nd (G:=mG A) q]; rfl
theorem red_m0 {vars:Int}:GRed vars (mG m0) where
  vr:=fun r h hl=>absurd (show r < ((1:Nat):Int) by have:r < ((1:Nat):Int)+((0:Nat):Int):=h.2; omega) hl
  ne:=fun r h hl=>absurd (show r < ((1:Nat):Int) by have:r < ((1:Nat):Int)+((0:Nat):Int):=h.2; omega) hl
  lo:=fun r h hl=>absurd (show r < ((1:Nat):Int) by have:r < ((1:Nat):Int)+((0:Nat):Int):=h.2; omega) hl
  hi:=fun r h hl=>absurd (show r < ((1:Nat):Int) by have:r < ((1:Nat):Int)+((0:Nat):Int):=h.2; omega) hl
  uq:=fun r s h hl=>absurd (show r < ((1:Nat):Int) by have:r < ((1:Nat):Int)+((0:Nat):Int):=h.2; omega) hl
/-- Good references: one in each diagram, 0 where there is no diagram. -/
def KOk (Ds:List Mg) (k:K3r):Prop:=∀ i:Int,0≤i→i < 3→(mG (dm Ds i)).ok (kg k i)∧(Ds.length≤i→kg k i=0)
noncomputable def tpN (vars:Int) (Ds:List Mg) (k:K3r):Nat→Int
  | 0=>vars
  | n+1=>if lev vars (mG (dm Ds n)) (kg k n) < tpN vars Ds k n then lev vars (mG (dm Ds n)) (kg k n) else tpN vars Ds k n
/-- The least level. -/
noncomputable def mlv (vars:Int) (Ds:List Mg) (k:K3r):Int:=tpN vars Ds k 3
noncomputable def gF (Ds:List Mg) (F:Int→Int→Int→Int) (k:K3r) (e:Int→Bool):Int :=
  F (gev (mG (dm Ds 0)) e (kg k 0)) (gev (mG (dm Ds 1)) e (kg k 1)) (gev (mG (dm Ds 2)) e (kg k 2))
/-- What all diagrams of the list are. -/
structure DsOk (vars:Int) (Ds:List Mg):Prop where
  v0:0≤vars
  v1:vars≤40
  le:Ds.length≤3
  red:∀ i:Int,0≤i→GRed vars (mG (dm Ds i))
section
variable {vars:Int} {Ds:List Mg} {k:K3r} {F:Int→Int→Int→Int}
theorem tpN_le (n:Nat):tpN vars Ds k n≤vars:=by
  induction n with
  | zero=>exact Int.le_refl _
  | succ n ih =>
    show (if lev vars (mG (dm Ds n)) (kg k n) < tpN vars Ds k n then lev vars (mG (dm Ds n)) (kg k n) else tpN vars Ds k n)≤vars
    split <;> omega
theorem tpN_el {n i:Nat} (h:i < n):tpN vars Ds k n≤lev vars (mG (dm Ds i)) (kg k i):=by
  induction n with
  | zero=>omega
  | succ n ih =>
    show (if lev vars (mG (dm Ds n)) (kg k n) < tpN vars Ds k n then lev vars (mG (dm Ds n)) (kg k n) else tpN vars Ds k n)≤_
    by_cases e:i=n
    · subst e; split <;> omega
    · have:=ih (by omega)
      split <;> omega
theorem tpN_nn (d:DsOk vars Ds) (h:KOk Ds k):∀ n:Nat,n≤3→0≤tpN vars Ds k n
  | 0,_=>d.v0
  | n+1,hn=>by
    have a:=tpN_nn d h n (by omega)
    have b:=(d.red n (by omega)).lev_nn d.v0 (h n (by omega) (by omega)).1
    show 0≤if lev vars (mG (dm Ds n)) (kg k n) < tpN vars Ds k n then lev vars (mG (dm Ds n)) (kg k n) else tpN vars Ds k n
    split <;> omega
/-- It is the level of one of them. -/
theorem tpN_at:∀ n:Nat,tpN vars Ds k n=vars ∨ ∃ i,i < n∧tpN vars Ds k n=lev vars (mG (dm Ds i)) (kg k i)
  | 0=>Or.inl rfl
  | n+1=>by
    show (if lev vars (mG (dm Ds n)) (kg k n) < tpN vars Ds k n then lev vars (mG (dm Ds n)) (kg k n) else tpN vars Ds k n)=vars ∨ ∃ i,i < n+1∧(if lev vars (mG (dm Ds n)) (kg k n) < tpN vars Ds k n then lev vars (mG (dm Ds n)) (kg k n) else tpN vars Ds k n)=_
    by_cases q:lev vars (mG (dm Ds n)) (kg k n) < tpN vars Ds k n
    · rw [if_pos q]; exact Or.inr ⟨n,by omega,rfl⟩
    · rw [if_neg q]
      rcases tpN_at n with e | ⟨i,hi,e⟩
      · exact Or.inl e
      · exact Or.inr ⟨i,by omega,e⟩
theorem tpN_all (h:KOk Ds k) {n:Nat} (h1:n≤3) (h2:Ds.length≤n):tpN vars Ds k n=mlv vars Ds k:=by
  have key:∀ m:Nat,Ds.length≤m→m < 3→tpN vars Ds k (m+1)=tpN vars Ds k m:=fun m a b=>by
    have e:=(h m (by omega) (by omega)).2 (by omega)
    have l:lev vars (mG (dm Ds m)) (kg k m)=vars:=by rw [e,dm_out (by omega) (by omega)]; exact lev_lf (G:=mG m0) (by show (0:Int) < ((1:Nat):Int); omega)
    have t:=tpN_le (vars:=vars) (Ds:=Ds) (k:=k) m
    show (if lev vars (mG (dm Ds m)) (kg k m) < tpN vars Ds k m then lev vars (mG (dm Ds m)) (kg k m) else tpN vars Ds k m)=_
    rw [l,if_neg (by omega)]
  unfold mlv
  by_cases e3:n=3
  · rw [e3]
  · rw [key 2 (by omega) (by omega)]
    by_cases e2:n=2
    · rw [e2]
    · rw [key 1 (by omega) (by omega)]
      by_cases e1:n=1
      · rw [e1]
      · rw [key 0 (by omega) (by omega),show n=0 by omega]
theorem mlv_le {i:Int} (h0:0≤i) (h1:i < 3):mlv vars Ds k≤lev vars (mG (dm Ds i)) (kg k i):=by
  have:=tpN_el (vars:=vars) (Ds:=Ds) (k:=k) (n:=3) (i:=i.toNat) (by omega)
  rwa [show ((i.toNat:Nat):Int)=i by omega] at this
theorem mlv_bd (d:DsOk vars Ds) (h:KOk Ds k):0≤mlv vars Ds k∧mlv vars Ds k≤vars:=⟨tpN_nn d h 3 (by omega),tpN_le 3⟩
def vw (Ds:List Mg) (k:K3r) (n j:Nat):Int:=if j < n then gi (dm Ds j).L (kg k j) else 0
def vwL (Ds:List Mg) (k:K3r) (n:Nat):K3r:=(vw Ds k n 0,vw Ds k n 1,vw Ds k n 2)
theorem vw_0 {j:Nat}:vw Ds k 0 j=0:=if_neg (by omega)
theorem vw_same {n j:Nat} (h:j ≠ n):vw Ds k (n+1) j=vw Ds k n j:=by
  unfold vw
  by_cases q:j < n
  · rw [if_pos q,if_pos (by omega)]
  · rw [if_neg q,if_neg (by omega)]
theorem vw_new {n:Nat}:vw Ds k (n+1) n=gi (dm Ds n).L (kg k n):=if_pos (by omega)
def lwV (l:K3r):List Value:=[.int .i64 l.1,.int .i64 l.2.1,.int .i64 l.2.2]
theorem vwL_step {i:Int} (h0:0≤i) (h1:i < 3):(lwV (vwL Ds k i.toNat)).set (0+i.toNat) (.int .i64 (gi (dm Ds i).L (gi [k.1,k.2.1,k.2.2] i)))=lwV (vwL Ds k (i+1).toNat):=by
  rcases (show i=0 ∨ i=1 ∨ i=2 by omega) with rfl | rfl | rfl
  · show [_,_,_]=lwV (vw Ds k (0+1) 0,vw Ds k (0+1) 1,vw Ds k (0+1) 2)
    rw [vw_new,vw_same (j:=1) (by omega),vw_same (j:=2) (by omega)]; rfl
  · show [_,_,_]=lwV (vw Ds k (1+1) 0,vw Ds k (1+1) 1,vw Ds k (1+1) 2)
    rw [vw_new,vw_same (j:=0) (by omega),vw_same (j:=2) (by omega)]; rfl
  · show [_,_,_]=lwV (vw Ds k (2+1) 0,vw Ds k (2+1) 1,vw Ds k (2+1) 2)
    rw [vw_new,vw_same (j:=0) (by omega),vw_same (j:=1) (by omega)]; rfl
theorem bt_vl (d:DsOk vars Ds) (h:KOk Ds k) (ht:mlv vars Ds k=vars) {n:Nat} (h2:Ds.length≤n) (e:Int→Bool) {j:Nat} (hj:j < 3):vw Ds k n j=gev (mG (dm Ds j)) e (kg k j):=by
  have hk:=h j (by omega) (by omega)
  have hl:=mlv_le (vars:=vars) (Ds:=Ds) (k:=k) (i:=j) (by omega) (by omega)
  have f:=d.red j (by omega)
  have hlf:=f.lev_lt hk.1 (by have:=f.lev_le hk.1; omega)
  rw [gev_lf hlf]
  by_cases q:j < n
  · exact if_pos q
  · rw [show vw Ds k n j=0 from if_neg q,hk.2 (by omega),dm_out (by omega) (by omega)]; rfl
theorem leaf_val (d:DsOk vars Ds) (h:KOk Ds k) (ht:mlv vars Ds k=vars) {n:Nat} (h2:Ds.length≤n) (e:Int→Bool):F (vw Ds k n 0) (vw Ds k n 1) (vw Ds k n 2)=gF Ds F k e:=by
  unfold gF
  rw [bt_vl d h ht h2 e (j:=0) (by omega),bt_vl d h ht h2 e (j:=1) (by omega),bt_vl d h ht h2 e (j:=2) (by omega)]
  rfl
noncomputable def lw (Ds:List Mg) (k:K3r) (tp:Int) (hi:Prop) (n j:Nat):Int:=if j < n then stp (dm Ds j) (kg k j) tp hi else 0
noncomputable def lwL (Ds:List Mg) (k:K3r) (tp:Int) (hi:Prop) (n:Nat):K3r:=(lw Ds k tp hi n 0,lw Ds k tp hi n 1,lw Ds k tp hi n 2)
theorem lw_0 {tp:Int} {hi:Prop} {j:Nat}:lw Ds k tp hi 0 j=0:=if_neg (by omega)
theorem lw_same {tp:Int} {hi:Prop} {n j:Nat} (h:j ≠ n):lw Ds k tp hi (n+1) j=lw Ds k tp hi n j:=by
  unfold lw
  by_cases q:j < n
  · rw [if_pos q,if_pos (by omega)]
  · rw [if_neg q,if_neg (by omega)]
theorem lw_new {tp:Int} {hi:Prop} {n:Nat}:lw Ds k tp hi (n+1) n=stp (dm Ds n) (kg k n) tp hi:=if_pos (by omega)
theorem lwL_step {tp:Int} {hi:Prop} {i:Int} (h0:0≤i) (h1:i < 3):(lwV (lwL Ds k tp hi i.toNat)).set (0+i.toNat) (.int .i64 (stp (dm Ds i) (gi [k.1,k.2.1,k.2.2] i) tp hi))=lwV (lwL Ds k tp hi (i+1).toNat):=by
  rcases (show i=0 ∨ i=1 ∨ i=2 by omega) with rfl | rfl | rfl
  · show [_,_,_]=lwV (lw Ds k tp hi (0+1) 0,lw Ds k tp hi (0+1) 1,lw Ds k tp hi (0+1) 2)
    rw [lw_new,lw_same (j:=1) (by omega),lw_same (j:=2) (by omega)]; rfl
  · show [_,_,_]=lwV (lw Ds k tp hi (1+1) 0,lw Ds k tp hi (1+1) 1,lw Ds k tp hi (1+1) 2)
    rw [lw_new,lw_same (j:=0) (by omega),lw_same (j:=2) (by omega)]; rfl
  · show [_,_,_]=lwV (lw Ds k tp hi (2+1) 0,lw Ds k tp hi (2+1) 1,lw Ds k tp hi (2+1) 2)
    rw [lw_new,lw_same (j:=0) (by omega),lw_same (j:=1) (by omega)]; rfl
/-- The keys below. -/
noncomputable def lk_ (vars:Int) (Ds:List Mg) (k:K3r) (hi:Prop):K3r:=lwL Ds k (mlv vars Ds k) hi Ds.length
theorem stp_rf {A:Mg} (hv:A.v=vars) (f:GRed vars (mG A)) {r x:Int} {hi:Prop} (h:(mG A).ok r) (hx:x < vars) (hl:x≤lev vars (mG A) r):(mG A).ok (stp A r x hi)∧x < lev vars (mG A) (stp A r x hi):=by
  have ht:=tp_lev (r:=r) hv
  by_cases q:tp A r=x
  · have h2:¬ (mG A).lf r:=fun z=>by rw [lev_lf z] at ht; omega
    have q2:=ht
    rw [lev_nd h2] at q2
    have a:=f.lo r h h2
    have b:=f.hi r h h2
    by_cases p:hi
    · rw [stp_h q p]; exact ⟨b.1,by have:=b.2.2; show x < lev vars (mG A) ((mG A).nd r).h; omega⟩
    · rw [stp_l q p]; exact ⟨a.1,by have:=a.2.2; show x < lev vars (mG A) ((mG A).nd r).l; omega⟩
  · rw [stp_0 q]; exact ⟨h,by omega⟩
theorem stp_vl {A:Mg} (hv:A.v=vars) (f:GRed vars (mG A)) {r x:Int} {hi:Prop} (h:(mG A).ok r) (hx:x < vars) (e:Int→Bool) (he:e x=true ↔ hi):gev (mG A) e (stp A r x hi)=gev (mG A) e r:=by
  have ht:=tp_lev (r:=r) hv
  by_cases q:tp A r=x
  · have h2:¬ (mG A).lf r:=fun z=>by rw [lev_lf z] at ht; omega
    have q2:=ht
    rw [lev_nd h2] at q2
    have e1:((mG A).nd r).v=x:=by omega
    rw [gev_step f h h2 (r:=r),e1]
    by_cases p:hi
    · rw [stp_h q p,if_pos (he.2 p)]; rfl
    · rw [stp_l q p,if_neg fun z=>p (he.1 z)]; rfl
  · rw [stp_0 q]
/-- All diagrams speak of the same variables. -/
def SameV (vars:Int) (Ds:List Mg):Prop:=∀ i:Int,0≤i→i < Ds.length→(dm Ds i).v=vars
theorem lk_el {hi:Prop} {i:Nat} (h1:i < 3):kg (lk_ vars Ds k hi) i=if i < Ds.length then stp (dm Ds i) (kg k i) (mlv vars Ds k) hi else 0:=by
  have:i=0 ∨ i=1 ∨ i=2:=by omega
  rcases this with rfl | rfl | rfl <;> rfl
theorem lk_ok (sv:SameV vars Ds) (d:DsOk vars Ds) (h:KOk Ds k) (ht:mlv vars Ds k < vars) (hi:Prop):KOk Ds (lk_ vars Ds k hi)∧mlv vars Ds k < mlv vars Ds (lk_ vars Ds k hi):=by
  have each:∀ i:Nat,i < 3→(mG (dm Ds i)).ok (kg (lk_ vars Ds k hi) i)∧(Ds.length≤i→kg (lk_ vars Ds k hi) i=0)∧mlv vars Ds k < lev vars (mG (dm Ds i)) (kg (lk_ vars Ds k hi) i):=fun i hi3=>by
    have hk:=h i (by omega) (by omega)
    rw [lk_el hi3]
    by_cases q:i < Ds.length
    · rw [if_pos q]
      have:=stp_rf (sv i (by omega) (by omega)) (d.red i (by omega)) (hi:=hi) hk.1 ht (mlv_le (by omega) (by omega))
      exact ⟨this.1,fun z=>by omega,this.2⟩
    · rw [if_neg q]
      have e:=hk.2 (by omega)
      have hk1:=hk.1
      rw [e] at hk1
      refine ⟨hk1,fun z=>rfl,?_⟩
      rw [dm_out (by omega) (by omega),lev_lf (G:=mG m0) (by show (0:Int) < ((1:Nat):Int); omega)]; exact ht
  refine ⟨fun i h0 h1=>?_,?_⟩
  · have:=each i.toNat (by omega)
    rw [show ((i.toNat:Nat):Int)=i by omega] at this
    exact ⟨this.1,fun z=>this.2.1 (by omega)⟩
  · rcases tpN_at (vars:=vars) (Ds:=Ds) (k:=lk_ vars Ds k hi) 3 with e | ⟨i,h3,e⟩
    · unfold mlv at ht ⊢; rw [e]; exact ht
    · have:=(each i h3).2.2
      show _ < tpN vars Ds (lk_ vars Ds k hi) 3
      rw [e]; exact this
theorem lk_gF (sv:SameV vars Ds) (d:DsOk vars Ds) (h:KOk Ds k) (ht:mlv vars Ds k < vars) {hi:Prop} {e:Int→Bool} (he:e (mlv vars Ds k)=true ↔ hi):gF Ds F (lk_ vars Ds k hi) e=gF Ds F k e:=by
  have each:∀ i:Nat,i < 3→gev (mG (dm Ds i)) e (kg (lk_ vars Ds k hi) i)=gev (mG (dm Ds i)) e (kg k i):=fun i hi3=>by
    have hk:=h i (by omega) (by omega)
    rw [lk_el hi3]
    by_cases q:i < Ds.length
    · rw [if_pos q]; exact stp_vl (sv i (by omega) (by omega)) (d.red i (by omega)) hk.1 ht e he
    · rw [if_neg q,hk.2 (by omega)]
  unfold gF
  have e0:gev (mG (dm Ds 0)) e (kg (lk_ vars Ds k hi) 0)=gev (mG (dm Ds 0)) e (kg k 0):=each 0 (by omega)
  have e1:gev (mG (dm Ds 1)) e (kg (lk_ vars Ds k hi) 1)=gev (mG (dm Ds 1)) e (kg k 1):=each 1 (by omega)
  have e2:gev (mG (dm Ds 2)) e (kg (lk_ vars Ds k hi) 2)=gev (mG (dm Ds 2)) e (kg k 2):=each 2 (by omega)
  rw [e0,e1,e2]
end
/-- What one reference stands for. -/
structure Std (vars:Int) (Ds:List Mg) (F:Int→Int→Int→Int) (L:List Int) (M:List Fk) (k:K3r) (p:Int):Prop where
  rf:(bV L M).ok p
  lv:mlv vars Ds k≤lev vars (bV L M) p
  val:∀ e,gev (bV L M) e p=gF Ds F k e
structure CInv (vars:Int) (Ds:List Mg) (F:Int→Int→Int→Int) (L:List Int) (M:List Fk) (Dn:K3r→Option Int):Prop where
  ok:BOk vars L M
  dn:∀ k p,Dn k=some p→KOk Ds k→Std vars Ds F L M k p
structure COk (vars:Int) (Ds:List Mg) (F:Int→Int→Int→Int) (k:K3r) (L L':List Int) (M M':List Fk) (Dn':K3r→Option Int) (p:Int):Prop where
  inv:CInv vars Ds F L' M' Dn'
  ext:∃ X,L' = L++X
  exn:∃ Y,M' = M++Y
  std:Std vars Ds F L' M' k p
  len:M'.length+1≤M.length+2 ^ (vars - mlv vars Ds k).toNat
  lel:L'.length≤L.length+2 ^ (vars - mlv vars Ds k).toNat
  rch:∀ z ∈ L',z ∈ L ∨ ∃ e,gF Ds F k e=z
section
variable {vars:Int} {Ds:List Mg} {k:K3r} {F:Int→Int→Int→Int} {L:List Int} {M:List Fk} {Dn:K3r→Option Int}
theorem Std.up {X:List Int} {Y:List Fk} {p:Int} (s:Std vars Ds F L M k p) (f:GRed vars (bV L M)) (g:GRed vars (bV (L++X) (M++Y))):Std vars Ds F (L++X) (M++Y) k p where
  rf:=(bG_sub s.rf).1
  lv:=by rw [bG_lev s.rf]; exact s.lv
  val:=fun e=>by rw [bG_gev f g s.rf e]; exact s.val e
theorem CInv.up {X:List Int} {Y:List Fk} (c:CInv vars Ds F L M Dn) (g:BOk vars (L++X) (M++Y)):CInv vars Ds F (L++X) (M++Y) Dn:=⟨g,fun k p h hk=>(c.dn k p h hk).up c.ok.red g.red⟩
theorem CInv.set {p:Int} (c:CInv vars Ds F L M Dn) (s:Std vars Ds F L M k p):CInv vars Ds F L M (setF Dn k p):=⟨c.ok,fun q r h hk=>by
  by_cases e:q=k
  · subst e; rw [setF_same] at h; cases h; exact s
  · rw [setF_other e] at h; exact c.dn q r h hk⟩
theorem one_le_two_pow' (n:Nat):1≤2 ^ n:=Nat.one_le_two_pow
theorem comb_hit {p:Int} (c:CInv vars Ds F L M Dn) (hk:KOk Ds k) (h:Dn k=some p):COk vars Ds F k L L M M Dn p :=
  ⟨c,⟨[],by simp⟩,⟨[],by simp⟩,c.dn k p h hk,by have:=one_le_two_pow' (vars - mlv vars Ds k).toNat; omega,Nat.le_add_right _ _,fun _ h=>.inl h⟩
theorem lfR_mem {L:List Int} {z y:Int} (h:y ∈ (lfR L z).1):y ∈ L ∨ y=z:=by
  unfold lfR at h
  cases q:gx z L with
  | some i=>rw [q] at h; exact .inl h
  | none =>
    rw [q] at h
    rcases List.mem_append.1 h with h | h
    · exact .inl h
    · exact .inr (List.mem_singleton.1 h)
theorem lk_rch (sv:SameV vars Ds) (d:DsOk vars Ds) (hk:KOk Ds k) (ht:mlv vars Ds k < vars) {hi:Prop} {z:Int} (h:∃ e,gF Ds F (lk_ vars Ds k hi) e=z):∃ e,gF Ds F k e=z:=by
  obtain ⟨e,rfl⟩:=h
  have l:=lk_ok sv d hk ht hi
  have hb:up e (mlv vars Ds k) (decide hi) (mlv vars Ds k)=true ↔ hi:=by unfold up; rw [if_pos rfl]; simp
  refine ⟨up e (mlv vars Ds k) (decide hi),?_⟩
  rw [← lk_gF sv d hk ht hb]
  have each:∀ i:Nat,i < 3→gev (mG (dm Ds i)) (up e (mlv vars Ds k) (decide hi)) (kg (lk_ vars Ds k hi) i)=gev (mG (dm Ds i)) e (kg (lk_ vars Ds k hi) i):=fun i hi3 =>
    gev_congr (d.red i (by omega)) _ _ (l.1 i (by omega) (by omega)).1 (Nat.le_refl _) fun j hj _=>by
      have:=mlv_le (vars:=vars) (Ds:=Ds) (k:=lk_ vars Ds k hi) (i:=i) (by omega) (by omega)
      exact if_neg (by omega)
  unfold gF
  have e0:=each 0 (by omega)
  have e1:=each 1 (by omega)
  have e2:=each 2 (by omega)
  simp only [Int.ofNat_zero,show ((0:Nat):Int)=0 from rfl,show ((1:Nat):Int)=1 from rfl,show ((2:Nat):Int)=2 from rfl] at e0 e1 e2
  rw [e0,e1,e2]
theorem comb_leaf (c:CInv vars Ds F L M Dn) (d:DsOk vars Ds) (hk:KOk Ds k) (ht:mlv vars Ds k=vars) {n:Nat} (h2:Ds.length≤n) {x:List Int × Int}
    (hx:x=lfR L (F (vw Ds k n 0) (vw Ds k n 1) (vw Ds k n 2))):COk vars Ds F k L x.1 M M (setF Dn k x.2) x.2:=by
  have lo:=leaf_ok (z:=F (vw Ds k n 0) (vw Ds k n 1) (vw Ds k n 2)) c.ok
  have ll:=(lfR_len (L:=L) (z:=F (vw Ds k n 0) (vw Ds k n 1) (vw Ds k n 2))).2
  rw [← hx] at lo ll
  obtain ⟨X,eX⟩:=lo.ext
  have s:Std vars Ds F x.1 M k x.2:=⟨lo.rf,by rw [lev_lf (G:=bV x.1 M) lo.lf]; omega,fun e=>by
    rw [gev_lf (G:=bV x.1 M) lo.lf,← leaf_val d hk ht h2 e]; exact lo.vl⟩
  have g:BOk vars (L++X) (M++[]):=by rw [← eX,List.append_nil]; exact lo.ok
  have c2:=c.up g
  rw [← eX,List.append_nil] at c2
  have:=one_le_two_pow' (vars - mlv vars Ds k).toNat
  exact ⟨c2.set s,⟨X,eX⟩,⟨[],by simp⟩,s,by omega,by omega,fun y hy=>by
    rw [hx] at hy
    exact (lfR_mem hy).imp id fun q=>⟨fun _=>false,by rw [q]; exact (leaf_val d hk ht h2 _).symm⟩⟩
theorem comb_node {L1 L2:List Int} {M1 M2:List Fk} {D1 D2:K3r→Option Int} {p1 p2:Int} {x:List Fk × Int} (sv:SameV vars Ds) (d:DsOk vars Ds) (hk:KOk Ds k) (ht:mlv vars Ds k < vars)
    (A:COk vars Ds F (lk_ vars Ds k False) L L1 M M1 D1 p1) (B:COk vars Ds F (lk_ vars Ds k True) L1 L2 M1 M2 D2 p2) (hx:x=ndR M2 (mlv vars Ds k) p1 p2):COk vars Ds F k L L2 M x.1 (setF D2 k x.2) x.2:=by
  obtain ⟨X1,e1⟩:=A.ext
  obtain ⟨X2,e2⟩:=B.ext
  obtain ⟨Y1,f1⟩:=A.exn
  obtain ⟨Y2,f2⟩:=B.exn
  have l1:=lk_ok sv d hk ht False
  have l2:=lk_ok sv d hk ht True
  have mb:=mlv_bd d hk
  have g2:BOk vars (L1++X2) (M1++Y2):=by rw [← e2,← f2]; exact B.inv.ok
  have s1:Std vars Ds F L2 M2 (lk_ vars Ds k False) p1:=by rw [e2,f2]; exact A.std.up A.inv.ok.red g2.red
  have n:=node_ok B.inv.ok mb.1 ht s1.rf B.std.rf (by have:=s1.lv; omega) (by have:=B.std.lv; omega)
  have nl:=(ndR_len (N:=M2) (v:=mlv vars Ds k) (l:=p1) (h:=p2)).2
  rw [← hx] at n nl
  obtain ⟨Y3,f3⟩:=n.ext
  have s:Std vars Ds F L2 x.1 k x.2:=⟨n.rf,n.lv,fun e=>by
    rw [n.vl e]
    by_cases q:e (mlv vars Ds k)=true
    · rw [if_pos q,B.std.val e,lk_gF sv d hk ht (by simp [q])]
    · rw [if_neg q,s1.val e,lk_gF sv d hk ht (by simp [q])]⟩
  have m1:2 ^ (vars - mlv vars Ds (lk_ vars Ds k False)).toNat≤2 ^ ((vars - mlv vars Ds k).toNat - 1):=Nat.pow_le_pow_right (by omega) (by have:=(mlv_bd d l1.1); omega)
  have m2:2 ^ (vars - mlv vars Ds (lk_ vars Ds k True)).toNat≤2 ^ ((vars - mlv vars Ds k).toNat - 1):=Nat.pow_le_pow_right (by omega) (by have:=(mlv_bd d l2.1); omega)
  have m3:2 ^ (vars - mlv vars Ds k).toNat=2 ^ ((vars - mlv vars Ds k).toNat - 1)+2 ^ ((vars - mlv vars Ds k).toNat - 1):=by
    conv=>lhs; rw [show (vars - mlv vars Ds k).toNat=((vars - mlv vars Ds k).toNat - 1)+1 by omega]
    rw [Nat.pow_succ]; omega
  refine ⟨?_,⟨X1++X2,by rw [e2,e1]; simp⟩,⟨Y1++Y2++Y3,by rw [f3,f2,f1]; simp⟩,s,?_,?_,fun y hy=>?_⟩
  · have g3:BOk vars (L2++[]) (M2++Y3):=by rw [← f3,List.append_nil]; exact n.ok
    have:=B.inv.up g3
    rw [← f3,List.append_nil] at this
    exact this.set s
  · have a:=A.len
    have b:=B.len
    omega
  · have a:=A.lel
    have b:=B.lel
    omega
  · rcases B.rch y hy with q | q
    · exact (A.rch y q).imp id fun q=>lk_rch sv d hk ht q
    · exact .inr (lk_rch sv d hk ht q)
theorem tpN_step {i:Int} (h0:0≤i):tpN vars Ds k (i+1).toNat=if lev vars (mG (dm Ds i)) (kg k i) < tpN vars Ds k i.toNat then lev vars (mG (dm Ds i)) (kg k i) else tpN vars Ds k i.toNat:=by
  rw [show (i+1).toNat=i.toNat+1 by omega]
  show (if lev vars (mG (dm Ds (i.toNat:Int))) (kg k (i.toNat:Int)) < _ then lev vars (mG (dm Ds (i.toNat:Int))) (kg k (i.toNat:Int)) else _)=_
  rw [show ((i.toNat:Nat):Int)=i by omega]
theorem lk_pow (sv:SameV vars Ds) (d:DsOk vars Ds) (hk:KOk Ds k) (ht:mlv vars Ds k < vars) (hi:Prop):2 ^ (vars - mlv vars Ds (lk_ vars Ds k hi)).toNat+2 ^ (vars - mlv vars Ds (lk_ vars Ds k hi)).toNat≤2 ^ (vars - mlv vars Ds k).toNat:=by
  have l1:=lk_ok sv d hk ht hi
  have b:=mlv_bd d l1.1
  have m1:2 ^ (vars - mlv vars Ds (lk_ vars Ds k hi)).toNat≤2 ^ ((vars - mlv vars Ds k).toNat - 1):=Nat.pow_le_pow_right (by omega) (by omega)
  have m3:2 ^ (vars - mlv vars Ds k).toNat=2 ^ ((vars - mlv vars Ds k).toNat - 1)+2 ^ ((vars - mlv vars Ds k).toNat - 1):=by
    conv=>lhs; rw [show (vars - mlv vars Ds k).toNat=((vars - mlv vars Ds k).toNat - 1)+1 by omega]
    rw [Nat.pow_succ]; omega
  omega
theorem comb_pow (d:DsOk vars Ds) (hk:KOk Ds k):2 ^ (vars - mlv vars Ds k).toNat≤1099511627776:=by
  have mb:=mlv_bd d hk
  have h1:=d.v1
  have:2 ^ (vars - mlv vars Ds k).toNat≤2 ^ 40:=Nat.pow_le_pow_right (by omega) (by omega)
  omega
end
end Go.Proofs.Ytkmhjcjpohpiaaa
namespace Go.Proofs.Ytkmhjcjpohpiaaa
open Go Go.Vc
open Classical
def dgc (lvs nvs:List Value) (D:List Mg) (i:Nat):List Value:=[.int .i64 (dm D i).v,gv lvs i,gv nvs i,.int .i64 (dm D i).r]
def mdls (lvs nvs:List Value) (D:List Mg):List Value:=(List.range D.length).flatMap (dgc lvs nvs D)
theorem flat4_len (f:Nat→List Value) (hf:∀ i,(f i).length=4):∀ n,((List.range n).flatMap f).length=n * 4
  | 0=>rfl
  | n+1=>by rw [List.range_succ,List.flatMap_append,List.length_append,flat4_len f hf n]; simp [hf]; omega
theorem flat4 (f:Nat→List Value) (hf:∀ i,(f i).length=4):∀ n i,i < n→(((List.range n).flatMap f).drop (i * 4)).take 4=f i
  | n+1,i,hi=>by
    have hl:=flat4_len f hf n
    rw [List.range_succ,List.flatMap_append]
    by_cases e:i < n
    · rw [List.drop_append_of_le_length (by omega),List.take_append_of_le_length (by rw [List.length_drop]; omega)]
      exact flat4 f hf n i e
    · have:i=n:=by omega
      subst this
      rw [show i * 4=((List.range i).flatMap f).length by omega,List.drop_left]
      simp only [List.flatMap_cons,List.flatMap_nil,List.append_nil]
      rw [List.take_of_length_le (by rw [hf]; exact Nat.le_refl _)]
theorem mdls_at {lvs nvs:List Value} {D:List Mg} {i:Int} (h0:0≤i) (h1:i < D.length):((mdls lvs nvs D).drop (i.toNat * 4)).take 4=[.int .i64 (dm D i).v,gv lvs i,gv nvs i,.int .i64 (dm D i).r]:=by
  unfold mdls
  rw [flat4 _ (fun _=>rfl) D.length i.toNat (by omega)]
  unfold dgc
  rw [show ((i.toNat:Nat):Int)=i by omega]
theorem mdls_el {lvs nvs:List Value} {D:List Mg} {i:Int} {o:Nat} {u:Value} (h0:0≤i) (h1:i < D.length) (ho:o < 4) (hu:[Value.int .i64 (dm D i).v,gv lvs i,gv nvs i,.int .i64 (dm D i).r][o]? = some u):(mdls lvs nvs D)[i.toNat * 4+o]? = some u:=by
  rw [← hu,← mdls_at h0 h1,List.getElem?_take,if_pos ho,List.getElem?_drop]
/-- A list of diagrams in memory. -/
structure Mdl (H:HV) (v:Value) (lvs nvs:List Value) (D:List Mg):Prop where
  sl:SlS 4 H v D.length (mdls lvs nvs D)
  at_:∀ i:Int,0≤i→i < D.length→Mt H (gv lvs i) (gv nvs i) (dm D i)
theorem Mdl.mono {H H':HV} {v:Value} {lvs nvs:List Value} {D:List Mg} (h:Mdl H v lvs nvs D) (s:Vc.Sub H H'):Mdl H' v lvs nvs D:=⟨h.sl.mono s,fun i a b=>(h.at_ i a b).mono s⟩
theorem Mdl.one {H:HV} {b:Nat} {l n:Value} {A:Mg} (h:Cells H b [.int .i64 A.v,l,n,.int .i64 A.r]) (hA:Mt H l n A):Mdl H (.slice (some ⟨b,0,none⟩) 1 1) [l] [n] [A] :=
  ⟨cells_sls (n:=1) (c:=1) h rfl (Nat.le_refl _) (by omega),fun i h0 h1=>by
    have h1:i < ((1:Nat):Int):=h1
    have:i=0:=by omega
    subst this; exact hA⟩
theorem Mdl.two {H:HV} {b:Nat} {l n l2 n2:Value} {A B:Mg} (h:Cells H b [.int .i64 A.v,l,n,.int .i64 A.r,.int .i64 B.v,l2,n2,.int .i64 B.r]) (hA:Mt H l n A) (hB:Mt H l2 n2 B):Mdl H (.slice (some ⟨b,0,none⟩) 2 2) [l,l2] [n,n2] [A,B] :=
  ⟨cells_sls (n:=2) (c:=2) h rfl (Nat.le_refl _) (by omega),fun i h0 h1=>by
    have h1:i < ((2:Nat):Int):=h1
    rcases (show i=0 ∨ i=1 by omega) with rfl | rfl
    · exact hA
    · exact hB⟩
theorem Mdl.three {H:HV} {b:Nat} {l n l2 n2 l3 n3:Value} {A B C0:Mg} (h:Cells H b [.int .i64 A.v,l,n,.int .i64 A.r,.int .i64 B.v,l2,n2,.int .i64 B.r,.int .i64 C0.v,l3,n3,.int .i64 C0.r]) (hA:Mt H l n A) (hB:Mt H l2 n2 B) (hC:Mt H l3 n3 C0):Mdl H (.slice (some ⟨b,0,none⟩) 3 3) [l,l2,l3] [n,n2,n3] [A,B,C0] :=
  ⟨cells_sls (n:=3) (c:=3) h rfl (Nat.le_refl _) (by omega),fun i h0 h1=>by
    have h1:i < ((3:Nat):Int):=h1
    rcases (show i=0 ∨ i=1 ∨ i=2 by omega) with rfl | rfl | rfl
    · exact hA
    · exact hB
    · exact hC⟩
abbrev rt (Ds:List Mg):K3r:=((dm Ds 0).r,(dm Ds 1).r,(dm Ds 2).r)
def rn (Ds:List Mg) (n j:Nat):Int:=if j < n then (dm Ds j).r else 0
def rnL (Ds:List Mg) (n:Nat):K3r:=(rn Ds n 0,rn Ds n 1,rn Ds n 2)
theorem rn_0 {Ds:List Mg} {j:Nat}:rn Ds 0 j=0:=if_neg (by omega)
theorem rn_same {Ds:List Mg} {n j:Nat} (h:j ≠ n):rn Ds (n+1) j=rn Ds n j:=by
  unfold rn
  by_cases q:j < n
  · rw [if_pos q,if_pos (by omega)]
  · rw [if_neg q,if_neg (by omega)]
theorem rn_new {Ds:List Mg} {n:Nat}:rn Ds (n+1) n=(dm Ds n).r:=if_pos (by omega)
theorem rnL_step {Ds:List Mg} {i:Int} (h0:0≤i) (h1:i < 3):(lwV (rnL Ds i.toNat)).set (0+i.toNat) (.int .i64 (dm Ds i).r)=lwV (rnL Ds (i+1).toNat):=by
  rcases (show i=0 ∨ i=1 ∨ i=2 by omega) with rfl | rfl | rfl
  · show [_,_,_]=lwV (rn Ds (0+1) 0,rn Ds (0+1) 1,rn Ds (0+1) 2)
    rw [rn_new,rn_same (j:=1) (by omega),rn_same (j:=2) (by omega)]; rfl
  · show [_,_,_]=lwV (rn Ds (1+1) 0,rn Ds (1+1) 1,rn Ds (1+1) 2)
    rw [rn_new,rn_same (j:=0) (by omega),rn_same (j:=2) (by omega)]; rfl
  · show [_,_,_]=lwV (rn Ds (2+1) 0,rn Ds (2+1) 1,rn Ds (2+1) 2)
    rw [rn_new,rn_same (j:=0) (by omega),rn_same (j:=1) (by omega)]; rfl
theorem rnL_all {Ds:List Mg} {n:Nat} (h:Ds.length≤n):rnL Ds n=rt Ds:=by
  have key:∀ j:Nat,rn Ds n j=(dm Ds j).r:=fun j=>by
    unfold rn
    by_cases q:j < n
    · exact if_pos q
    · rw [if_neg q,dm_out (by omega) (by omega)]; rfl
  show (rn Ds n 0,rn Ds n 1,rn Ds n 2)=_
  rw [key 0,key 1,key 2]; rfl
def Rts (Ds:List Mg):Prop:=∀ i:Int,0≤i→i < Ds.length→(mG (dm Ds i)).ok (dm Ds i).r
theorem kg_rt {Ds:List Mg} {i:Int} (h0:0≤i) (h1:i < 3):kg (rt Ds) i=(dm Ds i).r:=by
  rcases (show i=0 ∨ i=1 ∨ i=2 by omega) with rfl | rfl | rfl <;> rfl
theorem rt_ok {Ds:List Mg} (h:Rts Ds):KOk Ds (rt Ds):=fun i h0 h1=>by
  rw [kg_rt h0 h1]
  by_cases q:i < Ds.length
  · exact ⟨h i h0 q,fun z=>by omega⟩
  · rw [dm_out h0 (by omega)]
    exact ⟨⟨by show (0:Int)≤0; omega,by show (0:Int) < ((1:Nat):Int)+((0:Nat):Int); omega⟩,fun _=>rfl⟩
theorem leaf_idx {vars:Int} {Ds:List Mg} {k:K3r} (d:DsOk vars Ds) (h:KOk Ds k) (ht:mlv vars Ds k=vars) {i:Int} (h0:0≤i) (h1:i < 3):0≤kg k i∧kg k i < (dm Ds i).L.length:=by
  have hk:=(h i h0 h1).1
  have hl:=mlv_le (vars:=vars) (Ds:=Ds) (k:=k) h0 h1
  have f:=d.red i h0
  exact ⟨hk.1,f.lev_lt hk (by have:=f.lev_le hk; omega)⟩
def Rng (Ds:List Mg):Prop:=∀ i:Int,0≤i→i < Ds.length→∀ z ∈ (dm Ds i).L,inR z
theorem vw_inR {vars:Int} {Ds:List Mg} {k:K3r} (d:DsOk vars Ds) (h:KOk Ds k) (ht:mlv vars Ds k=vars) (hr:Rng Ds) {n j:Nat} (hn:n≤Ds.length) (hj:j < 3):inR (vw Ds k n j):=by
  unfold vw
  by_cases q:j < n
  · rw [if_pos q]
    have hi:=leaf_idx d h ht (i:=j) (by omega) (by omega)
    refine hr j (by omega) (by omega) _ ?_
    unfold gi
    rw [List.getD_eq_getElem?_getD,List.getElem?_eq_getElem (by omega)]
    exact List.getElem_mem (by omega)
  · rw [if_neg q]; exact ⟨by omega,by omega⟩
end Go.Proofs.Ytkmhjcjpohpiaaa
namespace Go.Proofs.Ytkmhjcjpohpiaaa
open Go Go.Vc
open Classical
structure Os where
  sn:Int→Option Bool
  lv:List Int
  nd:List Int
abbrev seen (s:Os) (r:Int):Prop:=(s.sn r).getD false=true
abbrev os0:Os:=⟨fun _=>none,[],[]⟩
noncomputable abbrev osm (s:Os) (r:Int):Os:=⟨setF s.sn r true,s.lv,s.nd⟩
noncomputable def ordF (N:List Fk):Nat→Int→Os→Os
  | 0,_,s=>s
  | k+1,r,s=>if seen s r then s else if r % 2=0 then ⟨setF s.sn r true,s.lv++[r / 2],s.nd⟩
    else ⟨(ordF N k (fk N (r / 2)).h (ordF N k (fk N (r / 2)).l (osm s r))).sn,(ordF N k (fk N (r / 2)).h (ordF N k (fk N (r / 2)).l (osm s r))).lv,(ordF N k (fk N (r / 2)).h (ordF N k (fk N (r / 2)).l (osm s r))).nd++[r / 2]⟩
theorem ord_hit {N:List Fk} {k:Nat} {r:Int} {s:Os} (h:seen s r):ordF N (k+1) r s=s:=by unfold ordF; rw [if_pos h]
theorem ord_leaf {N:List Fk} {k:Nat} {r:Int} {s:Os} (h:¬ seen s r) (h2:r % 2=0):ordF N (k+1) r s=⟨setF s.sn r true,s.lv++[r / 2],s.nd⟩:=by rw [ordF,if_neg h,if_pos h2]
theorem ord_node {N:List Fk} {k:Nat} {r:Int} {s a b:Os} (h:¬ seen s r) (h2:¬ r % 2=0) (ha:a=ordF N k (fk N (r / 2)).l (osm s r)) (hb:b=ordF N k (fk N (r / 2)).h a):ordF N (k+1) r s=⟨b.sn,b.lv,b.nd++[r / 2]⟩:=by
  rw [ordF,if_neg h,if_neg h2,← ha,← hb]
theorem seen_set {s:Os} {r q:Int} {l n:List Int}:seen ⟨setF s.sn r true,l,n⟩ q ↔ q=r ∨ seen s q:=by
  by_cases e:q=r
  · subst e; show (setF s.sn q true q).getD false=true ↔ _; rw [setF_same]; simp
  · show (setF s.sn r true q).getD false=true ↔ _; rw [setF_other e]; simp [e]
/-- What one walk does. -/
structure OrdOk (L:List Int) (N:List Fk) (r:Int) (s s':Os):Prop where
  mono:∀ q,seen s q→seen s' q
  at_:seen s' r
  only:∀ q:Int,q % 2=1→q ≠ r→(bV L N).mu r≤(bV L N).mu q→seen s' q→seen s q
  new:∀ (P:Int→Prop),(∀ q,(bV L N).ok q→¬ q % 2=0→P q→P (fk N (q / 2)).l∧P (fk N (q / 2)).h)→P r→∀ q,seen s' q→seen s q ∨ P q
  clo:∀ q,seen s' q→seen s q ∨ ((bV L N).ok q∧(¬ q % 2=0→seen s' (fk N (q / 2)).l∧seen s' (fk N (q / 2)).h))
  lvs:(∀ i:Int,i ∈ s.lv ↔ seen s (2 * i))→∀ i:Int,i ∈ s'.lv ↔ seen s' (2 * i)
  nod:(∀ i:Int,i ∈ s.lv ↔ seen s (2 * i))→s.lv.Nodup→s'.lv.Nodup
  sz:s.lv.length≤s'.lv.length∧s.nd.length≤s'.nd.length
theorem ord_ok {vars:Int} {L:List Int} {N:List Fk} (f:GRed vars (bV L N)):∀ (k:Nat) (r:Int) (s:Os),(bV L N).ok r→(bV L N).mu r < k→OrdOk L N r s (ordF N k r s)
  | 0,r,s,h,hk=>by omega
  | k+1,r,s,h,hk=>by
    by_cases hs:seen s r
    · rw [ord_hit hs]
      exact ⟨fun _ h=>h,hs,fun _ _ _ _ h=>h,fun _ _ _ _ h=>.inl h,fun _ h=>.inl h,fun h=>h,fun _ h=>h,Nat.le_refl _,Nat.le_refl _⟩
    by_cases h2:r % 2=0
    · rw [ord_leaf hs h2]
      refine ⟨fun q hq=>seen_set.2 (.inr hq),seen_set.2 (.inl rfl),fun q hq hne _ hq'=>(seen_set.1 hq').resolve_left hne,fun P _ hP q hq=>?_,fun q hq=>?_,fun hI i=>?_,fun hI hn=>?_,?_,Nat.le_refl _⟩
      · rcases seen_set.1 hq with rfl | hq
        · exact .inr hP
        · exact .inl hq
      · rcases seen_set.1 hq with rfl | hq
        · exact .inr ⟨h,fun z=>absurd h2 z⟩
        · exact .inl hq
      · rw [seen_set,← hI i,List.mem_append,List.mem_singleton]
        constructor
        · rintro (z | z)
          · exact .inr z
          · exact .inl (by omega)
        · rintro (z | z)
          · exact .inr (by omega)
          · exact .inl z
      · refine List.nodup_append.2 ⟨hn,by simp,fun a ha b hb=>?_⟩
        rw [List.mem_singleton] at hb
        rintro rfl
        subst hb
        refine hs ?_
        have:=(hI (r / 2)).1 ha
        rwa [show 2 * (r / 2)=r by omega] at this
      · simp
    · have hlo:=f.lo r h h2
      have hhi:=f.hi r h h2
      have hlo:(bV L N).ok (fk N (r / 2)).l∧(bV L N).mu (fk N (r / 2)).l < (bV L N).mu r∧_:=hlo
      have hhi:(bV L N).ok (fk N (r / 2)).h∧(bV L N).mu (fk N (r / 2)).h < (bV L N).mu r∧_:=hhi
      have A:=ord_ok f k (fk N (r / 2)).l (osm s r) hlo.1 (by omega)
      have B:=ord_ok f k (fk N (r / 2)).h (ordF N k (fk N (r / 2)).l (osm s r)) hhi.1 (by omega)
      rw [ord_node hs h2 rfl rfl]
      generalize ordF N k (fk N (r / 2)).l (osm s r)=a at A B
      generalize ordF N k (fk N (r / 2)).h a=b at B
      have nl:∀ q,(bV L N).mu r≤(bV L N).mu q→q ≠ (fk N (r / 2)).l:=fun q z e=>by rw [e] at z; omega
      have nh:∀ q,(bV L N).mu r≤(bV L N).mu q→q ≠ (fk N (r / 2)).h:=fun q z e=>by rw [e] at z; omega
      refine ⟨fun q hq=>B.mono q (A.mono q (seen_set.2 (.inr hq))),B.mono r (A.mono r (seen_set.2 (.inl rfl))),fun q hq hne hm hq'=>?_,fun P hC hP q hq=>?_,fun q hq=>?_,fun hI=>?_,fun hI hn=>?_,?_,?_⟩
      · have z:=A.only q hq (nl q hm) (by omega) (B.only q hq (nh q hm) (by omega) hq')
        exact (seen_set.1 z).resolve_left hne
      · have c:=hC r h h2 hP
        rcases B.new P hC c.2 q hq with z | z
        · rcases A.new P hC c.1 q z with z | z
          · rcases seen_set.1 z with rfl | z
            · exact .inr hP
            · exact .inl z
          · exact .inr z
        · exact .inr z
      · rcases B.clo q hq with z | z
        · rcases A.clo q z with z | ⟨z1,z2⟩
          · rcases seen_set.1 z with rfl | z
            · exact .inr ⟨h,fun _=>⟨B.mono _ A.at_,B.at_⟩⟩
            · exact .inl z
          · exact .inr ⟨z1,fun y=>⟨B.mono _ (z2 y).1,B.mono _ (z2 y).2⟩⟩
        · exact .inr z
      · refine B.lvs (A.lvs fun i=>?_)
        rw [seen_set]
        refine (hI i).trans ⟨.inr,fun z=>z.resolve_left fun e=>?_⟩
        omega
      · have hI2:∀ i:Int,i ∈ (osm s r).lv ↔ seen (osm s r) (2 * i):=fun i=>by
          rw [seen_set]
          refine (hI i).trans ⟨.inr,fun z=>z.resolve_left fun e=>?_⟩
          omega
        exact B.nod (A.lvs hI2) (A.nod hI2 hn)
      · exact Nat.le_trans A.sz.1 B.sz.1
      · show s.nd.length≤(b.nd++[r / 2]).length
        rw [List.length_append]; exact Nat.le_trans (Nat.le_trans A.sz.2 B.sz.2) (Nat.le_add_right _ _)
theorem nodup_len:∀ (n:Nat) {l:List Int},l.Nodup→(∀ i ∈ l,0≤i∧i < n)→l.length≤n
  | 0,l,_,h=>by
    cases l with
    | nil=>simp
    | cons a l=>have:=h a (List.mem_cons_self ..); omega
  | n+1,l,hn,h=>by
    by_cases hm:(n:Int) ∈ l
    · have:=nodup_len n (hn.erase (n:Int)) fun i hi=>by
        have hi:=(hn.mem_erase_iff).1 hi
        have:=h i hi.2
        have:=hi.1
        omega
      have hl:=List.length_erase_of_mem hm
      omega
    · have:=nodup_len n hn fun i hi=>by
        have h1:=h i hi
        have:i ≠ n:=fun e=>hm (e ▸ hi)
        omega
      omega
structure OsI (L:List Int) (N:List Fk) (s:Os):Prop where
  lv:∀ i ∈ s.lv,seen s (2 * i)∧0≤i∧i < L.length
  lvn:s.lv.Nodup
  nd:∀ i ∈ s.nd,seen s (2 * i+1)∧0≤i∧i < N.length
  ndn:s.nd.Nodup
theorem OsI.len {L:List Int} {N:List Fk} {s:Os} (h:OsI L N s):s.lv.length≤L.length∧s.nd.length≤N.length :=
  ⟨nodup_len _ h.lvn fun i hi=>(h.lv i hi).2,nodup_len _ h.ndn fun i hi=>(h.nd i hi).2⟩
theorem osi0 {L:List Int} {N:List Fk}:OsI L N os0:=⟨fun _ h=>by simp at h,by simp,fun _ h=>by simp at h,by simp⟩
theorem osi_mark {L:List Int} {N:List Fk} {s:Os} {r:Int} (h:OsI L N s):OsI L N (osm s r) :=
  ⟨fun i hi=>⟨seen_set.2 (.inr (h.lv i hi).1),(h.lv i hi).2⟩,h.lvn,fun i hi=>⟨seen_set.2 (.inr (h.nd i hi).1),(h.nd i hi).2⟩,h.ndn⟩
structure OrdI (L:List Int) (N:List Fk) (r:Int) (s s':Os):Prop where
  inv:OsI L N s'
  new:∀ i ∈ s'.nd,i ∈ s.nd ∨ ((bV L N).mu (2 * i+1)≤(bV L N).mu r)
theorem osi_leaf {L:List Int} {N:List Fk} {s:Os} {r:Int} (h:OsI L N s) (hr:(bV L N).ok r) (h2:r % 2=0) (hs:¬ seen s r):OsI L N ⟨setF s.sn r true,s.lv++[r / 2],s.nd⟩:=by
  refine ⟨fun i hi=>?_,List.nodup_append.2 ⟨h.lvn,by simp,fun a ha b hb=>?_⟩,fun i hi=>⟨seen_set.2 (.inr (h.nd i hi).1),(h.nd i hi).2⟩,h.ndn⟩
  · rcases List.mem_append.1 hi with q | q
    · exact ⟨seen_set.2 (.inr (h.lv i q).1),(h.lv i q).2⟩
    · rw [List.mem_singleton] at q
      subst q
      refine ⟨seen_set.2 (.inl (by omega)),?_,hr.2.1 h2⟩
      have:=hr.1; omega
  · rw [List.mem_singleton] at hb
    rintro rfl
    subst hb
    refine hs ?_
    have:=(h.lv _ ha).1
    rwa [show 2 * (r / 2)=r by omega] at this
theorem osi_node {L:List Int} {N:List Fk} {s a b:Os} {r:Int} {l h':Int} (hI:OsI L N s) (hr:(bV L N).ok r) (h2:¬ r % 2=0) (hs:¬ seen s r) (ml:(bV L N).mu l < (bV L N).mu r) (mh:(bV L N).mu h' < (bV L N).mu r)
    (A:OrdI L N l (osm s r) a) (B:OrdI L N h' a b) (hm:seen b r):OrdI L N r s ⟨b.sn,b.lv,b.nd++[r / 2]⟩:=by
  have e2:2 * (r / 2)+1=r:=by omega
  have hnew:∀ i ∈ b.nd,i ∈ s.nd ∨ (bV L N).mu (2 * i+1) < (bV L N).mu r:=fun i hi=>by
    rcases B.new i hi with q | q
    · rcases A.new i q with q | q
      · exact .inl q
      · exact .inr (by omega)
    · exact .inr (by omega)
  refine ⟨⟨B.inv.lv,B.inv.lvn,fun i hi=>?_,List.nodup_append.2 ⟨B.inv.ndn,by simp,fun x hx y hy=>?_⟩⟩,fun i hi=>?_⟩
  · rcases List.mem_append.1 hi with q | q
    · exact B.inv.nd i q
    · rw [List.mem_singleton] at q
      subst q
      refine ⟨by rw [e2]; exact hm,?_,hr.2.2 (by omega)⟩
      have:=hr.1; omega
  · rw [List.mem_singleton] at hy
    rintro rfl
    subst hy
    rcases hnew _ hx with q | q
    · exact hs (by have:=(hI.nd _ q).1; rwa [e2] at this)
    · rw [e2] at q; omega
  · rcases List.mem_append.1 hi with q | q
    · rcases hnew i q with q | q
      · exact .inl q
      · exact .inr (by omega)
    · rw [List.mem_singleton] at q
      subst q
      exact .inr (by rw [e2]; exact Nat.le_refl _)
theorem ord_inv {vars:Int} {L:List Int} {N:List Fk} (f:GRed vars (bV L N)):∀ (k:Nat) (r:Int) (s:Os),(bV L N).ok r→(bV L N).mu r < k→OsI L N s→OrdI L N r s (ordF N k r s)
  | 0,r,s,h,hk,_=>by omega
  | k+1,r,s,h,hk,hI=>by
    by_cases hs:seen s r
    · rw [ord_hit hs]; exact ⟨hI,fun i hi=>.inl hi⟩
    by_cases h2:r % 2=0
    · rw [ord_leaf hs h2]; exact ⟨osi_leaf hI h h2 hs,fun i hi=>.inl hi⟩
    · have hlo:=f.lo r h h2
      have hhi:=f.hi r h h2
      have hlo:(bV L N).ok (fk N (r / 2)).l∧(bV L N).mu (fk N (r / 2)).l < (bV L N).mu r∧_:=hlo
      have hhi:(bV L N).ok (fk N (r / 2)).h∧(bV L N).mu (fk N (r / 2)).h < (bV L N).mu r∧_:=hhi
      have A:=ord_inv f k (fk N (r / 2)).l (osm s r) hlo.1 (by omega) (osi_mark hI)
      have B:=ord_inv f k (fk N (r / 2)).h (ordF N k (fk N (r / 2)).l (osm s r)) hhi.1 (by omega) A.inv
      have OA:=ord_ok f k (fk N (r / 2)).l (osm s r) hlo.1 (by omega)
      have OB:=ord_ok f k (fk N (r / 2)).h (ordF N k (fk N (r / 2)).l (osm s r)) hhi.1 (by omega)
      rw [ord_node hs h2 rfl rfl]
      exact osi_node hI h h2 hs hlo.2.1 hhi.2.1 A B (OB.mono _ (OA.mono _ (seen_set.2 (.inl rfl))))
/-- The part of the builder's graph that a walk has seen. -/
def sG (L:List Int) (N:List Fk) (φ:Int→Int) (E:Os):Gph:={ bG L N φ with ok:=fun r=>seen E r }
/-- The whole walk from a root. -/
noncomputable def oE (N:List Fk) (root:Int):Os:=ordF N (root.toNat+2) root os0
theorem mu_lt {L:List Int} {N:List Fk} {r:Int} (h:(bV L N).ok r):(bV L N).mu r < r.toNat+2:=by
  show (if r % 2=0 then 0 else (r / 2).toNat+1) < _
  split <;> omega
section
variable {vars:Int} {L:List Int} {N:List Fk} {root:Int} (b:BOk vars L N) (hr:(bV L N).ok root)
include b hr
theorem oE_ok:OrdOk L N root os0 (oE N root):=ord_ok b.red _ root os0 hr (mu_lt hr)
theorem oE_clo {q:Int} (h:seen (oE N root) q):(bV L N).ok q∧(¬ q % 2=0→seen (oE N root) (fk N (q / 2)).l∧seen (oE N root) (fk N (q / 2)).h) :=
  ((oE_ok b hr).clo q h).resolve_left fun z=>by simp [seen] at z
theorem oE_lv (i:Int):i ∈ (oE N root).lv ↔ seen (oE N root) (2 * i):=(oE_ok b hr).lvs (fun i=>by simp [seen]) i
theorem oE_nod:(oE N root).lv.Nodup:=(oE_ok b hr).nod (fun i=>by simp [seen]) (by simp)
theorem sG_red {φ:Int→Int}:GRed vars (sG L N φ (oE N root)) where
  vr:=fun r h hl=>b.red.vr r (oE_clo b hr h).1 hl
  ne:=fun r h hl=>b.red.ne r (oE_clo b hr h).1 hl
  lo:=fun r h hl=>⟨((oE_clo b hr h).2 hl).1,(b.red.lo r (oE_clo b hr h).1 hl).2⟩
  hi:=fun r h hl=>⟨((oE_clo b hr h).2 hl).2,(b.red.hi r (oE_clo b hr h).1 hl).2⟩
  uq:=fun r s h hl h' hl'=>b.red.uq r s (oE_clo b hr h).1 hl (oE_clo b hr h').1 hl'
theorem lv_bd {i:Int} (h:i ∈ (oE N root).lv):0≤i∧i < L.length:=by
  have h:=(oE_clo b hr ((oE_lv b hr i).1 h)).1
  have h1:=h.1
  have h2:=h.2.1 (by omega)
  omega
/-- What is seen is led to by some values. -/
theorem oE_reach {q:Int} (h:seen (oE N root) q):∃ e:Int→Bool,∀ e':Int→Bool,(∀ i,i < lev vars (bV L N) q→e' i=e i)→gev (bV L N) e' root=gev (bV L N) e' q:=by
  have:=(oE_ok b hr).new (fun q=>(bV L N).ok q∧∃ e:Int→Bool,∀ e':Int→Bool,(∀ i,i < lev vars (bV L N) q→e' i=e i)→gev (bV L N) e' root=gev (bV L N) e' q) (fun q hq hl ⟨_,e,he⟩=>by
    have hlo:=b.red.lo q hq hl
    have hhi:=b.red.hi q hq hl
    have hll:lev vars (bV L N) q=(fk N (q / 2)).v:=lev_nd (G:=bV L N) hl
    refine ⟨⟨hlo.1,up e (fk N (q / 2)).v false,fun e' he'=>?_⟩,⟨hhi.1,up e (fk N (q / 2)).v true,fun e' he'=>?_⟩⟩
    · rw [he e' fun i hi=>by rw [he' i (by have:=hlo.2.2; show i < lev vars (bV L N) ((bV L N).nd q).l; have e3:((bV L N).nd q).v=(fk N (q / 2)).v:=rfl; omega)]; exact if_neg (by omega)]
      rw [gev_step b.red hq hl]
      have:e' ((bV L N).nd q).v=false:=by rw [he' _ hlo.2.2]; exact if_pos rfl
      rw [this]; rfl
    · rw [he e' fun i hi=>by rw [he' i (by have:=hhi.2.2; show i < lev vars (bV L N) ((bV L N).nd q).h; have e3:((bV L N).nd q).v=(fk N (q / 2)).v:=rfl; omega)]; exact if_neg (by omega)]
      rw [gev_step b.red hq hl]
      have:e' ((bV L N).nd q).v=true:=by rw [he' _ hhi.2.2]; exact if_pos rfl
      rw [this]; rfl) ⟨hr,fun _=>false,fun _ _=>rfl⟩ q h
  exact (this.resolve_left fun z=>by simp [seen] at z).2
/-- The value is that of a leaf that is seen. -/
theorem oE_val (e:Int→Bool):∃ i ∈ (oE N root).lv,gi L i=gev (bV L N) e root:=by
  have key:∀ (k:Nat) (q:Int),(bV L N).mu q≤k→seen (oE N root) q→∃ i ∈ (oE N root).lv,gi L i=gev (bV L N) e q:=by
    intro k
    induction k with
    | zero =>
      intro q hk hq
      have hq2:=oE_clo b hr hq
      have hl:q % 2=0:=Classical.byContradiction fun z=>by have:=(b.red.lo q hq2.1 z).2.1; omega
      exact ⟨q / 2,(oE_lv b hr _).2 (by rw [show 2 * (q / 2)=q by omega]; exact hq),by rw [gev_lf (G:=bV L N) hl]; rfl⟩
    | succ k ih =>
      intro q hk hq
      have hq2:=oE_clo b hr hq
      by_cases hl:q % 2=0
      · exact ⟨q / 2,(oE_lv b hr _).2 (by rw [show 2 * (q / 2)=q by omega]; exact hq),by rw [gev_lf (G:=bV L N) hl]; rfl⟩
      · have c:=hq2.2 hl
        have l1:=(b.red.lo q hq2.1 hl).2.1
        have l2:=(b.red.hi q hq2.1 hl).2.1
        rw [gev_step b.red hq2.1 hl]
        by_cases z:e ((bV L N).nd q).v=true
        · rw [if_pos z]; exact ih _ (by omega) c.2
        · rw [if_neg z]; exact ih _ (by omega) c.1
  exact key _ root (Nat.le_refl _) (oE_ok b hr).at_
theorem lv_val {i:Int} (h:i ∈ (oE N root).lv):∃ e,gev (bV L N) e root=gi L i:=by
  have hs:=(oE_lv b hr i).1 h
  obtain ⟨e,he⟩:=oE_reach b hr hs
  have:=he e fun _ _=>rfl
  rw [gev_lf (G:=bV L N) (show (2 * i) % 2=0 by omega)] at this
  exact ⟨e,by rw [this]; show gi L (2 * i / 2)=_; rw [show 2 * i / 2=i by omega]⟩
end
structure Rel (K:Int) (G:Gph) (m:Nat) (s:Os) (t:Ly):Prop where
  len:t.1.length=s.nd.length
  pl:∀ j:Nat,j < s.nd.length→t.2 (2 * s.nd.getD j 0+1)=some (K+j)
  st:∀ q:Int,q % 2=1→G.ok q→G.mu q≤m→(seen s q ↔ (t.2 q).isSome=true)
theorem rel0 {K:Int} {L:List Int} {N:List Fk} {φ:Int→Int} {E:Os} (m:Nat):Rel K (sG L N φ E) m os0 ([],pl0 (sG L N φ E)) where
  len:=rfl
  pl:=fun j h=>by simp at h
  st:=fun q hq _ _=>by
    have:pl0 (sG L N φ E) q=none:=if_neg fun z=>by have:q % 2=0:=z.2; omega
    simp [seen,this]
theorem vis_node {K:Int} {G:Gph} {k:Nat} {r:Int} {s:Ly} (hs:s.2 r=none):vis K G (k+1) r s=((((vis K G k (G.nd r).h (vis K G k (G.nd r).l s).1).1.1++[⟨(G.nd r).v,(vis K G k (G.nd r).l s).2,(vis K G k (G.nd r).h (vis K G k (G.nd r).l s).1).2⟩]),
        setF (vis K G k (G.nd r).h (vis K G k (G.nd r).l s).1).1.2 r (K+(vis K G k (G.nd r).h (vis K G k (G.nd r).l s).1).1.1.length)),K+(vis K G k (G.nd r).h (vis K G k (G.nd r).l s).1).1.1.length):=by rw [vis,hs]
section
variable {vars K:Int} {L:List Int} {N:List Fk} {φ:Int→Int} {E:Os}
theorem rel_ok (f:GOk vars K (sG L N φ E)) (fb:GRed vars (bV L N)) (hsub:∀ q,seen E q→(bV L N).ok q) (K0:0≤K):∀ (k:Nat) (r:Int) (s:Os) (t:Ly) (m:Nat),seen E r→(bV L N).mu r < k→(bV L N).mu r≤m→LyI K (sG L N φ E) t→Rel K (sG L N φ E) m s t→Rel K (sG L N φ E) m (ordF N k r s) (vis K (sG L N φ E) k r t).1
  | 0,r,s,t,m,hr,hk,_,_,_=>by omega
  | k+1,r,s,t,m,hr,hk,hm,hI,R=>by
    by_cases h2:r % 2=0
    · rw [vis_hit (hI.lf r hr h2)]
      by_cases hs:seen s r
      · rw [ord_hit hs]; exact R
      · rw [ord_leaf hs h2]
        refine ⟨R.len,R.pl,fun q hq ho hqm=>?_⟩
        rw [seen_set]
        exact (show (q=r ∨ seen s q) ↔ seen s q from ⟨fun z=>z.resolve_left fun e=>by omega,.inr⟩).trans (R.st q hq ho hqm)
    · have hst:=R.st r (by omega) hr hm
      by_cases hs:seen s r
      · obtain ⟨p,hp⟩:=Option.isSome_iff_exists.1 (hst.1 hs)
        rw [vis_hit hp,ord_hit hs]; exact R
      · have hn:t.2 r=none:=by
          cases q:t.2 r with
          | none=>rfl
          | some p=>exact absurd (hst.2 (by rw [q]; rfl)) hs
        have hb:=hsub r hr
        have hlo:=f.lo r hr h2
        have hhi:=f.hi r hr h2
        have ml:(bV L N).mu (fk N (r / 2)).l < (bV L N).mu r:=hlo.2.1
        have mh:(bV L N).mu (fk N (r / 2)).h < (bV L N).mu r:=hhi.2.1
        have sl:seen E (fk N (r / 2)).l:=hlo.1
        have sh:seen E (fk N (r / 2)).h:=hhi.1
        have R1:Rel K (sG L N φ E) ((bV L N).mu r - 1) (osm s r) t:=⟨R.len,R.pl,fun q hq ho hqm=>by
          rw [seen_set]
          have hqm:(bV L N).mu q≤(bV L N).mu r - 1:=hqm
          refine (show (q=r ∨ seen s q) ↔ seen s q from ⟨fun z=>z.resolve_left fun e=>?_,.inr⟩).trans (R.st q hq ho (by show (bV L N).mu q≤m; omega))
          subst e; omega⟩
        have VA:=vis_ok f K0 k (fk N (r / 2)).l t sl (by show (bV L N).mu (fk N (r / 2)).l < k; omega) hI
        have VB:=vis_ok f K0 k (fk N (r / 2)).h (vis K (sG L N φ E) k (fk N (r / 2)).l t).1 sh (by show (bV L N).mu (fk N (r / 2)).h < k; omega) VA.inv
        have RA:=rel_ok f fb hsub K0 k (fk N (r / 2)).l (osm s r) t ((bV L N).mu r - 1) sl (by omega) (by omega) hI R1
        have RB:=rel_ok f fb hsub K0 k (fk N (r / 2)).h _ _ ((bV L N).mu r - 1) sh (by omega) (by omega) VA.inv RA
        have OA:=ord_ok fb k (fk N (r / 2)).l (osm s r) (hsub _ sl) (by omega)
        have OB:=ord_ok fb k (fk N (r / 2)).h (ordF N k (fk N (r / 2)).l (osm s r)) (hsub _ sh) (by omega)
        rw [ord_node hs h2 rfl rfl,vis_node hn]
        change Rel K (sG L N φ E) m _ (((vis K (sG L N φ E) k (fk N (r / 2)).h (vis K (sG L N φ E) k (fk N (r / 2)).l t).1).1.1++[⟨(fk N (r / 2)).v,(vis K (sG L N φ E) k (fk N (r / 2)).l t).2,(vis K (sG L N φ E) k (fk N (r / 2)).h (vis K (sG L N φ E) k (fk N (r / 2)).l t).1).2⟩]),
          setF (vis K (sG L N φ E) k (fk N (r / 2)).h (vis K (sG L N φ E) k (fk N (r / 2)).l t).1).1.2 r (K+(vis K (sG L N φ E) k (fk N (r / 2)).h (vis K (sG L N φ E) k (fk N (r / 2)).l t).1).1.1.length))
        generalize ordF N k (fk N (r / 2)).l (osm s r)=a at RA RB OA OB
        generalize ordF N k (fk N (r / 2)).h a=b at RB OB
        generalize vis K (sG L N φ E) k (fk N (r / 2)).l t=x at RA RB VA VB
        generalize vis K (sG L N φ E) k (fk N (r / 2)).h x.1=y at RB VB
        have hrl:r ≠ (fk N (r / 2)).l:=fun z=>by rw [← z] at ml; omega
        have hrh:r ≠ (fk N (r / 2)).h:=fun z=>by rw [← z] at mh; omega
        have hyn:y.1.2 r=none:=by rw [VB.only r hrh (by show (bV L N).mu _≤(bV L N).mu _; omega),VA.only r hrl (by show (bV L N).mu _≤(bV L N).mu _; omega),hn]
        refine ⟨?_,fun j hj=>?_,fun q hq ho hqm=>?_⟩
        · simp [RB.len]
        · have hj:j < (b.nd++[r / 2]).length:=hj
          rw [List.length_append] at hj
          by_cases e:j < b.nd.length
          · have hp:=RB.pl j e
            show setF y.1.2 r _ (2 * (b.nd++[r / 2]).getD j 0+1)=_
            rw [show (b.nd++[r / 2]).getD j 0=b.nd.getD j 0 by rw [List.getD_eq_getElem?_getD,List.getD_eq_getElem?_getD,List.getElem?_append_left e],setF_other]
            · exact hp
            · intro z; rw [z,hyn] at hp; cases hp
          · have ej:j=b.nd.length:=by simp at hj; omega
            subst ej
            show setF y.1.2 r _ (2 * (b.nd++[r / 2]).getD b.nd.length 0+1)=_
            rw [show (b.nd++[r / 2]).getD b.nd.length 0=r / 2 by simp [List.getD_eq_getElem?_getD],show 2 * (r / 2)+1=r by omega,setF_same,RB.len]
        · show seen ⟨b.sn,b.lv,b.nd++[r / 2]⟩ q ↔ (setF y.1.2 r _ q).isSome=true
          by_cases e:q=r
          · subst e
            rw [setF_same]
            exact ⟨fun _=>rfl,fun _=>OB.mono _ (OA.mono _ (seen_set.2 (.inl rfl)))⟩
          · rw [setF_other e]
            by_cases hlt:(bV L N).mu q≤(bV L N).mu r - 1
            · exact RB.st q hq ho hlt
            · have hge:(bV L N).mu r≤(bV L N).mu q:=by omega
              have nl:q ≠ (fk N (r / 2)).l:=fun z=>by rw [z] at hge; omega
              have nh:q ≠ (fk N (r / 2)).h:=fun z=>by rw [z] at hge; omega
              rw [VB.only q nh (by show (bV L N).mu _≤(bV L N).mu _; omega),VA.only q nl (by show (bV L N).mu _≤(bV L N).mu _; omega)]
              refine Iff.trans ⟨fun z=>?_,fun z=>?_⟩ (R.st q hq ho hqm)
              · exact (seen_set.1 (OA.only q hq nl (by omega) (OB.only q hq nh (by omega) z))).resolve_left e
              · exact OB.mono _ (OA.mono _ (seen_set.2 (.inr z)))
end
end Go.Proofs.Ytkmhjcjpohpiaaa
namespace Go.Proofs.Ytkmhjcjpohpiaaa
open Go Go.Vc
open Classical
theorem ss_unique:∀ {A B:List Int},A.Pairwise (· < ·)→B.Pairwise (· < ·)→(∀ z,z ∈ A ↔ z ∈ B)→A=B
  | [],[],_,_,_=>rfl
  | [],b :: B,_,_,h=>by have:=(h b).2 (List.mem_cons_self ..); cases this
  | a :: A,[],_,_,h=>by have:=(h a).1 (List.mem_cons_self ..); cases this
  | a :: A,b :: B,ha,hb,h=>by
    obtain ⟨a1,a2⟩:=List.pairwise_cons.1 ha
    obtain ⟨b1,b2⟩:=List.pairwise_cons.1 hb
    have e:a=b:=by
      rcases List.mem_cons.1 ((h a).1 (List.mem_cons_self ..)) with q | q
      · exact q
      · rcases List.mem_cons.1 ((h b).2 (List.mem_cons_self ..)) with p | p
        · exact p.symm
        · have:=b1 a q; have:=a1 b p; omega
    subst e
    rw [ss_unique a2 b2 fun z=>⟨fun hz=>?_,fun hz=>?_⟩]
    · rcases List.mem_cons.1 ((h z).1 (List.mem_cons_of_mem _ hz)) with q | q
      · have:=a1 z hz; omega
      · exact q
    · rcases List.mem_cons.1 ((h z).2 (List.mem_cons_of_mem _ hz)) with q | q
      · have:=b1 z hz; omega
      · exact q
abbrev srt (t:List Int):List Int:=t.mergeSort fun x y=>decide (x≤y)
def dd:List Int→List Int
  | []=>[]
  | a :: l=>match dd l with
    | []=>[a]
    | b :: r=>if a=b then b :: r else a :: b :: r
theorem dd_mem (z:Int):∀ {l:List Int},z ∈ dd l ↔ z ∈ l
  | []=>Iff.rfl
  | a :: l=>by
    have ih:=dd_mem z (l:=l)
    unfold dd
    cases h:dd l with
    | nil =>
      rw [h] at ih
      show z ∈ [a] ↔ _
      rw [List.mem_singleton,List.mem_cons,← ih]; simp
    | cons b r =>
      rw [h] at ih
      show z ∈ (if a=b then b :: r else a :: b :: r) ↔ _
      rw [List.mem_cons (l:=l),← ih]
      by_cases e:a=b
      · subst e; rw [if_pos rfl]; simp
      · rw [if_neg e]; simp
theorem dd_ss:∀ {l:List Int},l.Pairwise (·≤·)→(dd l).Pairwise (· < ·)
  | [],_=>.nil
  | a :: l,h=>by
    obtain ⟨h1,h2⟩:=List.pairwise_cons.1 h
    have ih:=dd_ss h2
    have hm:∀ z,z ∈ dd l→a≤z:=fun z hz=>h1 z ((dd_mem z).1 hz)
    unfold dd
    cases hd:dd l with
    | nil=>show [a].Pairwise _; simp
    | cons b r =>
      rw [hd] at ih hm
      show (if a=b then b :: r else a :: b :: r).Pairwise _
      by_cases e:a=b
      · rw [if_pos e]; exact ih
      · rw [if_neg e]
        refine List.pairwise_cons.2 ⟨fun z hz=>?_,ih⟩
        have q1:=hm b (List.mem_cons_self ..)
        rcases List.mem_cons.1 hz with rfl | hz
        · omega
        · have:=(List.pairwise_cons.1 ih).1 z hz; omega
theorem srt_sorted (t:List Int):(srt t).Pairwise (·≤·):=by
  have:=List.pairwise_mergeSort (le:=fun x y:Int=>decide (x≤y)) (fun a b c h1 h2=>by have h1:=of_decide_eq_true h1; have h2:=of_decide_eq_true h2; exact decide_eq_true (Int.le_trans h1 h2)) (fun a b=>by
    by_cases h:a≤b
    · simp [h]
    · simp; omega) t
  exact this.imp fun h=>of_decide_eq_true h
/-- The values of a table, each once, in order. -/
def vls (t:List Int):List Int:=dd (srt t)
theorem vls_ss (t:List Int):(vls t).Pairwise (· < ·):=dd_ss (srt_sorted t)
theorem vls_mem {t:List Int} {z:Int}:z ∈ vls t ↔ z ∈ t:=by unfold vls; rw [dd_mem]; exact List.mem_mergeSort
theorem vls_eq {A t:List Int} (h:A.Pairwise (· < ·)) (hm:∀ z,z ∈ A ↔ z ∈ t):A=vls t:=ss_unique h (vls_ss t) fun z=>(hm z).trans vls_mem.symm
/-- The place of a value. -/
def ix (V:List Int) (z:Int):Int:=match gx z V with | some i=>(i:Int) | none=>-1
theorem gx_mem {z:Int} {V:List Int} (h:z ∈ V):∃ i,gx z V=some i:=by
  cases q:gx z V with
  | some i=>exact ⟨i,rfl⟩
  | none =>
    obtain ⟨i,hi,e⟩:=List.getElem_of_mem h
    exact absurd (by rw [List.getD_eq_getElem?_getD,List.getElem?_eq_getElem hi]; exact e) (gx_none q i hi)
theorem ix_mem {z:Int} {V:List Int} (h:z ∈ V):0≤ix V z∧ix V z < V.length∧gi V (ix V z)=z:=by
  obtain ⟨i,hi⟩:=gx_mem h
  obtain ⟨h1,h2,_⟩:=gx_some hi
  unfold ix
  rw [hi]
  exact ⟨by show (0:Int)≤(i:Int); omega,by show (i:Int) < _; omega,h2⟩
theorem ss_inj {V:List Int} (h:V.Pairwise (· < ·)) {i j:Int} (h0:0≤i) (h1:i < V.length) (h2:0≤j) (h3:j < V.length) (e:gi V i=gi V j):i=j:=by
  have key:∀ a c:Nat,a < c→c < V.length→V.getD a 0 < V.getD c 0:=fun a c hac hc=>by
    rw [List.getD_eq_getElem?_getD,List.getD_eq_getElem?_getD,List.getElem?_eq_getElem (by omega),List.getElem?_eq_getElem hc]
    exact List.pairwise_iff_getElem.1 h a c (by omega) hc hac
  unfold gi at e
  rcases Nat.lt_trichotomy i.toNat j.toNat with q | q | q
  · have:=key _ _ q (by omega); omega
  · omega
  · have:=key _ _ q (by omega); omega
theorem ix_at {V:List Int} (h:V.Pairwise (· < ·)) {i:Int} (h0:0≤i) (h1:i < V.length):ix V (gi V i)=i:=by
  have hm:gi V i ∈ V:=by
    unfold gi
    rw [List.getD_eq_getElem?_getD,List.getElem?_eq_getElem (by omega)]
    exact List.getElem_mem (by omega)
  obtain ⟨a,b,c⟩:=ix_mem hm
  exact ss_inj h a b h0 h1 c
/-- The diagram of a table. -/
def dg (vars:Int) (t:List Int):Mg:=⟨vars,vls t,(prt (vls t).length vars.toNat [] 0 (t.map (ix (vls t)))).1,(prt (vls t).length vars.toNat [] 0 (t.map (ix (vls t)))).2⟩
theorem tab_mem {α:Type} {f:(Int→Bool)→α} {z:α}:∀ {m:Nat} {v:Int} {e:Int→Bool},z ∈ tab f m v e ↔ ∃ e',(∀ i,(i < v ∨ v+m≤i)→e' i=e i)∧f e' = z
  | 0,v,e=>by
    show z ∈ [f e] ↔ _
    rw [List.mem_singleton]
    constructor
    · rintro rfl; exact ⟨e,fun _ _=>rfl,rfl⟩
    · rintro ⟨e',h,rfl⟩
      rw [show e' = e from funext fun i=>h i (by omega)]
  | m+1,v,e=>by
    show z ∈ tab f m (v+1) (up e v false)++tab f m (v+1) (up e v true) ↔ _
    rw [List.mem_append,tab_mem,tab_mem]
    constructor
    · rintro (⟨e',h,rfl⟩ | ⟨e',h,rfl⟩)
      · exact ⟨e',fun i hi=>by rw [h i (by omega)]; exact if_neg (by omega),rfl⟩
      · exact ⟨e',fun i hi=>by rw [h i (by omega)]; exact if_neg (by omega),rfl⟩
    · rintro ⟨e',h,rfl⟩
      by_cases q:e' v=true
      · refine .inr ⟨e',fun i hi=>?_,rfl⟩
        by_cases e1:i=v
        · subst e1; rw [q]; exact (if_pos rfl).symm
        · rw [h i (by omega)]; exact (if_neg e1).symm
      · refine .inl ⟨e',fun i hi=>?_,rfl⟩
        by_cases e1:i=v
        · subst e1
          show e' i=up e i false i
          unfold up; rw [if_pos rfl]; simpa using q
        · rw [h i (by omega)]; exact (if_neg e1).symm
abbrev e0:Int→Bool:=fun _=>false
/-- f depends on the variables below vars alone. -/
def Dep (vars:Int) {α:Type} (f:(Int→Bool)→α):Prop:=∀ e e':Int→Bool,(∀ i,0≤i→i < vars→e i=e' i)→f e=f e'
abbrev tabv (vars:Int) {α:Type} (f:(Int→Bool)→α):List α:=tab f vars.toNat 0 e0
theorem tabv_mem {vars:Int} {α:Type} {f:(Int→Bool)→α} (hv:0≤vars) (hd:Dep vars f) {z:α}:z ∈ tabv vars f ↔ ∃ e,f e=z:=by
  rw [tab_mem]
  constructor
  · rintro ⟨e,_,h⟩; exact ⟨e,h⟩
  · rintro ⟨e,h⟩
    refine ⟨fun i=>if 0≤i∧i < vars then e i else false,fun i hi=>?_,?_⟩
    · show (if 0≤i∧i < vars then e i else false)=_
      rw [if_neg (by omega)]
    · rw [← h]
      exact hd _ _ fun i a c=>if_pos ⟨a,c⟩
theorem gev_dep {vars:Int} {G:Gph} (f:GRed vars G) (hv:0≤vars) {r:Int} (h:G.ok r):Dep vars fun e=>gev G e r:=fun _ _ he=>gev_congr f _ r h (Nat.le_refl _) fun i a c=>he i (by have:=f.lev_nn hv h; omega) c
def lvS (L lv:List Int):List Int:=lv.mergeSort fun i j=>decide (gi L i≤gi L j)
theorem lvS_len (L lv:List Int):(lvS L lv).length=lv.length:=List.length_mergeSort _
theorem lvS_mem {L lv:List Int} {i:Int}:i ∈ lvS L lv ↔ i ∈ lv:=List.mem_mergeSort
theorem lvS_map (L lv:List Int):(lvS L lv).map (gi L)=srt (lv.map (gi L)):=List.map_mergeSort (fun a _ b _=>rfl)
/-- The numbers that the references get: the leaves'. -/
noncomputable def nmL (lvs:List Int):Nat→Int→Option Int
  | 0=>fun _=>none
  | i+1=>setF (nmL lvs i) (2 * gi lvs i) i
noncomputable def nmN (lvs nds:List Int):Nat→Int→Option Int
  | 0=>nmL lvs lvs.length
  | j+1=>setF (nmN lvs nds j) (2 * gi nds j+1) (lvs.length+j)
theorem nmL_get {lvs:List Int} (hn:lvs.Nodup):∀ {n:Nat} {i:Nat},i < n→n≤lvs.length→nmL lvs n (2 * gi lvs i)=some (i:Int)
  | n+1,i,h,hl=>by
    show setF (nmL lvs n) (2 * gi lvs n) n (2 * gi lvs i)=_
    by_cases e:i=n
    · subst e; rw [setF_same]
    · rw [setF_other,nmL_get hn (by omega) (by omega)]
      intro q
      have q:lvs.getD i 0=lvs.getD n 0:=by unfold gi at q; simp only [Int.toNat_natCast] at q; omega
      rw [List.getD_eq_getElem?_getD,List.getD_eq_getElem?_getD,List.getElem?_eq_getElem (by omega),List.getElem?_eq_getElem (by omega)] at q
      exact e ((List.getElem_inj hn).1 q)
theorem nmN_even {lvs nds:List Int} {q:Int} (h:q % 2=0):∀ j,nmN lvs nds j q=nmL lvs lvs.length q
  | 0=>rfl
  | j+1=>by
    show setF (nmN lvs nds j) (2 * gi nds j+1) _ q=_
    rw [setF_other (by omega),nmN_even h j]
theorem nmN_odd {lvs nds:List Int} (hn:nds.Nodup):∀ {j:Nat} {i:Nat},i < j→j≤nds.length→nmN lvs nds j (2 * gi nds i+1)=some ((lvs.length:Int)+i)
  | j+1,i,h,hl=>by
    show setF (nmN lvs nds j) (2 * gi nds j+1) _ (2 * gi nds i+1)=_
    by_cases e:i=j
    · subst e; rw [setF_same]
    · rw [setF_other,nmN_odd hn (by omega) (by omega)]
      intro q
      have q:nds.getD i 0=nds.getD j 0:=by unfold gi at q; simp only [Int.toNat_natCast] at q; omega
      rw [List.getD_eq_getElem?_getD,List.getD_eq_getElem?_getD,List.getElem?_eq_getElem (by omega),List.getElem?_eq_getElem (by omega)] at q
      exact e ((List.getElem_inj hn).1 q)
/-- What finish makes of the builder. -/
structure Fin (vars:Int) (L:List Int) (N:List Fk) (root:Int) (lvs nds:List Int) (D:Mg):Prop where
  v:D.v=vars
  lv:lvs.map (gi L)=D.L
  lvb:∀ i:Int,0≤i→i < lvs.length→0≤gi lvs i∧gi lvs i < L.length
  ndb:∀ j:Int,0≤j→j < nds.length→0≤gi nds j∧gi nds j < N.length
  len:D.N.length=nds.length
  nd:∀ j:Int,0≤j→j < nds.length→fk D.N j=⟨(fk N (gi nds j)).v,(nmN lvs nds j.toNat (fk N (gi nds j)).l).getD 0,(nmN lvs nds j.toNat (fk N (gi nds j)).h).getD 0⟩
  rt:(nmN lvs nds nds.length root).getD 0=D.r
theorem pos_of_getD {l:List Int} {z:Int} (h:z ∈ l):∃ i:Nat,i < l.length∧gi l i=z:=by
  obtain ⟨i,hi,e⟩:=List.getElem_of_mem h
  exact ⟨i,hi,by unfold gi; rw [Int.toNat_natCast,List.getD_eq_getElem?_getD,List.getElem?_eq_getElem hi]; exact e⟩
theorem gi_mem {l:List Int} {i:Int} (h0:0≤i) (h1:i < l.length):gi l i ∈ l:=by
  unfold gi
  rw [List.getD_eq_getElem?_getD,List.getElem?_eq_getElem (by omega)]
  exact List.getElem_mem (by omega)
theorem gi_map {f:Int→Int} {l:List Int} {i:Int} (h0:0≤i) (h1:i < l.length):gi (l.map f) i=f (gi l i):=by
  unfold gi
  rw [List.getD_eq_getElem?_getD,List.getD_eq_getElem?_getD,List.getElem?_map,List.getElem?_eq_getElem (by omega)]; rfl
theorem fin_ok {vars:Int} {L:List Int} {N:List Fk} {root:Int} (hv:0≤vars) (b:BOk vars L N) (hr:(bV L N).ok root) :
    Fin vars L N root (lvS L (oE N root).lv) (oE N root).nd (dg vars (tabv vars fun e=>gev (bV L N) e root)):=by
  have hO:=oE_ok b hr
  have hE:oE N root=ordF N (root.toNat+2) root os0:=rfl
  have hnod:=oE_nod b hr
  have hlv:=oE_lv b hr
  have hbd:∀ i ∈ (oE N root).lv,0≤i∧i < L.length:=fun i h=>lv_bd b hr h
  have hdep:=gev_dep b.red hv hr
  -- the leaves
  have hA:(lvS L (oE N root).lv).map (gi L)=vls (tabv vars fun e=>gev (bV L N) e root):=by
    refine vls_eq ?_ fun z=>?_
    · have h1:((lvS L (oE N root).lv).map (gi L)).Pairwise (·≤·):=by rw [lvS_map]; exact srt_sorted _
      have h2:((lvS L (oE N root).lv).map (gi L)).Nodup:=by
        refine List.Pairwise.map _ (R:=fun a c=>a ∈ (oE N root).lv∧c ∈ (oE N root).lv∧a ≠ c) (fun a c ⟨x,y,ne⟩ e=>ne (b.nod a c (hbd a x).1 (hbd a x).2 (hbd c y).1 (hbd c y).2 e)) ?_
        have hnp:(lvS L (oE N root).lv).Nodup:=(List.mergeSort_perm _ _).nodup_iff.2 hnod
        exact hnp.imp_of_mem fun ha hc h=>⟨lvS_mem.1 ha,lvS_mem.1 hc,h⟩
      exact (h1.and h2).imp fun ⟨x,y⟩=>Int.lt_iff_le_and_ne.2 ⟨x,y⟩
    · rw [tabv_mem hv hdep,List.mem_map]
      constructor
      · rintro ⟨i,hi,rfl⟩; exact lv_val b hr (lvS_mem.1 hi)
      · rintro ⟨e,rfl⟩
        obtain ⟨i,hi,h⟩:=oE_val b hr e
        exact ⟨i,lvS_mem.2 hi,h⟩
  generalize hVeq:vls (tabv vars fun e=>gev (bV L N) e root)=V at hA
  have hVs:V.Pairwise (· < ·):=hVeq ▸ vls_ss _
  have hVl:V.length=(oE N root).lv.length:=by rw [← hA,List.length_map,lvS_len]
  have hmemV:∀ i,i ∈ (oE N root).lv→gi L i ∈ V:=fun i hi=>by rw [← hA]; exact List.mem_map.2 ⟨i,lvS_mem.2 hi,rfl⟩
  have hseen:∀ q,seen (oE N root) q→(bV L N).ok q:=fun q h=>(oE_clo b hr h).1
  have hlvq:∀ q,seen (oE N root) q→q % 2=0→q / 2 ∈ (oE N root).lv:=fun q h h2=>(hlv _).2 (by rw [show 2 * (q / 2)=q by omega]; exact h)
  have f:GOk vars V.length (sG L N (ix V) (oE N root)):={
    toGRed:=sG_red b hr
    kr:=fun r h hl=>by
      have:=ix_mem (hmemV _ (hlvq r h hl))
      exact ⟨this.1,this.2.1⟩
    kq:=fun r s h hl h' hl' e=>by
      have hl:r % 2=0:=hl
      have hl':s % 2=0:=hl'
      have e:ix V (gi L (r / 2))=ix V (gi L (s / 2)):=e
      have m1:=ix_mem (hmemV _ (hlvq r h hl))
      have m2:=ix_mem (hmemV _ (hlvq s h' hl'))
      have e2:gi L (r / 2)=gi L (s / 2):=by rw [← m1.2.2,← m2.2.2,e]
      have:=b.nod _ _ (hbd _ (hlvq r h hl)).1 (hbd _ (hlvq r h hl)).2 (hbd _ (hlvq s h' hl')).1 (hbd _ (hlvq s h' hl')).2 e2
      omega }
  have K0:(0:Int)≤V.length:=by omega
  have hI0:=lyI0 f
  have hmu:(sG L N (ix V) (oE N root)).mu root < root.toNat+2:=mu_lt hr
  have hV:=vis_ok f K0 (root.toNat+2) root _ hO.at_ hmu hI0
  have hR:=rel_ok f b.red hseen K0 (root.toNat+2) root os0 ([],pl0 _) ((bV L N).mu root) hO.at_ hmu (Nat.le_refl _) hI0 (rel0 _)
  rw [← hE] at hR
  have hg:∀ e,gev (sG L N (ix V) (oE N root)) e root=ix V (gev (bV L N) e root):=fun e=>by
    have h1:=gv_ext (G:=sG L N id (oE N root)) (G':=bV L N) (sG_red b hr) b.red (fun r h=>⟨hseen r h,Iff.rfl,rfl⟩) id (fun _ _ _=>rfl) e _ root hO.at_ (Nat.le_refl _)
    have h2:=gv_ext (G:=sG L N id (oE N root)) (G':=sG L N (ix V) (oE N root)) (sG_red b hr) f.toGRed (fun r h=>⟨h,Iff.rfl,rfl⟩) (ix V) (fun _ _ _=>rfl) e _ root hO.at_ (Nat.le_refl _)
    rw [h2,h1]; rfl
  have hC:=canon f K0 vars.toNat 0 root ([],pl0 (sG L N (ix V) (oE N root))) e0 (root.toNat+2) hI0 hO.at_ (by omega) (f.lev_nn hv hO.at_) hmu
  have hD:dg vars (tabv vars fun e=>gev (bV L N) e root)=⟨vars,V,(vis V.length (sG L N (ix V) (oE N root)) (root.toNat+2) root ([],pl0 (sG L N (ix V) (oE N root)))).1.1,(vis V.length (sG L N (ix V) (oE N root)) (root.toNat+2) root ([],pl0 (sG L N (ix V) (oE N root)))).2⟩:=by
    unfold dg
    rw [hVeq]
    have:(tabv vars fun e=>gev (bV L N) e root).map (ix V)=tab (fun e=>gev (sG L N (ix V) (oE N root)) e root) vars.toNat 0 e0:=by
      rw [tab_map]
      congr 1
      funext e
      exact (hg e).symm
    rw [this,hC]
  rw [hD]
  generalize vis V.length (sG L N (ix V) (oE N root)) (root.toNat+2) root ([],pl0 (sG L N (ix V) (oE N root)))=T at hV hR hC
  have hSn:(lvS L (oE N root).lv).Nodup:=(List.mergeSort_perm _ _).nodup_iff.2 hnod
  have hSl:=lvS_len L (oE N root).lv
  have hNn:(oE N root).nd.Nodup:=by
    refine List.pairwise_iff_getElem.2 fun i j hi hj hij e=>?_
    have a:=hR.pl i hi
    have c:=hR.pl j hj
    rw [List.getD_eq_getElem?_getD,List.getElem?_eq_getElem hi] at a
    rw [List.getD_eq_getElem?_getD,List.getElem?_eq_getElem hj] at c
    simp only [Option.getD_some] at a c
    rw [e,c] at a
    simp at a
    omega
  have hplace:∀ j:Int,0≤j→j < (oE N root).nd.length→T.1.2 (2 * gi (oE N root).nd j+1)=some (V.length+j):=fun j h0 h1=>by
    have:=hR.pl j.toNat (by omega)
    rw [show ((j.toNat:Nat):Int)=j by omega] at this
    exact this
  -- numbers of references
  have hnum:∀ (j:Nat) (q a:Int),j≤(oE N root).nd.length→seen (oE N root) q→T.1.2 q=some a→a < V.length+j→(nmN (lvS L (oE N root).lv) (oE N root).nd j q).getD 0=a:=fun j q a hj hq ha hlt=>by
    by_cases h2:q % 2=0
    · rw [nmN_even h2]
      have h1:=hV.inv.lf q hq h2
      rw [ha] at h1
      have ea:a=ix V (gi L (q / 2)):=Option.some.inj h1
      obtain ⟨i,hi,e⟩:=pos_of_getD (lvS_mem.2 (hlvq q hq h2):q / 2 ∈ lvS L (oE N root).lv)
      rw [show q=2 * gi (lvS L (oE N root).lv) i by omega,nmL_get hSn hi (Nat.le_refl _)]
      show (i:Int)=a
      rw [ea,← e,← gi_map (f:=gi L) (by omega) (by omega),hA,ix_at hVs (by omega) (by rw [hVl]; omega)]
    · have hge:=(hV.inv.rf q a ha).2.2.1 h2
      have hlt2:a < V.length+((oE N root).nd.length:Int):=by omega
      obtain ⟨i,rfl⟩:∃ i:Nat,a=V.length+(i:Int):=⟨(a - V.length).toNat,by omega⟩
      have e:=hV.inv.inj _ _ _ ha (hplace i (by omega) (by omega))
      rw [e,nmN_odd hNn (by omega) hj,hSl,hVl]
      rfl
  have hndseen:∀ j:Int,0≤j→j < (oE N root).nd.length→seen (oE N root) (2 * gi (oE N root).nd j+1):=fun j h0 h1=>(hV.inv.rf _ _ (hplace j h0 h1)).1
  refine ⟨rfl,hA,fun i h0 h1=>?_,fun j h0 h1=>?_,hR.len,fun j h0 h1=>?_,?_⟩
  · exact hbd _ (lvS_mem.1 (gi_mem h0 h1))
  · have:=hseen _ (hndseen j h0 h1)
    have a:=this.1
    have c:=this.2.2 (by omega)
    omega
  · have hs:=hndseen j h0 h1
    have hodd:¬ (sG L N (ix V) (oE N root)).lf (2 * gi (oE N root).nd j+1):=by show ¬ (2 * gi (oE N root).nd j+1) % 2=0; omega
    obtain ⟨a,c,n1,n2,n3,n4,n5⟩:=hV.inv.nd _ _ hodd (hplace j h0 h1)
    have e1:(sG L N (ix V) (oE N root)).nd (2 * gi (oE N root).nd j+1)=fk N (gi (oE N root).nd j):=by
      show fk N ((2 * gi (oE N root).nd j+1) / 2)=_
      rw [show (2 * gi (oE N root).nd j+1) / 2=gi (oE N root).nd j by omega]
    rw [e1] at n1 n2 n5
    have c1:=(oE_clo b hr hs).2 hodd
    rw [show (2 * gi (oE N root).nd j+1) / 2=gi (oE N root).nd j by omega] at c1
    rw [hnum j.toNat _ a (by omega) c1.1 n1 (by omega),hnum j.toNat _ c (by omega) c1.2 n2 (by omega),← n5]
    show fk T.1.1 j=ond V.length T.1.1 (V.length+j)
    unfold ond fk
    rw [show ((V.length:Int)+j - V.length).toNat=j.toNat by omega]
  · have hp:=(hV.inv.rf _ _ hV.at_).2.1.2
    rw [hR.len] at hp
    exact hnum _ root T.2 (Nat.le_refl _) hO.at_ hV.at_ hp
end Go.Proofs.Ytkmhjcjpohpiaaa
