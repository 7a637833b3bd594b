/- Wn. -/
import Derived.Test.YtkmhjcjpohpiaaaWm
import Derived.Test.YtkmhjcjpohpiaaaWb
import Derived.Lib.SlicesCompact
namespace Go.Proofs.Ytkmhjcjpohpiaaa
open Go Go.Vc
open Classical
theorem tki {l:List Int} {i:Int} (h0:0≤i) (h1:i < l.length):l.take (i.toNat+1)=l.take i.toNat++[gi l i]:=by
  rw [List.take_add_one,List.getElem?_eq_getElem (by omega)]
  unfold gi
  rw [List.getD_eq_getElem?_getD,List.getElem?_eq_getElem (by omega)]; rfl
theorem tkf {l:List Fk} {i:Int} (h0:0≤i) (h1:i < l.length):l.take (i.toNat+1)=l.take i.toNat++[fk l i]:=by
  rw [List.take_add_one,List.getElem?_eq_getElem (by omega)]
  unfold fk
  rw [List.getD_eq_getElem?_getD,List.getElem?_eq_getElem (by omega)]; rfl
theorem nmL_step {lvs:List Int} {i:Int} (h0:0≤i):nmL lvs (i.toNat+1)=setF (nmL lvs i.toNat) (2 * gi lvs i) i:=by
  show setF (nmL lvs i.toNat) (2 * gi lvs (i.toNat:Int)) (i.toNat:Int)=_
  rw [show ((i.toNat:Nat):Int)=i by omega]
theorem nmN_step {lvs nds:List Int} {j:Int} (h0:0≤j):nmN lvs nds (j.toNat+1)=setF (nmN lvs nds j.toNat) (2 * gi nds j+1) (lvs.length+j):=by
  show setF (nmN lvs nds j.toNat) (2 * gi nds (j.toNat:Int)+1) (lvs.length+(j.toNat:Int))=_
  rw [show ((j.toNat:Nat):Int)=j by omega]
theorem fin_el {vars:Int} {L:List Int} {N:List Fk} {root:Int} {lvs nds:List Int} {D:Mg} (F:Fin vars L N root lvs nds D) {i:Int} (h0:0≤i) (h1:i < lvs.length):gi L (gi lvs i)=gi D.L i:=by
  rw [← F.lv,gi_map h0 h1]
theorem Fin.ll {vars:Int} {L:List Int} {N:List Fk} {root:Int} {lvs nds:List Int} {D:Mg} (F:Fin vars L N root lvs nds D):D.L.length=lvs.length:=by rw [← F.lv,List.length_map]
abbrev zM:Mg:=⟨0,[],[],0⟩
/-- A diagram and a code. -/
def MRs (V:HV) (v:Value) (D:Mg) (c:Int):Prop:=∃ lv nv,v=.tuple #[.agg #[.int .i64 D.v,lv,nv,.int .i64 D.r],.int .i64 c]∧Mt V lv nv D
def big (D:Mg):Prop:=4096 < D.L.length ∨ 4096 < D.N.length
noncomputable def finE (L:List Int) (D:Mg):Int:=if wd L then 3 else if big D then 4 else 0
noncomputable def orZ (D:Mg) (c:Int):Mg:=if c=0 then D else zM
theorem finE_w {L:List Int} {D:Mg} (h:wd L):finE L D=3:=if_pos h
theorem finE_b {L:List Int} {D:Mg} (h:¬ wd L) (h2:big D):finE L D=4:=by unfold finE; rw [if_neg h,if_pos h2]
theorem finE_0 {L:List Int} {D:Mg} (h:¬ wd L) (h2:¬ big D):finE L D=0:=by unfold finE; rw [if_neg h,if_neg h2]
theorem orZ_0 {D:Mg}:orZ D 0=D:=if_pos rfl
theorem orZ_n {D:Mg} {c:Int} (h:c ≠ 0):orZ D c=zM:=if_neg h
theorem MRs.zero {V:HV} {c:Int}:MRs V (.tuple #[.agg #[.int .i64 0,.slice none 0 0,.slice none 0 0,.int .i64 0],.int .i64 c]) zM c:=⟨_,_,rfl,Mt.nil⟩
theorem MRs.mono {V V':HV} {v:Value} {D:Mg} {c:Int} (h:MRs V v D c) (s:Vc.Sub V V'):MRs V' v D c:=by
  obtain ⟨lv,nv,e,m⟩:=h
  exact ⟨lv,nv,e,m.mono s⟩
/-- The diagram with the values of a builder's reference. -/
noncomputable abbrev bD (vars:Int) (L:List Int) (M:List Fk) (r:Int):Mg:=dg vars (tabv vars fun e=>gev (bV L M) e r)
end Go.Proofs.Ytkmhjcjpohpiaaa
namespace Go.Proofs.Ytkmhjcjpohpiaaa
open Go Go.Vc
open Classical
/-- The code of the diagram of a table, and the diagram. -/
noncomputable def mkE (vars:Int) (t:List Int):Int:=if ∃ z ∈ t,¬ inR z then 3 else if big (dg vars t) then 4 else 0
noncomputable def mkD (vars:Int) (t:List Int):Mg:=orZ (dg vars t) (mkE vars t)
theorem fin_mk {vars:Int} {L:List Int} {t:List Int} (h:wd L ↔ ∃ z ∈ t,¬ inR z):finE L (dg vars t)=mkE vars t:=by
  unfold finE mkE
  by_cases q:wd L
  · rw [if_pos q,if_pos (h.1 q)]
  · rw [if_neg q,if_neg fun z=>q (h.2 z)]
theorem bok_val {vars:Int} {L:List Int} {N:List Fk} {root:Int} (b:BOk vars L N) (hr:(bV L N).ok root) (e:Int→Bool):gev (bV L N) e root ∈ L:=by
  obtain ⟨i,hi,h⟩:=oE_val b hr e
  rw [← h]
  have:=lv_bd b hr hi
  exact gi_mem this.1 this.2
/-- Out of range: the builder's leaves, the values. -/
theorem wd_tab {vars:Int} {L:List Int} {N:List Fk} {root:Int} {f:(Int→Bool)→Int} (hv:0≤vars) (b:BOk vars L N) (hr:(bV L N).ok root) (hf:∀ e,gev (bV L N) e root=f e) (hd:Dep vars f) (hrch:∀ z ∈ L,(∃ e,f e=z) ∨ inR z):wd L ↔ ∃ z ∈ tabv vars f,¬ inR z:=by
  constructor
  · rintro ⟨z,hz,hn⟩
    exact ⟨z,(tabv_mem hv hd).2 ((hrch z hz).resolve_right hn),hn⟩
  · rintro ⟨z,hz,hn⟩
    obtain ⟨e,rfl⟩:=(tabv_mem hv hd).1 hz
    exact ⟨f e,by rw [← hf]; exact bok_val b hr e,hn⟩
theorem bD_eq {vars:Int} {L:List Int} {N:List Fk} {root:Int} {f:(Int→Bool)→Int} (hf:∀ e,gev (bV L N) e root=f e):bD vars L N root=dg vars (tabv vars f):=by
  unfold bD
  rw [show (fun e=>gev (bV L N) e root)=f from funext hf]
theorem gF_dep {vars:Int} {Ds:List Mg} {F:Int→Int→Int→Int} {k:K3r} (d:DsOk vars Ds) (hk:KOk Ds k):Dep vars (gF Ds F k):=fun e e' h=>by
  have each:∀ i:Nat,i < 3→gev (mG (dm Ds i)) e (kg k i)=gev (mG (dm Ds i)) e' (kg k i):=fun i hi=>gev_dep (d.red i (by omega)) d.v0 (hk i (by omega) (by omega)).1 e e' h
  unfold gF
  have e0:=each 0 (by omega)
  have e1:=each 1 (by omega)
  have e2:=each 2 (by omega)
  simp only [show ((0:Nat):Int)=0 from rfl,show ((1:Nat):Int)=1 from rfl,show ((2:Nat):Int)=2 from rfl] at e0 e1 e2
  rw [e0,e1,e2]
/-- The table of a combination. -/
noncomputable abbrev cT (vars:Int) (Ds:List Mg) (F:Int→Int→Int→Int):List Int:=tabv vars (gF Ds F (rt Ds))
theorem made_mk {vars:Int} {Ds:List Mg} {F:Int→Int→Int→Int} {L:List Int} {M:List Fk} {p:Int} (d:DsOk vars Ds) (hr:Rts Ds) (b:BOk vars L M) (s:Std vars Ds F L M (rt Ds) p) (hrch:∀ z ∈ L,z ∈ ([]:List Int) ∨ ∃ e,gF Ds F (rt Ds) e=z) :
    bD vars L M p=dg vars (cT vars Ds F)∧finE L (bD vars L M p)=mkE vars (cT vars Ds F):=by
  have e:=bD_eq (vars:=vars) s.val
  refine ⟨e,?_⟩
  rw [e]
  exact fin_mk (wd_tab d.v0 b s.rf s.val (gF_dep d (rt_ok hr)) fun z hz=>.inl ((hrch z hz).resolve_left (by simp)))
/-- A reference below the node at place j. -/
def Chk (A:Mg) (j r:Int):Prop:=0≤r∧r < A.L.length+j∧(fk A.N j).v < tp A r
def Nok (A:Mg) (j:Int):Prop :=
  0≤(fk A.N j).v∧(fk A.N j).l ≠ (fk A.N j).h∧(∀ k:Int,0≤k→k < j→fk A.N k ≠ fk A.N j)∧Chk A j (fk A.N j).l∧Chk A j (fk A.N j).h
def Lok (A:Mg) (i:Int):Prop:=inR (gi A.L i)∧(0 < i→gi A.L (i - 1) < gi A.L i)
structure Loc (A:Mg):Prop where
  lf:∀ i:Int,0≤i→i < A.L.length→Lok A i
  nd:∀ j:Int,0≤j→j < A.N.length→Nok A j
  rt:0≤A.r∧A.r < A.L.length+A.N.length
theorem Loc.red {A:Mg} (h:∀ j:Int,0≤j→j < A.N.length→Nok A j):GRed A.v (mG A):=by
  have key:∀ r,(mG A).ok r→¬ (mG A).lf r→0≤r - A.L.length∧r - A.L.length < A.N.length:=fun r hr hl=>by
    have h1:=hr.2
    have hl:¬ r < A.L.length:=hl
    omega
  have lvl:∀ r,tp A r=lev A.v (mG A) r:=fun r=>tp_lev rfl
  have tple:∀ (k:Nat) (r:Int),(mG A).ok r→(mG A).mu r≤k→tp A r≤A.v:=by
    intro k
    induction k with
    | zero =>
      intro r hr hk
      by_cases q:r < A.L.length
      · rw [tp_l q]; omega
      · have hk:(r+1 - A.L.length).toNat≤0:=hk
        omega
    | succ k ih =>
      intro r hr hk
      by_cases q:r < A.L.length
      · rw [tp_l q]; omega
      · have hb:=key r hr q
        obtain ⟨_,_,_,c,_⟩:=h _ hb.1 hb.2
        obtain ⟨c1,c2,c3⟩:=c
        have hk:(r+1 - A.L.length).toNat≤k+1:=hk
        have:=ih (fk A.N (r - A.L.length)).l ⟨c1,by omega⟩ (by show ((fk A.N (r - A.L.length)).l+1 - A.L.length).toNat≤k; omega)
        rw [tp_n q]
        omega
  refine ⟨fun r hr hl=>?_,fun r hr hl=>?_,fun r hr hl=>?_,fun r hr hl=>?_,fun r s hr hl hs hl' e=>?_⟩
  · have hb:=key r hr hl
    obtain ⟨a,_,_,c,_⟩:=h _ hb.1 hb.2
    obtain ⟨c1,c2,c3⟩:=c
    have:=tple _ (fk A.N (r - A.L.length)).l ⟨c1,by omega⟩ (Nat.le_refl _)
    exact ⟨a,by show (fk A.N (r - A.L.length)).v < A.v; omega⟩
  · have hb:=key r hr hl
    exact (h _ hb.1 hb.2).2.1
  · have hb:=key r hr hl
    obtain ⟨_,_,_,⟨c1,c2,c3⟩,_⟩:=h _ hb.1 hb.2
    rw [lvl] at c3
    exact ⟨⟨c1,by show (fk A.N (r - A.L.length)).l < _; omega⟩,by show ((fk A.N (r - A.L.length)).l+1 - A.L.length).toNat < (r+1 - A.L.length).toNat; omega,c3⟩
  · have hb:=key r hr hl
    obtain ⟨_,_,_,_,⟨c1,c2,c3⟩⟩:=h _ hb.1 hb.2
    rw [lvl] at c3
    exact ⟨⟨c1,by show (fk A.N (r - A.L.length)).h < _; omega⟩,by show ((fk A.N (r - A.L.length)).h+1 - A.L.length).toNat < (r+1 - A.L.length).toNat; omega,c3⟩
  · have hb:=key r hr hl
    have hb':=key s hs hl'
    have e:fk A.N (r - A.L.length)=fk A.N (s - A.L.length):=e
    by_cases q:r < s
    · exact absurd e ((h _ hb'.1 hb'.2).2.2.1 _ hb.1 (by omega))
    · by_cases q2:s < r
      · exact absurd e.symm ((h _ hb.1 hb.2).2.2.1 _ hb'.1 (by omega))
      · omega
/-- The values of a diagram. -/
noncomputable abbrev vl (A:Mg) (e:Int→Bool):Int:=gev (mG A) e A.r
noncomputable abbrev vT (A:Mg):List Int:=tabv A.v (vl A)
def fm (A:Mg):Prop:=Loc A∧dg A.v (vT A)=A
/-- A valid diagram. -/
def Ok (A:Mg):Prop:=(0≤A.v∧A.v≤40)∧(A.L.length≤4096∧A.N.length≤4096)∧fm A
noncomputable def chkC (A:Mg):Int:=if A.v < 0 ∨ 40 < A.v then 3 else if 4096 < A.L.length ∨ 4096 < A.N.length then 4 else if fm A then 0 else 1
section
variable {A:Mg}
theorem chk_3 (h:A.v < 0 ∨ 40 < A.v):chkC A=3:=if_pos h
theorem chk_4 (h:¬ (A.v < 0 ∨ 40 < A.v)) (h2:4096 < A.L.length ∨ 4096 < A.N.length):chkC A=4:=by unfold chkC; rw [if_neg h,if_pos h2]
theorem chk_1 (h:¬ (A.v < 0 ∨ 40 < A.v)) (h2:¬ (4096 < A.L.length ∨ 4096 < A.N.length)) (h3:¬ fm A):chkC A=1:=by unfold chkC; rw [if_neg h,if_neg h2,if_neg h3]
theorem chk_0 (h:Ok A):chkC A=0:=by
  have h1:=h.1
  have h2:=h.2.1
  unfold chkC; rw [if_neg (by omega),if_neg (by omega),if_pos h.2.2]
theorem chk_ok:chkC A=0 ↔ Ok A:=by
  refine ⟨fun h=>?_,chk_0⟩
  by_cases h1:A.v < 0 ∨ 40 < A.v
  · rw [chk_3 h1] at h; omega
  · by_cases h2:4096 < A.L.length ∨ 4096 < A.N.length
    · rw [chk_4 h1 h2] at h; omega
    · by_cases h3:fm A
      · exact ⟨by omega,by omega,h3⟩
      · rw [chk_1 h1 h2 h3] at h; omega
theorem Ok.red (h:Ok A):GRed A.v (mG A):=Loc.red h.2.2.1.nd
theorem Ok.rt (h:Ok A):(mG A).ok A.r:=h.2.2.1.rt
theorem Ok.rng (h:Ok A):∀ z ∈ A.L,inR z:=fun z hz=>by
  obtain ⟨i,hi,e⟩:=pos_of_getD hz
  rw [← e]
  exact (h.2.2.1.lf i (by omega) (by omega)).1
/-- What its own combination says. -/
theorem fm_iff (hl:A.L.length≤4096∧A.N.length≤4096) (hloc:Loc A):(mkE A.v (vT A)=0∧A.L=(mkD A.v (vT A)).L∧A.N=(mkD A.v (vT A)).N∧A.r=(mkD A.v (vT A)).r) ↔ fm A:=by
  constructor
  · rintro ⟨h0,h1,h2,h3⟩
    unfold mkD at h1 h2 h3
    rw [h0,orZ_0] at h1 h2 h3
    exact ⟨hloc,mg_ext rfl h1.symm h2.symm h3.symm⟩
  · rintro ⟨_,h⟩
    have hm:mkE A.v (vT A)=0:=by
      unfold mkE
      have h2:¬ ∃ z ∈ vT A,¬ inR z:=fun ⟨z,hz,hn⟩=>by
        have hz2:z ∈ A.L:=by
          have e:A.L=vls (vT A):=(congrArg Mg.L h).symm
          rw [e]; exact vls_mem.2 hz
        obtain ⟨i,hi,e⟩:=pos_of_getD hz2
        exact hn (by rw [← e]; exact (hloc.lf i (by omega) (by omega)).1)
      rw [if_neg h2,if_neg]
      unfold big
      rw [h]; omega
    unfold mkD
    rw [hm,orZ_0,h]
    exact ⟨rfl,rfl,rfl,rfl⟩
end
theorem ds1 {A:Mg} (hv:0≤A.v∧A.v≤40) (h:Loc A):DsOk A.v [A]∧SameV A.v [A]∧Rng [A]∧Rts [A]:=by
  have one:∀ i:Int,0≤i→i < ([A]:List Mg).length→dm [A] i=A:=fun i h0 h1=>by
    have h1:i < ((1:Nat):Int):=h1
    have:i=0:=by omega
    subst this; rfl
  refine ⟨⟨hv.1,hv.2,by show 1≤3; omega,fun i h0=>?_⟩,fun i h0 h1=>by rw [one i h0 h1],fun i h0 h1 z hz=>?_,fun i h0 h1=>by rw [one i h0 h1]; exact h.rt⟩
  · by_cases q:i < ([A]:List Mg).length
    · rw [one i h0 q]; exact Loc.red h.nd
    · rw [dm_out h0 (by omega)]; exact red_m0
  · rw [one i h0 h1] at hz
    obtain ⟨i,hi,e⟩:=pos_of_getD hz
    rw [← e]
    exact (h.lf i (by omega) (by omega)).1
def Vld (D:List Mg):Prop:=∀ i:Int,0≤i→i < D.length→Ok (dm D i)
def Sam (D:List Mg):Prop:=∀ i:Int,0≤i→i < D.length→(dm D i).v=(dm D 0).v
noncomputable def vE (D:List Mg):Int:=if Vld D then if Sam D then 0 else 2 else 1
theorem vE_1 {D:List Mg} (h:¬ Vld D):vE D=1:=if_neg h
theorem vE_2 {D:List Mg} (h:Vld D) (h2:¬ Sam D):vE D=2:=by unfold vE; rw [if_pos h,if_neg h2]
theorem vE_0 {D:List Mg} (h:Vld D) (h2:Sam D):vE D=0:=by unfold vE; rw [if_pos h,if_pos h2]
theorem vE_ok {D:List Mg}:vE D=0 ↔ Vld D∧Sam D:=by
  refine ⟨fun h=>?_,fun h=>vE_0 h.1 h.2⟩
  by_cases h1:Vld D
  · by_cases h2:Sam D
    · exact ⟨h1,h2⟩
    · rw [vE_2 h1 h2] at h; omega
  · rw [vE_1 h1] at h; omega
theorem vld1 {A:Mg}:Vld [A] ↔ Ok A:=⟨fun h=>h 0 (by omega) (by show (0:Int) < ((1:Nat):Int); omega),fun h i h0 h1=>by
  have h1:i < ((1:Nat):Int):=h1
  have:i=0:=by omega
  subst this; exact h⟩
theorem sam1 {A:Mg}:Sam [A]:=fun i h0 h1=>by
  have h1:i < ((1:Nat):Int):=h1
  have:i=0:=by omega
  subst this; rfl
/-- Lists of valid diagrams can be combined. -/
structure Cmb (Ds:List Mg):Prop where
  ok:DsOk (dm Ds 0).v Ds
  sv:SameV (dm Ds 0).v Ds
  rg:Rng Ds
  rt:Rts Ds
theorem cmb_of {Ds:List Mg} (h:Vld Ds) (hs:Sam Ds) (h1:1≤Ds.length) (h3:Ds.length≤3):Cmb Ds:=by
  have o0:=h 0 (by omega) (by omega)
  refine ⟨⟨o0.1.1,o0.1.2,h3,fun i h0=>?_⟩,hs,fun i h0 h1=>(h i h0 h1).rng,fun i h0 h1=>(h i h0 h1).rt⟩
  by_cases q:i < Ds.length
  · have:=(h i h0 q).red
    rwa [hs i h0 q] at this
  · rw [dm_out h0 (by omega)]; exact red_m0
theorem vld2 {A B:Mg}:Vld [A,B] ↔ Ok A∧Ok B:=⟨fun h=>⟨h 0 (by omega) (by show (0:Int) < ((2:Nat):Int); omega),h 1 (by omega) (by show (1:Int) < ((2:Nat):Int); omega)⟩,fun h i h0 h1=>by
  have h1:i < ((2:Nat):Int):=h1
  rcases (show i=0 ∨ i=1 by omega) with rfl | rfl
  · exact h.1
  · exact h.2⟩
theorem sam2 {A B:Mg}:Sam [A,B] ↔ A.v=B.v:=⟨fun h=>(h 1 (by omega) (by show (1:Int) < ((2:Nat):Int); omega)).symm,fun h i h0 h1=>by
  have h1:i < ((2:Nat):Int):=h1
  rcases (show i=0 ∨ i=1 by omega) with rfl | rfl
  · rfl
  · exact h.symm⟩
noncomputable def seenB (N:List Fk) (i:Nat):Fk→Option Bool:=fun n=>if n ∈ N.take i then some true else none
theorem seenB_0 (N:List Fk):seenB N 0=fun _=>none:=funext fun n=>by unfold seenB; rw [if_neg (by simp)]
theorem fk_mem {N:List Fk} {n:Fk} {i:Nat}:n ∈ N.take i ↔ ∃ k:Int,0≤k∧k < i∧k < N.length∧fk N k=n:=by
  constructor
  · intro h
    obtain ⟨k,hk,e⟩:=List.getElem_of_mem h
    have hk2:k < i∧k < N.length:=by simp at hk; omega
    refine ⟨k,by omega,by omega,by omega,?_⟩
    rw [List.getElem_take] at e
    show N.getD _ _=_
    rw [List.getD_eq_getElem?_getD,show (k:Int).toNat=k by omega,List.getElem?_eq_getElem hk2.2]; exact e
  · rintro ⟨k,h0,h1,h2,rfl⟩
    have h3:k.toNat < N.length:=by omega
    have e:fk N k=(N.take i)[k.toNat]'(by simp; omega):=by
      rw [List.getElem_take]
      show N.getD _ _=_
      rw [List.getD_eq_getElem?_getD,List.getElem?_eq_getElem h3]; rfl
    rw [e]; exact List.getElem_mem _
theorem seenB_iff {N:List Fk} {n:Fk} {i:Nat}:(seenB N i n).getD false=true ↔ ∃ k:Int,0≤k∧k < i∧k < N.length∧fk N k=n:=by
  rw [← fk_mem]
  unfold seenB
  by_cases h:n ∈ N.take i
  · rw [if_pos h]; simp [h]
  · rw [if_neg h]; simp [h]
theorem seenB_step {N:List Fk} {i:Int} (h0:0≤i) (h1:i < N.length):setF (seenB N i.toNat) (fk N i) true=seenB N (i+1).toNat:=by
  funext n
  have key:n ∈ N.take (i+1).toNat ↔ n=fk N i ∨ n ∈ N.take i.toNat:=by
    rw [fk_mem,fk_mem]
    constructor
    · rintro ⟨k,a,b,c,rfl⟩
      by_cases q:k=i
      · subst q; exact Or.inl rfl
      · exact Or.inr ⟨k,a,by omega,c,rfl⟩
    · rintro (rfl | ⟨k,a,b,c,rfl⟩)
      · exact ⟨i,h0,by omega,h1,rfl⟩
      · exact ⟨k,a,by omega,c,rfl⟩
  unfold seenB
  by_cases e:n=fk N i
  · subst e; rw [setF_same,if_pos (key.2 (Or.inl rfl))]
  · rw [setF_other e]
    by_cases q:n ∈ N.take i.toNat
    · rw [if_pos q,if_pos (key.2 (Or.inr q))]
    · rw [if_neg q,if_neg (fun z=>(key.1 z).elim e q)]
end Go.Proofs.Ytkmhjcjpohpiaaa
namespace Go.Proofs.Ytkmhjcjpohpiaaa
open Go Go.Vc
open Classical
abbrev mk (vars:Int) (V:List Int) (N:List Fk):Mg:=⟨vars,V,N,0⟩
def Nks (vars:Int) (V:List Int) (N:List Fk):Prop:=∀ j:Int,0≤j→j < N.length→Nok (mk vars V N) j
section
variable {vars:Int} {V:List Int} {N:List Fk}
theorem tp_app {X:List Fk} {r:Int} (h:r < V.length+N.length):tp (mk vars V (N++X)) r=tp (mk vars V N) r:=by
  by_cases q:r < V.length
  · rw [tp_l (A:=mk vars V (N++X)) q,tp_l (A:=mk vars V N) q]
  · rw [tp_n (A:=mk vars V (N++X)) q,tp_n (A:=mk vars V N) q]
    show (fk (N++X) (r - V.length)).v=(fk N (r - V.length)).v
    rw [fk_app (by omega) (by omega)]
theorem Nks.red (h:Nks vars V N):GRed vars (mG (mk vars V N)):=Loc.red (A:=mk vars V N) h
theorem nks_nil:Nks vars V []:=fun j h0 h1=>by have h1:j < ((0:Nat):Int):=h1; omega
theorem nks_snoc {v l h:Int} (f:Nks vars V N) (hv:0≤v) (hne:l ≠ h) (hn:∀ k:Int,0≤k→k < N.length→fk N k ≠ ⟨v,l,h⟩)
    (l0:0≤l) (l1:l < V.length+N.length) (ll:v < tp (mk vars V N) l) (h0:0≤h) (h1:h < V.length+N.length) (lh:v < tp (mk vars V N) h):Nks vars V (N++[⟨v,l,h⟩]):=fun j j0 j1=>by
  have hl:((N++[(⟨v,l,h⟩:Fk)]).length:Int)=N.length+1:=by simp
  by_cases q:j < N.length
  · obtain ⟨a,b,c,⟨d1,d2,d3⟩,⟨e1,e2,e3⟩⟩:=f j j0 q
    have ej:fk (N++[⟨v,l,h⟩]) j=fk N j:=fk_app j0 q
    have d2:(fk N j).l < V.length+j:=d2
    have e2:(fk N j).h < V.length+j:=e2
    unfold Nok Chk
    show 0≤(fk (N++[⟨v,l,h⟩]) j).v∧(fk (N++[⟨v,l,h⟩]) j).l ≠ (fk (N++[⟨v,l,h⟩]) j).h∧(∀ k:Int,0≤k→k < j→fk (N++[⟨v,l,h⟩]) k ≠ fk (N++[⟨v,l,h⟩]) j) ∧
      (0≤(fk (N++[⟨v,l,h⟩]) j).l∧(fk (N++[⟨v,l,h⟩]) j).l < V.length+j∧(fk (N++[⟨v,l,h⟩]) j).v < tp (mk vars V (N++[⟨v,l,h⟩])) (fk (N++[⟨v,l,h⟩]) j).l) ∧
      (0≤(fk (N++[⟨v,l,h⟩]) j).h∧(fk (N++[⟨v,l,h⟩]) j).h < V.length+j∧(fk (N++[⟨v,l,h⟩]) j).v < tp (mk vars V (N++[⟨v,l,h⟩])) (fk (N++[⟨v,l,h⟩]) j).h)
    rw [ej,tp_app (by omega),tp_app (by omega)]
    refine ⟨a,b,fun k k0 k1=>?_,⟨d1,d2,d3⟩,⟨e1,e2,e3⟩⟩
    rw [fk_app k0 (by omega)]; exact c k k0 k1
  · have ej:j=N.length:=by omega
    subst ej
    have e:fk (N++[⟨v,l,h⟩]) N.length=⟨v,l,h⟩:=fk_last
    unfold Nok Chk
    show 0≤(fk (N++[⟨v,l,h⟩]) N.length).v∧(fk (N++[⟨v,l,h⟩]) N.length).l ≠ (fk (N++[⟨v,l,h⟩]) N.length).h∧(∀ k:Int,0≤k→k < N.length→fk (N++[⟨v,l,h⟩]) k ≠ fk (N++[⟨v,l,h⟩]) N.length) ∧
      (0≤(fk (N++[⟨v,l,h⟩]) N.length).l∧(fk (N++[⟨v,l,h⟩]) N.length).l < V.length+N.length∧(fk (N++[⟨v,l,h⟩]) N.length).v < tp (mk vars V (N++[⟨v,l,h⟩])) (fk (N++[⟨v,l,h⟩]) N.length).l) ∧
      (0≤(fk (N++[⟨v,l,h⟩]) N.length).h∧(fk (N++[⟨v,l,h⟩]) N.length).h < V.length+N.length∧(fk (N++[⟨v,l,h⟩]) N.length).v < tp (mk vars V (N++[⟨v,l,h⟩])) (fk (N++[⟨v,l,h⟩]) N.length).h)
    rw [e]
    show 0≤v∧l ≠ h∧_∧(0≤l∧_∧v < tp (mk vars V (N++[⟨v,l,h⟩])) l)∧(0≤h∧_∧v < tp (mk vars V (N++[⟨v,l,h⟩])) h)
    rw [tp_app l1,tp_app h1]
    refine ⟨hv,hne,fun k k0 k1=>?_,⟨l0,l1,ll⟩,⟨h0,h1,lh⟩⟩
    rw [fk_app k0 k1]; exact hn k k0 k1
theorem mG_app {X:List Fk} (f:Nks vars V N) (g:Nks vars V (N++X)) (e:Int→Bool):∀ (k:Nat) (r:Int),0≤r→r < V.length+N.length→(mG (mk vars V N)).mu r≤k→gev (mG (mk vars V (N++X))) e r=gev (mG (mk vars V N)) e r:=by
  intro k
  induction k with
  | zero =>
    intro r r0 r1 hm
    have hl:r < V.length:=by
      have hm:(r+1 - V.length).toNat≤0:=hm
      omega
    rw [gev_lf (G:=mG (mk vars V N)) hl,gev_lf (G:=mG (mk vars V (N++X))) hl]; rfl
  | succ k ih =>
    intro r r0 r1 hm
    by_cases hl:r < V.length
    · rw [gev_lf (G:=mG (mk vars V N)) hl,gev_lf (G:=mG (mk vars V (N++X))) hl]; rfl
    · have ok1:(mG (mk vars V N)).ok r:=⟨r0,r1⟩
      have ok2:(mG (mk vars V (N++X))).ok r:=⟨r0,by show r < V.length+((N++X).length:Nat); rw [List.length_append]; omega⟩
      have hlo:=f.red.lo r ok1 hl
      have hhi:=f.red.hi r ok1 hl
      have en:(mG (mk vars V (N++X))).nd r=(mG (mk vars V N)).nd r:=by
        show fk (N++X) (r - V.length)=fk N (r - V.length)
        exact fk_app (by omega) (by omega)
      rw [gev_step f.red ok1 hl,gev_step g.red ok2 hl,en]
      have c0:(mG (mk vars V N)).ok (if e ((mG (mk vars V N)).nd r).v then ((mG (mk vars V N)).nd r).h else ((mG (mk vars V N)).nd r).l):=by
        split
        · exact hhi.1
        · exact hlo.1
      refine ih _ c0.1 c0.2 ?_
      split <;> omega
end
/-- A node on top of nodes, numbered after K leaves. -/
def ndK (K:Int) (N:List Fk) (v l h:Int):List Fk × Int:=if l=h then (N,l) else match fx ⟨v,l,h⟩ N with
  | some i=>(N,K+(i:Int))
  | none=>(N++[⟨v,l,h⟩],K+(N.length:Int))
structure NkOk (vars:Int) (V:List Int) (N:List Fk) (v l h:Int) (x:List Fk × Int):Prop where
  nk:Nks vars V x.1
  ext:∃ X,x.1=N++X
  rf:0≤x.2∧x.2 < V.length+x.1.length
  lv:v≤tp (mk vars V x.1) x.2
  vl:∀ e,gev (mG (mk vars V x.1)) e x.2=if e v then gev (mG (mk vars V N)) e h else gev (mG (mk vars V N)) e l
theorem ndK_ok {vars v l h:Int} {V:List Int} {N:List Fk} (f:Nks vars V N) (hv:0≤v) (l0:0≤l) (l1:l < V.length+N.length) (ll:v < tp (mk vars V N) l) (h0:0≤h) (h1:h < V.length+N.length) (lh:v < tp (mk vars V N) h) :
    NkOk vars V N v l h (ndK V.length N v l h):=by
  unfold ndK
  by_cases e:l=h
  · rw [if_pos e]
    subst e
    exact ⟨f,⟨[],by simp⟩,⟨l0,l1⟩,by show v≤tp (mk vars V N) l; omega,fun e=>by show gev (mG (mk vars V N)) e l=_; split <;> rfl⟩
  · rw [if_neg e]
    cases q:fx ⟨v,l,h⟩ N with
    | some i =>
      obtain ⟨q1,q2,q3⟩:=fx_some q
      have hr:(mG (mk vars V N)).ok (V.length+(i:Int)):=⟨by omega,by show (V.length:Int)+i < V.length+N.length; omega⟩
      have hlf:¬ (mG (mk vars V N)).lf (V.length+(i:Int)):=by show ¬ (V.length:Int)+i < V.length; omega
      have hi:(mG (mk vars V N)).nd (V.length+(i:Int))=⟨v,l,h⟩:=by
        show fk N ((V.length:Int)+i - V.length)=_
        unfold fk
        rw [show ((V.length:Int)+i - V.length).toNat=i by omega]; exact q2
      refine ⟨f,⟨[],by simp⟩,⟨by show 0≤(V.length:Int)+i; omega,hr.2⟩,?_,fun e=>?_⟩
      · show v≤tp (mk vars V N) ((V.length:Int)+i)
        rw [tp_n (A:=mk vars V N) hlf]
        have:fk N ((V.length:Int)+i - V.length)=⟨v,l,h⟩:=hi
        show v≤(fk N ((V.length:Int)+i - V.length)).v
        rw [this]; exact Int.le_refl _
      · show gev (mG (mk vars V N)) e ((V.length:Int)+i)=_
        rw [gev_step f.red hr hlf,hi]
        show gev _ e (if e v=true then h else l)=_
        split <;> rfl
    | none =>
      have hn:∀ k:Int,0≤k→k < N.length→fk N k ≠ ⟨v,l,h⟩:=fun k k0 k1=>fx_none q k.toNat (by omega)
      have g:=nks_snoc f hv e hn l0 l1 ll h0 h1 lh
      have hlen:((N++[(⟨v,l,h⟩:Fk)]).length:Int)=N.length+1:=by simp
      have hr:(mG (mk vars V (N++[⟨v,l,h⟩]))).ok (V.length+(N.length:Int)):=⟨by omega,by show (V.length:Int)+N.length < V.length+((N++[(⟨v,l,h⟩:Fk)]).length:Int); omega⟩
      have hlf:¬ (mG (mk vars V (N++[⟨v,l,h⟩]))).lf (V.length+(N.length:Int)):=by show ¬ (V.length:Int)+N.length < V.length; omega
      have hi:(mG (mk vars V (N++[⟨v,l,h⟩]))).nd (V.length+(N.length:Int))=⟨v,l,h⟩:=by
        show fk (N++[⟨v,l,h⟩]) ((V.length:Int)+N.length - V.length)=_
        rw [show ((V.length:Int)+N.length - V.length)=N.length by omega,fk_last]
      refine ⟨g,⟨[⟨v,l,h⟩],rfl⟩,⟨by show 0≤(V.length:Int)+N.length; omega,hr.2⟩,?_,fun e=>?_⟩
      · show v≤tp (mk vars V (N++[⟨v,l,h⟩])) ((V.length:Int)+N.length)
        rw [tp_n (A:=mk vars V (N++[(⟨v,l,h⟩:Fk)])) hlf]
        have:fk (N++[⟨v,l,h⟩]) ((V.length:Int)+N.length - V.length)=⟨v,l,h⟩:=hi
        show v≤(fk (N++[⟨v,l,h⟩]) ((V.length:Int)+N.length - V.length)).v
        rw [this]; exact Int.le_refl _
      · show gev (mG (mk vars V (N++[⟨v,l,h⟩]))) e ((V.length:Int)+N.length)=_
        rw [gev_step g.red hr hlf,hi]
        show gev _ e (if e v=true then h else l)=_
        split
        · exact mG_app f g e _ h h0 h1 (Nat.le_refl _)
        · exact mG_app f g e _ l l0 l1 (Nat.le_refl _)
theorem prt_node {K:Int} {m:Nat} {O:List Fk} {v:Int} {t1 t2:List Int} (h1:t1.length=2 ^ m):prt K (m+1) O v (t1++t2)=ndK K (prt K m (prt K m O (v+1) t1).1 (v+1) t2).1 v (prt K m O (v+1) t1).2 (prt K m (prt K m O (v+1) t1).1 (v+1) t2).2:=by
  rw [prt_step h1 (A:=(prt K m O (v+1) t1).1) (a:=(prt K m O (v+1) t1).2) rfl (B:=(prt K m (prt K m O (v+1) t1).1 (v+1) t2).1) (b:=(prt K m (prt K m O (v+1) t1).1 (v+1) t2).2) rfl]
  unfold ndK
  by_cases e:(prt K m O (v+1) t1).2=(prt K m (prt K m O (v+1) t1).1 (v+1) t2).2
  · first | rw [if_pos e,if_pos e] | rw [if_pos e]
  · first | (rw [if_neg e,if_neg e]; done) | (rw [if_neg e]; done) | (rw [if_neg e,if_neg e]; rfl) | (rw [if_neg e]; rfl)
structure PrtOk (vars:Int) (V:List Int) (O:List Fk) (m:Nat) (v:Int) (t:List Int) (x:List Fk × Int):Prop where
  nk:Nks vars V x.1
  ext:∃ X,x.1=O++X
  rf:0≤x.2∧x.2 < V.length+x.1.length
  lv:v≤tp (mk vars V x.1) x.2
  tb:∀ e,tab (fun e=>gev (mG (mk vars V x.1)) e x.2) m v e=t.map (gi V)
theorem prt_ok {vars:Int} {V:List Int}:∀ (m:Nat) (O:List Fk) (v:Int) (t:List Int),Nks vars V O→v=vars - m→0≤v→t.length=2 ^ m→(∀ z ∈ t,0≤z∧z < V.length)→PrtOk vars V O m v t (prt V.length m O v t)
  | 0,O,v,t,f,hv,h0,ht,hz=>by
    match t,ht with
    | [z],_ =>
      have hz:=hz z (by simp)
      have hlf:z < V.length:=hz.2
      refine ⟨f,⟨[],by simp [prt]⟩,⟨hz.1,by show z < V.length+(O.length:Int); omega⟩,?_,fun e=>?_⟩
      · show v≤tp (mk vars V O) z
        rw [tp_l (A:=mk vars V O) hlf]
        show v≤vars; omega
      · show [gev (mG (mk vars V O)) e z]=[gi V z]
        rw [gev_lf (G:=mG (mk vars V O)) hlf]; rfl
  | m+1,O,v,t,f,hv,h0,ht,hz=>by
    have hp:2 ^ (m+1)=2 ^ m+2 ^ m:=by rw [Nat.pow_succ]; omega
    have e:t=t.take (2 ^ m)++t.drop (2 ^ m):=(List.take_append_drop _ _).symm
    have l1:(t.take (2 ^ m)).length=2 ^ m:=by rw [List.length_take]; omega
    have l2:(t.drop (2 ^ m)).length=2 ^ m:=by rw [List.length_drop]; omega
    rw [e] at hz ⊢
    generalize t.take (2 ^ m)=t1 at l1 hz
    generalize t.drop (2 ^ m)=t2 at l2 hz
    rw [prt_node l1]
    have A:=prt_ok m O (v+1) t1 f (by omega) (by omega) l1 fun z h=>hz z (List.mem_append_left _ h)
    have B:=prt_ok m (prt V.length m O (v+1) t1).1 (v+1) t2 A.nk (by omega) (by omega) l2 fun z h=>hz z (List.mem_append_right _ h)
    generalize prt V.length m O (v+1) t1=x at A B
    generalize prt V.length m x.1 (v+1) t2=y at B
    obtain ⟨X1,e1⟩:=A.ext
    obtain ⟨X2,e2⟩:=B.ext
    have g2:Nks vars V (x.1++X2):=e2 ▸ B.nk
    have ra:x.2 < V.length+(y.1.length:Int):=by rw [e2,List.length_append]; have:=A.rf.2; omega
    have la:tp (mk vars V y.1) x.2=tp (mk vars V x.1) x.2:=by rw [e2]; exact tp_app A.rf.2
    have va:∀ e,gev (mG (mk vars V y.1)) e x.2=gev (mG (mk vars V x.1)) e x.2:=fun e=>by rw [e2]; exact mG_app A.nk g2 e _ x.2 A.rf.1 A.rf.2 (Nat.le_refl _)
    have n:=ndK_ok (v:=v) B.nk h0 A.rf.1 ra (by have:=A.lv; omega) B.rf.1 B.rf.2 (by have:=B.lv; omega)
    obtain ⟨X3,e3⟩:=n.ext
    refine ⟨n.nk,⟨X1++X2++X3,by rw [e3,e2,e1]; simp⟩,n.rf,n.lv,fun e=>?_⟩
    show tab _ m (v+1) (up e v false)++tab _ m (v+1) (up e v true)=_
    rw [List.map_append,← A.tb (up e v false),← B.tb (up e v true)]
    congr 1
    · refine tab_congr m (v+1) (up e v false) fun e' he=>?_
      have:e' v=false:=by rw [he v (by omega)]; exact if_pos rfl
      rw [n.vl,if_neg (by rw [this]; simp),va]
    · refine tab_congr m (v+1) (up e v true) fun e' he=>?_
      have:e' v=true:=by rw [he v (by omega)]; exact if_pos rfl
      rw [n.vl,if_pos this]
section
variable {vars:Int} {t:List Int}
theorem rank_map:(t.map (ix (vls t))).map (gi (vls t))=t:=by
  rw [List.map_map]
  conv=>rhs; rw [← List.map_id t]
  exact List.map_congr_left fun z hz=>(ix_mem (vls_mem.2 hz)).2.2
theorem dg_prt (hv:0≤vars) (hl:t.length=2 ^ vars.toNat):PrtOk vars (vls t) [] vars.toNat 0 (t.map (ix (vls t))) (prt (vls t).length vars.toNat [] 0 (t.map (ix (vls t)))) :=
  prt_ok vars.toNat [] 0 _ nks_nil (by omega) (Int.le_refl _) (by rw [List.length_map]; exact hl) fun z hz=>by
    obtain ⟨y,hy,rfl⟩:=List.mem_map.1 hz
    have:=ix_mem (vls_mem.2 hy)
    exact ⟨this.1,this.2.1⟩
/-- Its values are the table. -/
theorem vT_dg (hv:0≤vars) (hl:t.length=2 ^ vars.toNat):vT (dg vars t)=t:=by
  have h:=(dg_prt hv hl).tb e0
  rw [rank_map] at h
  exact h
theorem dg_loc (hv:0≤vars) (hl:t.length=2 ^ vars.toNat) (hin:∀ z ∈ t,inR z):Loc (dg vars t):=by
  have p:=dg_prt hv hl
  refine ⟨fun i h0 h1=>?_,p.nk,p.rf⟩
  have h1:i < ((vls t).length:Int):=h1
  refine ⟨hin _ (vls_mem.1 (gi_mem h0 h1)),fun hi=>?_⟩
  have key:=List.pairwise_iff_getElem.1 (vls_ss t) (i - 1).toNat i.toNat (by omega) (by omega) (by omega)
  show gi (vls t) (i - 1) < gi (vls t) i
  unfold gi
  rw [List.getD_eq_getElem?_getD,List.getD_eq_getElem?_getD,List.getElem?_eq_getElem (by omega),List.getElem?_eq_getElem (by omega)]
  exact key
theorem dg_ok (hv:0≤vars) (h40:vars≤40) (hl:t.length=2 ^ vars.toNat) (hin:∀ z ∈ t,inR z) (hb:¬ big (dg vars t)):Ok (dg vars t):=by
  have hb2:(dg vars t).L.length≤4096∧(dg vars t).N.length≤4096:=by unfold big at hb; omega
  refine ⟨⟨hv,h40⟩,hb2,dg_loc hv hl hin,?_⟩
  rw [vT_dg hv hl]; rfl
theorem mkE_0 (h:mkE vars t=0):(∀ z ∈ t,inR z)∧¬ big (dg vars t):=by
  unfold mkE at h
  by_cases q:∃ z ∈ t,¬ inR z
  · rw [if_pos q] at h; omega
  · rw [if_neg q] at h
    by_cases b:big (dg vars t)
    · rw [if_pos b] at h; omega
    · exact ⟨fun z hz=>Classical.byContradiction fun n=>q ⟨z,hz,n⟩,b⟩
theorem mkE_of (h:∀ z ∈ t,inR z) (b:¬ big (dg vars t)):mkE vars t=0:=by
  unfold mkE
  rw [if_neg fun ⟨z,hz,n⟩=>n (h z hz),if_neg b]
theorem mkD_0 (h:mkE vars t=0):mkD vars t=dg vars t:=by unfold mkD; rw [h,orZ_0]
theorem mk_ok (hv:0≤vars) (h40:vars≤40) (hl:t.length=2 ^ vars.toNat) (h:mkE vars t=0):Ok (mkD vars t):=by
  rw [mkD_0 h]
  exact dg_ok hv h40 hl (mkE_0 h).1 (mkE_0 h).2
theorem dd_len:∀ {l:List Int},(dd l).length≤l.length
  | []=>Nat.le_refl _
  | a :: l=>by
    have ih:=dd_len (l:=l)
    unfold dd
    cases h:dd l with
    | nil=>simp
    | cons b r =>
      rw [h] at ih
      simp only [List.length_cons] at ih
      show (if a=b then b :: r else a :: b :: r).length≤_
      split
      · simp only [List.length_cons]; omega
      · simp only [List.length_cons]; omega
theorem vls_len (t:List Int):(vls t).length≤t.length:=by
  have:=dd_len (l:=srt t)
  unfold vls
  rwa [List.length_mergeSort] at this
/-- Small tables have small diagrams. -/
theorem dg_small (h12:vars≤12) (hl:t.length=2 ^ vars.toNat):¬ big (dg vars t):=by
  have h1:=vls_len t
  have h2:=(prt_len (K:=(vls t).length) vars.toNat [] 0 (t.map (ix (vls t)))).2
  have h3:2 ^ vars.toNat≤2 ^ 12:=Nat.pow_le_pow_right (by omega) (by omega)
  unfold big
  show ¬ (4096 < (vls t).length ∨ 4096 < (prt (vls t).length vars.toNat [] 0 (t.map (ix (vls t)))).1.length)
  have h4:([]:List Fk).length=0:=rfl
  omega
end
theorem tabv_len {vars:Int} {α:Type} (f:(Int→Bool)→α):(tabv vars f).length=2 ^ vars.toNat:=tab_len _ _ _ _
/-- A valid diagram is the one of its values. -/
theorem Ok.dg {A:Mg} (h:Ok A):dg A.v (vT A)=A:=h.2.2.2
theorem Ok.dep {A:Mg} (h:Ok A):Dep A.v (vl A):=gev_dep h.red h.1.1 h.rt
theorem vl_in {A:Mg} (h:Ok A) (e:Int→Bool):inR (vl A e):=by
  have hm:vl A e ∈ vT A:=(tabv_mem h.1.1 h.dep).2 ⟨e,rfl⟩
  have h2:vl A e ∈ vls (vT A):=vls_mem.2 hm
  have e2:A.L=vls (vT A):=(congrArg Mg.L h.dg).symm
  exact h.rng _ (e2 ▸ h2)
end Go.Proofs.Ytkmhjcjpohpiaaa
namespace Go.Proofs.Ytkmhjcjpohpiaaa
open Go Go.Vc
open Classical
section
variable {P:Program} {C:Cx} {env:Env} {V:HV} {σ:Res} {dst:Option Nat} {x y:Operand} {t T T':TypeId} {pos:String} {af:Array Edge} {g:Option (Nat × Bool)} {m n:Int} {k2:IntKind}
theorem qv_shli (hx:ev env x=.int .i64 m) (hy:ev env y=.int k2 n) (h0:0≤n) (h1:n≤64) (hm:0≤m * 2 ^ n.toNat∧m * 2 ^ n.toNat≤9223372036854775807):QV P C ⟨dst,.binOp .shl T x y T',t,pos,af,g⟩ env V σ (.int .i64 (m * 2 ^ n.toNat)):=qv_run fun w _=>by
  have e:min n.toNat IntKind.i64.bits=n.toNat:=by show min n.toNat 64=n.toNat; omega
  have:=run_shl (P:=P) (T:=T) (k:=.i64) (k2:=k2) (m:=m) (n:=n) (w:=w) h0
  rw [e,IntWalk.i64_in _ (by omega)] at this
  simp [execOp,hx,hy,eqGuard,this]
theorem qv_shri (hx:ev env x=.int .i64 m) (hy:ev env y=.int k2 n) (h0:0≤n) (h1:n≤64):QV P C ⟨dst,.binOp .shr T x y T',t,pos,af,g⟩ env V σ (.int .i64 (m / 2 ^ n.toNat)):=qv_run fun w _=>by
  have e:min n.toNat IntKind.i64.bits=n.toNat:=by show min n.toNat 64=n.toNat; omega
  have:=run_shr (P:=P) (T:=T) (k:=.i64) (k2:=k2) (m:=m) (n:=n) (w:=w) h0
  rw [e,Int.fdiv_eq_ediv_of_nonneg _ (Int.le_of_lt (Int.pow_pos (by omega)))] at this
  simp [execOp,hx,hy,eqGuard,this]
theorem and_one {m:Int}:((BitVec.ofInt 64 m &&& BitVec.ofInt 64 1).toNat:Int)=m % 2:=by
  have e2:(BitVec.ofInt 64 1).toNat=2 ^ 1 - 1:=by decide
  have e1:((BitVec.ofInt 64 m).toNat:Int)=m % 18446744073709551616:=by rw [BitVec.toNat_ofInt]; simp; omega
  rw [BitVec.toNat_and,e2,Nat.and_two_pow_sub_one_eq_mod]
  omega
theorem qv_and1 (hx:ev env x=.int .i64 m) (hy:ev env y=.int .i64 1) (_h0:0≤m):QV P C ⟨dst,.binOp .and T x y T',t,pos,af,g⟩ env V σ (.int .i64 (m % 2)):=qv_run fun w _=>by
  have e:IntKind.i64.wrap ((BitVec.ofInt 64 m &&& BitVec.ofInt 64 1).toNat:Int)=m % 2:=by
    rw [and_one]; exact IntWalk.i64_in _ (by omega)
  have e':(Op.intBits .and .i64 m 1).run P w=.ok (.int .i64 (m % 2)) w:=by
    show (pure (Value.int .i64 (IntKind.i64.wrap ((BitVec.ofInt 64 m &&& BitVec.ofInt 64 1).toNat:Int))):Sem Value).run P w=_
    rw [e]; rfl
  simp [execOp,hx,hy,eqGuard,binOp,e']
end
/-- The assignment with a number. -/
def asg (vars k:Int):Int→Bool:=fun i=>decide (0≤i∧i < vars∧k / 2 ^ (vars - 1 - i).toNat % 2=1)
theorem pow2_pos (n:Nat):(0:Int) < 2 ^ n:=Int.pow_pos (by omega)
theorem half_bit {k p:Int} (_h0:0≤k) (hp:0 < p) (h1:k < p+p):k / p % 2=if k < p then 0 else 1:=by
  by_cases h:k < p
  · rw [if_pos h,Int.ediv_eq_zero_of_lt (by omega) h]; rfl
  · rw [if_neg h]
    have:k / p=1:=by
      rw [show k=k - p+1 * p by omega,Int.add_mul_ediv_right _ _ (by omega),Int.ediv_eq_zero_of_lt (by omega) (by omega)]; rfl
    rw [this]; rfl
theorem low_bits {k p:Int} {j m:Nat} (hj:j < m) (hp:p=2 ^ m):(k - p) / 2 ^ j % 2=k / 2 ^ j % 2:=by
  obtain ⟨d,rfl⟩:∃ d,m=j+1+d:=⟨m - j - 1,by omega⟩
  have e:p=(2 * 2 ^ d) * 2 ^ j:=by
    rw [hp,Int.pow_add,Int.pow_succ,Int.mul_comm (2 ^ j) 2,Int.mul_assoc,Int.mul_comm (2 ^ j),Int.mul_assoc]
  rw [e,Int.sub_eq_add_neg,← Int.neg_mul,Int.add_mul_ediv_right _ _ (Int.ne_of_gt (pow2_pos j))]
  have:k / 2 ^ j+-(2 * 2 ^ d)=k / 2 ^ j+(-(2 ^ d)) * 2:=by rw [Int.neg_mul,Int.mul_comm (2 ^ d) 2]
  rw [this,Int.add_mul_emod_self_right]
/-- The entry k of a table over m variables from v on. -/
theorem tab_get {α:Type} (f:(Int→Bool)→α):∀ (m:Nat) (v:Int) (e:Int→Bool) (k:Int),0≤k→k < 2 ^ m →
    (tab f m v e)[k.toNat]? = some (f (fun i=>if v≤i∧i < v+m then decide (k / 2 ^ (v+m - 1 - i).toNat % 2=1) else e i))
  | 0,v,e,k,h0,h1=>by
    have hk:k=0:=by have h1:k < 1:=h1; omega
    subst hk
    show some (f e)=_
    congr 2; funext i
    rw [if_neg (by omega)]
  | m+1,v,e,k,h0,h1=>by
    have hp:(2:Int) ^ (m+1)=2 ^ m+2 ^ m:=by rw [Int.pow_succ]; omega
    have hp0:=pow2_pos m
    have hl:=tab_len f m (v+1) (up e v false)
    have hl2:((tab f m (v+1) (up e v false)).length:Int)=2 ^ m:=by rw [hl]; simp
    show (tab f m (v+1) (up e v false)++tab f m (v+1) (up e v true))[k.toNat]? = _
    by_cases hk:k < 2 ^ m
    · rw [List.getElem?_append_left (by omega),tab_get f m (v+1) _ k h0 hk]
      congr 2; funext i
      by_cases hi:v≤i∧i < v+(m+1:Nat)
      · rw [if_pos hi]
        by_cases hv:i=v
        · subst hv
          rw [if_neg (by omega)]
          unfold up
          rw [if_pos rfl,show (i+((m+1:Nat):Int) - 1 - i).toNat=m by omega,half_bit h0 hp0 (by omega),if_pos hk]; rfl
        · rw [if_pos (by omega),show (v+1+(m:Int) - 1 - i).toNat=(v+((m+1:Nat):Int) - 1 - i).toNat by omega]
      · rw [if_neg hi,if_neg (by omega)]
        unfold up; rw [if_neg (by omega)]
    · rw [List.getElem?_append_right (by omega),show k.toNat - (tab f m (v+1) (up e v false)).length=(k - 2 ^ m).toNat by omega,tab_get f m (v+1) _ (k - 2 ^ m) (by omega) (by omega)]
      congr 2; funext i
      by_cases hi:v≤i∧i < v+(m+1:Nat)
      · rw [if_pos hi]
        by_cases hv:i=v
        · subst hv
          rw [if_neg (by omega)]
          unfold up
          rw [if_pos rfl,show (i+((m+1:Nat):Int) - 1 - i).toNat=m by omega,half_bit h0 hp0 (by omega),if_neg hk]; rfl
        · rw [if_pos (by omega),show (v+1+(m:Int) - 1 - i).toNat=(v+((m+1:Nat):Int) - 1 - i).toNat by omega,low_bits (m:=m) (by omega) rfl]
      · rw [if_neg hi,if_neg (by omega)]
        unfold up; rw [if_neg (by omega)]
/-- A table, entry by entry. -/
def tbl {α:Type} (vars:Int) (g:(Int→Bool)→α):List α:=(List.range (2 ^ vars.toNat)).map (fun k:Nat=>g (asg vars (k:Int)))
theorem tbl_len {α:Type} (vars:Int) (g:(Int→Bool)→α):(tbl vars g).length=2 ^ vars.toNat:=by simp [tbl]
theorem tbl_lenI {α:Type} (vars:Int) (g:(Int→Bool)→α):((tbl vars g).length:Int)=2 ^ vars.toNat:=by rw [tbl_len]; simp
theorem tbl_at {α:Type} {vars k:Int} {g:(Int→Bool)→α} (h0:0≤k) (h1:k < 2 ^ vars.toNat):(tbl vars g)[k.toNat]? = some (g (asg vars k)):=by
  have h2:k < ((2 ^ vars.toNat:Nat):Int):=by simpa using h1
  unfold tbl
  rw [List.getElem?_map,List.getElem?_range (by omega)]
  show some (g (asg vars (k.toNat:Int)))=_
  rw [Int.toNat_of_nonneg h0]
theorem tab_tbl {α:Type} {vars:Int} (h:0≤vars) (g:(Int→Bool)→α):tabv vars g=tbl vars g:=by
  refine List.ext_getElem? fun i=>?_
  by_cases hi:i < 2 ^ vars.toNat
  · have h2:(i:Int) < 2 ^ vars.toNat:=by
      have:((2 ^ vars.toNat:Nat):Int)=(2:Int) ^ vars.toNat:=by simp
      omega
    have a:=tab_get g vars.toNat 0 e0 (i:Int) (by omega) h2
    have b:=tbl_at (vars:=vars) (g:=g) (k:=(i:Int)) (by omega) h2
    rw [Int.toNat_natCast] at a b
    rw [a,b]
    congr 2; funext j
    unfold asg
    by_cases hj:0≤j∧j < 0+(vars.toNat:Int)
    · rw [if_pos hj]
      have:(0≤j∧j < vars∧(i:Int) / 2 ^ (vars - 1 - j).toNat % 2=1) ↔ (i:Int) / 2 ^ (0+(vars.toNat:Int) - 1 - j).toNat % 2=1:=by
        rw [show (0+(vars.toNat:Int) - 1 - j).toNat=(vars - 1 - j).toNat by omega]
        exact ⟨fun q=>q.2.2,fun q=>⟨by omega,by omega,q⟩⟩
      exact (decide_eq_decide.2 this).symm
    · rw [if_neg hj]
      exact (decide_eq_false (by omega)).symm
  · rw [List.getElem?_eq_none (by rw [tab_len]; omega),List.getElem?_eq_none (by rw [tbl_len]; omega)]
theorem tbl_map {α β:Type} {vars:Int} (h:α→β) (g:(Int→Bool)→α):(tbl vars g).map h=tbl vars (fun e=>h (g e)):=by
  unfold tbl; rw [List.map_map]; rfl
theorem asg_in {vars k i:Int} (h0:0≤i) (h1:i < vars):asg vars k i=decide (k / 2 ^ (vars - 1 - i).toNat % 2=1):=by
  unfold asg
  exact decide_eq_decide.2 ⟨fun q=>q.2.2,fun q=>⟨h0,h1,q⟩⟩
theorem asg_out {vars k i:Int} (h:i < 0 ∨ vars≤i):asg vars k i=false:=by
  unfold asg
  exact decide_eq_false (by omega)
/-- The number of an assignment. -/
def nm_ (L:List Bool):Nat→Int
  | 0=>0
  | n+1=>2 * nm_ L n+(if L.getD n false then 1 else 0)
theorem nm_bd (L:List Bool):∀ n:Nat,0≤nm_ L n∧nm_ L n < 2 ^ n
  | 0=>⟨Int.le_refl _,by show (0:Int) < 1; omega⟩
  | n+1=>by
    have:=nm_bd L n
    have hp:(2:Int) ^ (n+1)=2 ^ n+2 ^ n:=by rw [Int.pow_succ]; omega
    show 0≤2 * nm_ L n+(if L.getD n false then 1 else 0)∧2 * nm_ L n+(if L.getD n false then 1 else 0) < 2 ^ (n+1)
    split <;> omega
theorem nm_bit (L:List Bool):∀ (n i:Nat),i < n→nm_ L n / 2 ^ (n - 1 - i) % 2=if L.getD i false then 1 else 0
  | n+1,i,h=>by
    by_cases e:i=n
    · subst e
      rw [show i+1 - 1 - i=0 by omega,Int.pow_zero,Int.ediv_one]
      show (2 * nm_ L i+(if L.getD i false then 1 else 0)) % 2=_
      split <;> omega
    · have:=nm_bit L n i (by omega)
      rw [show n+1 - 1 - i=(n - 1 - i)+1 by omega,Int.pow_succ,Int.mul_comm,← Int.ediv_ediv_of_nonneg (by omega)]
      have e2:nm_ L (n+1) / 2=nm_ L n:=by
        show (2 * nm_ L n+(if L.getD n false then 1 else 0)) / 2=_
        split <;> omega
      rw [e2,this]
/-- The assignment whose number was taken. -/
theorem asg_nm {vars:Int} {L:List Bool} (hL:(L.length:Int)=vars):asg vars (nm_ L L.length)=fun i=>decide (0≤i∧i < vars∧gb L i=true):=by
  funext i
  by_cases hi:0≤i∧i < vars
  · rw [asg_in hi.1 hi.2]
    have:=nm_bit L L.length i.toNat (by omega)
    rw [show (vars - 1 - i).toNat=L.length - 1 - i.toNat by omega,this]
    by_cases h:gb L i=true
    · rw [if_pos h]; exact (decide_eq_true ⟨hi.1,hi.2,h⟩).symm
    · rw [if_neg h]; exact (decide_eq_false fun q=>h q.2.2).symm
  · rw [asg_out (by omega)]
    exact (decide_eq_false fun q=>hi ⟨q.1,q.2.1⟩).symm
theorem pow2_mono {a b:Nat} (h:a≤b):(2:Int) ^ a≤2 ^ b:=by
  have h1:=Nat.pow_le_pow_right (n:=2) (by omega) h
  have h2:((2 ^ a:Nat):Int)≤((2 ^ b:Nat):Int):=by omega
  simpa using h2
theorem pow2_40 {n:Nat} (h:n≤40):(1:Int)≤2 ^ n∧(2:Int) ^ n≤1099511627776:=⟨by have:=pow2_pos n; omega,pow2_mono h⟩
theorem pow2_12 {n:Nat} (h:n≤12):(1:Int)≤2 ^ n∧(2:Int) ^ n≤4096:=⟨by have:=pow2_pos n; omega,pow2_mono h⟩
/-- The assignment with a number, as a list. -/
def asL (vars k:Int):List Bool:=(List.range vars.toNat).map (fun j:Nat=>asg vars k (j:Int))
theorem asL_len (vars k:Int):(asL vars k).length=vars.toNat:=by simp [asL]
theorem asL_gb {vars k i:Int} (h0:0≤i) (h1:i < vars):gb (asL vars k) i=asg vars k i:=by
  unfold asL
  rw [gb_map_range _ _ _ h0 (by omega),Int.toNat_of_nonneg h0]
theorem Dep.up {α:Type} {vars i:Int} {b:Bool} {g:(Int→Bool)→α} (h:Dep vars g):Dep vars (fun e=>g (up e i b)):=fun e e' he=>h _ _ fun j h0 h1=>by
  unfold Proofs.Ytkmhjcjpohpiaaa.up; rw [he j h0 h1]
theorem dep_asL {α:Type} {vars k:Int} {g:(Int→Bool)→α} (h:Dep vars g):g (fun i=>gb (asL vars k) i)=g (asg vars k):=h _ _ fun i h0 h1=>asL_gb h0 h1
/-- Functions with the same table are the same. -/
theorem tbl_inj {α:Type} {vars:Int} {g g':(Int→Bool)→α} (h0:0≤vars) (hg:Dep vars g) (hg':Dep vars g') (h:tbl vars g=tbl vars g') (e:Int→Bool):g e=g' e:=by
  obtain ⟨L,hL⟩:∃ L:List Bool,L=(List.range vars.toNat).map (fun j:Nat=>e (j:Int)):=⟨_,rfl⟩
  have hl:(L.length:Int)=vars:=by rw [hL]; simp; omega
  have hb:=nm_bd L L.length
  have hLn:L.length=vars.toNat:=by omega
  have he:∀ i:Int,0≤i→i < vars→e i=asg vars (nm_ L L.length) i:=fun i i0 i1=>by
    rw [asg_nm hl]
    have hq:gb L i=e i:=by rw [hL,gb_map_range _ _ _ i0 (by omega),Int.toNat_of_nonneg i0]
    show _=decide (0≤i∧i < vars∧gb L i=true)
    rw [hq]
    cases h:e i
    · exact (decide_eq_false (by simp)).symm
    · exact (decide_eq_true ⟨i0,i1,rfl⟩).symm
  have h1:nm_ L L.length < 2 ^ vars.toNat:=by rw [← hLn]; exact hb.2
  have a:=tbl_at (vars:=vars) (g:=g) hb.1 h1
  have b:=tbl_at (vars:=vars) (g:=g') hb.1 h1
  rw [h,b] at a
  have a:=Option.some.inj a
  rw [hg e _ he,hg' e _ he,a]
end Go.Proofs.Ytkmhjcjpohpiaaa
namespace Go.Proofs.Ytkmhjcjpohpiaaa
open Go Go.Vc
open Classical
theorem fin_of {vars:Int} {L:List Int} {M:List Fk} {root:Int} {f:(Int→Bool)→Int} (hv:0≤vars) (b:BOk vars L M) (hr:(bV L M).ok root) (hf:∀ e,gev (bV L M) e root=f e) (hrch:∀ z ∈ L,(∃ e,f e=z) ∨ inR z) :
    bD vars L M root=dg vars (tabv vars f)∧finE L (bD vars L M root)=mkE vars (tabv vars f):=by
  have hd:Dep vars f:=by
    have:=gev_dep b.red hv hr
    rwa [show (fun e=>gev (bV L M) e root)=f from funext hf] at this
  have e:=bD_eq (vars:=vars) hf
  exact ⟨e,by rw [e]; exact fin_mk (wd_tab hv b hr hf hd hrch)⟩
/-- The diagram has at most as many leaves and nodes as the builder. -/
theorem bD_len {vars:Int} {L:List Int} {M:List Fk} {root:Int} (hv:0≤vars) (b:BOk vars L M) (hr:(bV L M).ok root):(bD vars L M root).L.length≤L.length∧(bD vars L M root).N.length≤M.length:=by
  have F:=fin_ok hv b hr
  have I:=(ord_inv b.red (root.toNat+2) root os0 hr (mu_lt hr) osi0).inv.len
  have I1:(oE M root).lv.length≤L.length∧(oE M root).nd.length≤M.length:=I
  have h1:=F.ll
  rw [lvS_len] at h1
  have h2:=F.len
  exact ⟨by rw [h1]; exact I1.1,by rw [h2]; exact I1.2⟩
theorem fin_0 {vars:Int} {L:List Int} {M:List Fk} {root:Int} {f:(Int→Bool)→Int} (hv:0≤vars) (b:BOk vars L M) (hr:(bV L M).ok root) (hf:∀ e,gev (bV L M) e root=f e) (hin:∀ z ∈ L,inR z) (h1:L.length≤4096) (h2:M.length≤4096) :
    bD vars L M root=dg vars (tabv vars f)∧finE L (bD vars L M root)=0∧mkE vars (tabv vars f)=0:=by
  have a:=fin_of hv b hr hf fun z hz=>.inr (hin z hz)
  have l:=bD_len hv b hr
  have w:¬ wd L:=fun ⟨z,hz,n⟩=>n (hin z hz)
  have g:¬ big (bD vars L M root):=by unfold big; omega
  exact ⟨a.1,finE_0 w g,by rw [← a.2]; exact finE_0 w g⟩
/-- What a reference of the builder stands for: a reference of a diagram, with the variable i set to b. -/
structure Rs (A:Mg) (i:Int) (b:Bool) (L:List Int) (M:List Fk) (r p:Int):Prop where
  rf:(bV L M).ok p
  lv:tp A r≤lev A.v (bV L M) p
  val:∀ e,gev (bV L M) e p=gev (mG A) (up e i b) r
theorem Rs.up {A:Mg} {i:Int} {b:Bool} {L X:List Int} {M Y:List Fk} {r p:Int} (s:Rs A i b L M r p) (f:GRed A.v (bV L M)) (g:GRed A.v (bV (L++X) (M++Y))):Rs A i b (L++X) (M++Y) r p :=
  ⟨(bG_sub s.rf).1,by rw [bG_lev s.rf]; exact s.lv,fun e=>by rw [bG_gev f g s.rf e]; exact s.val e⟩
/-- A diagram of which the first references are built. -/
structure RInv (A:Mg) (i:Int) (b:Bool) (L:List Int) (M:List Fk) (R:List Int):Prop where
  ok:BOk A.v L M
  rs:∀ r:Int,0≤r→r < R.length→Rs A i b L M r (gi R r)
  inr:∀ z ∈ L,inR z
  ll:L.length≤A.L.length∧L.length≤R.length
  ml:(M.length:Int)≤A.N.length∧M.length≤R.length∧((M.length:Int)≤0 ∨ M.length+(A.L.length:Int)≤R.length)
theorem rinv0 {A:Mg} {i:Int} {b:Bool}:RInv A i b [] [] []:=⟨bok_nil,fun r h0 h1=>by have h1:r < ((0:Nat):Int):=h1; omega,fun z h=>by simp at h,by simp,by simp⟩
theorem rinv_leaf {A:Mg} {i:Int} {b:Bool} {L R:List Int} {k:Int} (c:RInv A i b L [] R) (hk:k=R.length) (h1:k < A.L.length) (hin:inR (gi A.L k)):RInv A i b (lfR L (gi A.L k)).1 [] (R++[(lfR L (gi A.L k)).2]):=by
  have o:=leaf_ok (z:=gi A.L k) c.ok
  obtain ⟨X,hX⟩:=o.ext
  have hl:=lfR_len (L:=L) (z:=gi A.L k)
  have e0:([]:List Fk)=[]++[]:=rfl
  have hll:=c.ll
  refine ⟨o.ok,fun r r0 r1=>?_,fun z hz=>?_,?_,by simp⟩
  · have hlen:((R++[(lfR L (gi A.L k)).2]).length:Int)=R.length+1:=by simp
    by_cases q:r < R.length
    · rw [gi_app r0 q]
      have:=(c.rs r r0 q).up (X:=X) (Y:=[]) c.ok.red (by rw [← hX]; exact o.ok.red)
      rw [← hX] at this
      exact this
    · have:r=R.length:=by omega
      subst this
      rw [gi_last]
      have hlf:(mG A).lf (R.length:Int):=by show (R.length:Int) < A.L.length; omega
      refine ⟨o.rf,?_,fun e=>?_⟩
      · rw [lev_lf (G:=bV (lfR L (gi A.L k)).1 []) o.lf]
        rw [tp_l (by omega)]; exact Int.le_refl _
      · rw [gev_lf (G:=bV (lfR L (gi A.L k)).1 []) o.lf,gev_lf hlf]
        show id (gi (lfR L (gi A.L k)).1 ((lfR L (gi A.L k)).2 / 2))=gi A.L (R.length:Int)
        rw [← hk]; exact o.vl
  · rcases lfR_mem hz with h | h
    · exact c.inr z h
    · subst h; exact hin
  · refine ⟨?_,by rw [List.length_append]; show _≤R.length+1; omega⟩
    have:R.length < A.L.length:=by omega
    omega
/-- The reference of the next node. -/
noncomputable def rsN (A:Mg) (i:Int) (b:Bool) (M:List Fk) (R:List Int) (j:Int):List Fk × Int :=
  if (fk A.N j).v ≠ i then ndR M (fk A.N j).v (gi R (fk A.N j).l) (gi R (fk A.N j).h) else (M,if b=true then gi R (fk A.N j).h else gi R (fk A.N j).l)
theorem rsN_n {A:Mg} {i:Int} {b:Bool} {M:List Fk} {R:List Int} {j:Int} (h:(fk A.N j).v ≠ i):rsN A i b M R j=ndR M (fk A.N j).v (gi R (fk A.N j).l) (gi R (fk A.N j).h):=if_pos h
theorem rsN_t {A:Mg} {i:Int} {b:Bool} {M:List Fk} {R:List Int} {j:Int} (h:¬ (fk A.N j).v ≠ i) (hb:b=true):rsN A i b M R j=(M,gi R (fk A.N j).h):=by unfold rsN; rw [if_neg h,if_pos hb]
theorem rsN_f {A:Mg} {i:Int} {b:Bool} {M:List Fk} {R:List Int} {j:Int} (h:¬ (fk A.N j).v ≠ i) (hb:¬ b=true):rsN A i b M R j=(M,gi R (fk A.N j).l):=by unfold rsN; rw [if_neg h,if_neg hb]
theorem rinv_node {A:Mg} {i:Int} {b:Bool} {L R:List Int} {M:List Fk} {j:Int} (f:GRed A.v (mG A)) (hb:∀ j:Int,0≤j→j < A.N.length→(0≤(fk A.N j).l∧(fk A.N j).l < A.L.length+j)∧(0≤(fk A.N j).h∧(fk A.N j).h < A.L.length+j)) (c:RInv A i b L M R) (hk:(R.length:Int)=A.L.length+j) (j0:0≤j) (h1:j < A.N.length) :
    RInv A i b L (rsN A i b M R j).1 (R++[(rsN A i b M R j).2]):=by
  have hbj:=hb j j0 h1
  have hr:(mG A).ok (A.L.length+j):=⟨by omega,by show (A.L.length:Int)+j < A.L.length+A.N.length; omega⟩
  have hlf:¬ (mG A).lf (A.L.length+j):=by show ¬ (A.L.length:Int)+j < A.L.length; omega
  have en:(mG A).nd (A.L.length+j)=fk A.N j:=by show fk A.N ((A.L.length:Int)+j - A.L.length)=_; rw [show (A.L.length:Int)+j - A.L.length=j by omega]
  have hlo:=f.lo _ hr hlf
  have hhi:=f.hi _ hr hlf
  have hvr:=f.vr _ hr hlf
  rw [en] at hlo hhi hvr
  have tl:∀ r,tp A r=lev A.v (mG A) r:=fun r=>tp_lev rfl
  have sl:=c.rs (fk A.N j).l hbj.1.1 (by omega)
  have sh:=c.rs (fk A.N j).h hbj.2.1 (by omega)
  have hll:=c.ll
  have hml:=c.ml
  have tj:tp A (A.L.length+j)=(fk A.N j).v:=by rw [tp_n hlf]; show (fk A.N ((A.L.length:Int)+j - A.L.length)).v=_; rw [show (A.L.length:Int)+j - A.L.length=j by omega]
  have lsl:=sl.lv
  have lsh:=sh.lv
  rw [tl] at lsl lsh
  have hlen:∀ p:Int,((R++[p]).length:Int)=R.length+1:=fun p=>by simp
  have key:BOk A.v L (rsN A i b M R j).1∧(∃ Y,(rsN A i b M R j).1=M++Y)∧Rs A i b L (rsN A i b M R j).1 (A.L.length+j) (rsN A i b M R j).2∧(rsN A i b M R j).1.length≤M.length+1:=by
    by_cases hi:(fk A.N j).v ≠ i
    · rw [rsN_n hi]
      have n:=node_ok c.ok hvr.1 hvr.2 sl.rf sh.rf (by omega) (by omega)
      refine ⟨n.ok,n.ext,⟨n.rf,?_,fun e=>?_⟩,ndR_len.2⟩
      · rw [tj]; exact n.lv
      · rw [n.vl,gev_step f hr hlf,en]
        have:up e i b (fk A.N j).v=e (fk A.N j).v:=if_neg hi
        rw [this]
        split
        · exact sh.val e
        · exact sl.val e
    · have hi2:(fk A.N j).v=i:=Decidable.not_not.1 hi
      have hu:∀ e:Int→Bool,up e i b (fk A.N j).v=b:=fun e=>if_pos hi2
      by_cases hb:b=true
      · rw [rsN_t hi hb]
        refine ⟨c.ok,⟨[],by simp⟩,⟨sh.rf,?_,fun e=>?_⟩,by simp⟩
        · rw [tj]; show (fk A.N j).v≤lev A.v (bV L M) (gi R (fk A.N j).h); omega
        · rw [gev_step f hr hlf,en,hu,if_pos hb]; exact sh.val e
      · rw [rsN_f hi hb]
        refine ⟨c.ok,⟨[],by simp⟩,⟨sl.rf,?_,fun e=>?_⟩,by simp⟩
        · rw [tj]; show (fk A.N j).v≤lev A.v (bV L M) (gi R (fk A.N j).l); omega
        · rw [gev_step f hr hlf,en,hu,if_neg hb]; exact sl.val e
  obtain ⟨k1,⟨Y,hY⟩,k3,k4⟩:=key
  generalize rsN A i b M R j=x at k1 hY k3 k4
  refine ⟨k1,fun r r0 r1=>?_,c.inr,⟨hll.1,by rw [List.length_append]; omega⟩,?_⟩
  · have r1:r < ((R++[x.2]).length:Int):=r1
    rw [hlen] at r1
    by_cases q:r < R.length
    · rw [gi_app r0 q]
      have:=(c.rs r r0 q).up (X:=[]) (Y:=Y) c.ok.red (by rw [List.append_nil,← hY]; exact k1.red)
      rw [List.append_nil,← hY] at this
      exact this
    · have e:r=R.length:=by omega
      rw [e,gi_last,hk]; exact k3
  · have:=hlen x.2
    omega
/-- All is built. -/
theorem RInv.fin {A:Mg} {i:Int} {b:Bool} {L R:List Int} {M:List Fk} (c:RInv A i b L M R) (hv:0≤A.v) (hl:A.L.length≤4096) (hn:A.N.length≤4096) (hR:(R.length:Int)=A.L.length+A.N.length) (hr:(mG A).ok A.r) :
    (bV L M).ok (gi R A.r)∧bD A.v L M (gi R A.r)=dg A.v (tabv A.v fun e=>vl A (up e i b))∧finE L (bD A.v L M (gi R A.r))=0∧mkE A.v (tabv A.v fun e=>vl A (up e i b))=0:=by
  have hr2:A.r < A.L.length+A.N.length:=hr.2
  have s:=c.rs A.r hr.1 (by omega)
  have hll:=c.ll
  have hml:=c.ml
  exact ⟨s.rf,fin_0 hv c.ok s.rf s.val c.inr (by omega) (by omega)⟩
theorem gev_m0 (e:Int→Bool):gev (mG m0) e 0=0:=by
  rw [gev_lf (G:=mG m0) (show (0:Int) < ((1:Nat):Int) by omega)]; rfl
theorem cT1 {A:Mg} {vars:Int} {F:Int→Int→Int→Int}:cT vars [A] F=tabv vars fun e=>F (vl A e) 0 0:=by
  show tabv vars (fun e=>F (gev (mG A) e A.r) (gev (mG m0) e 0) (gev (mG m0) e 0))=_
  simp only [gev_m0]
theorem cT2 {A B:Mg} {vars:Int} {F:Int→Int→Int→Int}:cT vars [A,B] F=tabv vars fun e=>F (vl A e) (vl B e) 0:=by
  show tabv vars (fun e=>F (gev (mG A) e A.r) (gev (mG B) e B.r) (gev (mG m0) e 0))=_
  simp only [gev_m0]
/-- The values of the diagram of a function. -/
theorem vl_dg {vars:Int} {f:(Int→Bool)→Int} (hv:0≤vars) (hd:Dep vars f) (hin:∀ e,inR (f e)) (e:Int→Bool):vl (dg vars (tabv vars f)) e=f e:=by
  have h:=vT_dg (t:=tabv vars f) hv (tabv_len f)
  have hloc:=dg_loc (t:=tabv vars f) hv (tabv_len f) fun z hz=>by
    obtain ⟨e,rfl⟩:=(tabv_mem hv hd).1 hz
    exact hin e
  have hdep:Dep vars (vl (dg vars (tabv vars f))):=gev_dep (Loc.red hloc.nd) hv hloc.rt
  have h2:tabv vars (vl (dg vars (tabv vars f)))=tabv vars f:=h
  exact tbl_inj hv hdep hd ((tab_tbl hv _).symm.trans (h2.trans (tab_tbl hv _))) e
end Go.Proofs.Ytkmhjcjpohpiaaa
namespace Go.Proofs.Ytkmhjcjpohpiaaa
open Go Go.Vc
open Classical
theorem vE1_0 {A:Mg} (h:Ok A):vE [A]=0:=vE_0 (vld1.2 h) sam1
theorem vE1_1 {A:Mg} (h:¬ Ok A):vE [A]=1:=vE_1 fun q=>h (vld1.1 q)
theorem vE1_ok {A:Mg}:vE [A]=0 ↔ Ok A:=⟨fun h=>vld1.1 (vE_ok.1 h).1,vE1_0⟩
theorem vE1_n {A:Mg} (h:vE [A] ≠ 0):¬ Ok A∧vE [A]=1:=by
  by_cases q:Ok A
  · exact absurd (vE1_0 q) h
  · exact ⟨q,vE1_1 q⟩
theorem Loc.bd {A:Mg} (h:Loc A):∀ j:Int,0≤j→j < A.N.length→(0≤(fk A.N j).l∧(fk A.N j).l < A.L.length+j)∧(0≤(fk A.N j).h∧(fk A.N j).h < A.L.length+j):=fun j h0 h1=>by
  obtain ⟨_,_,_,⟨a,b,_⟩,⟨c,d,_⟩⟩:=h.nd j h0 h1
  exact ⟨⟨a,b⟩,⟨c,d⟩⟩
theorem Ok.loc {A:Mg} (h:Ok A):Loc A:=h.2.2.1
theorem Ok.inr {A:Mg} (h:Ok A) {k:Int} (h0:0≤k) (h1:k < A.L.length):inR (gi A.L k):=(h.loc.lf k h0 h1).1
theorem rinv_lv {A:Mg} (h:Ok A) (i:Int) (b:Bool):∀ n:Nat,n≤A.L.length→∃ L R,RInv A i b L [] R∧R.length=n
  | 0,_=>⟨[],[],rinv0,rfl⟩
  | n+1,hn=>by
    obtain ⟨L,R,c,hl⟩:=rinv_lv h i b n (by omega)
    exact ⟨_,_,rinv_leaf (k:=(n:Int)) c (by omega) (by omega) (h.inr (by omega) (by omega)),by rw [List.length_append,hl]; rfl⟩
theorem rinv_nd {A:Mg} (h:Ok A) (i:Int) (b:Bool):∀ n:Nat,n≤A.N.length→∃ L M R,RInv A i b L M R∧R.length=A.L.length+n
  | 0,_=>by
    obtain ⟨L,R,c,hl⟩:=rinv_lv h i b A.L.length (Nat.le_refl _)
    exact ⟨L,[],R,c,by omega⟩
  | n+1,hn=>by
    obtain ⟨L,M,R,c,hl⟩:=rinv_nd h i b n (by omega)
    exact ⟨_,_,_,rinv_node (j:=(n:Int)) h.red h.loc.bd c (by omega) (by omega) (by omega),by rw [List.length_append,hl]; rfl⟩
noncomputable abbrev rsT (A:Mg) (i:Int) (b:Bool):List Int:=tabv A.v fun e=>vl A (up e i b)
theorem rs_E0 {A:Mg} (h:Ok A) (i:Int) (b:Bool):mkE A.v (rsT A i b)=0:=by
  obtain ⟨L,M,R,c,hl⟩:=rinv_nd h i b A.N.length (Nat.le_refl _)
  exact (c.fin h.1.1 h.2.1.1 h.2.1.2 (by omega) h.rt).2.2.2
noncomputable def rsE (A:Mg) (i:Int):Int:=if Ok A then if 0≤i∧i < A.v then 0 else 3 else 1
noncomputable def rsD (A:Mg) (i:Int) (b:Bool):Mg:=orZ (dg A.v (rsT A i b)) (rsE A i)
theorem rsE_1 {A:Mg} {i:Int} (h:¬ Ok A):rsE A i=1:=if_neg h
theorem rsE_3 {A:Mg} {i:Int} (h:Ok A) (q:¬ (0≤i∧i < A.v)):rsE A i=3:=by unfold rsE; rw [if_pos h,if_neg q]
theorem rsE_0 {A:Mg} {i:Int} (h:Ok A) (q:0≤i∧i < A.v):rsE A i=0:=by unfold rsE; rw [if_pos h,if_pos q]
theorem rsE_ok {A:Mg} {i:Int} (h:rsE A i=0):Ok A∧0≤i∧i < A.v:=by
  by_cases q:Ok A
  · by_cases q2:0≤i∧i < A.v
    · exact ⟨q,q2⟩
    · rw [rsE_3 q q2] at h; omega
  · rw [rsE_1 q] at h; omega
theorem rsD_0 {A:Mg} {i:Int} {b:Bool} (h:rsE A i=0):rsD A i b=dg A.v (rsT A i b):=by unfold rsD; rw [h,orZ_0]
theorem rsD_n {A:Mg} {i:Int} {b:Bool} (h:rsE A i ≠ 0):rsD A i b=zM:=orZ_n h
theorem rs_ok {A:Mg} (h:Ok A) (i:Int) (b:Bool):Ok (dg A.v (rsT A i b)) :=
  dg_ok h.1.1 h.1.2 (tabv_len _) (mkE_0 (rs_E0 h i b)).1 (mkE_0 (rs_E0 h i b)).2
theorem rs_vl {A:Mg} (h:Ok A) (i:Int) (b:Bool) (e:Int→Bool):vl (dg A.v (rsT A i b)) e=vl A (up e i b) :=
  vl_dg h.1.1 h.dep.up (fun e=>vl_in h _) e
noncomputable abbrev boT (A:Mg) (i:Int) (F:Int→Int→Int→Int):List Int:=tabv A.v fun e=>F (vl A (up e i false)) (vl A (up e i true)) 0
noncomputable def boE (A:Mg) (i:Int) (F:Int→Int→Int→Int):Int:=if rsE A i=0 then mkE A.v (boT A i F) else rsE A i
noncomputable def boD (A:Mg) (i:Int) (F:Int→Int→Int→Int):Mg:=orZ (dg A.v (boT A i F)) (boE A i F)
theorem boE_0 {A:Mg} {i:Int} {F:Int→Int→Int→Int} (h:rsE A i=0):boE A i F=mkE A.v (boT A i F):=if_pos h
theorem boE_n {A:Mg} {i:Int} {F:Int→Int→Int→Int} (h:rsE A i ≠ 0):boE A i F=rsE A i:=if_neg h
theorem boD_0 {A:Mg} {i:Int} {F:Int→Int→Int→Int} (h:rsE A i=0):boD A i F=mkD A.v (boT A i F):=by unfold boD mkD; rw [boE_0 h]
theorem boD_n {A:Mg} {i:Int} {F:Int→Int→Int→Int} (h:rsE A i ≠ 0):boD A i F=zM:=orZ_n (by rw [boE_n h]; exact h)
theorem bo_cT {A:Mg} {i:Int} {F:Int→Int→Int→Int} (h:Ok A):cT A.v [dg A.v (rsT A i false),dg A.v (rsT A i true)] F=boT A i F:=by
  rw [cT2]
  exact tab_congr _ _ _ fun e _=>by rw [rs_vl h,rs_vl h]
theorem bo_cmb {A:Mg} {i:Int} (h:Ok A):Cmb [dg A.v (rsT A i false),dg A.v (rsT A i true)] :=
  cmb_of (vld2.2 ⟨rs_ok h i false,rs_ok h i true⟩) (sam2.2 rfl) (by show 1≤2; omega) (by show 2≤3; omega)
noncomputable def cnE (vars v:Int):Int:=if (vars < 0 ∨ 40 < vars) ∨ ¬ inR v then 3 else 0
noncomputable def cnD (vars v:Int):Mg:=orZ ⟨vars,[v],[],0⟩ (cnE vars v)
theorem cn_3 {vars v:Int} (h:(vars < 0 ∨ 40 < vars) ∨ ¬ inR v):cnE vars v=3∧cnD vars v=zM:=by
  have:cnE vars v=3:=if_pos h
  exact ⟨this,orZ_n (by omega)⟩
theorem cn_0 {vars v:Int} (h:¬ ((vars < 0 ∨ 40 < vars) ∨ ¬ inR v)):cnE vars v=0∧cnD vars v=⟨vars,[v],[],0⟩:=by
  have:cnE vars v=0:=if_neg h
  exact ⟨this,by unfold cnD; rw [this,orZ_0]⟩
theorem tab_const {α:Type} (a:α):∀ (m:Nat) (v:Int) (e:Int→Bool),tab (fun _=>a) m v e=List.replicate (2 ^ m) a
  | 0,_,_=>rfl
  | m+1,v,e=>by
    show tab _ m (v+1) _++tab _ m (v+1) _=_
    rw [tab_const a m,tab_const a m,List.replicate_append_replicate,Nat.pow_succ]
    congr 1; omega
theorem prt_const {K p:Int}:∀ (m:Nat) (O:List Fk) (v:Int),prt K m O v (List.replicate (2 ^ m) p)=(O,p)
  | 0,_,_=>rfl
  | m+1,O,v=>by
    have e:List.replicate (2 ^ (m+1)) p=List.replicate (2 ^ m) p++List.replicate (2 ^ m) p:=by
      rw [List.replicate_append_replicate,Nat.pow_succ]; congr 1; omega
    rw [e,prt_node (by simp),prt_const m,prt_const m]
    unfold ndK; rw [if_pos rfl]
theorem vls_const {a:Int} {n:Nat} (h:0 < n):vls (List.replicate n a)=[a] :=
  (vls_eq (by simp) fun z=>by simp; omega).symm
theorem cn_dg {vars v:Int}:dg vars (tabv vars fun _=>v)=⟨vars,[v],[],0⟩:=by
  have hp:0 < 2 ^ vars.toNat:=Nat.two_pow_pos _
  unfold tabv dg
  rw [tab_const,vls_const hp,List.map_replicate,prt_const]
  refine mg_ext rfl rfl rfl ?_
  have:=ix_at (V:=[v]) (by simp) (i:=0) (by omega) (by show (0:Int) < ((1:Nat):Int); omega)
  exact this
structure FtOk (vars:Int) (L0:List Int) (M0:List Fk) (m:Nat) (v:Int) (t:List Int) (L:List Int) (M:List Fk) (p:Int):Prop where
  ok:BOk vars L M
  extL:∃ X,L=L0++X
  extM:∃ Y,M=M0++Y
  rf:(bV L M).ok p
  lv:v≤lev vars (bV L M) p
  tb:∀ e,tab (fun e=>gev (bV L M) e p) m v e=t
  mem:∀ z ∈ L,z ∈ L0 ∨ z ∈ t
  ll:L.length≤L0.length+2 ^ m
  ml:M.length+1≤M0.length+2 ^ m
theorem ft_leaf {vars v z:Int} {L:List Int} {M:List Fk} (b:BOk vars L M) (hv:v≤vars):FtOk vars L M 0 v [z] (lfR L z).1 M (lfR L z).2:=by
  have o:=leaf_ok (z:=z) b
  refine ⟨o.ok,o.ext,⟨[],by simp⟩,o.rf,?_,fun e=>?_,fun y hy=>?_,lfR_len.2,by simp⟩
  · rw [lev_lf (G:=bV (lfR L z).1 M) o.lf]; exact hv
  · show [gev (bV (lfR L z).1 M) e (lfR L z).2]=[z]
    rw [gev_lf (G:=bV (lfR L z).1 M) o.lf]
    show [id (gi (lfR L z).1 ((lfR L z).2 / 2))]=[z]
    rw [show id (gi (lfR L z).1 ((lfR L z).2 / 2))=z from o.vl]
  · exact (lfR_mem hy).imp id fun e=>by simp [e]
theorem ft_node {vars v:Int} {m:Nat} {L0 L1 L2:List Int} {M0 M1 M2:List Fk} {t1 t2:List Int} {p1 p2:Int} (A:FtOk vars L0 M0 m (v+1) t1 L1 M1 p1) (B:FtOk vars L1 M1 m (v+1) t2 L2 M2 p2) (h0:0≤v) (h1:v < vars) :
    FtOk vars L0 M0 (m+1) v (t1++t2) L2 (ndR M2 v p1 p2).1 (ndR M2 v p1 p2).2:=by
  obtain ⟨X,hX⟩:=B.extL
  obtain ⟨Y,hY⟩:=B.extM
  have g2:GRed vars (bV (L1++X) (M1++Y)):=by rw [← hX,← hY]; exact B.ok.red
  have ra:(bV L2 M2).ok p1:=by rw [hX,hY]; exact (bG_sub A.rf).1
  have la:lev vars (bV L2 M2) p1=lev vars (bV L1 M1) p1:=by rw [hX,hY]; exact bG_lev A.rf
  have va:∀ e,gev (bV L2 M2) e p1=gev (bV L1 M1) e p1:=fun e=>by rw [hX,hY]; exact bG_gev A.ok.red g2 A.rf e
  have lA:=A.lv
  have lB:=B.lv
  have n:=node_ok (v:=v) B.ok h0 h1 ra B.rf (by omega) (by omega)
  obtain ⟨X1,hX1⟩:=A.extL
  obtain ⟨Y1,hY1⟩:=A.extM
  obtain ⟨Z,hZ⟩:=n.ext
  have hp:2 ^ (m+1)=2 ^ m+2 ^ m:=by rw [Nat.pow_succ]; omega
  have a1:=A.ll
  have a2:=A.ml
  have b1:=B.ll
  have b2:=B.ml
  have nl:=(ndR_len (N:=M2) (v:=v) (l:=p1) (h:=p2)).2
  refine ⟨n.ok,⟨X1++X,by rw [hX,hX1]; simp⟩,⟨Y1++Y++Z,by rw [hZ,hY,hY1]; simp⟩,n.rf,n.lv,fun e=>?_,fun z hz=>?_,by omega,by omega⟩
  · show tab _ m (v+1) (up e v false)++tab _ m (v+1) (up e v true)=_
    rw [← A.tb (up e v false),← B.tb (up e v true)]
    congr 1
    · refine tab_congr m (v+1) (up e v false) fun e' he=>?_
      have q:e' v=false:=by rw [he v (by omega)]; exact if_pos rfl
      rw [n.vl,if_neg (by rw [q]; simp),va]
    · refine tab_congr m (v+1) (up e v true) fun e' he=>?_
      have q:e' v=true:=by rw [he v (by omega)]; exact if_pos rfl
      rw [n.vl,if_pos q]
  · rcases B.mem z hz with h | h
    · rcases A.mem z h with h | h
      · exact .inl h
      · exact .inr (List.mem_append_left _ h)
    · exact .inr (List.mem_append_right _ h)
theorem ft_fin {vars:Int} {t L:List Int} {M:List Fk} {p:Int} (h0:0≤vars) (A:FtOk vars [] [] vars.toNat 0 t L M p):bD vars L M p=dg vars t∧finE L (bD vars L M p)=mkE vars t:=by
  have e:tabv vars (fun e=>gev (bV L M) e p)=t:=A.tb e0
  have hd:Dep vars fun e=>gev (bV L M) e p:=gev_dep A.ok.red h0 A.rf
  have:=fin_of h0 A.ok A.rf (f:=fun e=>gev (bV L M) e p) (fun _=>rfl) fun z hz=>by
    rcases A.mem z hz with h | h
    · simp at h
    · rw [← e] at h
      exact .inl ((tabv_mem h0 hd).1 h)
  rw [e] at this
  exact this
/-- FromTable's code, and its diagram. -/
noncomputable def ftE (vars:Int) (t:List Int):Int:=if vars < 0 ∨ 12 < vars then 3 else if (t.length:Int) ≠ 2 ^ vars.toNat then 2 else mkE vars t
noncomputable def ftD (vars:Int) (t:List Int):Mg:=orZ (dg vars t) (ftE vars t)
theorem ft_3 {vars:Int} {t:List Int} (h:vars < 0 ∨ 12 < vars):ftE vars t=3∧ftD vars t=zM:=by
  have:ftE vars t=3:=if_pos h
  exact ⟨this,orZ_n (by omega)⟩
theorem ft_2 {vars:Int} {t:List Int} (h:¬ (vars < 0 ∨ 12 < vars)) (h2:(t.length:Int) ≠ 2 ^ vars.toNat):ftE vars t=2∧ftD vars t=zM:=by
  have:ftE vars t=2:=by unfold ftE; rw [if_neg h,if_pos h2]
  exact ⟨this,orZ_n (by omega)⟩
theorem ft_0 {vars:Int} {t:List Int} (h:¬ (vars < 0 ∨ 12 < vars)) (h2:(t.length:Int)=2 ^ vars.toNat):ftE vars t=mkE vars t∧ftD vars t=mkD vars t:=by
  have:ftE vars t=mkE vars t:=by unfold ftE; rw [if_neg h,if_neg (by omega)]
  exact ⟨this,by unfold ftD mkD; rw [this]⟩
end Go.Proofs.Ytkmhjcjpohpiaaa
namespace Go.Proofs.Ytkmhjcjpohpiaaa
open Go Go.Vc
open Classical
noncomputable def cT_ (P:(Int→Bool)→Prop) (m:Nat) (v:Int) (e:Int→Bool):Nat:=(tab (fun e=>decide (P e)) m v e).count true
theorem cT_s (P:(Int→Bool)→Prop) (m:Nat) (v:Int) (e:Int→Bool):cT_ P (m+1) v e=cT_ P m (v+1) (up e v false)+cT_ P m (v+1) (up e v true):=by
  unfold cT_
  show (tab _ m (v+1) _++tab _ m (v+1) _).count true=_
  rw [List.count_append]
theorem cT_z (P:(Int→Bool)→Prop) (v:Int) (e:Int→Bool):cT_ P 0 v e=if P e then 1 else 0:=by
  unfold cT_ tab
  by_cases p:P e <;> simp [p]
theorem cT_congr {P Q:(Int→Bool)→Prop} {m:Nat} {v:Int} {e:Int→Bool} (h:∀ e',(∀ i,i < v→e' i=e i)→(P e' ↔ Q e')):cT_ P m v e=cT_ Q m v e:=by
  unfold cT_
  rw [tab_congr m v e fun e' he=>decide_eq_decide.2 (h e' he)]
theorem cT_split (P Q:(Int→Bool)→Prop):∀ (m:Nat) (v:Int) (e:Int→Bool),cT_ P m v e=cT_ (fun e=>P e∧Q e) m v e+cT_ (fun e=>P e∧¬ Q e) m v e
  | 0,v,e=>by
    rw [cT_z,cT_z,cT_z]
    by_cases p:P e <;> by_cases q:Q e <;> simp [p,q]
  | m+1,v,e=>by
    rw [cT_s,cT_s,cT_s,cT_split P Q m,cT_split P Q m]; omega
theorem cT_false (m:Nat) (v:Int) (e:Int→Bool) {P:(Int→Bool)→Prop} (h:∀ e',(∀ i,i < v→e' i=e i)→¬ P e'):cT_ P m v e=0:=by
  unfold cT_
  rw [tab_congr (g:=fun _=>false) m v e fun e' he=>decide_eq_false (h e' he),tab_const]
  exact List.count_eq_zero.2 fun q=>by simp at q
theorem cT_all (m:Nat) (v:Int) (e:Int→Bool) {P:(Int→Bool)→Prop} (h:∀ e',(∀ i,i < v→e' i=e i)→P e'):cT_ P m v e=2 ^ m:=by
  unfold cT_
  rw [tab_congr (g:=fun _=>true) m v e fun e' he=>decide_eq_true (h e' he),tab_const,List.count_replicate_self]
theorem cT_le (P:(Int→Bool)→Prop) (m:Nat) (v:Int) (e:Int→Bool):cT_ P m v e≤2 ^ m:=by
  unfold cT_
  have:=List.count_le_length (a:=true) (l:=tab (fun e=>decide (P e)) m v e)
  rwa [tab_len] at this
theorem up_up {e:Int→Bool} {x v:Int} {b c:Bool} (h:x ≠ v):up (up e x b) v c=up (up e v c) x b:=by
  funext i
  unfold up
  by_cases h1:i=v
  · rw [if_pos h1,if_neg (by omega),if_pos h1]
  · rw [if_neg h1,if_neg h1]
theorem cT_up {P:(Int→Bool)→Prop} {x:Int} (hP:∀ e b,P (up e x b) ↔ P e) (b:Bool):∀ (m:Nat) (v:Int) (e:Int→Bool),x < v→cT_ P m v (up e x b)=cT_ P m v e
  | 0,v,e,_=>by
    rw [cT_z,cT_z]
    by_cases q:P e
    · rw [if_pos q,if_pos ((hP e b).2 q)]
    · rw [if_neg q,if_neg fun z=>q ((hP e b).1 z)]
  | m+1,v,e,h=>by
    rw [cT_s,cT_s,up_up (x:=x) (v:=v) (c:=false) (by omega),up_up (x:=x) (v:=v) (c:=true) (by omega),cT_up hP b m _ _ (by omega),cT_up hP b m _ _ (by omega)]
theorem cT_half {P:(Int→Bool)→Prop} {x:Int} (hP:∀ e b,P (up e x b) ↔ P e):∀ (m:Nat) (v:Int) (e:Int→Bool),v≤x→x < v+m→cT_ (fun e=>P e∧e x=true) m v e=cT_ (fun e=>P e∧¬ e x=true) m v e
  | 0,v,e,h0,h1=>by omega
  | m+1,v,e,h0,h1=>by
    rw [cT_s,cT_s]
    by_cases hx:x=v
    · subst hx
      have a1:∀ b,∀ e':Int→Bool,(∀ i,i < x+1→e' i=up e x b i)→e' x=b:=fun b e' he=>by rw [he x (by omega)]; exact if_pos rfl
      rw [cT_false m (x+1) (up e x false) fun e' he q=>by have:=a1 false e' he; rw [this] at q; exact absurd q.2 (by simp),
        cT_false m (x+1) (up e x true) (P:=fun e=>P e∧¬ e x=true) fun e' he q=>q.2 (a1 true e' he),
        cT_congr (P:=fun e=>P e∧e x=true) (Q:=P) fun e' he=>⟨fun q=>q.1,fun q=>⟨q,a1 true e' he⟩⟩,
        cT_congr (P:=fun e=>P e∧¬ e x=true) (Q:=P) fun e' he=>⟨fun q=>q.1,fun q=>⟨q,by rw [a1 false e' he]; simp⟩⟩,
        cT_up hP true m _ _ (by omega),cT_up hP false m _ _ (by omega)]
      omega
    · rw [cT_half hP m _ _ (by omega) (by omega),cT_half hP m _ _ (by omega) (by omega)]
/-- The number of assignments with a property. -/
noncomputable def cA (vars:Int) (P:(Int→Bool)→Prop):Int:=(cT_ P vars.toNat 0 e0:Nat)
theorem cA_congr {vars:Int} {P Q:(Int→Bool)→Prop} (h:∀ e,P e ↔ Q e):cA vars P=cA vars Q:=by unfold cA; rw [cT_congr fun e _=>h e]
theorem cA_halves {vars x:Int} {P:(Int→Bool)→Prop} (h0:0≤x) (h1:x < vars) (hP:∀ e b,P (up e x b) ↔ P e):cA vars (fun e=>P e∧e x=true)=cA vars P / 2∧cA vars (fun e=>P e∧¬ e x=true)=cA vars P / 2:=by
  have a:=cT_split P (fun e=>e x=true) vars.toNat 0 e0
  have b:=cT_half hP vars.toNat 0 e0 h0 (by omega)
  unfold cA
  omega
theorem cA_or {vars:Int} {P Q:(Int→Bool)→Prop} (h:∀ e,¬ (P e∧Q e)):cA vars (fun e=>P e ∨ Q e)=cA vars P+cA vars Q:=by
  have a:=cT_split (fun e=>P e ∨ Q e) P vars.toNat 0 e0
  rw [cT_congr (P:=fun e=>(P e ∨ Q e)∧P e) (Q:=P) fun e _=>⟨fun q=>q.2,fun q=>⟨.inl q,q⟩⟩,
    cT_congr (P:=fun e=>(P e ∨ Q e)∧¬ P e) (Q:=Q) fun e _=>⟨fun q=>q.1.resolve_left q.2,fun q=>⟨.inr q,fun p=>h e ⟨p,q⟩⟩⟩] at a
  unfold cA
  omega
theorem cA_bd (vars:Int) (P:(Int→Bool)→Prop):0≤cA vars P∧cA vars P≤2 ^ vars.toNat:=by
  have:=cT_le P vars.toNat 0 e0
  have e:((2 ^ vars.toNat:Nat):Int)=(2:Int) ^ vars.toNat:=by simp
  unfold cA
  omega
theorem cA_all {vars:Int} {P:(Int→Bool)→Prop} (h:∀ e,P e):cA vars P=2 ^ vars.toNat:=by
  unfold cA
  rw [cT_all _ _ _ fun e _=>h e]; simp
theorem cA_none {vars:Int} {P:(Int→Bool)→Prop} (h:∀ e,¬ P e):cA vars P=0:=by
  unfold cA
  rw [cT_false _ _ _ fun e _=>h e]; rfl
theorem tab_count (f:(Int→Bool)→Int) (z:Int):∀ (m:Nat) (v:Int) (e:Int→Bool),(tab f m v e).count z=cT_ (fun e=>f e=z) m v e
  | 0,v,e=>by
    rw [cT_z]
    show List.count z [f e]=_
    by_cases h:f e=z <;> simp [h]
  | m+1,v,e=>by
    rw [cT_s,← tab_count f z m,← tab_count f z m]
    show (tab f m (v+1) _++tab f m (v+1) _).count z=_
    rw [List.count_append]
theorem cA_count {vars z:Int} (f:(Int→Bool)→Int):cA vars (fun e=>f e=z)=((tabv vars f).count z:Nat):=by unfold cA; rw [tab_count]
/-- The first reference on a path that is below the last d nodes. -/
noncomputable def fsD (A:Mg) (e:Int→Bool):Nat→Int
  | 0=>A.r
  | d+1=>if fsD A e d=A.L.length+(A.N.length - (d+1)) then (if e (fk A.N (A.N.length - (d+1))).v=true then (fk A.N (A.N.length - (d+1))).h else (fk A.N (A.N.length - (d+1))).l) else fsD A e d
section
variable {A:Mg} (h:Ok A)
include h
theorem fsD_ok (e:Int→Bool):∀ d:Nat,d≤A.N.length→(0≤fsD A e d∧fsD A e d < A.L.length+(A.N.length - d))∧gev (mG A) e (fsD A e d)=vl A e
  | 0,_=>⟨⟨h.rt.1,by have:=h.rt.2; show A.r < _; omega⟩,rfl⟩
  | d+1,hd=>by
    obtain ⟨⟨a,b⟩,c⟩:=fsD_ok e d (by omega)
    have hb:=h.loc.bd ((A.N.length:Int) - (d+1)) (by omega) (by omega)
    unfold fsD
    by_cases q:fsD A e d=A.L.length+(A.N.length - (d+1))
    · rw [if_pos q]
      have hr:(mG A).ok (fsD A e d):=⟨a,by omega⟩
      have hl:¬ (mG A).lf (fsD A e d):=by show ¬ fsD A e d < A.L.length; omega
      have hs:=gev_step h.red (e:=e) hr hl
      have en:(mG A).nd (fsD A e d)=fk A.N (A.N.length - (d+1)):=by
        show fk A.N (fsD A e d - A.L.length)=_
        rw [q,show (A.L.length:Int)+(A.N.length - (d+1)) - A.L.length=A.N.length - (d+1) by omega]
      rw [en,c] at hs
      by_cases hc:e (fk A.N (A.N.length - (d+1))).v=true
      · rw [if_pos hc] at hs ⊢
        exact ⟨⟨hb.2.1,by omega⟩,hs.symm⟩
      · rw [if_neg hc] at hs ⊢
        exact ⟨⟨hb.1.1,by omega⟩,hs.symm⟩
    · rw [if_neg q]
      exact ⟨⟨a,by omega⟩,c⟩
theorem fsD_up (e:Int→Bool) {x:Int} {b:Bool}:∀ d:Nat,d≤A.N.length→tp A (fsD A e d)≤x→fsD A (up e x b) d=fsD A e d
  | 0,_,_=>rfl
  | d+1,hd,hx=>by
    have ok:=fsD_ok h e d (by omega)
    by_cases q:fsD A e d=A.L.length+(A.N.length - (d+1))
    · have tq:tp A (fsD A e d)=(fk A.N (A.N.length - (d+1))).v:=by
        rw [tp_n (by omega),q,show (A.L.length:Int)+(A.N.length - (d+1)) - A.L.length=A.N.length - (d+1) by omega]
      obtain ⟨_,_,_,⟨_,_,n1⟩,⟨_,_,n2⟩⟩:=h.loc.nd ((A.N.length:Int) - (d+1)) (by omega) (by omega)
      have e1:fsD A e (d+1)=if e (fk A.N (A.N.length - (d+1))).v=true then (fk A.N (A.N.length - (d+1))).h else (fk A.N (A.N.length - (d+1))).l:=by rw [fsD,if_pos q]
      have lt:(fk A.N (A.N.length - (d+1))).v < x:=by
        rw [e1] at hx
        by_cases c:e (fk A.N (A.N.length - (d+1))).v=true
        · rw [if_pos c] at hx; omega
        · rw [if_neg c] at hx; omega
      have ih:=fsD_up e (x:=x) (b:=b) d (by omega) (by rw [tq]; omega)
      have hu:up e x b (fk A.N (A.N.length - (d+1))).v=e (fk A.N (A.N.length - (d+1))).v:=by unfold up; rw [if_neg (by omega)]
      rw [e1,fsD,ih,if_pos q,hu]
    · have e1:fsD A e (d+1)=fsD A e d:=by rw [fsD,if_neg q]
      rw [e1] at hx ⊢
      have ih:=fsD_up e (x:=x) (b:=b) d (by omega) hx
      rw [fsD,ih,if_neg q]
/-- How many assignments come to a reference. -/
noncomputable abbrev cnF (A:Mg) (d:Nat) (r:Int):Int:=cA A.v (fun e=>fsD A e d=r)
omit h in
theorem cnF_0:cnF A 0 A.r=2 ^ A.v.toNat∧∀ r,r ≠ A.r→cnF A 0 r=0 :=
  ⟨cA_all fun _=>rfl,fun _ hr=>cA_none fun _ q=>hr q.symm⟩
theorem cnF_step {d:Nat} (hd:d < A.N.length) {j r:Int} (hj:j=A.N.length - (d+1)) (h0:0≤r) (h1:r < A.L.length+j) :
    cnF A (d+1) r=cnF A d r+(if r=(fk A.N j).l then cnF A d (A.L.length+j) / 2 else 0)+(if r=(fk A.N j).h then cnF A d (A.L.length+j) / 2 else 0):=by
  have hv:=h.red.vr (A.L.length+j) ⟨by omega,by show (A.L.length:Int)+j < A.L.length+A.N.length; omega⟩ (by show ¬ (A.L.length:Int)+j < A.L.length; omega)
  have en:(mG A).nd (A.L.length+j)=fk A.N j:=by
    show fk A.N ((A.L.length:Int)+j - A.L.length)=_
    rw [show (A.L.length:Int)+j - A.L.length=j by omega]
  rw [en] at hv
  obtain ⟨_,hne,_,_,_⟩:=h.loc.nd j (by omega) (by omega)
  have ind:∀ e b,fsD A (up e (fk A.N j).v b) d=A.L.length+j ↔ fsD A e d=A.L.length+j:=fun e b=>by
    have tq:tp A (A.L.length+j)=(fk A.N j).v:=by
      rw [tp_n (by omega),show (A.L.length:Int)+j - A.L.length=j by omega]
    constructor
    · intro q
      have:=fsD_up h (up e (fk A.N j).v b) (x:=(fk A.N j).v) (b:=e (fk A.N j).v) d (by omega) (by rw [q,tq]; omega)
      rw [q] at this
      have hu:up (up e (fk A.N j).v b) (fk A.N j).v (e (fk A.N j).v)=e:=by
        funext i; unfold up; by_cases hi:i=(fk A.N j).v
        · rw [if_pos hi,hi]
        · rw [if_neg hi,if_neg hi]
      rw [hu] at this; exact this
    · intro q
      rw [fsD_up h e (x:=(fk A.N j).v) (b:=b) d (by omega) (by rw [q,tq]; omega)]; exact q
  have hv2:=cA_halves (P:=fun e=>fsD A e d=A.L.length+j) hv.1 hv.2 ind
  have key:∀ e,fsD A e (d+1)=r ↔ ((fsD A e d=r ∨ ((fsD A e d=A.L.length+j∧¬ e (fk A.N j).v=true)∧r=(fk A.N j).l)) ∨ ((fsD A e d=A.L.length+j∧e (fk A.N j).v=true)∧r=(fk A.N j).h)):=fun e=>by
    rw [fsD,← hj]
    by_cases q:fsD A e d=A.L.length+j
    · rw [if_pos q]
      by_cases c:e (fk A.N j).v=true
      · rw [if_pos c]
        constructor
        · intro z; exact .inr ⟨⟨q,c⟩,z.symm⟩
        · rintro ((z | ⟨⟨_,z⟩,_⟩) | ⟨_,z⟩)
          · omega
          · exact absurd c z
          · exact z.symm
      · rw [if_neg c]
        constructor
        · intro z; exact .inl (.inr ⟨⟨q,c⟩,z.symm⟩)
        · rintro ((z | ⟨_,z⟩) | ⟨⟨_,z⟩,_⟩)
          · omega
          · exact z.symm
          · exact absurd z c
    · rw [if_neg q]
      constructor
      · intro z; exact .inl (.inl z)
      · rintro ((z | ⟨⟨z,_⟩,_⟩) | ⟨⟨z,_⟩,_⟩)
        · exact z
        · exact absurd z q
        · exact absurd z q
  have one:∀ (P:(Int→Bool)→Prop) (q:Prop) [Decidable q],cA A.v (fun e=>P e∧q)=if q then cA A.v P else 0:=fun P q _=>by
    by_cases hq:q
    · rw [if_pos hq]; exact cA_congr fun e=>⟨fun z=>z.1,fun z=>⟨z,hq⟩⟩
    · rw [if_neg hq]; exact cA_none fun e z=>hq z.2
  unfold cnF
  rw [cA_congr key,cA_or,cA_or,one,one,hv2.1,hv2.2]
  · rintro e ⟨z,⟨z2,_⟩,_⟩; omega
  · rintro e ⟨z | ⟨⟨_,z⟩,_⟩,⟨z2,z3⟩,_⟩
    · omega
    · exact z z3
/-- In the end: how often a leaf's value is taken. -/
theorem cnF_end {i:Int} (h0:0≤i) (h1:i < A.L.length):cnF A A.N.length i=((vT A).count (gi A.L i):Nat):=by
  rw [← cA_count]
  refine cA_congr fun e=>?_
  obtain ⟨⟨a,b⟩,c⟩:=fsD_ok h e A.N.length (Nat.le_refl _)
  have hl:(mG A).lf (fsD A e A.N.length):=by show fsD A e A.N.length < A.L.length; omega
  rw [gev_lf hl] at c
  have c:gi A.L (fsD A e A.N.length)=vl A e:=c
  rw [← c]
  have ss:A.L.Pairwise (· < ·):=by
    have:A.L=vls (vT A):=(congrArg Mg.L h.dg).symm
    rw [this]; exact vls_ss _
  exact ⟨fun q=>by rw [q],fun q=>ss_inj ss a (by omega) h0 h1 q⟩
end
/-- A list of counts. -/
structure CInv_ (A:Mg) (d:Nat) (C:List Int):Prop where
  len:(C.length:Int)=A.L.length+A.N.length
  at_:∀ r:Int,0≤r→r < A.L.length+(A.N.length - d)→gi C r=cnF A d r
theorem gi_set {C:List Int} {i r z:Int} (h0:0≤i) (h1:i < C.length) (hr:0≤r):gi (C.set i.toNat z) r=if r=i then z else gi C r:=by
  unfold gi
  rw [List.getD_eq_getElem?_getD,List.getD_eq_getElem?_getD]
  by_cases e:r=i
  · subst e; rw [if_pos rfl,List.getElem?_set_self (by omega)]; rfl
  · rw [if_neg e,List.getElem?_set_ne (by omega)]
theorem ci_0 {A:Mg} (h:Ok A):CInv_ A 0 ((List.replicate (A.L.length+A.N.length) (0:Int)).set A.r.toNat (2 ^ A.v.toNat)):=by
  have hr:=h.rt
  have hr0:0≤A.r:=hr.1
  have hr1:A.r < A.L.length+A.N.length:=hr.2
  refine ⟨by simp,fun r h0 h1=>?_⟩
  rw [gi_set hr0 (by simp; omega) h0]
  by_cases e:r=A.r
  · rw [if_pos e,e]; exact cnF_0.1.symm
  · rw [if_neg e,cnF_0.2 r e]
    unfold gi
    rw [List.getD_eq_getElem?_getD,List.getElem?_replicate]
    split <;> rfl
/-- One node. -/
noncomputable def ciS (A:Mg) (j:Int) (C:List Int):List Int:=(C.set (fk A.N j).l.toNat (gi C (fk A.N j).l+gi C (A.L.length+j) / 2)).set (fk A.N j).h.toNat (gi (C.set (fk A.N j).l.toNat (gi C (fk A.N j).l+gi C (A.L.length+j) / 2)) (fk A.N j).h+gi C (A.L.length+j) / 2)
theorem ci_step {A:Mg} (h:Ok A) {d:Nat} {C:List Int} {j:Int} (c:CInv_ A d C) (j0:0≤j) (hj:j=A.N.length - (d+1)):CInv_ A (d+1) (ciS A j C):=by
  have hb:=h.loc.bd j j0 (by omega)
  have hl:=c.len
  obtain ⟨_,hne,_,_,_⟩:=h.loc.nd j (by omega) (by omega)
  refine ⟨by unfold ciS; simp [hl],fun r h0 h1=>?_⟩
  unfold ciS
  rw [gi_set hb.2.1 (by rw [List.length_set]; omega) h0,gi_set hb.1.1 (by omega) hb.2.1,gi_set hb.1.1 (by omega) h0,cnF_step h (d:=d) (j:=j) (r:=r) (by omega) hj h0 (by omega),if_neg (show ¬ (fk A.N j).h=(fk A.N j).l from fun q=>hne q.symm)]
  rw [c.at_ r h0 (by omega),c.at_ (A.L.length+j) (by omega) (by omega),c.at_ _ hb.1.1 (by omega),c.at_ _ hb.2.1 (by omega)]
  by_cases e1:r=(fk A.N j).h
  · rw [if_pos e1,if_pos e1,if_neg (fun q=>hne (q.symm.trans e1)),e1]; omega
  · rw [if_neg e1,if_neg e1]
    by_cases e2:r=(fk A.N j).l
    · rw [if_pos e2,if_pos e2,e2]; omega
    · rw [if_neg e2,if_neg e2]; omega
theorem CInv_.bd {A:Mg} {d:Nat} {C:List Int} (c:CInv_ A d C) (h:Ok A) {r:Int} (h0:0≤r) (h1:r < A.L.length+(A.N.length - d)):0≤gi C r∧gi C r≤1099511627776:=by
  rw [c.at_ r h0 h1]
  have:0≤cnF A d r∧cnF A d r≤2 ^ A.v.toNat:=cA_bd A.v (fun e=>fsD A e d=r)
  have h40:=h.1.2
  have:=pow2_40 (n:=A.v.toNat) (by omega)
  exact ⟨by omega,by omega⟩
structure P2 where
  a:Int
  b:Int
abbrev p2 (N:List P2) (i:Int):P2:=N.getD i.toNat ⟨0,0⟩
def p2c (n:P2):List Value:=[.int .i64 n.a,.int .i64 n.b]
def p2s (N:List P2):List Value:=N.flatMap p2c
theorem P2.eq {a b:P2} (h1:a.a=b.a) (h2:a.b=b.b):a=b:=by
  cases a; cases b; cases h1; cases h2; rfl
theorem p2_eq {a b:P2} (h:a.a=b.a∧a.b=b.b):a=b:=P2.eq h.1 h.2
theorem p2s_snoc (N:List P2) (n:P2):p2s (N++[n])=p2s N++[.int .i64 n.a,.int .i64 n.b]:=by simp [p2s,p2c]
theorem p2s_get:∀ (N:List P2) (i:Nat),i < N.length→((p2s N).drop (i * 2)).take 2=p2c (N.getD i ⟨0,0⟩)
  | a :: l,0,_=>rfl
  | a :: l,i+1,h=>by
    show ((p2c a++p2s l).drop ((i+1) * 2)).take 2=_
    rw [show (i+1) * 2=(p2c a).length+i * 2 by show _=2+i * 2; omega,List.drop_length_add_append]
    exact p2s_get l i (by simpa using h)
theorem p2s_at {N:List P2} {i:Int} (_h0:0≤i) (h1:i < N.length):((p2s N).drop (i.toNat * 2)).take 2=[.int .i64 (p2 N i).a,.int .i64 (p2 N i).b]:=p2s_get N i.toNat (by omega)
def P2s (H:HV) (v:Value) (N:List P2):Prop:=SlS 2 H v N.length (p2s N)
theorem P2s.mono {H H':HV} {v:Value} {N:List P2} (h:P2s H v N) (s:Vc.Sub H H'):P2s H' v N:=SlS.mono h s
theorem P2s.nil {H:HV}:P2s H (.slice none 0 0) []:=SlS.nil
theorem ext_p2 {A B:List P2} (hl:A.length=B.length) (h:∀ x:Int,0≤x→x < A.length→p2 A x=p2 B x):A=B:=by
  refine List.ext_getElem? fun i=>?_
  by_cases hi:i < A.length
  · have:=h i (by omega) (by omega)
    unfold p2 at this
    rw [List.getD_eq_getElem?_getD,List.getD_eq_getElem?_getD,Int.toNat_natCast,List.getElem?_eq_getElem hi,List.getElem?_eq_getElem (by omega)] at this
    rw [List.getElem?_eq_getElem hi,List.getElem?_eq_getElem (by omega)]
    exact congrArg some this
  · rw [List.getElem?_eq_none (by omega),List.getElem?_eq_none (by omega)]
/-- The histogram. -/
noncomputable def hgL (A:Mg):List P2:=A.L.map fun z=>⟨z,((vT A).count z:Nat)⟩
noncomputable def hgR (A:Mg):List P2:=if Ok A then hgL A else []
noncomputable def hgN (A:Mg) (n:Nat):List P2:=(hgL A).take n
theorem hg_len (A:Mg):(hgL A).length=A.L.length:=by unfold hgL; simp
theorem hgN_all {A:Mg} {n:Nat} (h:A.L.length≤n):hgN A n=hgL A:=List.take_of_length_le (by rw [hg_len]; exact h)
theorem hgN_step {A:Mg} (h:Ok A) {C:List Int} (c:CInv_ A A.N.length C) {i:Int} (h0:0≤i) (h1:i < A.L.length):hgN A i.toNat++[(⟨gi A.L i,gi C i⟩:P2)]=hgN A (i+1).toNat:=by
  have e:(hgL A)[i.toNat]? = some ⟨gi A.L i,gi C i⟩:=by
    unfold hgL
    rw [List.getElem?_map,List.getElem?_eq_getElem (by omega)]
    have e2:A.L[i.toNat]'(by omega)=gi A.L i:=by unfold gi; rw [List.getD_eq_getElem?_getD,List.getElem?_eq_getElem (by omega)]; rfl
    show some _=some _
    rw [e2,c.at_ i h0 (by omega),cnF_end h h0 h1]
  unfold hgN
  rw [show (i+1).toNat=i.toNat+1 by omega,List.take_add_one,e]; rfl
end Go.Proofs.Ytkmhjcjpohpiaaa
namespace Go.Proofs.Ytkmhjcjpohpiaaa
open Go Go.Vc
open Classical
theorem gvm {C:List Int} {i:Int} (h0:0≤i) (h1:i < C.length):gv (C.map (Value.int .i64)) i=.int .i64 (gi C i):=by
  unfold gv gi
  rw [List.getD_eq_getElem?_getD,List.getD_eq_getElem?_getD,List.getElem?_map,List.getElem?_eq_getElem (by omega)]; rfl
theorem mset {C:List Int} {n:Nat} {z:Int}:(C.map (Value.int .i64)).set n (.int .i64 z)=(C.set n z).map (Value.int .i64):=by
  rw [List.map_set]
theorem Ints.dropI {H:HV} {kk:IntKind} {v:Value} {xs:List Int} (h:Ints kk H v xs) {n:Nat} (hn:n < xs.length):Ints kk H (dropS v n) (xs.drop n):=by
  have:=Sl.drop h (n:=n) (by simpa using hn)
  rwa [← List.map_drop] at this
theorem ci_init {A:Mg} {z:Int}:(List.replicate ((A.L.length:Int)+(A.N.length:Int)).toNat (Value.int .i64 0)).set A.r.toNat (.int .i64 (1 * z))=((List.replicate (A.L.length+A.N.length) (0:Int)).set A.r.toNat z).map (Value.int .i64):=by
  rw [Int.one_mul,← mset,List.map_replicate,show ((A.L.length:Int)+(A.N.length:Int)).toNat=A.L.length+A.N.length by omega]
theorem gi_dd {t:List Int} (h:t.length=1):t=[gi t 0]:=by
  match t,h with
  | [a],_=>rfl
abbrev T0:List Int:=[5,7,5,5]
abbrev X0:Mg:=⟨2,[5,7],[⟨1,0,1⟩,⟨0,2,0⟩],3⟩
abbrev Y0:Mg:=⟨2,[10,12],[⟨0,1,0⟩],2⟩
abbrev Z0:Mg:=⟨1,[0,1,2],[⟨0,0,1⟩],3⟩
abbrev W0:Mg:=⟨3,[-4],[],0⟩
theorem x0_vls:vls T0=[5,7]:=(vls_eq (by simp) fun z=>by simp; omega).symm
theorem x0_dg:dg 2 T0=X0:=by unfold dg; rw [x0_vls]; rfl
theorem x0_in:∀ z ∈ T0,inR z:=fun z hz=>by
  simp at hz; unfold inR; omega
theorem x0_E:mkE 2 T0=0:=mkE_of x0_in (dg_small (by omega) rfl)
theorem x0_ft:ftE 2 T0=0∧ftD 2 T0=X0:=by
  obtain ⟨a,b⟩:=ft_0 (vars:=2) (t:=T0) (by omega) rfl
  rw [a,b,x0_E,mkD_0 x0_E,x0_dg]
  exact ⟨rfl,rfl⟩
theorem x0_ok:Ok X0:=by
  have:=mk_ok (vars:=2) (t:=T0) (by omega) (by omega) rfl x0_E
  rwa [mkD_0 x0_E,x0_dg] at this
theorem x0_vT:vT X0=T0:=by
  have:=vT_dg (vars:=2) (t:=T0) (by omega) rfl
  rwa [x0_dg] at this
abbrev H0:List P2:=[⟨5,3⟩,⟨7,1⟩]
theorem x0_hg:hgR X0=H0:=by
  unfold hgR hgL
  rw [if_pos x0_ok,x0_vT]; rfl
theorem up_same {e:Int→Bool} {x:Int} {b c:Bool}:up (up e x b) x c=up e x c:=by
  funext i; unfold up
  by_cases h:i=x
  · rw [if_pos h,if_pos h]
  · rw [if_neg h,if_neg h,if_neg h]
abbrev sumF:Int→Int→Int→Int:=fun x y _=>x+y
theorem y0_T:boT X0 1 sumF=[12,12,10,10]:=by
  have h:=x0_vT
  have h:[vl X0 (up (up e0 0 false) (0+1) false),vl X0 (up (up e0 0 false) (0+1) true),vl X0 (up (up e0 0 true) (0+1) false),vl X0 (up (up e0 0 true) (0+1) true)]=[5,7,5,5]:=h
  simp only [List.cons.injEq,and_true] at h
  obtain ⟨h1,h2,h3,h4⟩:=h
  show [vl X0 (up (up (up e0 0 false) (0+1) false) 1 false)+vl X0 (up (up (up e0 0 false) (0+1) false) 1 true),vl X0 (up (up (up e0 0 false) (0+1) true) 1 false)+vl X0 (up (up (up e0 0 false) (0+1) true) 1 true),
    vl X0 (up (up (up e0 0 true) (0+1) false) 1 false)+vl X0 (up (up (up e0 0 true) (0+1) false) 1 true),vl X0 (up (up (up e0 0 true) (0+1) true) 1 false)+vl X0 (up (up (up e0 0 true) (0+1) true) 1 true)]=_
  have s:((0:Int)+1)=1:=rfl
  rw [s] at h1 h2 h3 h4
  simp only [s,up_same,h1,h2,h3,h4]
  rfl
theorem y0_vls:vls [12,12,10,10]=[10,12]:=(vls_eq (by simp) fun z=>by simp; omega).symm
theorem y0_dg:dg 2 [12,12,10,10]=Y0:=by unfold dg; rw [y0_vls]; rfl
theorem y0_E:mkE 2 [12,12,10,10]=0:=mkE_of (fun z hz=>by simp at hz; unfold inR; omega) (dg_small (by omega) rfl)
theorem y0_bo:boE X0 1 sumF=0∧boD X0 1 sumF=Y0:=by
  have h:=rsE_0 (A:=X0) (i:=1) x0_ok ⟨by omega,by show (1:Int) < 2; omega⟩
  have e:boE X0 1 sumF=0:=by rw [boE_0 h,y0_T]; exact y0_E
  refine ⟨e,?_⟩
  unfold boD
  rw [e,orZ_0,y0_T,y0_dg]
theorem w0_cn:cnE 3 (-4)=0∧cnD 3 (-4)=W0:=cn_0 (by unfold inR; omega)
theorem z0_chk:chkC Z0=1:=chk_1 (by show ¬ ((1:Int) < 0 ∨ (40:Int) < 1); omega) (by show ¬ (4096 < 3 ∨ 4096 < 1); omega) fun h=>by
  have e:(vls (vT Z0)).length=3:=congrArg (fun A:Mg=>A.L.length) h.2
  have:=vls_len (vT Z0)
  rw [e,tabv_len] at this
  have this:3≤2 ^ (1:Int).toNat:=this
  have e2:(1:Int).toNat=1:=rfl
  rw [e2] at this
  omega
theorem x0_chk:chkC X0=0:=chk_0 x0_ok
/-- What two restrictions are combined by. -/
theorem bo_hyp {A:Mg} {i:Int} (hz:rsE A i=0):DsOk A.v [rsD A i false,rsD A i true]∧SameV A.v [rsD A i false,rsD A i true]∧Rng [rsD A i false,rsD A i true]∧Rts [rsD A i false,rsD A i true]:=by
  have hok:=(rsE_ok hz).1
  rw [rsD_0 hz,rsD_0 hz]
  have c:=bo_cmb (i:=i) hok
  exact ⟨c.ok,c.sv,c.rg,c.rt⟩
theorem bo_res {A:Mg} {i:Int} {F:Int→Int→Int→Int} (hz:rsE A i=0):cT A.v [rsD A i false,rsD A i true] F=boT A i F:=by
  rw [rsD_0 hz,rsD_0 hz]
  exact bo_cT (rsE_ok hz).1
end Go.Proofs.Ytkmhjcjpohpiaaa
namespace Go.Proofs.Ytkmhjcjpohpiaaa
open Go Go.Vc
open Classical
/-- A diagram's graph, its leaves ranked by their places. -/
def mI (A:Mg):Gph:={ mG A with rk:=id }
section
variable {A:Mg}
theorem mI_red (h:Loc A):GRed A.v (mI A):=by
  have f:=Loc.red h.nd
  exact ⟨f.vr,f.ne,f.lo,f.hi,f.uq⟩
theorem mI_ok (h:Loc A):GOk A.v A.L.length (mI A):={ mI_red h with
  kr:=fun r a b=>⟨a.1,b⟩
  kq:=fun r s _ _ _ _ e=>e }
theorem mI_gev (h:Loc A) (e:Int→Bool) {r:Int} (hr:(mI A).ok r):gev (mG A) e r=gi A.L (gev (mI A) e r) :=
  gv_ext (mI_red h) (Loc.red h.nd) (fun r a=>⟨a,Iff.rfl,rfl⟩) (gi A.L) (fun r _ _=>rfl) e _ r hr (Nat.le_refl _)
theorem mI_rng (h:Loc A) (e:Int→Bool):∀ (k:Nat) (r:Int),(mI A).ok r→(mI A).mu r≤k→0≤gev (mI A) e r∧gev (mI A) e r < A.L.length
  | 0,r,hr,hk=>by
    have hl:(mI A).lf r:=by
      have hk:(r+1 - A.L.length).toNat≤0:=hk
      show r < A.L.length; omega
    rw [gev_lf hl]; exact ⟨hr.1,hl⟩
  | k+1,r,hr,hk=>by
    by_cases hl:(mI A).lf r
    · rw [gev_lf hl]; exact ⟨hr.1,hl⟩
    · have f:=mI_red h
      have hlo:=f.lo r hr hl
      have hhi:=f.hi r hr hl
      rw [gev_step f hr hl]
      by_cases q:e ((mI A).nd r).v=true
      · rw [if_pos q]; exact mI_rng h e k _ hhi.1 (by omega)
      · rw [if_neg q]; exact mI_rng h e k _ hlo.1 (by omega)
theorem Loc.ss (h:Loc A):A.L.Pairwise (· < ·):=by
  rw [List.pairwise_iff_getElem]
  have key:∀ n i:Nat,i+n+1 < A.L.length→gi A.L i < gi A.L ((i+n+1:Nat):Int):=by
    intro n
    induction n with
    | zero =>
      intro i hi
      have:=(h.lf ((i+1:Nat):Int) (by omega) (by omega)).2 (by omega)
      rwa [show ((i+1:Nat):Int) - 1=i by omega] at this
    | succ n ih =>
      intro i hi
      have a:=ih i (by omega)
      have b:=(h.lf ((i+(n+1)+1:Nat):Int) (by omega) (by omega)).2 (by omega)
      rw [show ((i+(n+1)+1:Nat):Int) - 1=((i+n+1:Nat):Int) by omega] at b
      omega
  intro i j hi hj hij
  have:=key (j - i - 1) i (by omega)
  rw [show i+(j - i - 1)+1=j by omega] at this
  unfold gi at this
  rw [List.getD_eq_getElem?_getD,List.getD_eq_getElem?_getD,Int.toNat_natCast,Int.toNat_natCast,List.getElem?_eq_getElem hi,List.getElem?_eq_getElem hj] at this
  exact this
/-- A reference to which an assignment leads. -/
def Rch (A:Mg) (q:Int):Prop:=∃ e:Int→Bool,∀ e':Int→Bool,(∀ i,i < lev A.v (mI A) q→e' i=e i)→gev (mI A) e' A.r=gev (mI A) e' q
theorem rch_root:Rch A A.r:=⟨fun _=>false,fun _ _=>rfl⟩
theorem rch_child (h:Loc A) {q:Int} (hq:(mI A).ok q) (hl:¬ (mI A).lf q) (r:Rch A q):Rch A ((mI A).nd q).l∧Rch A ((mI A).nd q).h:=by
  obtain ⟨e,he⟩:=r
  have f:=mI_red h
  have hlo:=f.lo q hq hl
  have hhi:=f.hi q hq hl
  have hll:lev A.v (mI A) q=((mI A).nd q).v:=lev_nd hl
  refine ⟨⟨up e ((mI A).nd q).v false,fun e' he'=>?_⟩,⟨up e ((mI A).nd q).v true,fun e' he'=>?_⟩⟩
  · rw [he e' fun i hi=>by rw [he' i (by omega)]; exact if_neg (by omega)]
    rw [gev_step f hq hl]
    have:e' ((mI A).nd q).v=false:=by rw [he' _ hlo.2.2]; exact if_pos rfl
    rw [this]; rfl
  · rw [he e' fun i hi=>by rw [he' i (by omega)]; exact if_neg (by omega)]
    rw [gev_step f hq hl]
    have:e' ((mI A).nd q).v=true:=by rw [he' _ hhi.2.2]; exact if_pos rfl
    rw [this]; rfl
/-- The nodes that were finished, the places that the walk gave, the leaves that were marked. -/
structure FiS (A:Mg) (done:List Int) (M:List Bool) (s:Ly):Prop where
  len:done.length=s.1.length
  at_:∀ k:Int,0≤k→k < done.length→s.2 (gi done k+A.L.length)=some (A.L.length+k)
  ml:M.length=A.L.length
  cl:∀ r p:Int,¬ (mI A).lf r→s.2 r=some p→∀ c:Int,(c=((mI A).nd r).l ∨ c=((mI A).nd r).h)→c < A.L.length→gb M c=true
  rc:∀ c:Int,0≤c→c < A.L.length→gb M c=true→Rch A c
theorem gb_rep {n:Nat} {c:Int}:gb (List.replicate n false) c=false:=by
  unfold gb; rw [List.getD_eq_getElem?_getD,List.getElem?_replicate]; split <;> rfl
theorem fi0:FiS A [] (List.replicate A.L.length false) ([],pl0 (mI A)) :=
  ⟨rfl,fun k h0 h1=>by have h1:k < ((0:Nat):Int):=h1; omega,by simp,fun r p hl h=>absurd (pl0_some h).1.2 hl,fun c _ _ h=>by rw [gb_rep] at h; cases h⟩
theorem gb_set {M:List Bool} {i r:Int} {z:Bool} (h0:0≤i) (h1:i < M.length) (hr:0≤r):gb (M.set i.toNat z) r=if r=i then z else gb M r:=by
  unfold gb
  rw [List.getD_eq_getElem?_getD,List.getD_eq_getElem?_getD]
  by_cases e:r=i
  · subst e; rw [if_pos rfl,List.getElem?_set_self (by omega)]; rfl
  · rw [if_neg e,List.getElem?_set_ne (by omega)]
theorem gb_keep {M:List Bool} {i c:Int} (h0:0≤i) (h1:i < M.length) (h:gb M c=true):gb (M.set i.toNat true) c=true:=by
  unfold gb at h ⊢
  rw [List.getD_eq_getElem?_getD] at h ⊢
  by_cases e:c.toNat=i.toNat
  · rw [e,List.getElem?_set_self (by omega)]; rfl
  · rw [List.getElem?_set_ne (by omega)]; exact h
theorem fi_leaf {done:List Int} {M:List Bool} {s:Ly} {r:Int} (F:FiS A done M s) (h0:0≤r) (h1:r < A.L.length) (hr:Rch A r):FiS A done (M.set r.toNat true) s:=by
  have hm:=F.ml
  refine ⟨F.len,F.at_,by rw [List.length_set]; exact hm,fun q p hl h c hc hk=>gb_keep h0 (by omega) (F.cl q p hl h c hc hk),fun c c0 c1 h=>?_⟩
  rw [gb_set h0 (by omega) c0] at h
  by_cases e:c=r
  · rw [e]; exact hr
  · rw [if_neg e] at h; exact F.rc c c0 c1 h
/-- A node that has a place is among those that were finished. -/
theorem FiS.mem {done:List Int} {M:List Bool} {s:Ly} (f:FiS A done M s) (hI:LyI A.L.length (mI A) s) {r p:Int} (h2:A.L.length≤r) (h:s.2 r=some p):∃ k:Int,0≤k∧k < done.length∧gi done k=r - A.L.length:=by
  obtain ⟨q1,q2,q3⟩:=hI.rf r p h
  have hp:=q3.1 (by show ¬ r < (A.L.length:Int); omega)
  have hp2:=q2.2
  have hl:=f.len
  refine ⟨p - A.L.length,by omega,by omega,?_⟩
  have:=f.at_ (p - A.L.length) (by omega) (by omega)
  rw [show (A.L.length:Int)+(p - A.L.length)=p by omega] at this
  have:=hI.inj _ _ _ this h
  omega
theorem FiS.only {done:List Int} {M:List Bool} {s:Ly} (f:FiS A done M s) {r k:Int} (h0:0≤k) (h1:k < done.length) (h:gi done k=r - A.L.length):∃ p,s.2 r=some p:=by
  have:=f.at_ k h0 h1
  rw [h,show r - A.L.length+A.L.length=r by omega] at this
  exact ⟨_,this⟩
theorem fi_push {done:List Int} {M:List Bool} {s:Ly} {r:Int} {n:Fk} (f:FiS A done M s) (hn:s.2 r=none) (_hl:¬ (mI A).lf r) (hm:∀ c:Int,(c=((mI A).nd r).l ∨ c=((mI A).nd r).h)→c < A.L.length→gb M c=true) :
    FiS A (done++[r - A.L.length]) M (s.1++[n],setF s.2 r (A.L.length+(s.1.length:Int))):=by
  have hl:=f.len
  refine ⟨by simp [hl],fun k h0 h1=>?_,f.ml,fun q p hq h c hc hk=>?_,f.rc⟩
  · rw [List.length_append] at h1
    have h1:k < ((done.length+1:Nat):Int):=h1
    show setF s.2 r (A.L.length+(s.1.length:Int)) (gi (done++[r - A.L.length]) k+A.L.length)=_
    by_cases e:k=done.length
    · rw [e,gi_last,show r - (A.L.length:Int)+A.L.length=r by omega,setF_same,hl]
    · rw [gi_app h0 (by omega),setF_other,f.at_ k h0 (by omega)]
      intro q
      have:=f.at_ k h0 (by omega)
      rw [q,hn] at this; cases this
  · by_cases e:q=r
    · subst e; exact hm c hc hk
    · have h:setF s.2 r (A.L.length+(s.1.length:Int)) q=some p:=h
      rw [setF_other e] at h
      exact f.cl q p hq h c hc hk
/-- The state in which the walk from the root ends. -/
noncomputable abbrev visR (A:Mg):Ly × Int:=vis A.L.length (mI A) (A.r.toNat+2) A.r ([],pl0 (mI A))
theorem mu_I {r:Int} (h0:0≤r):(mI A).mu r < r.toNat+2:=by
  show (r+1 - A.L.length).toNat < _; omega
theorem visR_ok (h:Loc A):VisOk A.L.length (mI A) A.r ([],pl0 (mI A)) (visR A):=vis_ok (mI_ok h) (by omega) _ A.r _ h.rt (mu_I h.rt.1) (lyI0 (mI_ok h))
/-- The diagram of its values, if the leaves are the values. -/
theorem dgK (h:Loc A) (h0:0≤A.v) (hV:A.L=vls (vT A)):dg A.v (vT A)=⟨A.v,A.L,(visR A).1.1,(visR A).2⟩:=by
  have e1:(vT A).map (ix A.L)=tabv A.v fun e=>gev (mI A) e A.r:=by
    unfold vT tabv
    rw [tab_map]
    refine tab_congr _ _ _ fun e _=>?_
    have r:=mI_rng h e _ A.r h.rt (Nat.le_refl _)
    have q:vl A e=gi A.L (gev (mI A) e A.r):=mI_gev h e h.rt
    show ix A.L (vl A e)=_
    rw [q,ix_at h.ss r.1 r.2]
  have c:=canon (mI_ok h) (by omega) A.v.toNat 0 A.r ([],pl0 (mI A)) e0 (A.r.toNat+2) (lyI0 (mI_ok h)) h.rt (by omega) ((mI_red h).lev_nn h0 h.rt) (mu_I h.rt.1)
  have c:prt A.L.length A.v.toNat [] 0 (tabv A.v fun e=>gev (mI A) e A.r)=((visR A).1.1,(visR A).2):=c
  unfold dg
  rw [← hV,e1,c]
theorem fin_id (h:Loc A) {done:List Int} {M:List Bool} (F:FiS A done M (visR A).1) (hl:(done.length:Int)=A.N.length) (hid:∀ i:Int,0≤i→i < done.length→gi done i=i) :
    (visR A).1.1=A.N∧(visR A).2=A.r:=by
  have V:=visR_ok h
  generalize visR A=x at V F
  have f:=mI_red h
  have hp:∀ r,(mI A).ok r→x.1.2 r=some r:=fun r hr=>by
    have h0:=hr.1
    have h1:r < A.L.length+A.N.length:=hr.2
    by_cases q:(mI A).lf r
    · exact V.inv.lf r hr q
    · have q:¬ r < (A.L.length:Int):=q
      have:=F.at_ (r - A.L.length) (by omega) (by omega)
      rw [hid (r - A.L.length) (by omega) (by omega)] at this
      rw [show r - (A.L.length:Int)+A.L.length=r by omega,show (A.L.length:Int)+(r - A.L.length)=r by omega] at this
      exact this
  have hlen:=F.len
  refine ⟨ext_fk (by omega) (fun k k0 k1=>?_),?_⟩
  · have hk:(mI A).ok (A.L.length+k):=⟨by omega,by show (A.L.length:Int)+k < A.L.length+A.N.length; omega⟩
    have hlf:¬ (mI A).lf (A.L.length+k):=by show ¬ (A.L.length:Int)+k < A.L.length; omega
    obtain ⟨a,b,c1,c2,c3,c4,c5⟩:=V.inv.nd _ _ hlf (hp _ hk)
    have d1:=hp _ (f.lo _ hk hlf).1
    have d2:=hp _ (f.hi _ hk hlf).1
    rw [c1] at d1; rw [c2] at d2
    simp only [Option.some.injEq] at d1 d2
    have e3:ond A.L.length x.1.1 (A.L.length+k)=(mI A).nd (A.L.length+k):=by rw [c5,d1,d2]
    have e4:(mI A).nd (A.L.length+k)=fk A.N k:=by show fk A.N ((A.L.length:Int)+k - A.L.length)=_; rw [show (A.L.length:Int)+k - A.L.length=k by omega]
    have e5:ond A.L.length x.1.1 (A.L.length+k)=fk x.1.1 k:=by unfold ond fk; rw [show (A.L.length:Int)+k - A.L.length=k by omega]
    rw [← e5,e3,e4]
  · have:=V.at_
    rw [hp _ h.rt] at this
    simp only [Option.some.injEq] at this
    exact this.symm
theorem id_fin (h:Loc A) {done:List Int} {M:List Bool} (F:FiS A done M (visR A).1) (h1:(visR A).1.1=A.N):(done.length:Int)=A.N.length∧∀ i:Int,0≤i→i < done.length→gi done i=i:=by
  have V:=visR_ok h
  generalize visR A=x at V F h1
  have f:=mI_red h
  have hlen:=F.len
  rw [h1] at hlen
  refine ⟨by omega,?_⟩
  suffices hh:∀ n:Nat,∀ i:Int,0≤i→i < n→i < done.length→gi done i=i from fun i h0 hi=>hh done.length i h0 hi hi
  intro n
  induction n with
  | zero=>intro i h0 hn; omega
  | succ n ih =>
    intro i h0 hn hi
    by_cases hlt:i < n
    · exact ih i h0 hlt hi
    have at1:=F.at_ i h0 hi
    generalize hd:gi done i+A.L.length=r at at1
    obtain ⟨q1,q2,q3⟩:=V.inv.rf r _ at1
    have hr2:¬ (mI A).lf r:=q3.2 (by omega)
    obtain ⟨a,b,c1,c2,c3,c4,c5⟩:=V.inv.nd r _ hr2 at1
    have key:∀ c p:Int,x.1.2 c=some p→p < A.L.length+i→p=c:=fun c p hc hp=>by
      obtain ⟨u1,u2,u3⟩:=V.inv.rf c p hc
      by_cases h2:A.L.length≤p
      · have:=F.at_ (p - A.L.length) (by omega) (by omega)
        rw [ih (p - A.L.length) (by omega) (by omega) (by omega),show p - (A.L.length:Int)+A.L.length=p by omega,show (A.L.length:Int)+(p - A.L.length)=p by omega] at this
        exact V.inv.inj _ _ _ this hc
      · have hlf:(mI A).lf c:=Classical.byContradiction fun q=>h2 (u3.1 q)
        have:=V.inv.lf c u1 hlf
        rw [hc] at this
        exact Option.some.inj this
    have e5:ond A.L.length x.1.1 (A.L.length+i)=fk A.N i:=by unfold ond fk; rw [show (A.L.length:Int)+i - A.L.length=i by omega,h1]
    rw [e5,key _ _ c1 c3,key _ _ c2 c4] at c5
    have hk:(mI A).ok (A.L.length+i):=⟨by omega,by show (A.L.length:Int)+i < A.L.length+A.N.length; omega⟩
    have hlf:¬ (mI A).lf (A.L.length+i):=by show ¬ (A.L.length:Int)+i < A.L.length; omega
    have e4:(mI A).nd (A.L.length+i)=fk A.N i:=by show fk A.N ((A.L.length:Int)+i - A.L.length)=_; rw [show (A.L.length:Int)+i - A.L.length=i by omega]
    have:=f.uq (A.L.length+i) r hk hlf q1 hr2 (by rw [e4]; exact c5)
    omega
/-- What leads to a marked leaf. -/
theorem mark_all (h:Loc A) {done:List Int} {M:List Bool} {x:Ly} (I:LyI A.L.length (mI A) x) (F:FiS A done M x) (e:Int→Bool):∀ (k:Nat) (r:Int),(mI A).ok r→(mI A).mu r≤k→(r < A.L.length→gb M r=true)→(¬ (mI A).lf r→∃ p,x.2 r=some p)→gb M (gev (mI A) e r)=true
  | 0,r,hr,hk,h1,_=>by
    have hl:(mI A).lf r:=by
      have hk:(r+1 - A.L.length).toNat≤0:=hk
      show r < A.L.length; omega
    rw [gev_lf hl]; exact h1 hl
  | k+1,r,hr,hk,h1,h2=>by
    by_cases hl:(mI A).lf r
    · rw [gev_lf hl]; exact h1 hl
    · have f:=mI_red h
      have hlo:=f.lo r hr hl
      have hhi:=f.hi r hr hl
      obtain ⟨p,hp⟩:=h2 hl
      obtain ⟨a,b,c1,c2,_⟩:=I.nd r p hl hp
      rw [gev_step f hr hl]
      by_cases q:e ((mI A).nd r).v=true
      · rw [if_pos q]; exact mark_all h I F e k _ hhi.1 (by omega) (fun z=>F.cl r p hl hp _ (.inr rfl) z) (fun _=>⟨b,c2⟩)
      · rw [if_neg q]; exact mark_all h I F e k _ hlo.1 (by omega) (fun z=>F.cl r p hl hp _ (.inl rfl) z) (fun _=>⟨a,c1⟩)
/-- The model's conditions at the end of its walk. -/
theorem chk_fin (h:Loc A) (h0:0≤A.v) {done:List Int} {M:List Bool} (F:FiS A done M (visR A).1) (hr:A.r < A.L.length→gb M A.r=true) :
    dg A.v (vT A)=A ↔ (((done.length:Int)=A.N.length∧∀ i:Int,0≤i→i < done.length→gi done i=i)∧∀ c:Int,0≤c→c < A.L.length→gb M c=true):=by
  have hdep:Dep A.v (vl A):=gev_dep (Loc.red h.nd) h0 h.rt
  have hvl:∀ e,vl A e=gi A.L (gev (mI A) e A.r):=fun e=>mI_gev h e h.rt
  constructor
  · intro hd
    have hV:A.L=vls (vT A):=(congrArg Mg.L hd).symm
    have k:=dgK h h0 hV
    rw [hd] at k
    have n1:(visR A).1.1=A.N:=(congrArg Mg.N k).symm
    refine ⟨id_fin h F n1,fun c c0 c1=>?_⟩
    have hm:gi A.L c ∈ vT A:=vls_mem.1 (hV ▸ gi_mem c0 c1)
    obtain ⟨e,he⟩:=(tabv_mem h0 hdep).1 hm
    have r:=mI_rng h e _ A.r h.rt (Nat.le_refl _)
    rw [hvl] at he
    have:=ss_inj h.ss r.1 r.2 c0 c1 he
    rw [← this]
    have V:=visR_ok h
    exact mark_all h V.inv F e _ A.r h.rt (Nat.le_refl _) hr fun _=>⟨_,V.at_⟩
  · rintro ⟨⟨a,b⟩,c⟩
    have hV:A.L=vls (vT A):=vls_eq h.ss fun z=>by
      rw [tabv_mem h0 hdep]
      constructor
      · intro hz
        obtain ⟨i,hi,rfl⟩:=pos_of_getD hz
        obtain ⟨e,he⟩:=F.rc (i:Int) (by omega) (by omega) (c i (by omega) (by omega))
        refine ⟨e,?_⟩
        rw [hvl,he e fun _ _=>rfl,gev_lf (G:=mI A) (show (i:Int) < A.L.length by omega)]; rfl
      · rintro ⟨e,rfl⟩
        have r:=mI_rng h e _ A.r h.rt (Nat.le_refl _)
        rw [hvl]; exact gi_mem r.1 r.2
    obtain ⟨n1,n2⟩:=fin_id h F a b
    rw [dgK h h0 hV,n1,n2]
/-- Finished in ascending order: each at its place. -/
theorem sorted_id {done:List Int} {M:List Bool} {s:Ly} (hI:LyI A.L.length (mI A) s) (F:FiS A done M s) (hl:(done.length:Int)=A.N.length) (hs:∀ i:Int,0 < i→i < done.length→gi done (i - 1)≤gi done i):∀ i:Int,0≤i→i < done.length→gi done i=i:=by
  have bd:∀ i:Int,0≤i→i < done.length→0≤gi done i∧gi done i < done.length:=fun i h0 h1=>by
    have a:=F.at_ i h0 h1
    obtain ⟨q1,q2,q3⟩:=hI.rf _ _ a
    have q4:=q3.2 (by omega)
    have q4:¬ gi done i+A.L.length < (A.L.length:Int):=q4
    have q5:gi done i+A.L.length < A.L.length+A.N.length:=q1.2
    omega
  have st:∀ i:Int,0 < i→i < done.length→gi done (i - 1) < gi done i:=fun i h0 h1=>by
    have h:=hs i h0 h1
    have a:=F.at_ i (by omega) h1
    have b:=F.at_ (i - 1) (by omega) (by omega)
    by_cases e:gi done (i - 1)=gi done i
    · rw [e] at b; rw [a] at b
      have:=Option.some.inj b
      omega
    · omega
  have lo:∀ n:Nat,∀ i:Int,i=n→i < done.length→i≤gi done i:=by
    intro n
    induction n with
    | zero=>intro i hi h1; have:=bd i (by omega) h1; omega
    | succ n ih =>
      intro i hi h1
      have a:=ih (i - 1) (by omega) (by omega)
      have b:=st i (by omega) h1
      omega
  have hi:∀ n:Nat,∀ i:Int,0≤i→i=done.length - 1 - n→gi done i≤i:=by
    intro n
    induction n with
    | zero=>intro i h0 h1; have:=bd i h0 (by omega); omega
    | succ n ih =>
      intro i h0 h1
      have a:=ih (i+1) (by omega) (by omega)
      have b:=st (i+1) (by omega) (by omega)
      rw [show i+1 - 1=i by omega] at b
      omega
  intro i h0 h1
  have a:=lo i.toNat i (by omega) h1
  have b:=hi (done.length - 1 - i.toNat) i h0 (by omega)
  omega
end
end Go.Proofs.Ytkmhjcjpohpiaaa
namespace Go.Proofs.Ytkmhjcjpohpiaaa
open Go Go.Vc
open Classical
theorem firstI_ex {p:Int→Prop}:∀ n:Nat,(0≤firstI p n ↔ ∃ i:Int,0≤i∧i < n∧p i)
  | 0=>⟨fun h=>by have h:(0:Int)≤-1:=h; omega,fun ⟨i,a,b,_⟩=>by omega⟩
  | n+1=>by
    have ih:=firstI_ex (p:=p) n
    unfold firstI
    by_cases h:0≤firstI p n
    · rw [if_pos h]
      obtain ⟨i,a,b,c⟩:=ih.1 h
      exact ⟨fun _=>⟨i,a,by omega,c⟩,fun _=>h⟩
    · rw [if_neg h]
      by_cases q:p n
      · rw [if_pos q]; exact ⟨fun _=>⟨(n:Int),by omega,by omega,q⟩,fun _=>by omega⟩
      · rw [if_neg q]
        refine ⟨fun z=>by omega,fun ⟨i,a,b,c⟩=>?_⟩
        by_cases e:i=n
        · subst e; exact absurd c q
        · exact absurd (ih.2 ⟨i,a,by omega,c⟩) h
theorem fks_take:∀ (N:List Fk) (j:Nat),(fks N).take (j * 3)=fks (N.take j)
  | [],j=>by simp [fks]
  | a :: l,0=>by simp [fks]
  | a :: l,j+1=>by
    show ((fkc a)++fks l).take ((j+1) * 3)=fkc a++fks (l.take j)
    rw [← fks_take l j,List.take_append]
    have:(fkc a).length=3:=rfl
    rw [List.take_of_length_le (by omega),this,show (j+1) * 3 - 3=j * 3 by omega]
theorem Fks.takeI {H:HV} {v:Value} {N:List Fk} (h:Fks H v N) {j:Nat} (hj:j≤N.length):Fks H (takeS v j) (N.take j):=by
  have:=SlS.take (s:=3) h hj
  rw [fks_take] at this
  show SlS 3 H (takeS v j) (N.take j).length (fks (N.take j))
  rwa [List.length_take,Nat.min_eq_left hj]
theorem bvs_set {M:List Bool} {n:Nat} {z:Bool}:(bvs M).set n (.bool z)=bvs (M.set n z):=by
  unfold bvs; rw [List.map_set]
theorem bvs_rep {n:Nat}:List.replicate n (Value.bool false)=bvs (List.replicate n false):=by
  unfold bvs; rw [List.map_replicate]
theorem seen_iff {A:Mg} {j:Int} {n:Fk} (h0:0≤j) (h1:j < A.N.length):(∃ i:Int,0≤i∧i < (A.N.take j.toNat).length∧fk (A.N.take j.toNat) i=n) ↔ ∃ k:Int,0≤k∧k < j∧fk A.N k=n:=by
  have e:∀ i:Int,0≤i→i < j→fk (A.N.take j.toNat) i=fk A.N i:=fun i a b=>by
    unfold fk
    rw [List.getD_eq_getElem?_getD,List.getD_eq_getElem?_getD,List.getElem?_take,if_pos (by omega)]
  have hl:(A.N.take j.toNat).length=j.toNat:=by rw [List.length_take]; omega
  rw [hl]
  constructor
  · rintro ⟨i,a,b,c⟩; exact ⟨i,a,by omega,by rw [← e i a (by omega)]; exact c⟩
  · rintro ⟨i,a,b,c⟩; exact ⟨i,a,by omega,by rw [e i a b]; exact c⟩
theorem vis_miss {K:Int} {G:Gph} {k:Nat} {r:Int} {s:Ly} {x y:Ly × Int} (hs:s.2 r=none) (hx:x=vis K G k (G.nd r).l s) (hy:y=vis K G k (G.nd r).h x.1) :
    vis K G (k+1) r s=((y.1.1++[⟨(G.nd r).v,x.2,y.2⟩],setF y.1.2 r (K+(y.1.1.length:Int))),K+(y.1.1.length:Int)):=by
  subst hx; subst hy
  rw [vis_node hs]
theorem fi_len {A:Mg} {done:List Int} {M:List Bool} {s:Ly} (hI:LyI A.L.length (mI A) s) (F:FiS A done M s):done.length≤A.N.length:=by
  have hg:∀ i:Nat,∀ h:i < done.length,gi done (i:Int)=done[i]:=fun i h=>by
    unfold gi; rw [List.getD_eq_getElem?_getD,Int.toNat_natCast,List.getElem?_eq_getElem h]; rfl
  refine nodup_len A.N.length ?_ fun z hz=>?_
  · rw [List.Nodup,List.pairwise_iff_getElem]
    intro i j hi hj hij e
    have a:=F.at_ (i:Int) (by omega) (by omega)
    have b:=F.at_ (j:Int) (by omega) (by omega)
    rw [hg i hi] at a
    rw [hg j hj,← e,a] at b
    have:=Option.some.inj b
    omega
  · obtain ⟨i,hi,rfl⟩:=pos_of_getD hz
    have a:=F.at_ (i:Int) (by omega) (by omega)
    obtain ⟨q1,q2,q3⟩:=hI.rf _ _ a
    have q4:¬ gi done i+A.L.length < (A.L.length:Int):=q3.2 (by omega)
    have q5:gi done i+A.L.length < A.L.length+A.N.length:=q1.2
    omega
theorem nv_lt {A:Mg} (h:Loc A) {j:Int} (h0:0≤j) (h1:j < A.N.length):(fk A.N j).v < A.v:=by
  have:=((Loc.red h.nd).vr (A.L.length+j) ⟨by omega,by show (A.L.length:Int)+j < A.L.length+A.N.length; omega⟩ (by show ¬ (A.L.length:Int)+j < A.L.length; omega)).2
  have e:(mG A).nd (A.L.length+j)=fk A.N j:=by show fk A.N ((A.L.length:Int)+j - A.L.length)=_; rw [show (A.L.length:Int)+j - A.L.length=j by omega]
  rwa [e] at this
/-- At most 300 leaves and nodes, as the law counts them. -/
def fewP (A:Mg):Prop:=IntKind.i64.wrap ((A.L.length:Int)+(A.N.length:Int))≤300
/-- The ascending order, as the library tests it. -/
def srtB (L:List Int):Prop:=∀ i:Int,0 < i→i < L.length→gi L (i - 1)≤gi L i
section
variable {A:Mg} {d:List Int} {M:List Bool}
theorem chk_yes (h1:0≤A.v∧A.v≤40) (h2:A.L.length≤4096∧A.N.length≤4096) (h:Loc A) (F:FiS A d M (visR A).1) (hr:A.r < A.L.length→gb M A.r=true) (hl:(d.length:Int)=A.N.length) (hs:srtB d) (hm:¬ ∃ i:Int,0≤i∧i < M.length∧gb M i=false):Ok A :=
  ⟨h1,h2,h,(chk_fin h h1.1 F hr).2 ⟨⟨hl,sorted_id (visR_ok h).inv F hl hs⟩,fun c c0 c1=>by
    have:=F.ml
    cases hq:gb M c with
    | true=>rfl
    | false=>exact absurd ⟨c,c0,by omega,hq⟩ hm⟩⟩
theorem chk_no3 (h1:0≤A.v) (h:Loc A) (F:FiS A d M (visR A).1) (hr:A.r < A.L.length→gb M A.r=true) (hm:∃ i:Int,0≤i∧i < M.length∧gb M i=false):¬ fm A:=fun z=>by
  have:=F.ml
  obtain ⟨c,c0,c1,c2⟩:=hm
  have e:=((chk_fin h h1 F hr).1 z.2).2 c c0 (by omega)
  rw [c2] at e; cases e
theorem chk_no2 (h1:0≤A.v) (h:Loc A) (F:FiS A d M (visR A).1) (hr:A.r < A.L.length→gb M A.r=true) (hm:¬ srtB d):¬ fm A:=fun z=>by
  have e:=((chk_fin h h1 F hr).1 z.2).1.2
  exact hm fun x a b=>by rw [e x (by omega) b,e (x - 1) (by omega) (by omega)]; omega
theorem chk_no1 (h1:0≤A.v) (h:Loc A) (F:FiS A d M (visR A).1) (hr:A.r < A.L.length→gb M A.r=true) (hm:¬ (d.length:Int)=A.N.length):¬ fm A:=fun z=>hm ((chk_fin h h1 F hr).1 z.2).1.1
theorem chk_no0 {j:Int} (h0:0≤j) (h1:j < A.N.length) (hs:∃ i:Int,0≤i∧i < (A.N.take j.toNat).length∧fk (A.N.take j.toNat) i=fk A.N j):¬ fm A:=fun z=>by
  obtain ⟨k,k0,k1,k2⟩:=(seen_iff h0 h1).1 hs
  exact (z.1.nd j h0 h1).2.2.1 k k0 k1 k2
end
end Go.Proofs.Ytkmhjcjpohpiaaa
namespace Go.Proofs.Ytkmhjcjpohpiaaa
open Go Go.Vc
open Classical
/-- One step of the walk to a value. -/
structure VSt (A:Mg) (e:Int→Bool) (r q:Int):Prop where
  ok:(mG A).ok q
  lt:q < r
  vl:gev (mG A) e q=gev (mG A) e r
theorem vr_bd {A:Mg} (h:Ok A) {r:Int} (hr:(mG A).ok r) (hl:¬ r < A.L.length):(0≤(fk A.N (r - A.L.length)).v∧(fk A.N (r - A.L.length)).v < A.v)∧tp A r=(fk A.N (r - A.L.length)).v :=
  ⟨h.red.vr r hr hl,tp_n hl⟩
theorem vstep {A:Mg} (h:Ok A) {e:Int→Bool} {r:Int} (hr:(mG A).ok r) (hl:¬ r < A.L.length) (b:Bool) (hb:e (fk A.N (r - A.L.length)).v=b):VSt A e r (if b=true then (fk A.N (r - A.L.length)).h else (fk A.N (r - A.L.length)).l):=by
  have hr1:r < A.L.length+A.N.length:=hr.2
  have hbd:=h.loc.bd (r - A.L.length) (by omega) (by omega)
  have hs:=gev_step h.red (e:=e) hr hl
  have en:(mG A).nd r=fk A.N (r - A.L.length):=rfl
  rw [en,hb] at hs
  refine ⟨?_,?_,hs.symm⟩
  · by_cases q:b=true
    · rw [if_pos q]; exact ⟨hbd.2.1,by show _ < (A.L.length:Int)+A.N.length; omega⟩
    · rw [if_neg q]; exact ⟨hbd.1.1,by show _ < (A.L.length:Int)+A.N.length; omega⟩
  · by_cases q:b=true
    · rw [if_pos q]; omega
    · rw [if_neg q]; omega
theorem vst_h {A:Mg} {e:Int→Bool} {r:Int} (h:Ok A) (hr:(mG A).ok r) (hl:¬ r < A.L.length) (hb:e (fk A.N (r - A.L.length)).v=true):VSt A e r (fk A.N (r - A.L.length)).h:=by
  have:=vstep h hr hl true hb
  rwa [if_pos rfl] at this
theorem vst_l {A:Mg} {e:Int→Bool} {r:Int} (h:Ok A) (hr:(mG A).ok r) (hl:¬ r < A.L.length) (hb:¬ e (fk A.N (r - A.L.length)).v=true):VSt A e r (fk A.N (r - A.L.length)).l:=by
  have:=vstep h hr hl false (by simpa using hb)
  rwa [if_neg (by simp)] at this
theorem vst_s {A:Mg} {e:Int→Bool} {r:Int} (h:Ok A) (hr:(mG A).ok r) (hl:¬ r < A.L.length):VSt A e r (stp A r (tp A r) (e (tp A r)=true)):=by
  have ht:=(vr_bd h hr hl).2
  by_cases c:e (tp A r)=true
  · rw [stp_h rfl c]; exact vst_h h hr hl (by rw [← ht]; exact c)
  · rw [stp_l rfl c]; exact vst_l h hr hl (by rw [← ht]; exact c)
abbrev eb (X:List Bool):Int→Bool:=fun i=>gb X i
noncomputable def tbE (A:Mg):Int:=if Ok A then if 12 < A.v then 4 else 0 else 1
noncomputable def tbL (A:Mg):List Int:=if tbE A=0 then vT A else []
theorem tb_1 {A:Mg} (h:¬ Ok A):tbE A=1∧tbL A=[]:=by
  have:tbE A=1:=if_neg h
  exact ⟨this,if_neg (by omega)⟩
theorem tb_4 {A:Mg} (h:Ok A) (q:12 < A.v):tbE A=4∧tbL A=[]:=by
  have:tbE A=4:=by unfold tbE; rw [if_pos h,if_pos q]
  exact ⟨this,if_neg (by omega)⟩
theorem tb_0 {A:Mg} (h:Ok A) (q:¬ 12 < A.v):tbE A=0∧tbL A=vT A:=by
  have:tbE A=0:=by unfold tbE; rw [if_pos h,if_neg q]
  exact ⟨this,if_pos this⟩
/-- The first entries of a table. -/
noncomputable def tkN (vars:Int) (g:(Int→Bool)→Int) (n:Nat):List Int:=(tbl vars g).take n
theorem tkN_len {vars:Int} {g:(Int→Bool)→Int} {k:Int} (h0:0≤k) (h:k≤2 ^ vars.toNat):((tkN vars g k.toNat).length:Int)=k:=by
  have:=tbl_lenI vars g
  unfold tkN; rw [List.length_take]; omega
theorem tkN_step {vars k:Int} {g:(Int→Bool)→Int} (h0:0≤k) (h1:k < 2 ^ vars.toNat):tkN vars g k.toNat++[g (asg vars k)]=tkN vars g (k+1).toNat:=by
  unfold tkN
  rw [show (k+1).toNat=k.toNat+1 by omega,List.take_add_one,tbl_at h0 h1]; rfl
theorem tkN_all {vars k:Int} {g:(Int→Bool)→Int} (h0:0≤vars) (h:2 ^ vars.toNat≤k):tkN vars g k.toNat=tabv vars g:=by
  have:=tbl_lenI vars g
  rw [tab_tbl h0]
  exact List.take_of_length_le (by omega)
theorem asL_of {vars k:Int} {Y:List Bool} (hl:Y.length=vars.toNat) (h:∀ x:Int,0≤x→x < vars→gb Y x=asg vars k x):Y=asL vars k :=
  ext_gb (by rw [asL_len]; exact hl) fun x a b=>by rw [h x a (by omega),asL_gb a (by omega)]
theorem vl_asL {A:Mg} (h:Ok A) (k:Int):vl A (eb (asL A.v k))=vl A (asg A.v k):=dep_asL h.dep
/-- One entry of an assignment. -/
theorem as_step {vars k j:Int} {Y:List Bool} (hl:(Y.length:Int)=vars) (h0:0≤j) (h1:j < vars) (h:∀ x:Int,0≤x→x < j→gb Y x=asg vars k x):∀ x:Int,0≤x→x < j+1→gb (Y.set j.toNat (decide (k / 2 ^ (vars - 1 - j).toNat % 2=1))) x=asg vars k x:=fun x a b=>by
  rw [gb_set h0 (by omega) a]
  by_cases e:x=j
  · rw [if_pos e,e,asg_in h0 h1]
  · rw [if_neg e]; exact h x a (by omega)
end Go.Proofs.Ytkmhjcjpohpiaaa
namespace Go.Vc
open Go Go.RowKit
section
variable {P:Program} {C:Cx} {env:Env} {V:HV} {σ:Res} {x y z:Operand} {T E t:TypeId} {dst:Option Nat} {pos:String} {af:Array Edge} {g:Option (Nat × Bool)} {k n s:Nat} {xs:List Value} {u:Value}
end
end Go.Vc
namespace Go.Proofs.Ytkmhjcjpohpiaaa
open Go Go.Vc
open Classical
theorem map_take {t:List Int} {n:Nat} {f:Int→Int}:(t.map f).take n=(t.take n).map f:=by rw [List.map_take]
theorem map_drop {t:List Int} {n:Nat} {f:Int→Int}:(t.map f).drop n=(t.drop n).map f:=by rw [List.map_drop]
end Go.Proofs.Ytkmhjcjpohpiaaa
namespace Go.Proofs.Ytkmhjcjpohpiaaa
open Go Go.Vc
open Classical
/-- Small tables of numbers in range. -/
theorem mk_small {vars:Int} {t:List Int} (h12:vars≤12) (hl:t.length=2 ^ vars.toNat) (hin:∀ z ∈ t,inR z):mkE vars t=0∧mkD vars t=dg vars t:=by
  have:=mkE_of hin (dg_small h12 hl)
  exact ⟨this,mkD_0 this⟩
end Go.Proofs.Ytkmhjcjpohpiaaa
namespace Go.Vc
open Go
section
variable {P:Program} {C:Cx} {env:Env} {V:HV} {σ:Res} {dst:Option Nat} {x y:Operand} {t T T':TypeId} {pos:String} {af:Array Edge} {g:Option (Nat × Bool)} {m n:Int}
end
end Go.Vc
namespace Go.Proofs.Ytkmhjcjpohpiaaa
open Go Go.Vc
open Classical
theorem tabv_lenI {vars:Int} {g:(Int→Bool)→Int} (hv:0≤vars):((tabv vars g).length:Int)=2 ^ vars.toNat:=by rw [tab_tbl hv]; exact tbl_lenI vars g
def mx (z:Int):Int:=if z < -z then -z else z
def ov (x y:Int):Prop:=x ≠ 0∧1099511627776 / mx x < mx y
def flr (x y:Int):Int:=if y=0 then 0 else if x.tmod y ≠ 0∧¬ (x < 0 ↔ y < 0) then x.tdiv y - 1 else x.tdiv y
theorem flr_z {x y:Int} (h:y=0):flr x y=0:=if_pos h
theorem flr_a {x y:Int} (h:y ≠ 0) (q:x.tmod y ≠ 0) (q2:¬ (x < 0 ↔ y < 0)):flr x y=x.tdiv y - 1:=by unfold flr; rw [if_neg h,if_pos ⟨q,q2⟩]
theorem flr_n {x y:Int} (h:y ≠ 0) (q:¬ (x.tmod y ≠ 0∧¬ (x < 0 ↔ y < 0))):flr x y=x.tdiv y:=by unfold flr; rw [if_neg h,if_neg q]
theorem tdiv_in {x y:Int} (hx:inR x):-1099511627776≤x.tdiv y∧x.tdiv y≤1099511627776:=by
  have h:(x.tdiv y).natAbs≤x.natAbs:=by rw [Int.natAbs_tdiv]; exact Nat.div_le_self ..
  unfold inR at hx
  omega
theorem flr_mul {x y:Int} (hx:inR x) (hy:inR y):-4398046511104≤y * flr x y∧y * flr x y≤4398046511104:=by
  unfold inR at hx hy
  by_cases a:y=0
  · rw [flr_z a]; omega
  · have e:=Int.tmod_add_mul_tdiv x y
    have hm:(x.tmod y).natAbs < y.natAbs:=by rw [Int.natAbs_tmod]; exact Nat.mod_lt _ (by omega)
    by_cases b:x.tmod y ≠ 0∧¬ (x < 0 ↔ y < 0)
    · rw [flr_a a b.1 b.2,Int.mul_sub]; omega
    · rw [flr_n a b]; omega
theorem mul_bd {x y:Int} (h:¬ ov x y):-1099511627776≤x * y∧x * y≤1099511627776:=by
  by_cases hx:x=0
  · rw [hx]; omega
  · have hq:mx y≤1099511627776 / mx x:=Int.not_lt.1 fun q=>h ⟨hx,q⟩
    have hp:0 < mx x:=by unfold mx; split <;> omega
    have hm:mx y * mx x≤1099511627776:=(Int.le_ediv_iff_mul_le hp).1 hq
    have ex:mx x=x.natAbs:=by unfold mx; split <;> omega
    have ey:mx y=y.natAbs:=by unfold mx; split <;> omega
    rw [ex,ey] at hm
    have e:((x * y).natAbs:Int)=y.natAbs * x.natAbs:=by rw [Int.natAbs_mul,Int.natCast_mul,Int.mul_comm]
    omega
noncomputable def opV (op x y:Int):Int :=
  if op=0 then x+y else if op=1 then x - y else if op=2 then (if ov x y then 1099511627777 else x * y) else if op=3 then flr x y else if op=4 then (if y=0 then 0 else x - y * flr x y)
  else if op=5 then (if y < x then y else x) else if op=6 then (if x < y then y else x) else if op=7 then (if x < y then 1 else 0) else if x=y then 1 else 0
section
variable {op x y:Int}
theorem op0 (h:op=0):opV op x y=x+y:=by subst h; rfl
theorem op2a (h:op=2) (q:ov x y):opV op x y=1099511627777:=by subst h; exact if_pos q
theorem op2b (h:op=2) (q:¬ ov x y):opV op x y=x * y:=by subst h; exact if_neg q
theorem op4a (h:op=4) (q:y=0):opV op x y=0:=by subst h; exact if_pos q
theorem op4b (h:op=4) (q:¬ y=0):opV op x y=x - y * flr x y:=by subst h; exact if_neg q
end
end Go.Proofs.Ytkmhjcjpohpiaaa
