import Derived.ChangeKeysEq
import Derived.MapKept
import Derived.Test.YtbchkopkgpfkgaaGreatQAB
set_option linter.unusedVariables false
set_option linter.unusedSimpArgs false
noncomputable section
namespace Go.Vc
open Go Go.RowKit
section
variable {P:Program} {C:Cx} {env:cR} {V:HV} {σ:aY} {dst:Option Nat} {x y:Operand} {t T E:TypeId} {pos:String} {af:Array Edge} {g:Option (Nat×Bool)}
theorem GC{n s b off r:Nat}{i:Int}{kk:IntKind}(hu:P.underlying T=some (.array n E))(hS:eF P E s)(hx:ev env x= .pointer (some ⟨b,off,none⟩))(hy:ev env y= .int kk i)(h0:0≤i)(h1:i<n)(hr:off+i.toNat*s=r):
  QV P C ⟨dst,.indexAddr T x y,t,pos,af,g⟩ env V σ (.pointer (some ⟨b,r,none⟩)):=cS λw _=>by
 have e:(⟨b,off,none⟩:Addr).add (i.toNat*s)=⟨b,r,none⟩:=by
  subst hr;unfold Addr.add;by_cases h:i.toNat*s=0;simp[h];simp[h]
 simp only[execOp,hx,hy,Instr.indexAt,asIntOf];simp[run_underlying hu,Instr.sureAddr,eT hS,h0,h1,e]
end
end Go.Vc
namespace Go.Vc
open Go
section
variable {P:Program} {C:Cx} {N:Nat} {K:K3} {Q:Ex→K3} {env:cR} {V:HV} {σ σq:aY} {ops:Array Oper} {listed:Array Bool} {f i j k:Nat}
variable {d:Nat} {t:TypeId} {pos:String} {af:Array Edge} {g:Option (Nat×Bool)} {v:Value} {op:Op} {o:Oper}
def iX(P:Program)(C:Cx)(N:Nat)(ops:Array Oper)(K:K3)(f:Nat)(listed:Array Bool)(env:cR)(V:HV)(σ σq:aY):Prop:=
 ∀a w,Fr N env a→bZ C V σ w→(∃τ,σ.Perm (σq++τ))→N8 P .any ops (pR C N K (λ_ _ _ _=>False)) f (bZ C V σq) listed a w
def GH(ops:Array Oper)(listed:Array Bool)(i:Nat):Bool:=Region.noSelect ops&&(Region.ready .any ops listed).contains i&&Region.free .any ops listed i
theorem ee(hB:GH ops listed i=true)(ho:ops[i]? =some ⟨some d,op,t,pos,af,g⟩)(hq:QV P C ⟨some d,op,t,pos,af,g⟩ env V σq v)(hw:dE ⟨some d,op,t,pos,af,g⟩ ops env=true)
  (h:iX P C N ops K f (listed.setIfInBounds i true) (upd N env d v) V σ σq):iX P C N ops K (f+1) listed env V σ σq:=λa w hf hm hp=>by
 simp only[GH,Bool.and_eq_true]at hB;obtain⟨τ,hτ⟩:=hp;exact ab4 ho (Region.noSelect_spec hB.1.1) (λc a w h=>by obtain⟨_,_,_,_,_,h⟩:=h;exact h.elim) f _ listed a w (AM _ _ _) (hm.weaken (bR.refl _) hm.sub hm.vold hτ) (Region.free_spec ho hB.2) (by simpa using hB.1.2)
  (.inl ⟨by rw[hf.yielded];exact hw,λw' c=>by rw[hf.eval];exact o8 (λ_ h=>h.2) (hq w' c)⟩) (h _ w (hf.put (some d) v) hm ⟨τ,hτ⟩)
theorem eq_(hB:GH ops listed i=true)(ho:ops[i]? =some ⟨some d,op,t,pos,af,none⟩)(hq:QV P C ⟨some d,op,t,pos,af,none⟩ env V σq v)
 (h:iX P C N ops K f (listed.setIfInBounds i true) (upd N env d v) V σ σq):iX P C N ops K (f+1) listed env V σ σq:=ee hB ho hq (tS rfl) h
def P5(P:Program)(C:Cx)(N:Nat)(ops:Array Oper)(K:K3)(f:Nat)(listed:Array Bool)(env:cR)(V:HV)(σ σq:aY)(i:Nat):Prop:=
 ∃o,ops[i]? =some o∧d6 P C N ops (λe' V' σ'=>∃σq' τ',σ'.Perm (σq'++τ')∧((bR V V'∧∃ρ,σq'.Perm (σq++ρ))∨nP .any ops i=true)∧iX P C N ops K f (listed.setIfInBounds i true) e' V' σ' σq') [o] env V σ
theorem el{rs:List Nat}(hr:decide (Region.ready .any ops listed=rs)=true)(hne:rs.isEmpty=false)(h:∀i∈rs,P5 P C N ops K f listed env V σ σq i):iX P C N ops K (f+1) listed env V σ σq:=λa w hf hm hp w' e'=>by
 have hr:=of_decide_eq_true hr;refine⟨λh0=>bM (hr.symm.trans h0) (λe=>by rw[e]at hne;exact Bool.noConfusion hne),λi hi=> ?_⟩;rw[hr]at hi;obtain⟨o,ho,h⟩:=h i hi;have hm':=hm.ext e';have hl:=h a w' hf hm';have fin:∀a'' w'',pR C N (λe' V' σ'=>∃σq' τ',σ'.Perm (σq'++τ')∧((bR V V'∧∃ρ,σq'.Perm (σq++ρ))∨nP .any ops i=true)∧iX P C N ops K f (listed.setIfInBounds i true) e' V' σ' σq') (λ_ _ _ _=>False) .normal a'' w''→
   ∃CQ':World→Prop,II CQ'∧((∀w,CQ' w→bZ C V σq w)∨nP .any ops i=true)∧CQ' w''∧N8 P .any ops (pR C N K (λ_ _ _ _=>False)) f CQ' (listed.setIfInBounds i true) a'' w'':=by
  rintro a'' w'' ⟨env',V',σ',hf',hm2,σq',τ',h2,h3,h4⟩;exact⟨bZ C V' σq',AM _ _ _,h3.imp (λ⟨h1,ρ,h3⟩ w c=>c.weaken h1 hm.sub hm.vold h3) id,hm2.weaken (bR.refl _) hm2.sub hm2.vold h2,h4 _ _ hf' hm2 ⟨τ',h2⟩⟩
 unfold wpOp;simp only[ho];simp only[wpList]at hl;split;rename_i hw;rw[aK hw]at hl;rcases hl with hl|⟨_,hl⟩
 exact .inl (Oper.wp_monoQ fin (λc a w ⟨_,_,_,_,_,h⟩=>h.elim) (λh=>bM h uP) hl);exact bM hl uP;rename_i hw;rw[aC hw]at hl;exact fin _ _ hl
theorem el1(hr:decide (Region.ready .any ops listed=[i])=true)(h:P5 P C N ops K f listed env V σ σq i):iX P C N ops K (f+1) listed env V σ σq:=
 el hr rfl λx hx=>by simp only[gY]at hx;exact hx▸h
theorem gO(hr:decide (Region.ready .any ops listed=[i,j])=true)(h:P5 P C N ops K f listed env V σ σq i)(h2:P5 P C N ops K f listed env V σ σq j):iX P C N ops K (f+1) listed env V σ σq:=
 el hr rfl λx hx=>by
  simp only[uL,List.not_mem_nil,or_false]at hx;rcases hx with rfl|rfl<;>assumption
theorem aJ5{σ':aY}(hr:(Region.ready .any ops listed).isEmpty=true)(hp:σ.Perm σ')(h:K env V σ'):iX P C N ops K 0 listed env V σ σq:=λa w hf hm _ w' e'=>
 ⟨by simpa using hr,⟨env,V,σ',hf,(hm.ext e').perm hp,h⟩⟩
theorem aa5{id n:Nat}{l:List Oper}{τ:aY}(σq:aY)(hm:P.follows .mixedOrders=true)(hp:σ.Perm (σq++τ))(hn:l.length=n)
  (h:iX P C N l.toArray K n (Array.replicate n false) env V σ σq):VC P C N (.region id l.toArray true) K Q env V σ:=λa w hf hmm=>by
 have hmd:=hmm.drawn (w.drawn+1);have h1:=h a _ hf hmd ⟨τ,hp⟩;refine wp_mono (wp_region_any (Q:=pR C N K (λ_ _ _ _=>False)) hm ?_) ?_;have h2:=FO _ _ _ _ _ h1;have e:l.toArray.size=n:=by simpa using hn
 rw[e];exact h2;rintro e a'' w'' ⟨env'',V',σ',q1,q2,hh⟩;refine⟨env'',V',σ',q1,q2,?_⟩;cases e<;>first|exact hh|exact hh.elim
end
end Go.Vc
namespace Go.Vc
open Go Go.RowKit
section
variable {P:Program} {C:Cx} {env:cR} {V:HV} {σ:aY} {dst:Option Nat} {x y:Operand} {t T T' E:TypeId} {pos:String} {af:Array Edge} {g:Option (Nat×Bool)} {n c n2 c2:Nat}
theorem afG{a:Option Addr}{w:World}(hT:P.underlying T=some (.slice E)):(Op.equal T (.slice a n c) (.slice none n2 c2)).run P w= .ok a.isNone w:=by
 show(Op.equalIn (9999+1) T (.slice a n c) (.slice none n2 c2)).run P w=_;generalize 9999=d;cases a<;>simp[Op.equalIn,run_underlying hT]
theorem XW{a:Option Addr}(hT:P.underlying T=some (.slice E))(hx:ev env x= .slice a n c)(hy:ev env y= .slice none n2 c2):QV P C ⟨dst,.binOp .eql T x y T',t,pos,af,g⟩ env V σ (.bool a.isNone):=cS λw _=>by
 simp[execOp,hx,hy,eqGuard,binOp,afG hT]
end
theorem Sl.cases{V:HV}{v:Value}{vals:List Value}(h:Sl V v vals):(∃cap,v= .slice none 0 cap∧vals=[])∨(∃ad cap,v= .slice (some ad) vals.length cap∧∀w,bR V (hv w)→∀(j:Nat) (u:Value),vals[j]? =some u→w.cell? (ad.add j)=some u):=by
 obtain⟨a,cap,rfl,h1,h2,h3⟩:=h;cases a with
 |none=>
  left;have:vals=[]:=nC.1 λhn=>by obtain⟨b,off,cs,T,fz,e,_⟩:=h3 hn;cases e
  subst this;exact⟨cap,rfl,rfl⟩
 |some ad=>
  right;refine⟨ad,cap,rfl,λw hs j u hu=> ?_⟩;have hlt:j<vals.length:=(EG.1 hu).1;have hn:vals≠ []:=λe=>by rw[e]at hlt;cases hlt
  obtain⟨b,off,cs,T,fz,e,hb,hc⟩:=h3 hn;cases e;have hadd:(⟨b,off,none⟩:Addr).add j=⟨b,off+j,none⟩:=by unfold Addr.add;split<;>simp_all
  have hw:w.heap[b]? =some (.cells cs T fz):=hs _ _ hb;rw[hadd];simp[World.cell?,hw,hc j hlt,hu]
end Go.Vc
namespace Go.Vc
open Go Go.RowKit
theorem aU{a:Value}{l:List Value}(h:a.oneCell'=true)(q:l.all (·.oneCell')=true):(a::l).all (·.oneCell')=true:=by rw[List.all_cons,h,q];rfl
theorem bR.mono{f g h:HV}(a:bR f g)(b:bR g h):bR f h:=a.trans b
section
variable {P:Program} {C:Cx} {N:Nat} {K:K3} {Q:Ex→K3} {env:cR} {V:HV} {σ:aY} {ops:Array Oper} {rest:List Oper} {w:World}
variable {d k b:Nat} {dst:Option Nat} {x y z:Operand} {t T T' T2 E:TypeId} {pos:String} {af:Array Edge} {g:Option (Nat×Bool)} {v:Value}
theorem acF{n:Nat}{i:Int}{u:Value}{xs:List Value}(hS:eF P T 1)(hx:ev env x=iG v i 1)(hy:ev env y=u)(hv1:u.oneCell'=true)(hk:σ[k]? =some (Gr E 1 v n xs))(h0:0≤i)(h1:i<xs.length)
  (h:d6 P C N ops K rest env V (σ.set k (Gr E 1 v n (xs.set i.toNat u)))):d6 P C N ops K (⟨none,.store T x y,t,pos,af,none⟩::rest) env V σ:=λa w hf hm=>by
 refine wpList_plain rfl λK' hK'=> ?_;unfold Oper.wp;obtain⟨hs,s1,s2,s3⟩:=hm.own;obtain⟨hh,e,hl,hg⟩:=s1.get hk;rcases hg with⟨rfl,hn,_⟩|⟨gb,cap,cur,rfl,rfl,q1,q2,q3,q4⟩
 omega;have hb:w.heap[gb]? =some (.cells cur E (0,0)):=(s3 _ (List.mem_of_getElem? e)).1 gb _ JR;rw[C_]at hl q3 q4;have hil:i.toNat<cur.toList.length:=by rw[ahL];omega
 have e1:cur=cur.toList.toArray:=bK;rw[e1]at hb;rw[ZE]at hx;have run:(execOp (ev env) ⟨none,.store T x y,t,pos,af,none⟩).run P w= .ok .skip {w with heap:=w.heap.setIfInBounds gb (.cells (cur.toList.set i.toNat u).toArray E (0,0))}:=by
  simp[execOp,hx,hy,Instr.storeAt,Instr.sureAddr,sW hS hv1 hb hil]
 rw[hf.eval,run];refine hK' _ _ (h _ _ (hf.put none _) (hm.upd hk λq hq hqs hqd=> ?_));have hqb:q gb≠none:=by
  obtain⟨_,hq⟩:=hq;rcases hq with⟨e,_⟩|⟨g2,_,_,e,rfl,_⟩
  cases e;simp only[Value.slice.injEq,Option.some.injEq,Addr.mk.injEq]at e;rw[e.1.1];simp[one]
 refine bZ.single (h':=one gb (.cells (cur.toList.set i.toNat u).toArray E (0,0))) rfl rfl rfl bK (λc hc hn=> ?_) hm.view hqd (λc o hc=> ?_) ⟨by simp[hl],.inr ⟨gb,cap,_,rfl,rfl,q1,q2,by simp[q3],?_⟩⟩ (λc hc hn=> ?_);have hne:gb≠c:=λe=>by subst e;exact hqb hn
 show(w.heap.setIfInBounds gb _)[c]? =_;rw[N1,aC hne];unfold one at hc;split at hc;rename_i e;subst e;cases hc;show(w.heap.setIfInBounds c _)[c]? =_;rw[N1,aK rfl,aK (jD (w:=w) hb)];cases hc;rw[C_];show(cur.toList.set i.toNat u).take n=xs.set i.toNat u;rw[List.take_set,q4];unfold one at hn;split at hn;rename_i e;subst e;exact hqb;simp at hn
theorem qD{n:Nat}{xs:List Int}{kk:IntKind}(hk:σ[k]? =some (Gr E 1 v n (xs.map (Value.int kk)))):In C V σ (λH=>aT kk H v xs):=inG hk
def sO(v:Value)(h:Nat):Value:=match v with| .slice a _ c=>.slice a h c|_=>v
theorem zX{a:Option Addr}{n c h s:Nat}{kk:IntKind}(hT:P.underlying T=some (.slice E))(hS:eF P E s)(h1:h≤c)(w:World):(Instr.slice T (.slice a n c) none (some (.int kk h)) none).run P w= .ok (.slice a h c) w:=by
 have e:(if c=0 then a else Option.map (λx=>x.add 0) a)=a:=by
  split;rfl;cases a with
  |none=>rfl
  |some a=>simp[Addr.add]
 simp[Instr.slice,run_underlying hT,Instr.sliceBounds,Instr.sliceBound,asIntOf,h1,eT hS];cases a with
 |none=>intro _;rfl
 |some a=>
  intro _;obtain⟨b,o,sp⟩:=a;simp[Addr.add]
theorem afO{vals:List Value}{H:HV}{s:Nat}{kk:IntKind}{h:Int}(hT:P.underlying T=some (.slice E))(hS:eF P E s)(hx:ev env x=v)(hv:Sl H v vals)(hy:ev env y= .int kk h)(h0:0≤h)(h1:h≤vals.length):
  QV P C ⟨dst,.slice T x none (some y) none,t,pos,af,g⟩ env V σ (sO v h.toNat):=cS λw _=>by
 obtain⟨a,c,rfl,hc,_⟩:=hv;have r:=zX (P:=P) (a:=a) (n:=vals.length) (c:=c) (h:=h.toNat) (kk:=kk) hT hS aB w;rw[show((h.toNat:Nat):Int)=h by omega]at r;simp[execOp,hx,hy,Instr.sliceAt,run_underlying hT,r,sO]
theorem Sl.take{H:HV}{v:Value}{vals:List Value}(h:Sl H v vals){n:Nat}(hn:n≤vals.length):Sl H (sO v n) (vals.take n):=by
 obtain⟨a,c,rfl,h1,h2,h3⟩:=h;have hl:(vals.take n).length=n:=by simp[hn]
 refine⟨a,c,by simp[sO,hl],aB,h2,λhne=> ?_⟩;obtain⟨b,off,cs,T,fz,e1,e2,e3⟩:=h3 (λe=>hne (by simp[e]));refine⟨b,off,cs,T,fz,e1,e2,λi hi=> ?_⟩;rw[hl]at hi;rw[e3 i aB,iH,aK hi]
theorem aT.take{H:HV}{kk:IntKind}{v:Value}{xs:List Int}(h:aT kk H v xs){n:Nat}(hn:n≤xs.length):aT kk H (sO v n) (xs.take n):=by
 have:=Sl.take h (n:=n) QI;rwa[←List.map_take]at this
theorem an9{l:List Oper}{σ':aY}(hp:σ.Perm σ')(h:d6 P C N ops K l env V σ'):d6 P C N ops K l env V σ:=λa w hf hm=>h a w hf (hm.perm hp)
theorem axH{vals:List Value}{at_:TypeId}(hT:P.underlying at_=some (.slice E))(hx:ev env x=v)(hv:In C V σ (λH=>Sl H v vals)):QV P C ⟨dst,.call {callee:=.builtin .len,args:= #[x],argTypes:= #[at_]},t,pos,af,g⟩ env V σ (.int .i64 vals.length):=λw hm=>
 S1 (H:=Go.Vc.hv w) hT hx (hv w hm) w hm
theorem zW{xs:List Int}{kk:IntKind}{at_:TypeId}(hT:P.underlying at_=some (.slice E))(hx:ev env x=v)(hv:In C V σ (λH=>aT kk H v xs)):QV P C ⟨dst,.call {callee:=.builtin .len,args:= #[x],argTypes:= #[at_]},t,pos,af,g⟩ env V σ (.int .i64 xs.length):=by
 have:=axH (dst:=dst) (t:=t) (pos:=pos) (af:=af) (g:=g) hT hx (vals:=xs.map (Value.int kk)) hv;rwa[fT]at this
end
end Go.Vc
namespace Go.Vc
open Go Go.RowKit
open Classical
variable{α κ:Type}
structure fL (P:Program) (T:TypeId) {κ:Type} (dA:κ→Value):Prop where
 check:∀(e:Bool) (k:κ) (w:World),(Instr.checkKey e 10000 T (dA k)).run P w= .ok () w
 eq:∀(a b:κ) (w:World),(Op.equal T (dA a) (dA b)).run P w= .ok (decide (a=b)) w
 same:∀k,Instr.sameBits 10000 (dA k) (dA k)=true
 desc:∃d,P.underlying T=some d∧∀a b,Instr.sameNow d (dA a) (dA b)=none∨Instr.sameNow d (dA a) (dA b)=some (decide (a=b))
section
variable {P:Program} {T:TypeId} {κ α:Type} {ek:κ→Value}
def lk(k:κ):List (κ×α)→Option α
 | []=>none
 |p::r=>if p.1=k then some p.2 else lk k r
def xA(k:κ):List κ→List MapEntry→Nat→Option (Nat×Value)
 |q::qs,e::es,i=>if k=q then some (i,e.val)else xA k qs es (i+1)
 |_,_,_=>none
theorem DF(hK:fL P T ek)(k:κ)(w:World):∀(es:List MapEntry) (qs:List κ) (i:Nat),es.map (·.key)=qs.map ek→(Instr.findAsking T (ek k) es i).run P w= .ok (xA k qs es i) w
 | [],qs,i,h=>by
  have:qs=[]:=by cases qs with|nil=>rfl|cons _ _=>simp at h
  subst this;simp[Instr.findAsking,xA]
 |e::es,qs,i,h=>by
  match qs,h with
  | [],h=>simp at h
  |q::qs,h=>
   simp only[lQ,List.cons.injEq]at h;have ih:=DF hK k w es qs (i+1) h.2;simp only[Instr.findAsking,Sem.run_bind,h.1,hK.eq,Result.andThen_ok,xA];by_cases hq:k=q;simp[hq];simp[hq,ih]
theorem L_{d:TypeDesc}(hd:∀a b,Instr.sameNow d (ek a) (ek b)=none∨Instr.sameNow d (ek a) (ek b)=some (decide (a=b)))(k:κ):∀(es:List MapEntry) (qs:List κ) (i:Nat),es.map (·.key)=qs.map ek→
  Instr.findNow d (ek k) es i=none∨Instr.findNow d (ek k) es i=some (xA k qs es i)
 | [],qs,i,h=>by
  have:qs=[]:=by cases qs with|nil=>rfl|cons _ _=>simp at h
  subst this;exact Or.inr rfl
 |e::es,qs,i,h=>by
  match qs,h with
  | [],h=>simp at h
  |q::qs,h=>
   simp only[lQ,List.cons.injEq]at h;have ih:=L_ hd k es qs (i+1) h.2;simp only[Instr.findNow,h.1,xA];rcases hd k q with e1|e1
   rw[e1];exact Or.inl rfl;rw[e1];by_cases hq:k=q;simp[hq];simpa[hq]using ih
theorem KQ(hK:fL P T ek)(k:κ)(es:List MapEntry)(qs:List κ)(w:World)(h:es.map (·.key)=qs.map ek):(Instr.findKey T (ek k) es).run P w= .ok (xA k qs es 0) w:=by
 obtain⟨d,hu,hd⟩:=hK.desc;simp only[Instr.findKey,Sem.run_bind,run_underlying hu,Result.andThen_ok];rcases L_ hd k es qs 0 h with e|e
 rw[e];exact DF hK k w es qs 0 h;rw[e];rfl
theorem aiK{vl:α→Value}(k:κ):∀(kv:List (κ×α)) (es:List MapEntry) (i:Nat),es.map (·.val)=kv.map (λp=>vl p.2)→(xA k (kv.map Prod.fst) es i).map Prod.snd=(lk k kv).map vl
 | [],es,i,_=>by
  cases es<;>rfl
 |p::kv,es,i,h=>by
  match es,h with
  | [],h=>simp at h
  |e::es,h=>
   simp only[lQ,List.cons.injEq]at h;have ih:=aiK k kv es (i+1) h.2;simp only[lQ,xA,lk];by_cases hq:k=p.1;rw[aK hq,aK hq.symm];simp[h.1];rw[aC hq,aC (λe=>hq e.symm)];exact ih
theorem YQ{k:κ}:∀(qs:List κ) (es:List MapEntry) (i:Nat),es.length=qs.length→xA k qs es i=none→k∉qs
 | [],_,_,_,_=>by simp
 |q::qs,es,i,hl,h=>by
  match es,hl with
  |e::es,hl=>
   simp only[xA]at h;by_cases hq:k=q;rw[aK hq]at h;cases h;rw[aC hq]at h;have:=YQ qs es (i+1) PZ h;simp[hq,this]
theorem WC{k:κ}:∀(qs:List κ) (es:List MapEntry) (i j:Nat) (v:Value),xA k qs es i=some (j,v)→i≤j∧qs[j-i]? =some k
 | [],es,i,j,v,h=>by cases es<;>simp[xA]at h
 |q::qs,[],i,j,v,h=>by simp[xA]at h
 |q::qs,e::es,i,j,v,h=>by
  simp only[xA]at h;by_cases hq:k=q;rw[aK hq]at h;simp at h;subst hq;obtain⟨rfl,_⟩:=h;simp;rw[aC hq]at h;have:=WC qs es (i+1) j v h;refine⟨aB,?_⟩;rw[show j-i=(j-(i+1))+1 by omega];simpa using this.2
theorem ajB{k:κ}{kv:List (κ×α)}{a:κ}{x:α}(h:a∉kv.map Prod.fst):lk k (kv++ [(a,x)])=if k=a then some x else lk k kv:=by
 induction kv with
 |nil=>
  simp only[xR,lk];by_cases e:k=a;rw[aK e,aK e.symm];rw[aC e,aC (λq=>e q.symm)]
 |cons p kv ih=>
  simp only[lQ,uL,not_or]at h;simp only[GO,lk,ih h.2];by_cases e:p.1=k;rw[aK e,aK e];by_cases e2:k=a;exact bM (e2.symm.trans e.symm) h.1;rw[aC e2];rw[aC e,aC e]
theorem akJ{k:κ}{x:α}:∀{kv:List (κ×α)} {j:Nat} {a:κ},(kv.map Prod.fst).Nodup→(kv.map Prod.fst)[j]? =some a→lk k (kv.modify j λp=>(p.1,x))=if k=a then some x else lk k kv
 | [],j,a,_,h=>by simp at h
 |p::kv,0,a,hn,h=>by
  simp only[lQ,List.getElem?_cons_zero,Option.some.injEq]at h;subst h;simp only[List.modify_zero_cons,lk];by_cases e:k=p.1;rw[aK e.symm,aK e];rw[aC (λq=>e q.symm),aC e,aC (λq=>e q.symm)]
 |p::kv,j+1,a,hn,h=>by
  simp only[lQ,List.nodup_cons,List.getElem?_cons_succ]at hn h;have ih:=akJ (k:=k) (x:=x) hn.2 h;simp only[List.modify_succ_cons,lk,ih];have ha:a∈kv.map Prod.fst:=List.mem_of_getElem? h;by_cases e:p.1=k;rw[aK e,aK e,aC (λq=>hn.1 (by rw[e,q];exact ha))];rw[aC e,aC e]
end
def Mf(b:Nat)(ek:κ→Value)(vl:α→Value)(f:κ→Option α):fB:=λh=>
 ∃(es:Array MapEntry) (kv:List (κ×α)),h=one b (.map es es.size)∧es.toList.map (·.key)=kv.map (λp=>ek p.1)∧es.toList.map (·.val)=kv.map (λp=>vl p.2)∧
  es.toList.map (·.born)=List.range es.size∧(kv.map Prod.fst).Nodup∧∀k,lk k kv=f k
def cX(f:κ→Option α)(k:κ)(v:α):κ→Option α:=λq=>if q=k then some v else f q
theorem dG{f:κ→Option α}{k:κ}{v:α}:cX f k v k=some v:=aK rfl
theorem cP{f:κ→Option α}{k q:κ}{v:α}(h:q≠k):cX f k v q=f q:=aC h
section
variable {P:Program} {C:Cx} {N:Nat} {K:K3} {Q:Ex→K3} {env:cR} {V:HV} {σ:aY} {ops:Array Oper} {rest:List Oper} {w:World}
variable {d k b:Nat} {dst:Option Nat} {x y z:Operand} {t T T' E KT:TypeId} {pos:String} {af:Array Edge} {g:Option (Nat×Bool)} {κ α:Type} {ek:κ→Value} {vl:α→Value} {f:κ→Option α} {key:κ} {a0 a1:α}
theorem bZ.mf(m:bZ C V σ w)(hk:σ[k]? =some (Mf b ek vl f)):∃(es:Array MapEntry) (kv:List (κ×α)),w.heap[b]? =some (.map es es.size)∧es.toList.map (·.key)=kv.map (λp=>ek p.1)∧es.toList.map (·.val)=kv.map (λp=>vl p.2)∧
  es.toList.map (·.born)=List.range es.size∧(kv.map Prod.fst).Nodup∧∀k,lk k kv=f k:=by
 obtain⟨hs,h1,h2,h3⟩:=m.own;obtain⟨h,e,es,kv,rfl,q⟩:=h1.get hk;exact⟨es,kv,(h3 _ (List.mem_of_getElem? e)).1 b _ JR,q⟩
theorem abF{s yy:Nat}{z0:Value}(hi:TI P E z0 s yy)(w:World):(zeroValue E).run P w= .ok z0 w:=by
 obtain⟨i,i1,i2,i3,i4⟩:=hi.out;simp[zeroValue,typeInfo,i1,i2]
theorem XY{s yy:Nat}(m:bZ C V σ w)(hT:P.underlying T=some (.map KT E))(hK:fL P KT ek)(hz:TI P E (vl a0) s yy)(hk:σ[k]? =some (Mf b ek vl f))(ok:Bool):
  (Instr.lookup T (.map (some b)) (ek key) ok).run P w= .ok (if ok then .tuple #[vl ((f key).getD a0),.bool (decide ((f key).isSome=true))]else vl ((f key).getD a0)) w:=by
 obtain⟨es,kv,hb,h1,h2,h3,h4,h5⟩:=m.mf hk;have e1:=KQ hK key es.toList (kv.map Prod.fst) w (by rw[h1,List.map_map];rfl);have e2:=aiK (vl:=vl) key kv es.toList 0 h2;rw[h5]at e2;simp only[Instr.lookup,Sem.run_bind,run_underlying hT,Result.andThen_ok,MapKept.run_getObj_map hb,hK.check,Sem.run_pure,e1];cases hf:xA key (kv.map Prod.fst) es.toList 0 with
 |none=>
  rw[hf]at e2;have:f key=none:=by cases hq:f key with|none=>rfl|some v=>rw[hq]at e2;simp at e2
  simp[abF hz,this]
 |some p=>
  rw[hf]at e2;cases hq:f key with
  |none=>rw[hq]at e2;simp at e2
  |some v=>
   rw[hq]at e2;have:p.2=vl v:=by simpa using e2
   simp[this]
theorem wB{s yy:Nat}(hT:P.underlying T=some (.map KT E))(hK:fL P KT ek)(hz:TI P E (vl a0) s yy)(hk:σ[k]? =some (Mf b ek vl f))(hx:ev env x= .map (some b))(hy:ev env y=ek key):
  QV P C ⟨dst,.lookup T x y true,t,pos,af,g⟩ env V σ (.tuple #[vl ((f key).getD a0),.bool (decide ((f key).isSome=true))]):=cS λw hm=>by
 have:=XY (key:=key) hm hT hK hz hk true;simp[execOp,hx,hy,this]
theorem l_{s yy:Nat}(hT:P.underlying T=some (.map KT E))(hK:fL P KT ek)(hz:TI P E (vl a0) s yy)(hk:σ[k]? =some (Mf b ek vl f))(hx:ev env x= .map (some b))(hy:ev env y=ek key):
  QV P C ⟨dst,.lookup T x y false,t,pos,af,g⟩ env V σ (vl ((f key).getD a0)):=cS λw hm=>by
 have:=XY (key:=key) hm hT hK hz hk false;simp[execOp,hx,hy,this]
theorem bZ.mkmap(m:bZ C V σ w)(ek:κ→Value)(vl:α→Value)(w':World)(hw:w'={w with heap:=w.heap.push (.map #[] 0)}):bZ C V (σ++ [Mf w.heap.size ek vl λ_=>none]) w':=by
 have m1:=m.alloc (.map #[] 0) w' hw;obtain⟨hs,h1,h2,h3⟩:=m1.own;refine⟨m1.os,m1.tape,m1.output,m1.dr,m1.size,m1.frame,m1.sub,m1.view,m1.vold,hs,?_,h2,h3⟩;obtain⟨p,q,rfl,s1,s2⟩:=h1.split;match q,s2 with
 | [h],s2=>exact s1.append ⟨⟨#[],[],s2.1,rfl,rfl,rfl,List.nodup_nil,λ_=>rfl⟩,i_⟩
theorem iB(ek:κ→Value)(vl:α→Value)(h:∀b,d6 P C N ops K rest (Go.Vc.upd N env d (.map (some b))) V (σ++ [Mf b ek vl λ_=>none])):
  d6 P C N ops K (⟨some d,.makeMap T none,t,pos,af,none⟩::rest) env V σ:=λa w hf hm=>by
 refine wpList_plain rfl λK' hK'=> ?_;unfold Oper.wp;have e:(execOp (ev env) ⟨some d,.makeMap T none,t,pos,af,none⟩).run P w= .ok (.value (.map (some w.heap.size))) {w with heap:=w.heap.push (.map #[] 0)}:=by
  simp[execOp,Instr.makeMap,newObj,Sem.run]
 rw[hf.eval,e];exact hK' _ _ (h w.heap.size _ _ (hf.put (some d) _) (hm.mkmap ek vl _ rfl))
theorem amT(ek:κ→Value)(vl:α→Value){kk:IntKind}{n:Int}(hT:P.underlying T=some (.map KT E))(hx:ev env x= .int kk n)(h:∀b,d6 P C N ops K rest (Go.Vc.upd N env d (.map (some b))) V (σ++ [Mf b ek vl λ_=>none])):
  d6 P C N ops K (⟨some d,.makeMap T (some x),t,pos,af,none⟩::rest) env V σ:=λa w hf hm=>by
 refine wpList_plain rfl λK' hK'=> ?_;unfold Oper.wp;have e:(execOp (ev env) ⟨some d,.makeMap T (some x),t,pos,af,none⟩).run P w= .ok (.value (.map (some w.heap.size))) {w with heap:=w.heap.push (.map #[] 0)}:=by
  simp[execOp,Instr.makeMap,newObj,Sem.run,hx,run_underlying hT,asInt,asIntOf]
 rw[hf.eval,e];exact hK' _ _ (h w.heap.size _ _ (hf.put (some d) _) (hm.mkmap ek vl _ rfl))
theorem bZ.setMf{es':Array MapEntry}(m:bZ C V σ w)(hk:σ[k]? =some (Mf b ek vl f))(w':World)(hw:w'={w with heap:=w.heap.setIfInBounds b (.map es' es'.size)})(kv':List (κ×α))
  (q1:es'.toList.map (·.key)=kv'.map (λp=>ek p.1)) (q2:es'.toList.map (·.val)=kv'.map (λp=>vl p.2)) (q3:es'.toList.map (·.born)=List.range es'.size) (q4:(kv'.map Prod.fst).Nodup) (f':κ→Option α) (q5:∀k,lk k kv'=f' k):
  bZ C V (σ.set k (Mf b ek vl f')) w':=by
 refine m.upd hk λh hA hs hd=> ?_;obtain⟨es0,kv0,rfl,_⟩:=hA;have hb:hv w b=some (.map es0 es0.size):=hs b _ JR;have hlt:=jD hb;subst hw;refine bZ.single (h':=one b (.map es' es'.size)) rfl rfl rfl bK (λc hc hn=> ?_) (λc o hc=> ?_) hd (λc o hc=> ?_) ⟨es',kv',rfl,q1,q2,q3,q4,q5⟩ (λc hc hn=> ?_);have hne:c≠b:=λe=>by subst e;simp[one]at hn
 show(w.heap.setIfInBounds b _)[c]? =_;rw[N1,aC (λe=>hne e.symm)];exact m.view c o hc;unfold one at hc;split at hc;rename_i e;subst e;cases hc;show(w.heap.setIfInBounds c _)[c]? =_;rw[N1,aK rfl,aK hlt];cases hc;unfold one at hn⊢;split at hn;rename_i e;rw[aK e];simp;simp at hn
theorem G4{v:α}(m:bZ C V σ w)(hT:P.underlying T=some (.map KT E))(hK:fL P KT ek)(hk:σ[k]? =some (Mf b ek vl f)):
  ∃w',(Instr.mapUpdate T (.map (some b)) (ek key) (vl v)).run P w= .ok () w'∧bZ C V (σ.set k (Mf b ek vl (cX f key v))) w':=by
 obtain⟨es,kv,hb,h1,h2,h3,h4,h5⟩:=m.mf hk;have hl:es.toList.length=kv.length:=by have:=congrArg List.length h1;simpa using this
 have e1:=KQ hK key es.toList (kv.map Prod.fst) w (by rw[h1,List.map_map];rfl);simp only[Instr.mapUpdate,Sem.run_bind,run_underlying hT,Result.andThen_ok,MapKept.run_getObj_map hb,hK.check,e1];cases hf:xA key (kv.map Prod.fst) es.toList 0 with
 |none=>
  have hn:=YQ _ _ _ (by simp[hl]) hf;refine⟨_,MapKept.run_setObj_map _ hb,?_⟩;have:=m.setMf (es':=es.push {key:=ek key,val:=vl v,born:=es.size}) hk _ (by simp;rfl) (kv++ [(key,v)]) (by simp[h1]) (by simp[h2]) (by simp[h3,sP]) (by
   rw[f_,List.nodup_append];refine⟨h4,bK,?_⟩;intro a ha b hb;simp only[lQ,y_,gY]at hb;subst hb;rintro rfl;exact hn ha) (cX f key v) (λq=>by rw[ajB hn,h5];rfl)
  exact this
 |some p=>
  obtain⟨j,u⟩:=p;obtain⟨_,hj⟩:=WC _ _ _ _ _ hf;rw[Nat.sub_zero]at hj;have hjl:j<es.size:=by
   have:=(EG.1 hj).1;have e:es.toList.length=es.size:=ahL;simp at this;omega
  have hkey:es[j].key=ek key:=by
   have:=congrArg (λl=>l[j]?) h1;simp only[iZ,LH]at this;rw[iZ]at hj;cases hkj:kv[j]? with
   |none=>rw[hkj]at hj;cases hj
   |some p=>
    rw[hkj]at hj this;simp at hj;rw[wC hjl]at this;simp at this;rw[this,hj]
  have hstay:(Instr.keyThatStays (((es[j]?).map (·.key)).getD (ek key)) (ek key)).run P w= .ok (ek key) w:=by
   rw[wC hjl];simp[hkey,Instr.keyThatStays,hK.same]
  simp only[Sem.run_bind,hstay,Result.andThen_ok];refine⟨_,MapKept.run_setObj_map _ hb,?_⟩;have hmod:∀{β:Type} (F:MapEntry→β) (g':MapEntry→MapEntry),((es.modify j g').toList.map F)=(es.toList.map F).modify j (λx=>if h:j<es.size then F (g' es[j])else x):=λF g'=>by
   apply List.ext_getElem?;intro i;simp only[iZ,LH,ahX,Array.getElem?_modify];by_cases hij:j=i;subst hij;simp[hjl];simp[hij]
  have:=m.setMf (es':=es.modify j λe=>{e with key:=ek key,val:=vl v}) hk _ (by simp;rfl) (kv.modify j λp=>(p.1,v)) (by
    rw[hmod,h1];apply List.ext_getElem?;intro i;simp only[ahX,iZ];by_cases hij:j=i;subst hij;rw[iZ]at hj;cases hkj:kv[j]? with
    |none=>simp
    |some p=>rw[hkj]at hj;simp at hj;simp[hjl,hj]
    simp[hij]) (by
    rw[hmod,h2];apply List.ext_getElem?;intro i;simp only[ahX,iZ];by_cases hij:j=i;subst hij;cases hkj:kv[j]? <;>simp[hjl];simp[hij]) (by
    rw[hmod,h3];apply List.ext_getElem?;intro i;simp only[ahX,Array.size_modify];by_cases hij:j=i;subst hij;have:=congrArg (λl=>l[j]?) h3;simp only[iZ,LH,wC hjl]at this;simp[hjl]at this⊢;exact this;simp[hij]) (by
    have e:(kv.modify j λp=>(p.1,v)).map Prod.fst=kv.map Prod.fst:=by
     apply List.ext_getElem?;intro i;simp only[ahX,iZ];by_cases hij:j=i;subst hij;cases hkj:kv[j]? <;>simp;simp[hij]
    rw[e];exact h4) (cX f key v) (λq=>by rw[akJ h4 hj,h5];rfl)
  exact this
theorem fQ{v:α}(hT:P.underlying T=some (.map KT E))(hK:fL P KT ek)(hx:ev env x= .map (some b))(hy:ev env y=ek key)(hz:ev env z=vl v)(hk:σ[k]? =some (Mf b ek vl f))
  (h:d6 P C N ops K rest env V (σ.set k (Mf b ek vl (cX f key v)))):d6 P C N ops K (⟨none,.mapUpdate T x y z,t,pos,af,none⟩::rest) env V σ:=λa w hf hm=>by
 refine wpList_plain rfl λK' hK'=> ?_;unfold Oper.wp;obtain⟨w',e,hm'⟩:=G4 (key:=key) (v:=v) hm hT hK hk;have e':(execOp (ev env) ⟨none,.mapUpdate T x y z,t,pos,af,none⟩).run P w= .ok .skip w':=by
  simp[execOp,hx,hy,hz,e]
 rw[hf.eval,e'];exact hK' _ _ (h _ _ (hf.put none _) hm')
theorem fL.int{q:IntKind}(hu:P.underlying KT=some (.int q)):fL P KT (Value.int q) where
 check:=λe k w=>by
  rw[show(10000:Nat)=9999+1 from rfl,Instr.checkKey];simp[run_underlying hu]
 eq:=λa b w=>by
  have h1:∀d,(Op.equalIn (d+1) KT (.int q a) (.int q b)).run P w= .ok (a==b) w:=λd=>by simp[Op.equalIn,run_underlying hu]
  have h2:(a==b)= @decide (a=b) (propDecidable _):=by by_cases h:a=b<;>simp[h]
  rw[←h2];exact h1 9999
 same:=λk=>by
  rw[show(10000:Nat)=9999+1 from rfl];simp[Instr.sameBits]
 desc:=⟨_,hu,λa b=>Or.inr (by
  have h2:(a==b)= @decide (a=b) (propDecidable _):=by by_cases h:a=b<;>simp[h]
  simp[Instr.sameNow,h2])⟩
end
end Go.Vc
namespace Go.Vc
open Go Go.RowKit
variable{H:HV}{s:Nat}{v:Value}{xs:List Value}
def aR(s:Nat)(H:HV)(v:Value)(n:Nat)(xs:List Value):Prop:=
 ∃a cap,v= .slice a n cap∧n≤cap∧cap≤9223372036854775807∧xs.length=n*s∧
  (n≠0→∃b off cs T fz,a=some ⟨b,off,none⟩∧H b=some (.cells cs T fz)∧∀i,i<n*s→cs[off+i]? =xs[i]?)
theorem aR.mono{n:Nat}{H':HV}(h:aR s H v n xs)(q:bR H H'):aR s H' v n xs:=by
 obtain⟨a,cap,h1,h2,h3,h4,h5⟩:=h;refine⟨a,cap,h1,h2,h3,h4,λhn=> ?_⟩;obtain⟨b,off,cs,T,fz,e1,e2,e3⟩:=h5 hn;exact⟨b,off,cs,T,fz,e1,q _ _ e2,e3⟩
theorem aR.bound{n:Nat}(h:aR s H v n xs):n≤9223372036854775807:=by obtain⟨_,_,_,_,_,_⟩:=h;omega
theorem aR.cells{n:Nat}(h:aR s H v n xs):v.cells=[v].toArray:=by obtain⟨_,_,h,_⟩:=h;rw[h];rfl
theorem aR.one{n:Nat}(h:aR s H v n xs):v.oneCell'=true:=by obtain⟨_,_,h,_⟩:=h;rw[h];rfl
theorem aR.nil:aR s H (.slice none 0 0) 0 []:=⟨none,0,rfl,cV _,kE _,bK,λh=>bM rfl h⟩
def C8(v:Value)(i:Int)(s o:Nat):Value:=match v with| .slice (some a) _ _=>.pointer (some (a.add (i.toNat*s+o)))|_=>undef
theorem add_none(b off k:Nat):(⟨b,off,none⟩:Addr).add k=⟨b,off+k,none⟩:=by
 unfold Addr.add;split;rename_i h;subst h;rfl;rfl
theorem mP{b n:Nat}{cs:List Value}{c:Nat}(h:Cells H b cs)(hn:cs.length=n*s)(hc:n≤c)(hm:c≤9223372036854775807):aR s H (.slice (some ⟨b,0,none⟩) n c) n cs:=by
 obtain⟨T,fz,h⟩:=h;exact⟨_,c,rfl,hc,hm,hn,λ_=>⟨b,0,cs.toArray,T,fz,rfl,h,λi _=>bK⟩⟩
section
variable {P:Program} {C:Cx} {N:Nat} {K:K3} {Q:Ex→K3} {env:cR} {V:HV} {σ:aY} {ops:Array Oper} {rest:List Oper} {w:World}
variable {d k b n s:Nat} {dst:Option Nat} {x y z:Operand} {t T T' T2 E:TypeId} {pos:String} {af:Array Edge} {g:Option (Nat×Bool)} {v:Value} {xs:List Value}
theorem aR.at{H:HV}(h:aR s H v n xs){i:Int}(h0:0≤i)(h1:i<n):∃b off cs T fz c,v= .slice (some ⟨b,off,none⟩) n c∧n≤c∧H b=some (.cells cs T fz)∧iG v i s= .pointer (some ⟨b,off+i.toNat*s,none⟩)∧
  (∀o,C8 v i s o= .pointer (some ⟨b,off+(i.toNat*s+o),none⟩))∧∀o,o<s→cs[off+(i.toNat*s+o)]? =xs[i.toNat*s+o]? :=by
 obtain⟨a,c,hv,hc,_,hl,hh⟩:=h;have hlt:i.toNat<n:=aB;obtain⟨b,off,cs,T,fz,rfl,e2,e3⟩:=hh aB;refine⟨b,off,cs,T,fz,c,hv,hc,e2,?_,λo=> ?_,λo ho=>e3 _ ?_⟩;rw[hv];simp only[iG];rw[add_none];rw[hv];simp only[C8];rw[add_none];have:(i.toNat+1)*s≤n*s:=vG s hlt;rw[o5,CK]at this;omega
theorem sU{H:HV}{at_:TypeId}(hT:P.underlying at_=some (.slice E))(hx:ev env x=v)(hv:aR s H v n xs):
  QV P C ⟨dst,.call {callee:=.builtin .len,args:= #[x],argTypes:= #[at_]},t,pos,af,g⟩ env V σ (.int .i64 n):=by
 obtain⟨a,c,h,_⟩:=hv;exact AB hT hx h
theorem nG{m:Nat}{E2 at_:TypeId}(hT:P.underlying at_=some (.slice E))(hx:ev env x=v)(hk:σ[k]? =some (Gr E2 s v m xs)):
  QV P C ⟨dst,.call {callee:=.builtin .len,args:= #[x],argTypes:= #[at_]},t,pos,af,g⟩ env V σ (.int .i64 m):=λw hm=>by
 obtain⟨hs,s1,_,_⟩:=hm.own;obtain⟨h,_,hg⟩:=s1.get hk;obtain⟨a,c,e,_⟩:=hg.shape;exact AB hT hx e w hm
theorem zU{i:Int}{kk:IntKind}(hT:P.underlying T=some (.slice E))(hS:eF P E s)(hx:ev env x=v)(hv:aR s V v n xs)(hy:ev env y= .int kk i)(h0:0≤i)(h1:i<n):
  QV P C ⟨dst,.indexAddr T x y,t,pos,af,g⟩ env V σ (iG v i s):=cS λw hm=>by
 obtain⟨b,off,cs,T',fz,c,e,_⟩:=(hv.mono hm.view).at h0 h1;simp only[execOp,hx,hy,e,Instr.indexAt,asIntOf,underlying,iG];simp[hT,eT hS,h0,h1]
theorem OR{i:Int}{f o:Nat}(hF:yV P T f o)(hx:ev env x=iG v i s)(hv:aR s V v n xs)(h0:0≤i)(h1:i<n):QV P C ⟨dst,.fieldAddr T x f,t,pos,af,g⟩ env V σ (C8 v i s o):=by
 obtain⟨b,off,cs,T',fz,c,e,_,_,e3,e4,_⟩:=hv.at h0 h1;rw[e4 o,←HI];exact KA hF (hx.trans e3)
theorem ldX{n:Nat}{i:Int}{o m:Nat}{vs:List Value}(hA:r_ P T m)(hx:ev env x=C8 v i s o)(hq:∀w,bZ C V σ w→aR s (hv w) v n xs)(h0:0≤i)(h1:i<n)(ho:o+m≤s)(hs:(xs.drop (i.toNat*s+o)).take m=vs):QV P C ⟨dst,.load T x,t,pos,af,g⟩ env V σ (.agg vs.toArray):=cS λw hm=>by
 have hv:=hq w hm;obtain⟨b,off,cs,T',fz,c,e,_,e2,_,e4,e5⟩:=hv.at h0 h1;obtain⟨_,_,_,_,_,hl,_⟩:=hv;have hlt:(i.toNat+1)*s≤n*s:=vG s aB;rw[o5,CK]at hlt;have hvl:vs.length=m:=by rw[←hs,jL,mX,hl];omega
 have h0':w.heap[b]? =some (.cells cs T' fz):=e2;have h:w.heap[b]? =some (.cells cs.toList.toArray T' fz):=by simpa using h0'
 have hcs:(cs.toList.drop (off+(i.toNat*s+o))).take m=vs:=by
  rw[←hs];apply List.ext_getElem?;intro j;rw[iH,iH];split;rename_i hj;have:=e5 (o+j) aB;rw[kO,kO,show i.toNat*s+o+j=i.toNat*s+(o+j) by omega,←this];simp[HI];rfl
 rw[e4 o]at hx;simp[execOp,hx,Instr.loadAt,Instr.sureAddr,sA hA h hcs hvl]
theorem DM{i:Int}{vs:List Value}(hA:r_ P T s)(hx:ev env x=iG v i s)(hv:aR s V v n xs)(h0:0≤i)(h1:i<n)(hs:(xs.drop (i.toNat*s)).take s=vs):QV P C ⟨dst,.load T x,t,pos,af,g⟩ env V σ (.agg vs.toArray):=ldX (o:=0) hA hx (λ_ m=>hv.mono m.view) h0 h1 (by omega) hs
theorem d_{i:Int}{o:Nat}{u:Value}(hP:sK P T)(hx:ev env x=C8 v i s o)(hv:aR s V v n xs)(h0:0≤i)(h1:i<n)(ho:o<s)(hu:xs[i.toNat*s+o]? =some u):QV P C ⟨dst,.load T x,t,pos,af,g⟩ env V σ u:=cS λw hm=>by
 obtain⟨b,off,cs,T',fz,c,e,_,e2,_,e4,e5⟩:=(hv.mono hm.view).at h0 h1;rw[e4 o]at hx;have hb:w.heap[b]? =some (.cells cs T' fz):=e2;have hcell:w.cell? ⟨b,off+(i.toNat*s+o),none⟩=some u:=by
  unfold World.cell?;simp only[hb];rw[←hu,←e5 o ho];rfl
 simp[execOp,hx,Instr.loadAt,Instr.sureAddr,loadVar,wY hP,load,Sem.run,hcell]
theorem Gr.sls{E:TypeId}{m:Nat}{h:HV}(hg:Gr E s v m xs h):aR s h v m xs:=by
 obtain⟨hl,hg⟩:=hg;rcases hg with⟨rfl,rfl,_⟩|⟨gb,cap,cur,rfl,rfl,q1,q2,q3,q4⟩
 have:xs=[]:=rS PZ;subst this;exact aR.nil;refine⟨_,cap,rfl,q1,by simp only[maxLen]at q2;omega,hl,λ_=>⟨gb,0,cur,E,(0,0),rfl,by simp[one],λi hi=> ?_⟩⟩;rw[←q4,iH,aK hi];simp
theorem ag4{c:Code}{σr:aY}(hp:σ.Perm (Gr E s v n xs::σr))(h:∀V',bR V V'→aR s V' v n xs→VC P C N c K Q env V' σr):VC P C N c K Q env V σ:=λa w hf hm=>by
 obtain⟨x,hx,hd,m'⟩:=hm.freeze hp;exact h _ (iP _ _) (hx.sls.mono (jU hd)) a w hf m'
theorem u7{b off:Nat}{i:Int}{kk:IntKind}{n:Nat}(hu:P.underlying T=some (.array n E))(hS:eF P E 1)(hx:ev env x= .pointer (some ⟨b,off,none⟩))(hy:ev env y= .int kk i)(h0:0≤i)(h1:i<n):
 QV P C ⟨dst,.indexAddr T x y,t,pos,af,g⟩ env V σ (.pointer (some ⟨b,off+i.toNat,none⟩)):=GC hu hS hx hy h0 h1 (by rw[C_])
theorem ao7{b off:Nat}(hx:ev env x= .pointer (some ⟨b,off,none⟩)):QV P C ⟨dst,.nilCheck x,t,pos,af,g⟩ env V σ (.pointer (some ⟨b,off,none⟩)):=cS λw _=>by
 simp[execOp,hx]
theorem yI{κ α:Type}{ek:κ→Value}{vl:α→Value}{f:κ→Option α}{key:κ}{KT:TypeId}{v:α}(hT:P.underlying T=some (.map KT E))(hK:fL P KT ek)(hx:ev env x= .map (some b))(hy:ev env y=ek key)(hz:ev env z=vl v)(hk:σ[k]? =some (Mf b ek vl f))
  (h:d6 P C N ops K rest env V (σ.set k (Mf b ek vl (cX f key v)))):d6 P C N ops K (⟨none,.insert T x y z,t,pos,af,none⟩::rest) env V σ:=λa w hf hm=>by
 refine wpList_plain rfl λK' hK'=> ?_;unfold Oper.wp;obtain⟨w',e,hm'⟩:=G4 (key:=key) (v:=v) hm hT hK hk;have e':(execOp (ev env) ⟨none,.insert T x y z,t,pos,af,none⟩).run P w= .ok .skip w':=by
  simp[execOp,hx,hy,hz,e]
 rw[hf.eval,e'];exact hK' _ _ (h _ _ (hf.put none _) hm')
theorem DK{kk:IntKind}{ys:List Int}{i:Int}(h0:0≤i)(h1:i<ys.length):(ys.map (Value.int kk))[0+i.toNat]? =some (.int kk (gi ys i)):=by rw[Nat.zero_add];exact XO h0 h1
theorem bO{l:List Oper}{m:Nat}{E2:TypeId}(hk:σ[k]? =some (Gr E2 s v m xs))(h:v.oneCell'=true→d6 P C N ops K l env V σ):d6 P C N ops K l env V σ:=λa w hf hm=>by
 obtain⟨hs,s1,_,_⟩:=hm.own;obtain⟨q,_,hg⟩:=s1.get hk;obtain⟨a',c,e,_⟩:=hg.shape;exact h (by rw[e];rfl) a w hf hm
end
end Go.Vc
namespace Go.Vc
open Go Go.RowKit
open Classical
variable{P:Program}{k:IntKind}{κ:Type}
theorem U4(ks:List IntKind):∀(x:List Int),((kC ks x).zip (kC ks x)).all (λ(p:Value×Value)=>Instr.sameBits 9999 p.1 p.2)=true:=by
 intro x;rw[List.all_eq_true];intro p hp;obtain⟨i,hi,e⟩:=H2 hp;rw[List.getElem_zip]at e;subst e;have hl:i<(kC ks x).length:=by simpa using hi
 have:∃k n,(kC ks x)[i]=Value.int k n:=by
  simp only[kC,List.getElem_zipWith];exact⟨_,_,rfl⟩
 obtain⟨k,n,e⟩:=this;simp only[e];rw[show(9999:Nat)=9998+1 from rfl];simp[Instr.sameBits]
theorem I7(ks:List IntKind)(x:List Int):Instr.sameBits 10000 (.agg (kC ks x).toArray) (.agg (kC ks x).toArray)=true:=by
 rw[show(10000:Nat)=9999+1 from rfl];simp only[Instr.sameBits,beq_self_eq_true,Bool.true_and];exact U4 ks x
theorem WJ{e:TypeId}(he:P.underlying e=some (.int k))(em:Bool)(n:Nat)(a:Int)(w:World):(Instr.checkKey em (n+1) e (.int k a)).run P w= .ok () w:=by
 rw[Instr.checkKey];simp[run_underlying he]
theorem L4(em:Bool)(w:World):∀(fs:List Field) (ks:List IntKind) (off:Nat) (A aSx:List Value) (x:List Int),wX P off fs ks→x.length=ks.length→aSx=A++kC ks x→A.length=off→
  (forIn (m:=Sem) fs PUnit.unit λf _=>do
   if f.name≠ "_" then do
    Instr.checkKey em 9999 f.type (←part f.type aSx.toArray f.offset)
    pure (ForInStep.yield PUnit.unit)
   else pure (ForInStep.yield PUnit.unit)).run P w= .ok PUnit.unit w
 | [],_,_,_,_,_,_,_,_,_=>by simp
 |f::fs,k::ks,off,A,aSx,x,h,h1,ha,hA=>by
  obtain⟨f1,f2,f3,f4⟩:=h;cases x with
  |nil=>simp at h1
  |cons p x=>
   have a1:aSx.toArray[f.offset]? =some (.int k p):=by rw[ha,f2,←hA];simp[kC]
   have ih:=L4 em w fs ks (off+1) (A++ [.int k p]) aSx x f4 MY (by rw[ha];simp[kC]) (by simp[hA]);simp only[List.forIn_cons,aK f1,Sem.run_bind,o3 f3 a1,Result.andThen_ok,WJ f3 em 9998,Sem.run_pure];exact ih
 |_::_,[],_,_,_,_,h,_,_,_=>by cases h
theorem fL.flat{T:TypeId}{ks:List IntKind}(hF:vR P T ks)(aSx:κ→List Int)(hl:∀k,(aSx k).length=ks.length)(inj:∀a b,aSx a=aSx b→a=b):fL P T (λk=>Value.agg (kC ks (aSx k)).toArray) where
 check:=λem k w=>by
  rw[show(10000:Nat)=9999+1 from rfl,Instr.checkKey];simp only[Sem.run_bind,run_underlying hF.und,Result.andThen_ok];rw[←Array.forIn_toList];have:=L4 em w (P.fieldsOf T).toList ks 0 [] (kC ks (aSx k)) (aSx k) hF.flds (hl k) rfl rfl;simp at this⊢;rw[this];rfl
 eq:=λa b w=>by
  have:=CB hF (aSx a) (aSx b) rfl rfl (hl a) (hl b) w;have e:decide (aSx a=aSx b)= @decide (a=b) (propDecidable _):=decide_eq_decide.2 ⟨inj a b,λh=>by rw[h]⟩;rw[←e];exact this
 same:=λk=>I7 ks (aSx k)
 desc:=⟨_,hF.und,λa b=>Or.inl rfl⟩
theorem IB{E:TypeId}(he:P.underlying E=some (.int k))(d:Nat)(w:World):∀(n off:Nat) (A B x y:List Int),x.length=n→y.length=n→A.length=off→B.length=off→
  (Op.eqItems (d+1) E 1 ((A++x).map (Value.int k)).toArray ((B++y).map (Value.int k)).toArray (List.range' off n)).run P w= .ok (decide (x=y)) w
 |0,_,_,_,x,y,h1,h2,_,_=>by
  have:x=[]:=rS h1;have:y=[]:=rS h2;subst_vars;simp[Op.eqItems]
 |n+1,off,A,B,x,y,h1,h2,hA,hB=>by
  cases x with
  |nil=>simp at h1
  |cons p x=>
   cases y with
   |nil=>simp at h2
   |cons q y=>
    have a1:((A++p::x).map (Value.int k)).toArray[off*1]? =some (.int k p):=by rw[←hA];simp
    have b1:((B++q::y).map (Value.int k)).toArray[off*1]? =some (.int k q):=by rw[←hB];simp
    simp only[List.range'_succ,Op.eqItems,Sem.run_bind,o3 he a1,o3 he b1,Result.andThen_ok,run_equalIn_int w d E k k p q he];by_cases hpq:p=q;subst hpq;have ih:=IB he d w n (off+1) (A++ [p]) (B++ [p]) x y MY (by simpa using h2) (by simp[hA]) (by simp[hB]);simp only[EJ,GO,xR]at ih;simp only[beq_self_eq_true,Bool.not_true,Bool.false_eq_true,if_false];rw[ih];simp;have:(p==q)=false:=by simpa using hpq
    simp[this,hpq]
theorem acT(k:IntKind):∀x:List Int,x.map (Value.int k)=kC (List.replicate x.length k) x
 | []=>rfl
 |p::x=>congrArg (Value.int k p::·) (acT k x)
theorem fL.arr{T E:TypeId}{n:Nat}(hu:P.underlying T=some (.array n E))(he:P.underlying E=some (.int k)){z:Value}{y:Nat}(hi:TI P E z 1 y)(aSx:κ→List Int)(hl:∀a,(aSx a).length=n)(inj:∀a b,aSx a=aSx b→a=b):
  fL P T (λa=>Value.agg ((aSx a).map (Value.int k)).toArray) where
 check:=λem a w=>by
  rw[show(10000:Nat)=9999+1 from rfl,Instr.checkKey];simp only[Sem.run_bind,run_underlying hu,Result.andThen_ok];simp only[Std.Legacy.Range.forIn_eq_forIn_range',Std.Legacy.Range.size,Nat.sub_zero,Nat.add_one_sub_one,Nat.div_one];have each:∀j∈List.range' 0 n,∃u:Int,((aSx a).map (Value.int k)).toArray[j*1]? =some (.int k u):=λj hj=>by
   simp only[List.mem_range'_1]at hj;have hj2:j<(aSx a).length:=by rw[hl];omega
   exact⟨(aSx a)[j],by simp[hj2]⟩
  generalize List.range' 0 n=is at each;induction is with
  |nil=>simp
  |cons j is ih=>
   obtain⟨u,hu2⟩:=each j bK;simp only[List.forIn_cons,Sem.run_bind,eT hi.size,Result.andThen_ok,o3 he hu2,WJ he em 9998,Sem.run_pure];exact ih (λy hy=>each y (by simp[hy]))
 eq:=λa b w=>by
  obtain⟨i,i1,_,i3,_⟩:=hi.out;have h1:=run_equalIn_array (P:=P) (w:=w) 9999 (t:=T) (e:=E) (n:=n) (i:=i) ((aSx a).map (Value.int k)).toArray ((aSx b).map (Value.int k)).toArray hu i1;have hc:P.cellsOf E=1:=by simp[Program.cellsOf,i1,i3]
  rw[hc,List.range_eq_range']at h1;have h2:=IB he 9998 w n 0 [] [] (aSx a) (aSx b) (hl a) (hl b) rfl rfl;have e:decide (aSx a=aSx b)= @decide (a=b) (propDecidable _):=decide_eq_decide.2 ⟨inj a b,λh=>by rw[h]⟩;rw[←e];exact h1.trans h2
 same:=λa=>by
  have e:=acT k (aSx a);rw[e];exact I7 _ _
 desc:=⟨_,hu,λa b=>Or.inl rfl⟩
end Go.Vc
namespace Go.Vc
open Go Go.RowKit
open Classical
variable{H:HV}{L:List Bool}{v:Value}
abbrev gb(L:List Bool)(i:Int):Bool:=L.getD i.toNat false
abbrev gH(L:List Bool):List Value:=L.map Value.bool
def kL(H:HV)(v:Value)(L:List Bool):Prop:=Sl H v (gH L)
theorem kL.mono{H':HV}(h:kL H v L)(s:bR H H'):kL H' v L:=Sl.mono h s
theorem kL.bound(h:kL H v L):L.length≤9223372036854775807:=by
 have:=Sl.bound h;simpa using this
theorem aCQ{i:Int}(h0:0≤i)(h1:i<L.length):gv (gH L) i= .bool (decide (gb L i=true)):=by
 have h:i.toNat<L.length:=aB;simp[gv,gb,bX,iZ,dT h]
theorem tV(m:Nat)(f:Nat→Bool)(j:Int)(h0:0≤j)(h1:j<m):gb ((List.range m).map f) j=f j.toNat:=by
 have h:j.toNat<m:=aB;simp[gb,bX,EF h]
theorem aiJ{A B:List Bool}(hl:A.length=B.length)(h:∀x:Int,0≤x→x<A.length→gb A x=gb B x):A=B:=by
 refine R5 hl λi h1 h2=> ?_;have:=h i aB aB;simp only[gb,bX,iD,dT h1,dT h2,X8]at this;exact this
def fb(p:Nat→Bool)(n:Nat):List Value:=gH ((List.range n).map p)
theorem ajQ{b n c:Nat}(h:Cells H b (gH L))(hn:n=L.length)(hc:n≤c)(hm:c≤9223372036854775807):kL H (.slice (some ⟨b,0,none⟩) n c) L:=by
 obtain⟨T,fz,h⟩:=h;refine⟨some ⟨b,0,none⟩,c,by simp[hn],by simp;omega,hm,λ_=>⟨b,0,_,T,fz,rfl,h,λi hi=> ?_⟩⟩;simp
theorem kL.nil:kL H (.slice none 0 0) []:=⟨none,0,rfl,cV _,kE _,λh=>bM rfl h⟩
section
variable {P:Program} {C:Cx} {env:cR} {V:HV} {σ:aY} {T E t:TypeId} {x y:Operand} {dst:Option Nat} {pos:String} {af:Array Edge} {g:Option (Nat×Bool)} {v:Value} {k:IntKind} {L:List Bool}
theorem adW(h:kL V v L):In C V σ (λH=>kL H v L):=λ_ m=>Sl.mono h m.view
theorem JB{H:HV}{at_:TypeId}(hT:P.underlying at_=some (.slice E))(hx:ev env x=v)(hv:kL H v L):
  QV P C ⟨dst,.call {callee:=.builtin .len,args:= #[x],argTypes:= #[at_]},t,pos,af,g⟩ env V σ (.int .i64 L.length):=by
 obtain⟨a,c,h,_⟩:=hv;rw[fT]at h;exact AB hT hx h
theorem akX{s:Nat}{i:Int}(hT:P.underlying T=some (.slice E))(hS:eF P E s)(hx:ev env x=v)(hv:In C V σ (λH=>kL H v L))(hy:ev env y= .int k i)(h0:0≤i)
 (h1:i<L.length):QV P C ⟨dst,.indexAddr T x y,t,pos,af,g⟩ env V σ (iG v i s):=EL hT hS hx hv hy h0 MY
theorem am6{i:Int}(hP:sK P T)(hx:ev env x=iG v i 1)(hv:In C V σ (λH=>kL H v L))(h0:0≤i)(h1:i<L.length):
  QV P C ⟨dst,.load T x,t,pos,af,g⟩ env V σ (.bool (decide (gb L i=true))):=by
 have:=ND (dst:=dst) (t:=t) (pos:=pos) (af:=af) (g:=g) hP hx hv h0 MY;rw[aCQ h0 h1]at this;exact this
end
section
variable {P:Program} {C:Cx} {env:cR} {V:HV} {σ:aY} {T E E2 t:TypeId} {x y:Operand} {dst:Option Nat} {pos:String} {af:Array Edge} {g:Option (Nat×Bool)} {v:Value} {k s m:Nat} {xs:List Value}
theorem bZ.grSls{w:World}(hm:bZ C V σ w)(hk:σ[k]? =some (Gr E2 s v m xs)):aR s (hv w) v m xs:=by
 obtain⟨hs,s1,h2,h3⟩:=hm.own;obtain⟨h,e,hg⟩:=s1.get hk;exact hg.sls.mono (h3 h (List.mem_of_getElem? e)).1
theorem tE{i:Int}{kk:IntKind}(hT:P.underlying T=some (.slice E))(hS:eF P E s)(hx:ev env x=v)(hk:σ[k]? =some (Gr E2 s v m xs))(hy:ev env y= .int kk i)(h0:0≤i)(h1:i<m):
  QV P C ⟨dst,.indexAddr T x y,t,pos,af,g⟩ env V σ (iG v i s):=cS λw hm=>by
 obtain⟨b,off,cs,T',fz,c,e,_⟩:=(hm.grSls hk).at h0 h1;simp only[execOp,hx,hy,e,Instr.indexAt,asIntOf,underlying,iG];simp[hT,eT hS,h0,h1]
theorem adI{i:Int}{vs:List Value}(hA:r_ P T s)(hx:ev env x=iG v i s)(hk:σ[k]? =some (Gr E2 s v m xs))(h0:0≤i)(h1:i<m)(hs:(xs.drop (i.toNat*s)).take s=vs):QV P C ⟨dst,.load T x,t,pos,af,g⟩ env V σ (.agg vs.toArray):=ldX (o:=0) hA hx (λ_ m=>m.grSls hk) h0 h1 (by omega) hs
end
def FP(v:Value)(lo:Nat):Value:=match v with| .slice (some a) n c=>.slice (some (a.add lo)) (n-lo) (c-lo)|_=>v
theorem Sl.drop{vals:List Value}(h:Sl H v vals){n:Nat}(hn:n<vals.length):Sl H (FP v n) (vals.drop n):=by
 obtain⟨a,c,rfl,h1,h2,h3⟩:=h;obtain⟨b,off,cs,T,fz,e1,e2,e3⟩:=h3 (λe=>by subst e;simp at hn);subst e1;refine⟨some ⟨b,off+n,none⟩,c-n,by simp[FP,add_none],by simp;omega,aB,λ_=>⟨b,off+n,cs,T,fz,rfl,e2,λi hi=> ?_⟩⟩;rw[mX]at hi;rw[kO,←e3 (n+i) aB,HI]
section
variable {P:Program} {C:Cx} {N:Nat} {ops:Array Oper} {K:K3} {rest:List Oper} {env:cR} {V:HV} {σ:aY} {T E t:TypeId} {x y z:Operand} {dst:Option Nat} {d:Nat} {pos:String} {af:Array Edge} {g:Option (Nat×Bool)} {v:Value}
theorem aa_{vals:List Value}{H:HV}{kk:IntKind}{lo:Int}(hT:P.underlying T=some (.slice E))(hS:eF P E 1)(hx:ev env x=v)(hv:Sl H v vals)(hy:ev env y= .int kk lo)(h0:0≤lo)(h1:lo<vals.length):
  QV P C ⟨dst,.slice T x (some y) none none,t,pos,af,g⟩ env V σ (FP v lo.toNat):=cS λw _=>by
 obtain⟨a,c,rfl,hc,_,h3⟩:=hv;obtain⟨b,off,cs,T',fz,e1,_⟩:=h3 (λe=>by subst e;simp at h1;omega);subst e1;obtain⟨q,rfl⟩:∃q:Nat,lo=q:=⟨lo.toNat,aB⟩;have h6:q≤vals.length:=aB;have h7:¬c=q:=aB;simp only[iD,FP];simp[execOp,hx,hy,Instr.sliceAt,Instr.slice,run_underlying hT,Instr.sliceBounds,Instr.sliceBound,asIntOf,eT hS,h6,h7]
theorem LA{n:Int}{y':Nat}{z0:Value}(hT:P.underlying T=some (.slice E))(hi:TI P E z0 1 y'){k1 k2:IntKind}(hx:ev env x= .int k1 0)(hy:ev env z= .int k2 n)
  (h0:0≤n) (h1:n*y'≤281474976710656) (h2:n≤281474976710656)
  (h:∀b,d6 P C N ops K rest (Go.Vc.upd N env d (.slice (some ⟨b,0,none⟩) 0 n.toNat)) V (σ++ [Gr E 1 (.slice (some ⟨b,0,none⟩) 0 n.toNat) 0 []])):
  d6 P C N ops K (⟨some d,.makeSlice T x z,t,pos,af,none⟩::rest) env V σ:=by
 refine ai0 hT hi hx hy h0 h1 aB λb cs hcs=> ?_;refine tD (k:=σ.length) (E:=E) (b:=b) (n:=0) (cap:=n.toNat) (cs:=cs) 1 [] bK rfl (kE _) (by simp only[maxLen];omega) hcs bK ?_;rw[List.set_append_right _ _ (cV _),ED];exact h b
end
section
variable {P:Program} {C:Cx} {N:Nat} {K:K3} {Q:Ex→K3} {env:cR} {V:HV} {σ:aY}
end
section
variable {P:Program} {C:Cx} {N:Nat} {ops:Array Oper} {K:K3} {l:List Oper} {env:cR} {V:HV} {σ:aY} {v:Value} {k s m:Nat} {E2:TypeId} {xs:List Value}
end
end Go.Vc
namespace Go.Proofs.YtbchkopkgpfkgaaGreat.Dd
open Classical Go Go.Vc
variable{H:HV}{K h i l r v vars z:Int}{L:List Int}{b j o:Nat}{e:Int→Bool}{hi:Prop}{u:Value}{α:Type}{φ:Int→Int}
structure Fk where
 v:Int
 l:Int
 h:Int
theorem Fk.eq{a b:Fk}(h1:a.v=b.v)(h2:a.l=b.l)(h3:a.h=b.h):a=b:=by
 cases a;cases b;simp at h1 h2 h3;subst h1;subst h2;subst h3;rfl
instance:DecidableEq Fk:=λa b=>decidable_of_iff (a.v=b.v∧a.l=b.l∧a.h=b.h) ⟨λh=>Fk.eq h.1 h.2.1 h.2.2,λh=>by subst h;exact⟨rfl,rfl,rfl⟩⟩
structure lG where
 ok:Int→Prop
 lf:Int→Prop
 rk:Int→Int
 nd:Int→Fk
 mu:Int→Nat
def bY(vars:Int)(G:lG)(r:Int):Int:=if G.lf r then vars else(G.nd r).v
structure GRed (vars:Int) (G:lG):Prop where
 vr:∀r,G.ok r→¬G.lf r→0≤(G.nd r).v∧(G.nd r).v<vars
 ne:∀r,G.ok r→¬G.lf r→(G.nd r).l≠(G.nd r).h
 lo:∀r,G.ok r→¬G.lf r→G.ok (G.nd r).l∧G.mu (G.nd r).l<G.mu r∧(G.nd r).v<bY vars G (G.nd r).l
 hi:∀r,G.ok r→¬G.lf r→G.ok (G.nd r).h∧G.mu (G.nd r).h<G.mu r∧(G.nd r).v<bY vars G (G.nd r).h
 uq:∀r s,G.ok r→¬G.lf r→G.ok s→¬G.lf s→G.nd r=G.nd s→r=s
structure GOk (vars K:Int) (G:lG):Prop extends GRed vars G where
 kr:∀r,G.ok r→G.lf r→0≤G.rk r∧G.rk r<K
 kq:∀r s,G.ok r→G.lf r→G.ok s→G.lf s→G.rk r=G.rk s→r=s
theorem mD{G:lG}(h:G.lf r):bY vars G r=vars:=aK h
theorem m_{G:lG}(h:¬G.lf r):bY vars G r=(G.nd r).v:=aC h
section
variable {vars:Int} {G:lG} (f:GRed vars G)
include f
theorem GRed.lev_le{r:Int}(h:G.ok r):bY vars G r≤vars:=by
 by_cases h2:G.lf r;rw[mD h2];omega;rw[m_ h2];have:=f.vr r h h2;omega
theorem GRed.lev_nn{r:Int}(hv:0≤vars)(h:G.ok r):0≤bY vars G r:=by
 by_cases h2:G.lf r;rw[mD h2];exact hv;rw[m_ h2];exact(f.vr r h h2).1
theorem GRed.lev_lt{r:Int}(h:G.ok r)(h2:bY vars G r=vars):G.lf r:=by
 refine kB λq=> ?_;rw[m_ q]at h2;have:=f.vr r h q;omega
end
def GM(G:lG)(e:Int→Bool):Nat→Int→Int
 |0,r=>G.rk r
 |k+1,r=>if G.lf r then G.rk r else GM G e k (if e (G.nd r).v then(G.nd r).h else(G.nd r).l)
def cD(G:lG)(e:Int→Bool)(r:Int):Int:=GM G e (G.mu r) r
theorem fE{G:lG}(h:G.lf r):cD G e r=G.rk r:=by
 unfold cD;cases G.mu r with
 |zero=>rfl
 |succ k=>exact aK h
theorem ai5{G:lG}(f:GRed vars G)(e:Int→Bool):∀(k j:Nat) (r:Int),G.ok r→G.mu r≤k→G.mu r≤j→GM G e k r=GM G e j r:=by
 intro k;induction k with
 |zero=>
  intro j r h hk hj;have hl:G.lf r:=kB λq=>by have:=(f.lo r h q).2.1;omega
  cases j with
  |zero=>rfl
  |succ j=>exact(aK hl).symm
 |succ k ih=>
  intro j r h hk hj;by_cases hl:G.lf r;rw[show GM G e (k+1) r=G.rk r from aK hl];cases j with
  |zero=>rfl
  |succ j=>exact(aK hl).symm
  have hlo:=f.lo r h hl;have hhi:=f.hi r h hl;obtain⟨j,rfl⟩:∃q,j=q+1:=⟨j-1,aB⟩;show(if G.lf r then G.rk r else GM G e k (if e (G.nd r).v then(G.nd r).h else(G.nd r).l))=(if G.lf r then G.rk r else GM G e j (if e (G.nd r).v then(G.nd r).h else(G.nd r).l));rw[aC hl,aC hl];refine ih j _ ?_ ?_ ?_;split;exact hhi.1;exact hlo.1;split<;>omega;split<;>omega
theorem f8{G:lG}(f:GRed vars G)(h:G.ok r)(hl:¬G.lf r):cD G e r=cD G e (if e (G.nd r).v then(G.nd r).h else(G.nd r).l):=by
 have hlo:=f.lo r h hl;have hhi:=f.hi r h hl;obtain⟨k,hk⟩:∃k,G.mu r=k+1:=⟨G.mu r-1,aB⟩;unfold cD;rw[hk];show(if G.lf r then G.rk r else GM G e k (if e (G.nd r).v then(G.nd r).h else(G.nd r).l))=_;rw[aC hl];refine ai5 f e _ _ _ ?_ ?_ ?_;split;exact hhi.1;exact hlo.1;split<;>omega;split<;>omega
theorem GG{G:lG}(f:GRed vars G){e':Int→Bool}:∀(k:Nat) (r:Int),G.ok r→G.mu r≤k→(∀i,bY vars G r≤i→i<vars→e i=e' i)→cD G e r=cD G e' r
 |0,r,h,hk,he=>by
  have hl:G.lf r:=kB λq=>by have:=(f.lo r h q).2.1;omega
  rw[fE hl,fE hl]
 |k+1,r,h,hk,he=>by
  by_cases hl:G.lf r;rw[fE hl,fE hl];have hlo:=f.lo r h hl;have hhi:=f.hi r h hl;have hv:=f.vr r h hl;rw[m_ hl]at he;rw[f8 f h hl,f8 f h hl,he _ aB hv.2];refine GG f k _ ?_ ?_ λi hi=>he i ?_;split;exact hhi.1;exact hlo.1;split<;>omega;split at hi<;>omega
def up(e:Int→Bool)(v:Int)(b:Bool):Int→Bool:=λi=>if i=v then b else e i
def dF(f:(Int→Bool)→α):Nat→Int→(Int→Bool)→List α
 |0,_,e=> [f e]
 |m+1,v,e=>dF f m (v+1) (up e v false)++dF f m (v+1) (up e v true)
theorem gT(f:(Int→Bool)→α):∀(m:Nat) (v:Int) (e:Int→Bool),(dF f m v e).length=2^m
 |0,_,_=>rfl
 |m+1,v,e=>by
  show(dF f m (v+1) (up e v false)++dF f m (v+1) (up e v true)).length=_;rw[dD,gT f m,gT f m,qE];omega
theorem i8{f g:(Int→Bool)→α}:∀(m:Nat) (v:Int) (e:Int→Bool),(∀e',(∀i,i<v→e' i=e i)→f e'=g e')→dF f m v e=dF g m v e
 |0,v,e,h=>by show [f e]=[g e];rw[h e λ_ _=>rfl]
 |m+1,v,e,h=>by
  show dF f m (v+1) (up e v false)++dF f m (v+1) (up e v true)=dF g m (v+1) (up e v false)++dF g m (v+1) (up e v true);have key:∀b,dF f m (v+1) (up e v b)=dF g m (v+1) (up e v b):=λb=>i8 m (v+1) _ λe' he=>h e' λi hi=>by
   rw[he i aB];unfold up;rw[aC aB]
  rw[key,key]
theorem Q3{β:Type}(h:α→β)(f:(Int→Bool)→α):∀(m:Nat) (v:Int) (e:Int→Bool),(dF f m v e).map h=dF (λe=>h (f e)) m v e
 |0,_,_=>rfl
 |m+1,v,e=>by
  show(dF f m (v+1) (up e v false)++dF f m (v+1) (up e v true)).map h=_;rw[f_,Q3 h f m,Q3 h f m];rfl
def C5(K:Int)(O:List Fk)(p:Int):Fk:=O.getD (p-K).toNat ⟨0,0,0⟩
theorem aw5{p:Int}{O X:List Fk}(_h0:K≤p)(h:p<K+O.length):C5 K (O++X) p=C5 K O p:=by
 unfold C5;rw[bX,bX,oR aB]
theorem apO{O:List Fk}{n:Fk}:C5 K (O++ [n]) (K+O.length)=n:=by
 unfold C5;rw[show(K+(O.length:Int)-K).toNat=O.length by omega,bX,qN (cV _),ED];rfl
abbrev Ly:=List Fk×(Int→Option Int)
def bU(K:Int)(G:lG):Nat→Int→Ly→Ly×Int
 |0,_,s=>(s,0)
 |k+1,r,s=>match s.2 r with
  |some p=>(s,p)
  |none=>((((bU K G k (G.nd r).h (bU K G k (G.nd r).l s).1).1.1++ [⟨(G.nd r).v,(bU K G k (G.nd r).l s).2,(bU K G k (G.nd r).h (bU K G k (G.nd r).l s).1).2⟩]),
   cX (bU K G k (G.nd r).h (bU K G k (G.nd r).l s).1).1.2 r (K+(bU K G k (G.nd r).h (bU K G k (G.nd r).l s).1).1.1.length)),K+(bU K G k (G.nd r).h (bU K G k (G.nd r).l s).1).1.1.length)
def jQ(G:lG):Int→Option Int:=λr=>if G.ok r∧G.lf r then some (G.rk r)else none
structure wR (K:Int) (G:lG) (s:Ly):Prop where
 lf:∀r,G.ok r→G.lf r→s.2 r=some (G.rk r)
 rf:∀r p:Int,s.2 r=some p→G.ok r∧(0≤p∧p<K+s.1.length)∧(¬G.lf r↔K≤p)
 nd:∀r p:Int,¬G.lf r→s.2 r=some p→∃a b,s.2 (G.nd r).l=some a∧s.2 (G.nd r).h=some b∧a<p∧b<p∧C5 K s.1 p=⟨(G.nd r).v,a,b⟩
 inj:∀r q p:Int,s.2 r=some p→s.2 q=some p→r=q
 sur:∀p:Int,K≤p→p<K+s.1.length→∃r,s.2 r=some p
theorem nI{G:lG}{p:Int}(h:jQ G r=some p):(G.ok r∧G.lf r)∧p=G.rk r:=by
 unfold jQ at h;by_cases q:G.ok r∧G.lf r;rw[aK q]at h;simp at h;exact⟨q,h.symm⟩;rw[aC q]at h;cases h
theorem VS{G:lG}(f:GOk vars K G):wR K G ([],jQ G) where
 lf:=λr h hl=>aK ⟨h,hl⟩
 rf:=λr p h=>by
  obtain⟨⟨h1,h2⟩,rfl⟩:=nI h;have:=f.kr r h1 h2;refine⟨h1,⟨this.1,?_⟩,λq=>bM h2 q,λq=>aB⟩;show _<K+((0:Nat):Int);omega
 nd:=λr p hl h=>bM (nI h).1.2 hl
 inj:=λr q p h1 h2=>by
  obtain⟨⟨a,b⟩,e⟩:=nI h1;obtain⟨⟨c,d⟩,e2⟩:=nI h2;exact f.kq r q a b c d aB
 sur:=λp h0 h1=>by have h1:p<K+((0:Nat):Int):=h1;omega
structure OZ (K:Int) (G:lG) (r:Int) (s:Ly) (x:Ly×Int):Prop where
 inv:wR K G x.1
 at_:x.1.2 r=some x.2
 ext:∀q p:Int,s.2 q=some p→x.1.2 q=some p
 only:∀q:Int,q≠r→G.mu r≤G.mu q→x.1.2 q=s.2 q
 len:s.1.length≤x.1.1.length
theorem gK{G:lG}{k:Nat}{p:Int}{s:Ly}(h:s.2 r=some p):bU K G (k+1) r s=(s,p):=by
 unfold bU;rw[h]
theorem jX{G:lG}(f:GOk vars K G)(K0:0≤K):∀(k:Nat) (r:Int) (s:Ly),G.ok r→G.mu r<k→wR K G s→OZ K G r s (bU K G k r s)
 |0,r,s,h,hk,_=>by omega
 |k+1,r,s,h,hk,hI=>by
  cases hs:s.2 r with
  |some p=>rw[gK hs];exact⟨hI,hs,λ_ _ h=>h,λ_ _ _=>rfl,cV _⟩
  |none=>
   have h2:¬G.lf r:=λq=>by rw[hI.lf r h q]at hs;cases hs
   have hl:=f.lo r h h2;have hh:=f.hi r h h2;have A:=jX f K0 k (G.nd r).l s hl.1 aB hI;have B:=jX f K0 k (G.nd r).h (bU K G k (G.nd r).l s).1 hh.1 aB A.inv;have e:bU K G (k+1) r s=(((((bU K G k (G.nd r).h (bU K G k (G.nd r).l s).1).1.1++ [⟨(G.nd r).v,(bU K G k (G.nd r).l s).2,(bU K G k (G.nd r).h (bU K G k (G.nd r).l s).1).2⟩]),
    cX (bU K G k (G.nd r).h (bU K G k (G.nd r).l s).1).1.2 r (K+(bU K G k (G.nd r).h (bU K G k (G.nd r).l s).1).1.1.length)),K+(bU K G k (G.nd r).h (bU K G k (G.nd r).l s).1).1.1.length):Ly×Int):=by
    rw[bU,hs]
   rw[e];generalize (bU K G k (G.nd r).l s)=x at A B;generalize (bU K G k (G.nd r).h x.1)=y at B;have hat:=B.ext _ _ A.at_;have hrl:r≠(G.nd r).l:=λz=>by have:=hl.2.1;rw[←z]at this;omega
   have hrh:r≠(G.nd r).h:=λz=>by have:=hh.2.1;rw[←z]at this;omega
   have hnone:y.1.2 r=none:=by rw[B.only r hrh aB,A.only r hrl aB,hs]
   have ra:=(B.inv.rf _ _ hat).2.1;have rb:=(B.inv.rf _ _ B.at_).2.1;have hlen:(y.1.1++ [(⟨(G.nd r).v,x.2,y.2⟩:Fk)]).length=y.1.1.length+1:=bK;have oth:∀{q p:Int},y.1.2 q=some p→cX y.1.2 r (K+(y.1.1.length:Int)) q=some p:=λ{q p} hq=>by
    rw[cP];exact hq;intro e;subst e;rw[hnone]at hq;cases hq
   have cases_:∀{q p:Int},cX y.1.2 r (K+(y.1.1.length:Int)) q=some p→(q=r∧p=K+(y.1.1.length:Int))∨(q≠r∧y.1.2 q=some p):=λ{q p} hq=>by
    by_cases e:q=r;subst e;rw[dG]at hq;simp at hq;exact Or.inl ⟨rfl,hq.symm⟩;rw[cP e]at hq;exact Or.inr ⟨e,hq⟩
   refine⟨⟨λq hq hql=>oth (B.inv.lf q hq hql),λq p hq=> ?_,λq p hq2 hq=> ?_,λq q' p hq hq'=> ?_,λp hp0 hp=> ?_⟩,dG,λq p hq=>oth (B.ext _ _ (A.ext _ _ hq)),λq hne hq=> ?_,?_⟩;rcases cases_ hq with⟨rfl,rfl⟩|⟨_,hq⟩
   refine⟨h,⟨aB,?_⟩,λ_=>aB,λ_=>h2⟩;show _<K+(((y.1.1++ [(⟨(G.nd q).v,x.2,y.2⟩:Fk)]).length:Nat):Int);rw[hlen];omega;obtain⟨a,b,c⟩:=B.inv.rf q p hq;refine⟨a,⟨b.1,?_⟩,c⟩;have:=b.2;show _<K+(((y.1.1++ [(⟨(G.nd r).v,x.2,y.2⟩:Fk)]).length:Nat):Int);rw[hlen];omega;rcases cases_ hq with⟨rfl,rfl⟩|⟨_,hq⟩
   exact⟨x.2,y.2,oth hat,oth B.at_,ra.2,rb.2,apO⟩;obtain⟨a,b,c1,c2,c3,c4,c5⟩:=B.inv.nd q p hq2 hq;have hp:=(B.inv.rf q p hq);exact⟨a,b,oth c1,oth c2,c3,c4,by rw[←c5];exact aw5 (hp.2.2.1 hq2) hp.2.1.2⟩;rcases cases_ hq with⟨rfl,rfl⟩|⟨n1,hq⟩
   rcases cases_ hq' with⟨rfl,_⟩|⟨_,hq'⟩
   rfl;have:=(B.inv.rf _ _ hq').2.1.2;omega;rcases cases_ hq' with⟨e1,e2⟩|⟨_,hq2⟩
   have:=(B.inv.rf _ _ hq).2.1.2;omega;exact B.inv.inj _ _ _ hq hq2;have h1:p<K+(((y.1.1++ [(⟨(G.nd r).v,x.2,y.2⟩:Fk)]).length:Nat):Int):=hp;rw[hlen]at h1;by_cases e:p=K+(y.1.1.length:Int);exact⟨r,by rw[e];exact dG⟩;obtain⟨q,hq⟩:=B.inv.sur p hp0 aB;exact⟨q,oth hq⟩;show cX y.1.2 r _ q=_;have n1:q≠(G.nd r).l:=λz=>by have:=hl.2.1;rw[←z]at this;omega
   have n2:q≠(G.nd r).h:=λz=>by have:=hh.2.1;rw[←z]at this;omega
   rw[cP hne,B.only q n2 aB,A.only q n1 aB];have:=A.len;have:=B.len;show _≤(y.1.1++ [(⟨(G.nd r).v,x.2,y.2⟩:Fk)]).length;rw[hlen];omega
def fx(n:Fk):List Fk→Option Nat
 | []=>none
 |a::r=>if a=n then some 0 else(fx n r).map (·+1)
theorem rG{n:Fk}:∀{O:List Fk} {i:Nat},fx n O=some i→i<O.length∧O.getD i ⟨0,0,0⟩=n∧∀j:Nat,j<i→O.getD j ⟨0,0,0⟩≠n
 | [],_,h=>by cases h
 |a::r,i,h=>by
  unfold fx at h;by_cases e:a=n;rw[aK e]at h;simp at h;subst h;exact⟨by simp,by simpa using e,λj hj=>by omega⟩;rw[aC e]at h;cases hr:fx n r with
  |none=>rw[hr]at h;cases h
  |some j=>
   rw[hr]at h;simp at h;subst h;obtain⟨h1,h2,h3⟩:=rG hr;refine⟨by simpa using h1,by simpa using h2,λk hk=> ?_⟩;cases k with
   |zero=>simpa using e
   |succ k=>simpa using h3 k aB
theorem zA{n:Fk}:∀{O:List Fk},fx n O=none→∀i:Nat,i<O.length→O.getD i ⟨0,0,0⟩≠n
 | [],_,i,hi=>by simp at hi
 |a::r,h,i,hi=>by
  unfold fx at h;by_cases e:a=n;rw[aK e]at h;cases h;rw[aC e]at h;cases hr:fx n r with
  |some j=>rw[hr]at h;cases h
  |none=>
   cases i with
   |zero=>simpa using e
   |succ i=>simpa using zA hr i (by simpa using hi)
def cK(K:Int):Nat→List Fk→Int→List Int→List Fk×Int
 |0,O,_,t=>(O,t.getD 0 0)
 |m+1,O,v,t=>if(cK K m O (v+1) (t.take (2^m))).2=(cK K m (cK K m O (v+1) (t.take (2^m))).1 (v+1) (t.drop (2^m))).2 then((cK K m (cK K m O (v+1) (t.take (2^m))).1 (v+1) (t.drop (2^m))).1,(cK K m O (v+1) (t.take (2^m))).2)
  else match fx ⟨v,(cK K m O (v+1) (t.take (2^m))).2,(cK K m (cK K m O (v+1) (t.take (2^m))).1 (v+1) (t.drop (2^m))).2⟩ (cK K m (cK K m O (v+1) (t.take (2^m))).1 (v+1) (t.drop (2^m))).1 with
   |some i=>((cK K m (cK K m O (v+1) (t.take (2^m))).1 (v+1) (t.drop (2^m))).1,K+(i:Int))
   |none=>((cK K m (cK K m O (v+1) (t.take (2^m))).1 (v+1) (t.drop (2^m))).1++ [⟨v,(cK K m O (v+1) (t.take (2^m))).2,(cK K m (cK K m O (v+1) (t.take (2^m))).1 (v+1) (t.drop (2^m))).2⟩],K+((cK K m (cK K m O (v+1) (t.take (2^m))).1 (v+1) (t.drop (2^m))).1.length:Int))
theorem oO{m:Nat}{O:List Fk}{t1 t2:List Int}(h1:t1.length=2^m){A B:List Fk}{a b:Int}(ha:cK K m O (v+1) t1=(A,a))(hb:cK K m A (v+1) t2=(B,b)):
  cK K (m+1) O v (t1++t2)=if a=b then(B,a)else match fx ⟨v,a,b⟩ B with|some i=>(B,K+(i:Int))|none=>(B++ [⟨v,a,b⟩],K+(B.length:Int)):=by
 have e1:(t1++t2).take (2^m)=t1:=by rw[←h1];simp
 have e2:(t1++t2).drop (2^m)=t2:=by rw[←h1];simp
 rw[cK,e1,e2,ha];simp only[hb]
theorem vL{K:Int}:∀(m:Nat) (O:List Fk) (v:Int) (t:List Int),O.length≤(cK K m O v t).1.length∧(cK K m O v t).1.length+1≤O.length+2^m
 |0,O,v,t=>by show O.length≤O.length∧O.length+1≤O.length+1;omega
 |m+1,O,v,t=>by
  have a:=vL (K:=K) m O (v+1) (t.take (2^m));have b:=vL (K:=K) m (cK K m O (v+1) (t.take (2^m))).1 (v+1) (t.drop (2^m));have p:2^(m+1)=2^m+2^m:=by rw[qE];omega
  rw[cK];split;show _≤(cK K m (cK K m O (v+1) (t.take (2^m))).1 (v+1) (t.drop (2^m))).1.length∧(cK K m (cK K m O (v+1) (t.take (2^m))).1 (v+1) (t.drop (2^m))).1.length+1≤_;omega;split;show _≤(cK K m (cK K m O (v+1) (t.take (2^m))).1 (v+1) (t.drop (2^m))).1.length∧(cK K m (cK K m O (v+1) (t.take (2^m))).1 (v+1) (t.drop (2^m))).1.length+1≤_;omega;simp only[dD,l4,xP];omega
theorem nR{G:lG}(f:GOk vars K G)(K0:0≤K):∀(m:Nat) (v:Int) (r:Int) (s:Ly) (e:Int→Bool) (k:Nat),wR K G s→G.ok r→v=vars-m→v≤bY vars G r→G.mu r<k→
  cK K m s.1 v (dF (λe=>cD G e r) m v e)=((bU K G k r s).1.1,(bU K G k r s).2)
 |0,v,r,s,e,k,hI,hr,hv,hl,hk=>by
  have hc:=f.lev_lt hr (by have:=f.lev_le hr;omega);obtain⟨k,rfl⟩:∃j,k=j+1:=⟨k-1,aB⟩;rw[gK (hI.lf r hr hc)];show(s.1,cD G e r)=_;rw[fE hc]
 |m+1,v,r,s,e,k,hI,hr,hv,hl,hk=>by
  have V:=jX f K0 k r s hr hk hI;have h1:v+1=vars-m:=aB;obtain⟨k,rfl⟩:∃j,k=j+1:=⟨k-1,aB⟩;show cK K (m+1) s.1 v (dF _ m (v+1) (up e v false)++dF _ m (v+1) (up e v true))=_;by_cases hlt:v<bY vars G r;have A:=nR f K0 m (v+1) r s (up e v false) (k+1) hI hr h1 aB hk;have B:=nR f K0 m (v+1) r (bU K G (k+1) r s).1 (up e v true) (k+1) V.inv hr h1 aB hk;rw[gK V.at_]at B;rw[oO (gT _ _ _ _) A B,aK rfl];have hlv:bY vars G r=v:=aB;have h2:¬G.lf r:=λq=>by rw[mD q]at hlv;omega
  rw[m_ h2]at hlv;have hlo:=f.lo r hr h2;have hhi:=f.hi r hr h2;have t1:dF (λe=>cD G e r) m (v+1) (up e v false)=dF (λe=>cD G e (G.nd r).l) m (v+1) (up e v false):=i8 m _ _ λe' he=>by
   have:e' v=false:=by rw[he v aB];exact aK rfl
   show cD G e' r=_;rw[f8 f.toGRed hr h2,hlv,this];rfl
  have t2:dF (λe=>cD G e r) m (v+1) (up e v true)=dF (λe=>cD G e (G.nd r).h) m (v+1) (up e v true):=i8 m _ _ λe' he=>by
   have:e' v=true:=by rw[he v aB];exact aK rfl
   show cD G e' r=_;rw[f8 f.toGRed hr h2,hlv,this];rfl
  rw[t1,t2];cases hs:s.2 r with
  |some p=>
   obtain⟨a,b,c1,c2,c3,c4,c5⟩:=hI.nd r p h2 hs;have A:=nR f K0 m (v+1) (G.nd r).l s (up e v false) (k+1) hI hlo.1 h1 aB aB;rw[gK c1]at A;have B:=nR f K0 m (v+1) (G.nd r).h s (up e v true) (k+1) hI hhi.1 h1 aB aB;rw[gK c2]at B;rw[gK hs,oO (gT _ _ _ _) A B];have hab:a≠b:=λq=>f.ne r hr h2 (hI.inj _ _ _ c1 (q▸c2));rw[aC hab];have hp:=hI.rf r p hs;have hp2:=hp.2.2.1 h2;have hp3:=hp.2.1.2;cases hf:fx ⟨v,a,b⟩ s.1 with
   |none=>
    exact bM (by have q:=c5;rw[hlv]at q;exact q) (zA hf (p-K).toNat aB)
   |some i=>
    obtain⟨q1,q2,q3⟩:=rG hf;have hi:C5 K s.1 (K+i)=⟨v,a,b⟩:=by unfold C5;rw[show(K+(i:Int)-K).toNat=i by omega];exact q2
    obtain⟨r',hr'⟩:=hI.sur (K+i) aB aB;have hok':=(hI.rf _ _ hr').1;have hl':¬G.lf r':=(hI.rf _ _ hr').2.2.2 aB;obtain⟨a',b',d1,d2,d3,d4,d5⟩:=hI.nd r' (K+i) hl' hr';rw[hi]at d5;simp only[Fk.mk.injEq]at d5;have e1:=hI.inj _ _ _ c1 (d5.2.1▸d1);have e2:=hI.inj _ _ _ c2 (d5.2.2▸d2);have:r=r':=f.uq r r' hr h2 hok' hl' (Fk.eq UA e1 e2);subst this;rw[hs]at hr';simp at hr';show(s.1,K+(i:Int))=(s.1,p);rw[hr']
  |none=>
   have VA:=jX f K0 k (G.nd r).l s hlo.1 aB hI;have VB:=jX f K0 k (G.nd r).h (bU K G k (G.nd r).l s).1 hhi.1 aB VA.inv;have A:=nR f K0 m (v+1) (G.nd r).l s (up e v false) k hI hlo.1 h1 aB aB;have B:=nR f K0 m (v+1) (G.nd r).h (bU K G k (G.nd r).l s).1 (up e v true) k VA.inv hhi.1 h1 aB aB;have E:bU K G (k+1) r s=(((((bU K G k (G.nd r).h (bU K G k (G.nd r).l s).1).1.1++ [⟨(G.nd r).v,(bU K G k (G.nd r).l s).2,(bU K G k (G.nd r).h (bU K G k (G.nd r).l s).1).2⟩]),
    cX (bU K G k (G.nd r).h (bU K G k (G.nd r).l s).1).1.2 r (K+(bU K G k (G.nd r).h (bU K G k (G.nd r).l s).1).1.1.length)),K+(bU K G k (G.nd r).h (bU K G k (G.nd r).l s).1).1.1.length):Ly×Int):=by
    rw[bU,hs]
   rw[E,oO (gT _ _ _ _) A B];clear E A B V;generalize (bU K G k (G.nd r).l s)=x at VA VB;generalize (bU K G k (G.nd r).h x.1)=y at VB;have hat:=VB.ext _ _ VA.at_;have hab:x.2≠y.2:=λq=>f.ne r hr h2 (VB.inv.inj _ _ _ hat (by rw[q];exact VB.at_));rw[aC hab];have hrl:r≠(G.nd r).l:=λz=>by have:=hlo.2.1;rw[←z]at this;omega
   have hrh:r≠(G.nd r).h:=λz=>by have:=hhi.2.1;rw[←z]at this;omega
   have hnone:y.1.2 r=none:=by rw[VB.only r hrh aB,VA.only r hrl aB,hs]
   cases hf:fx ⟨v,x.2,y.2⟩ y.1.1 with
   |none=>rw[←hlv]
   |some i=>
    exfalso;obtain⟨q1,q2,q3⟩:=rG hf;have hi:C5 K y.1.1 (K+i)=⟨v,x.2,y.2⟩:=by unfold C5;rw[show(K+(i:Int)-K).toNat=i by omega];exact q2
    obtain⟨r',hr'⟩:=VB.inv.sur (K+i) aB aB;have hok':=(VB.inv.rf _ _ hr').1;have hl':¬G.lf r':=(VB.inv.rf _ _ hr').2.2.2 aB;obtain⟨a',b',d1,d2,d3,d4,d5⟩:=VB.inv.nd r' (K+i) hl' hr';rw[hi]at d5;simp only[Fk.mk.injEq]at d5;have e1:=VB.inv.inj _ _ _ hat (d5.2.1▸d1);have e2:=VB.inv.inj _ _ _ VB.at_ (d5.2.2▸d2);have:r=r':=f.uq r r' hr h2 hok' hl' (Fk.eq UA e1 e2);subst this;rw[hnone]at hr';cases hr'
abbrev fk(N:List Fk)(i:Int):Fk:=N.getD i.toNat ⟨0,0,0⟩
def NE(n:Fk):List Value:=[.int .i64 n.v,.int .i64 n.l,.int .i64 n.h]
def f6(N:List Fk):List Value:=N.flatMap NE
theorem vW(N:List Fk)(n:Fk):f6 (N++ [n])=f6 N++ [.int .i64 n.v,.int .i64 n.l,.int .i64 n.h]:=by simp[f6,NE]
theorem adT:∀(N:List Fk) (i:Nat),i<N.length→((f6 N).drop (i*3)).take 3=NE (N.getD i ⟨0,0,0⟩)
 | [],i,h=>by simp at h
 |a::N,0,_=>by
  show((NE a++f6 N).drop (0*3)).take 3=_;simp[NE]
 |a::N,i+1,h=>by
  have ih:=adT N i vB;show((NE a++f6 N).drop ((i+1)*3)).take 3=NE (N.getD i ⟨0,0,0⟩);rw[←ih,show(i+1)*3=(NE a).length+i*3 by simp[NE];omega,List.drop_append,EP aB];simp
theorem nX{N:List Fk}(_h0:0≤i)(h1:i<N.length):((f6 N).drop (i.toNat*3)).take 3=[.int .i64 (fk N i).v,.int .i64 (fk N i).l,.int .i64 (fk N i).h]:=adT N i.toNat aB
theorem NB{N:List Fk}(h0:0≤i)(h1:i<N.length)(ho:o<3)(hu:[Value.int .i64 (fk N i).v,.int .i64 (fk N i).l,.int .i64 (fk N i).h][o]? =some u):(f6 N)[i.toNat*3+o]? =some u:=by
 rw[←hu,←nX h0 h1,iH,aK ho,kO]
def eS(H:HV)(v:Value)(N:List Fk):Prop:=aR 3 H v N.length (f6 N)
theorem eS.mono{H':HV}{v:Value}{N:List Fk}(h:eS H v N)(s:Vc.bR H H'):eS H' v N:=aR.mono h s
theorem eS.nil:eS H (.slice none 0 0) []:=aR.nil
def fU(n:Fk):Value:=.agg #[.int .i64 n.v,.int .i64 n.l,.int .i64 n.h]
abbrev pt(b:Nat):Value:=.pointer (some ⟨b,0,none⟩)
theorem F6(b:Bool):Value.bool b=Value.bool (decide (b=true)):=by cases b<;>rfl
theorem UQ{P:Program}{C:Cx}{o:Oper}{env:cR}{V:HV}{σ:aY}{v v':Value}(e:v=v')(h:QV P C o env V σ v):QV P C o env V σ v':=e▸h
theorem aA2{a b:Fk}(h:a.v=b.v∧a.l=b.l∧a.h=b.h):a=b:=Fk.eq h.1 h.2.1 h.2.2
theorem aiM{A B:List Fk}(hl:A.length=B.length)(h:∀x:Int,0≤x→x<A.length→fk A x=fk B x):A=B:=by
 refine R5 hl λi h1 h2=> ?_;have:=h i aB aB;simp only[bX,iD,dT h1,dT h2,X8]at this;exact this
structure Mg where
 v:Int
 L:List Int
 N:List Fk
 r:Int
theorem amA{a b:Mg}(h1:a.v=b.v)(h2:a.L=b.L)(h3:a.N=b.N)(h4:a.r=b.r):a=b:=by
 cases a;cases b;simp at h1 h2 h3 h4;subst h1;subst h2;subst h3;subst h4;rfl
structure Mt (H:HV) (lv nv:Value) (A:Mg):Prop where
 l:aT .i64 H lv A.L
 n:eS H nv A.N
theorem Mt.mono{H':HV}{lv nv:Value}{A:Mg}(h:Mt H lv nv A)(s:Vc.bR H H'):Mt H' lv nv A:=⟨h.l.mono s,h.n.mono s⟩
theorem Mt.nil:Mt H (.slice none 0 0) (.slice none 0 0) ⟨v,[],[],r⟩:=⟨aT.nil,eS.nil⟩
def tp(A:Mg)(r:Int):Int:=if r<A.L.length then A.v else(fk A.N (r-A.L.length)).v
theorem FK{A:Mg}(h:r<A.L.length):tp A r=A.v:=aK h
theorem FN{A:Mg}(h:¬r<A.L.length):tp A r=(fk A.N (r-A.L.length)).v:=aC h
def tN(A:Mg)(r x:Int)(hi:Prop):Int:=if tp A r≠x then r else if hi then(fk A.N (r-A.L.length)).h else(fk A.N (r-A.L.length)).l
theorem aeT{A:Mg}{x:Int}(h:tp A r≠x):tN A r x hi=r:=aK h
theorem UJ{A:Mg}{x:Int}(h:tp A r=x)(q:hi):tN A r x hi=(fk A.N (r-A.L.length)).h:=by unfold tN;rw[aC (λe=>e h),aK q]
theorem UC{A:Mg}{x:Int}(h:tp A r=x)(q:¬hi):tN A r x hi=(fk A.N (r-A.L.length)).l:=by unfold tN;rw[aC (λe=>e h),aC q]
def gx(n:Int):List Int→Option Nat
 | []=>none
 |a::r=>if a=n then some 0 else(gx n r).map (·+1)
theorem DP{n:Int}:∀{O:List Int} {i:Nat},gx n O=some i→i<O.length∧O.getD i 0=n∧∀j:Nat,j<i→O.getD j 0≠n
 | [],_,h=>by cases h
 |a::r,i,h=>by
  unfold gx at h;by_cases e:a=n;rw[aK e]at h;simp at h;subst h;exact⟨by simp,by simpa using e,λj hj=>by omega⟩;rw[aC e]at h;cases hr:gx n r with
  |none=>rw[hr]at h;cases h
  |some j=>
   rw[hr]at h;simp at h;subst h;obtain⟨h1,h2,h3⟩:=DP hr;refine⟨by simpa using h1,by simpa using h2,λk hk=> ?_⟩;cases k with
   |zero=>simpa using e
   |succ k=>simpa using h3 k aB
theorem K4{n:Int}:∀{O:List Int},gx n O=none→∀i:Nat,i<O.length→O.getD i 0≠n
 | [],_,i,hi=>by simp at hi
 |a::r,h,i,hi=>by
  unfold gx at h;by_cases e:a=n;rw[aK e]at h;cases h;rw[aC e]at h;cases hr:gx n r with
  |some j=>rw[hr]at h;cases h
  |none=>
   cases i with
   |zero=>simpa using e
   |succ i=>simpa using K4 hr i (by simpa using hi)
theorem RF{n q:Fk}:∀(M:List Fk),fx q (M++ [n])=match fx q M with|some i=>some i|none=>if n=q then some M.length else none
 | []=>by
  show(if n=q then some 0 else(fx q []).map (·+1))=_;by_cases h:n=q;rw[aK h];show some 0=if n=q then some 0 else none;rw[aK h]
  rw[aC h];show none=if n=q then some 0 else none;rw[aC h]
 |a::M=>by
  show(if a=q then some 0 else(fx q (M++ [n])).map (·+1))=match (if a=q then some 0 else(fx q M).map (·+1))with|some i=>some i|none=>if n=q then some (a::M).length else none
  by_cases h:a=q;rw[aK h,aK h];rw[aC h,aC h,RF M];cases fx q M with
  |some i=>rfl
  |none=>
   show(if n=q then some M.length else none).map (·+1)=if n=q then some (M.length+1)else none
   by_cases h2:n=q;rw[aK h2,aK h2];rfl;rw[aC h2,aC h2];rfl
theorem ac2{n q:Int}:∀(M:List Int),gx q (M++ [n])=match gx q M with|some i=>some i|none=>if n=q then some M.length else none
 | []=>by
  show(if n=q then some 0 else(gx q []).map (·+1))=_;by_cases h:n=q;rw[aK h];show some 0=if n=q then some 0 else none;rw[aK h]
  rw[aC h];show none=if n=q then some 0 else none;rw[aC h]
 |a::M=>by
  show(if a=q then some 0 else(gx q (M++ [n])).map (·+1))=match (if a=q then some 0 else(gx q M).map (·+1))with|some i=>some i|none=>if n=q then some (a::M).length else none
  by_cases h:a=q;rw[aK h,aK h];rw[aC h,aC h,ac2 M];cases gx q M with
  |some i=>rfl
  |none=>
   show(if n=q then some M.length else none).map (·+1)=if n=q then some (M.length+1)else none
   by_cases h2:n=q;rw[aK h2,aK h2];rfl;rw[aC h2,aC h2];rfl
def gE(L:List Int):Int→Option Int:=λn=>(gx n L).map λi:Nat=>(i:Int)
def gR(N:List Fk):Fk→Option Int:=λn=>(fx n N).map λi:Nat=>(i:Int)
theorem ZC{M:List Int}{n:Int}(h:gE M n=none):cX (gE M) n (M.length:Int)=gE (M++ [n]):=by
 funext q;have hn:gx n M=none:=by unfold gE at h;simpa using h
 unfold gE;rw[ac2];by_cases e:q=n;subst e;rw[dG,hn];show _=Option.map _ (if q=q then some M.length else none);rw[aK rfl];rfl;rw[cP e];cases gx q M with
 |some i=>rfl
 |none=>show none=Option.map _ (if n=q then some M.length else none);rw[aC λz=>e z.symm];rfl
theorem aoV{M:List Fk}{n:Fk}(h:gR M n=none):cX (gR M) n (M.length:Int)=gR (M++ [n]):=by
 funext q;have hn:fx n M=none:=by unfold gR at h;simpa using h
 unfold gR;rw[RF];by_cases e:q=n;subst e;rw[dG,hn];show _=Option.map _ (if q=q then some M.length else none);rw[aK rfl];rfl;rw[cP e];cases fx q M with
 |some i=>rfl
 |none=>show none=Option.map _ (if n=q then some M.length else none);rw[aC λz=>e z.symm];rfl
def bF(z:Int):Prop:=-1099511627776≤z∧z≤1099511627776
def wd(L:List Int):Prop:=∃z∈L,¬bF z
theorem aEm:¬wd []:=λ⟨_,h,_⟩=>by cases h
theorem adJ:wd (L++ [z])↔wd L∨¬bF z:=⟨λ⟨x,hx,h⟩=>by
 rcases jW.1 hx with q|q
 exact .inl ⟨x,q,h⟩;rw[gY]at q;subst q;exact .inr h,λh=>by
 rcases h with⟨x,hx,h⟩|h
 exact⟨x,t5 _ hx,h⟩;exact⟨z,FU _ (gY.2 rfl),h⟩⟩
def eA(L:List Int)(z:Int):List Int×Int:=match gx z L with
 |some i=>(L,2*(i:Int))
 |none=>(L++ [z],2*(L.length:Int))
theorem ajH(i:(gE L z).isSome=true):eA L z=(L,2*(gE L z).getD 0):=by
 unfold eA;unfold gE at*;cases q:gx z L with
 |none=>rw[q]at i;cases i
 |some k=>rfl
theorem aaB(i:¬(gE L z).isSome=true):gE L z=none∧eA L z=(L++ [z],2*(L.length:Int)):=by
 unfold eA;unfold gE at*;cases q:gx z L with
 |none=>exact⟨rfl,rfl⟩
 |some k=>rw[q]at i;exact bM rfl i
def kT(N:List Fk)(v l h:Int):List Fk×Int:=if l=h then(N,l)else match fx ⟨v,l,h⟩ N with
 |some i=>(N,2*(i:Int)+1)
 |none=>(N++ [⟨v,l,h⟩],2*(N.length:Int)+1)
theorem mC{N:List Fk}(e:l=h):kT N v l h=(N,l):=aK e
theorem aD0{N:List Fk}(e:l≠h)(i:(gR N ⟨v,l,h⟩).isSome=true):kT N v l h=(N,2*(gR N ⟨v,l,h⟩).getD 0+1):=by
 unfold kT;rw[aC e];unfold gR at*;cases q:fx ⟨v,l,h⟩ N with
 |none=>rw[q]at i;cases i
 |some k=>rfl
theorem aAx{N:List Fk}(e:l≠h)(i:¬(gR N ⟨v,l,h⟩).isSome=true):gR N ⟨v,l,h⟩=none∧kT N v l h=(N++ [⟨v,l,h⟩],2*(N.length:Int)+1):=by
 unfold kT;rw[aC e];unfold gR at*;cases q:fx ⟨v,l,h⟩ N with
 |none=>exact⟨rfl,rfl⟩
 |some k=>rw[q]at i;exact bM rfl i
theorem QG{N:List Fk}:N.length≤(kT N v l h).1.length∧(kT N v l h).1.length≤N.length+1:=by
 unfold kT;split;exact⟨cV _,Nat.le_succ _⟩;split;exact⟨cV _,Nat.le_succ _⟩;simp
theorem tM:L.length≤(eA L z).1.length∧(eA L z).1.length≤L.length+1:=by
 unfold eA;split;exact⟨cV _,Nat.le_succ _⟩;simp
theorem aBk(L:List Int)(z:Int):0≤(gE L z).getD 0∧(gE L z).getD 0≤L.length:=by
 unfold gE;cases q:gx z L with
 |none=>exact⟨eL _,by show(0:Int)≤_;omega⟩
 |some k=>have:=(DP q).1;exact⟨by show(0:Int)≤(k:Int);omega,by show(k:Int)≤_;omega⟩
theorem aAg(N:List Fk)(n:Fk):0≤(gR N n).getD 0∧(gR N n).getD 0≤N.length:=by
 unfold gR;cases q:fx n N with
 |none=>exact⟨eL _,by show(0:Int)≤_;omega⟩
 |some k=>have:=(rG q).1;exact⟨by show(0:Int)≤(k:Int);omega,by show(k:Int)≤_;omega⟩
theorem HJ{G G':lG}(f:GRed vars G)(g:GRed vars G')(h:∀r,G.ok r→G'.ok r∧(G'.lf r↔G.lf r)∧G'.nd r=G.nd r)(φ:Int→Int)(hk:∀r,G.ok r→G.lf r→G'.rk r=φ (G.rk r))(e:Int→Bool):∀(k:Nat) (r:Int),G.ok r→G.mu r≤k→cD G' e r=φ (cD G e r)
 |0,r,hr,hm=>by
  have hl:G.lf r:=kB λq=>by have:=(f.lo r hr q).2.1;omega
  rw[fE hl,fE ((h r hr).2.1.2 hl),hk r hr hl]
 |k+1,r,hr,hm=>by
  obtain⟨a,b,c⟩:=h r hr;by_cases hl:G.lf r;rw[fE hl,fE (b.2 hl),hk r hr hl];have hlo:=f.lo r hr hl;have hhi:=f.hi r hr hl;rw[f8 f hr hl,f8 g a λq=>hl (b.1 q),c];refine HJ f g h φ hk e k _ ?_ ?_;split;exact hhi.1;exact hlo.1;split<;>omega
def bG(L:List Int)(N:List Fk)(φ:Int→Int):lG where
 ok:=λr=>0≤r∧(r%2=0→r/2<L.length)∧(r%2=1→r/2<N.length)
 lf:=λr=>r%2=0
 rk:=λr=>φ (gi L (r/2))
 nd:=λr=>fk N (r/2)
 mu:=λr=>if r%2=0 then 0 else(r/2).toNat+1
abbrev bV(L:List Int)(N:List Fk):lG:=bG L N id
structure hJ (vars:Int) (L:List Int) (N:List Fk):Prop where
 red:GRed vars (bV L N)
 nod:∀i j:Int,0≤i→i<L.length→0≤j→j<L.length→gi L i=gi L j→i=j
theorem qJ{X:List Int}(h0:0≤i)(h1:i<L.length):gi (L++X) i=gi L i:=by
 unfold gi;rw[bX,bX,oR aB]
theorem DW:gi (L++ [z]) L.length=z:=by
 unfold gi;rw[bX,iD,qN (cV _),ED];rfl
theorem AJ{N X:List Fk}(h0:0≤i)(h1:i<N.length):fk (N++X) i=fk N i:=by
 unfold fk;rw[bX,bX,oR aB]
theorem J5{N:List Fk}{n:Fk}:fk (N++ [n]) N.length=n:=by
 unfold fk;rw[bX,iD,qN (cV _),ED];rfl
theorem wS{X:List Int}{N Y:List Fk}(h:(bG L N φ).ok r):(bG (L++X) (N++Y) φ).ok r∧((bG (L++X) (N++Y) φ).lf r↔(bG L N φ).lf r)∧(r%2=1→(bG (L++X) (N++Y) φ).nd r=(bG L N φ).nd r)∧(r%2=0→(bG (L++X) (N++Y) φ).rk r=(bG L N φ).rk r):=by
 obtain⟨a,b,c⟩:=h;refine⟨⟨a,λq=> ?_,λq=> ?_⟩,Iff.rfl,λq=> ?_,λq=> ?_⟩;have:=b q;rw[dD];omega;have:=c q;rw[dD];omega;exact AJ aB (c q);show φ (gi (L++X) (r/2))=φ (gi L (r/2));rw[qJ aB (b q)]
theorem GB{X:List Int}{N Y:List Fk}(h:(bG L N φ).ok r):bY vars (bG (L++X) (N++Y) φ) r=bY vars (bG L N φ) r:=by
 have s:=wS (X:=X) (Y:=Y) h;by_cases hl:r%2=0;rw[mD (G:=bG L N φ) hl,mD (G:=bG (L++X) (N++Y) φ) hl];rw[m_ (G:=bG L N φ) hl,m_ (G:=bG (L++X) (N++Y) φ) hl,s.2.2.1 aB]
theorem NQ{X:List Int}{N Y:List Fk}(f:GRed vars (bV L N))(g:GRed vars (bV (L++X) (N++Y)))(h:(bV L N).ok r)(e:Int→Bool):cD (bV (L++X) (N++Y)) e r=cD (bV L N) e r:=by
 suffices H:∀(k:Nat) (r:Int),(bV L N).ok r→(bV L N).mu r≤k→cD (bV (L++X) (N++Y)) e r=cD (bV L N) e r from H _ r h (cV _);intro k;induction k with
 |zero=>
  intro r hr hm;have hl:r%2=0:=kB λq=>by have:=(f.lo r hr q).2.1;omega
  rw[fE (G:=bV L N) hl,fE (G:=bV (L++X) (N++Y)) hl,(wS hr).2.2.2 hl]
 |succ k ih=>
  intro r hr hm;by_cases hl:r%2=0;rw[fE (G:=bV L N) hl,fE (G:=bV (L++X) (N++Y)) hl,(wS hr).2.2.2 hl];have hlo:=f.lo r hr hl;have hhi:=f.hi r hr hl;rw[f8 f hr hl,f8 g (wS hr).1 hl,(wS hr).2.2.1 aB];have c1:(bV L N).mu (if e ((bV L N).nd r).v then((bV L N).nd r).h else((bV L N).nd r).l)≤k:=by split<;>omega
  refine ih _ ?_ c1;split;exact hhi.1;exact hlo.1
theorem yZ:hJ vars [] [] where
 red:={
  vr:=λr h hl=>by
   have h3:=h.2.2;have hl:¬r%2=0:=hl;have h3:r/2<((0:Nat):Int):=h3 aB;have:=h.1;omega
  ne:=λr h hl=>by
   have h3:=h.2.2;have hl:¬r%2=0:=hl;have h3:r/2<((0:Nat):Int):=h3 aB;have:=h.1;omega
  lo:=λr h hl=>by
   have h3:=h.2.2;have hl:¬r%2=0:=hl;have h3:r/2<((0:Nat):Int):=h3 aB;have:=h.1;omega
  hi:=λr h hl=>by
   have h3:=h.2.2;have hl:¬r%2=0:=hl;have h3:r/2<((0:Nat):Int):=h3 aB;have:=h.1;omega
  uq:=λr s h hl=>by
   have h3:=h.2.2;have hl:¬r%2=0:=hl;have h3:r/2<((0:Nat):Int):=h3 aB;have:=h.1;omega}
 nod:=λi j h0 h1=>by have h1:i<((0:Nat):Int):=h1;omega
theorem aoS{N:List Fk}(b:hJ vars L N)(hz:gx z L=none):hJ vars (L++ [z]) N:=by
 have key:∀r,(bV (L++ [z]) N).ok r→¬r%2=0→(bV L N).ok r:=λr h hl=>⟨h.1,λq=>bM q hl,h.2.2⟩;have lv:∀r,(bV L N).ok r→bY vars (bV (L++ [z]) N) r=bY vars (bV L N) r:=λr h=>by
  have:=GB (vars:=vars) (X:=[z]) (Y:=[]) (φ:=id) h;rw[kN]at this;exact this
 have up:∀r,(bV L N).ok r→(bV (L++ [z]) N).ok r:=λr h=>⟨h.1,λq=>by have:=h.2.1 q;rw[dD];omega,h.2.2⟩;refine⟨⟨λr h hl=>b.red.vr r (key r h hl) hl,λr h hl=>b.red.ne r (key r h hl) hl,λr h hl=> ?_,λr h hl=> ?_,λr s h hl h' hl'=>b.red.uq r s (key r h hl) hl (key s h' hl') hl'⟩,λi j i0 i1 j0 j1 q=> ?_⟩;have w:=b.red.lo r (key r h hl) hl;exact⟨up _ w.1,w.2.1,(lv _ w.1).symm▸w.2.2⟩;have w:=b.red.hi r (key r h hl) hl;exact⟨up _ w.1,w.2.1,(lv _ w.1).symm▸w.2.2⟩;have hlen:((L++ [z]).length:Int)=L.length+1:=bK;have hno:∀i:Int,0≤i→i<L.length→gi L i≠z:=λi a c q=>K4 hz i.toNat aB q;by_cases ei:i=L.length;by_cases ej:j=L.length;omega;rw[ei,DW,qJ j0 aB]at q;exact bM q.symm (hno j j0 aB);by_cases ej:j=L.length;rw[ej,DW,qJ i0 aB]at q;exact bM q (hno i i0 aB);rw[qJ i0 aB,qJ j0 aB]at q;exact b.nod i j i0 aB j0 aB q
structure aKa (vars:Int) (L:List Int) (N:List Fk) (z:Int) (x:List Int×Int):Prop where
 ok:hJ vars x.1 N
 ext:∃X,x.1=L++X
 rf:(bV x.1 N).ok x.2
 lf:x.2%2=0
 vl:gi x.1 (x.2/2)=z
theorem qY{N:List Fk}(b:hJ vars L N):aKa vars L N z (eA L z):=by
 unfold eA;cases q:gx z L with
 |some i=>
  obtain⟨q1,q2,q3⟩:=DP q;refine⟨b,⟨[],bK⟩,⟨by show 0≤2*(i:Int);omega,λ_=>by show 2*(i:Int)/2<(L.length:Int);omega,λw=>by have w:2*(i:Int)%2=1:=w;omega⟩,by show 2*(i:Int)%2=0;omega,?_⟩;show gi L (2*(i:Int)/2)=z;rw[show 2*(i:Int)/2=i by omega];exact q2
 |none=>
  refine⟨aoS b q,⟨[z],rfl⟩,⟨by show 0≤2*(L.length:Int);omega,λ_=>by show 2*(L.length:Int)/2<((L++ [z]).length:Int);rw[dD];show _<((L.length+1:Nat):Int);omega,λw=>by have w:2*(L.length:Int)%2=1:=w;omega⟩,by show 2*(L.length:Int)%2=0;omega,?_⟩;show gi (L++ [z]) (2*(L.length:Int)/2)=z;rw[show 2*(L.length:Int)/2=L.length by omega,DW]
theorem apZ{N:List Fk}(b:hJ vars L N)(hv:0≤v)(hv2:v<vars)(hl:(bV L N).ok l)(hh:(bV L N).ok h)(ll:v<bY vars (bV L N) l)(lh:v<bY vars (bV L N) h)(hne:l≠h)(hn:fx ⟨v,l,h⟩ N=none):hJ vars L (N++ [⟨v,l,h⟩]):=by
 have hlen:((N++ [(⟨v,l,h⟩:Fk)]).length:Int)=N.length+1:=bK;have up:∀r,(bV L N).ok r→(bV L (N++ [⟨v,l,h⟩])).ok r:=λr h=>⟨h.1,h.2.1,λq=>by have:=h.2.2 q;omega⟩;have lv:∀r,(bV L N).ok r→bY vars (bV L (N++ [⟨v,l,h⟩])) r=bY vars (bV L N) r:=λr h'=>by
  have:=GB (vars:=vars) (X:=[]) (Y:=[⟨v,l,h⟩]) (φ:=id) h';rw[kN]at this;exact this
 have old:∀r,(bV L (N++ [⟨v,l,h⟩])).ok r→¬r%2=0→r/2≠N.length→(bV L N).ok r∧(bV L (N++ [⟨v,l,h⟩])).nd r=(bV L N).nd r:=λr hr hl' hne'=>by
  have h1:r/2<((N++ [(⟨v,l,h⟩:Fk)]).length:Int):=hr.2.2 aB;have h0:=hr.1;exact⟨⟨h0,λq=>bM q hl',λ_=>aB⟩,AJ aB aB⟩
 have new:∀r:Int,r/2=N.length→(bV L (N++ [⟨v,l,h⟩])).nd r=⟨v,l,h⟩:=λr e=>by
  show fk (N++ [⟨v,l,h⟩]) (r/2)=_;rw[e,J5]
 have mu0:∀r:Int,¬r%2=0→(bV L (N++ [⟨v,l,h⟩])).mu r=(r/2).toNat+1:=λr q=>aC q;have muo:∀r:Int,(bV L N).ok r→r/2<N.length∨r%2=0:=λr q=>by
  by_cases z:r%2=0;exact .inr z;exact .inl (q.2.2 aB)
 have mu1:∀r q:Int,(bV L N).ok q→¬r%2=0→r/2=N.length→(bV L (N++ [⟨v,l,h⟩])).mu q<(bV L (N++ [⟨v,l,h⟩])).mu r:=λr q hq hr e=>by
  rw[mu0 r hr];have hq0:=hq.1;rcases muo q hq with z|z
  by_cases y:q%2=0;show(if q%2=0 then 0 else(q/2).toNat+1)<_;rw[aK y];omega;rw[mu0 q y];omega;show(if q%2=0 then 0 else(q/2).toNat+1)<_;rw[aK z];omega
 have hno:∀i:Int,0≤i→i<N.length→fk N i≠⟨v,l,h⟩:=λi a c q=>zA hn i.toNat aB q;refine⟨⟨λr hr hrl=> ?_,λr hr hrl=> ?_,λr hr hrl=> ?_,λr hr hrl=> ?_,λr s hr hrl hs hsl q=> ?_⟩,b.nod⟩;by_cases e:r/2=N.length;rw[new r e];exact⟨hv,hv2⟩;obtain⟨o1,o2⟩:=old r hr hrl e;rw[o2];exact b.red.vr r o1 hrl;by_cases e:r/2=N.length;rw[new r e];exact hne;obtain⟨o1,o2⟩:=old r hr hrl e;rw[o2];exact b.red.ne r o1 hrl;by_cases e:r/2=N.length;rw[new r e];exact⟨up _ hl,mu1 r l hl hrl e,by rw[lv l hl];exact ll⟩;obtain⟨o1,o2⟩:=old r hr hrl e;have w:=b.red.lo r o1 hrl;rw[o2];exact⟨up _ w.1,w.2.1,by rw[lv _ w.1];exact w.2.2⟩;by_cases e:r/2=N.length;rw[new r e];exact⟨up _ hh,mu1 r h hh hrl e,by rw[lv h hh];exact lh⟩;obtain⟨o1,o2⟩:=old r hr hrl e;have w:=b.red.hi r o1 hrl;rw[o2];exact⟨up _ w.1,w.2.1,by rw[lv _ w.1];exact w.2.2⟩;have hrl:¬r%2=0:=hrl;have hsl:¬s%2=0:=hsl;have hr0:=hr.1;have hs0:=hs.1;by_cases e:r/2=N.length;by_cases e':s/2=N.length;omega;obtain⟨o1,o2⟩:=old s hs hsl e';rw[new r e,o2]at q;exact bM q.symm (hno (s/2) aB (o1.2.2 aB));obtain⟨o1,o2⟩:=old r hr hrl e;by_cases e':s/2=N.length;rw[new s e',o2]at q;exact bM q (hno (r/2) aB (o1.2.2 aB));obtain⟨p1,p2⟩:=old s hs hsl e';rw[o2,p2]at q;exact b.red.uq r s o1 hrl p1 hsl q
structure aIX (vars:Int) (L:List Int) (N:List Fk) (v l h:Int) (x:List Fk×Int):Prop where
 ok:hJ vars L x.1
 ext:∃Y,x.1=N++Y
 rf:(bV L x.1).ok x.2
 lv:v≤bY vars (bV L x.1) x.2
 vl:∀e,cD (bV L x.1) e x.2=if e v then cD (bV L N) e h else cD (bV L N) e l
theorem zD{N:List Fk}(b:hJ vars L N)(hv:0≤v)(hv2:v<vars)(hl:(bV L N).ok l)(hh:(bV L N).ok h)(ll:v<bY vars (bV L N) l)(lh:v<bY vars (bV L N) h):aIX vars L N v l h (kT N v l h):=by
 by_cases e:l=h;rw[mC e];subst e;exact⟨b,⟨[],bK⟩,hl,by show v≤bY vars (bV L N) l;omega,λe=>by show cD (bV L N) e l=_;split<;>rfl⟩;unfold kT;rw[aC e];cases q:fx ⟨v,l,h⟩ N with
 |some i=>
  obtain⟨q1,q2,q3⟩:=rG q;have hi:(bV L N).nd (2*(i:Int)+1)=⟨v,l,h⟩:=by
   show fk N ((2*(i:Int)+1)/2)=_;rw[show(2*(i:Int)+1)/2=i by omega];exact q2
  have hr:(bV L N).ok (2*(i:Int)+1):=⟨aB,λw=>aB,λ_=>aB⟩;have hlf:¬(bV L N).lf (2*(i:Int)+1):=by show¬(2*(i:Int)+1)%2=0;omega
  refine⟨b,⟨[],bK⟩,hr,?_,λe=> ?_⟩;show v≤bY vars (bV L N) (2*(i:Int)+1);rw[m_ hlf,hi];exact eL _;show cD (bV L N) e (2*(i:Int)+1)=_;rw[f8 b.red hr hlf,hi];show cD (bV L N) e (if e v=true then h else l)=_;split<;>rfl
 |none=>
  have g:=apZ b hv hv2 hl hh ll lh e q;have hi:(bV L (N++ [⟨v,l,h⟩])).nd (2*(N.length:Int)+1)=⟨v,l,h⟩:=by
   show fk (N++ [⟨v,l,h⟩]) ((2*(N.length:Int)+1)/2)=_;rw[show(2*(N.length:Int)+1)/2=N.length by omega,J5]
  have hlen:((N++ [(⟨v,l,h⟩:Fk)]).length:Int)=N.length+1:=bK;have hr:(bV L (N++ [⟨v,l,h⟩])).ok (2*(N.length:Int)+1):=⟨aB,λw=>aB,λ_=>aB⟩;have hlf:¬(bV L (N++ [⟨v,l,h⟩])).lf (2*(N.length:Int)+1):=by show¬(2*(N.length:Int)+1)%2=0;omega
  have ex:∀(e:Int→Bool) (r:Int),(bV L N).ok r→cD (bV L (N++ [⟨v,l,h⟩])) e r=cD (bV L N) e r:=λe r h'=>by
   have g':GRed vars (bV (L++ []) (N++ [⟨v,l,h⟩])):=by rw[kN];exact g.red
   have:=NQ b.red g' h' e;rw[kN]at this;exact this
  refine⟨g,⟨[⟨v,l,h⟩],rfl⟩,hr,?_,λe=> ?_⟩;show v≤bY vars (bV L (N++ [⟨v,l,h⟩])) (2*(N.length:Int)+1);rw[m_ hlf,hi];exact eL _;show cD (bV L (N++ [⟨v,l,h⟩])) e (2*(N.length:Int)+1)=_;rw[f8 g.red hr hlf,hi];show cD _ e (if e v=true then h else l)=_;split;exact ex e h hh;exact ex e l hl
abbrev fH:=Int×Int×Int
abbrev kl(k:fH):List Int:=[k.1,k.2.1,k.2.2]
abbrev kg(k:fH)(i:Int):Int:=gi (kl k) i
def kv(k:fH):Value:=.agg ((kl k).map (Value.int .i64)).toArray
def m0:Mg:=⟨0,[0],[],0⟩
abbrev dm(Ds:List Mg)(i:Int):Mg:=Ds.getD i.toNat m0
theorem AK{Ds:List Mg}(h0:0≤i)(h:Ds.length≤i):dm Ds i=m0:=by
 unfold dm;rw[bX,CD aB];rfl
def mG(A:Mg):lG where
 ok:=λr=>0≤r∧r<A.L.length+A.N.length
 lf:=λr=>r<A.L.length
 rk:=λr=>gi A.L r
 nd:=λr=>fk A.N (r-A.L.length)
 mu:=λr=>(r+1-A.L.length).toNat
theorem H6{A:Mg}(h:A.v=vars):tp A r=bY vars (mG A) r:=by
 by_cases q:r<A.L.length;rw[FK q,mD (G:=mG A) q,h];rw[FN q,m_ (G:=mG A) q];rfl
theorem ajC:GRed vars (mG m0) where
 vr:=λr h hl=>bM (show r<((1:Nat):Int) by have:r<((1:Nat):Int)+((0:Nat):Int):=h.2;omega) hl
 ne:=λr h hl=>bM (show r<((1:Nat):Int) by have:r<((1:Nat):Int)+((0:Nat):Int):=h.2;omega) hl
 lo:=λr h hl=>bM (show r<((1:Nat):Int) by have:r<((1:Nat):Int)+((0:Nat):Int):=h.2;omega) hl
 hi:=λr h hl=>bM (show r<((1:Nat):Int) by have:r<((1:Nat):Int)+((0:Nat):Int):=h.2;omega) hl
 uq:=λr s h hl=>bM (show r<((1:Nat):Int) by have:r<((1:Nat):Int)+((0:Nat):Int):=h.2;omega) hl
def j7(Ds:List Mg)(k:fH):Prop:=∀i:Int,0≤i→i<3→(mG (dm Ds i)).ok (kg k i)∧(Ds.length≤i→kg k i=0)
def cU(vars:Int)(Ds:List Mg)(k:fH):Nat→Int
 |0=>vars
 |n+1=>if bY vars (mG (dm Ds n)) (kg k n)<cU vars Ds k n then bY vars (mG (dm Ds n)) (kg k n)else cU vars Ds k n
def cO(vars:Int)(Ds:List Mg)(k:fH):Int:=cU vars Ds k 3
def gF(Ds:List Mg)(F:Int→Int→Int→Int)(k:fH)(e:Int→Bool):Int:=
 F (cD (mG (dm Ds 0)) e (kg k 0)) (cD (mG (dm Ds 1)) e (kg k 1)) (cD (mG (dm Ds 2)) e (kg k 2))
structure gQ (vars:Int) (Ds:List Mg):Prop where
 v0:0≤vars
 v1:vars≤40
 le:Ds.length≤3
 red:∀i:Int,0≤i→GRed vars (mG (dm Ds i))
section
variable {vars:Int} {Ds:List Mg} {k:fH} {F:Int→Int→Int→Int}
theorem I8(n:Nat):cU vars Ds k n≤vars:=by
 induction n with
 |zero=>exact eL _
 |succ n ih=>
  show(if bY vars (mG (dm Ds n)) (kg k n)<cU vars Ds k n then bY vars (mG (dm Ds n)) (kg k n)else cU vars Ds k n)≤vars;split<;>omega
theorem YG{n i:Nat}(h:i<n):cU vars Ds k n≤bY vars (mG (dm Ds i)) (kg k i):=by
 induction n with
 |zero=>omega
 |succ n ih=>
  show(if bY vars (mG (dm Ds n)) (kg k n)<cU vars Ds k n then bY vars (mG (dm Ds n)) (kg k n)else cU vars Ds k n)≤_;by_cases e:i=n;subst e;split<;>omega;have:=ih aB;split<;>omega
theorem HO(d:gQ vars Ds)(h:j7 Ds k):∀n:Nat,n≤3→0≤cU vars Ds k n
 |0,_=>d.v0
 |n+1,hn=>by
  have a:=HO d h n aB;have b:=(d.red n aB).lev_nn d.v0 (h n aB aB).1;show 0≤if bY vars (mG (dm Ds n)) (kg k n)<cU vars Ds k n then bY vars (mG (dm Ds n)) (kg k n)else cU vars Ds k n
  split<;>omega
theorem I4:∀n:Nat,cU vars Ds k n=vars∨∃i,i<n∧cU vars Ds k n=bY vars (mG (dm Ds i)) (kg k i)
 |0=>Or.inl rfl
 |n+1=>by
  show(if bY vars (mG (dm Ds n)) (kg k n)<cU vars Ds k n then bY vars (mG (dm Ds n)) (kg k n)else cU vars Ds k n)=vars∨∃i,i<n+1∧(if bY vars (mG (dm Ds n)) (kg k n)<cU vars Ds k n then bY vars (mG (dm Ds n)) (kg k n)else cU vars Ds k n)=_;by_cases q:bY vars (mG (dm Ds n)) (kg k n)<cU vars Ds k n;rw[aK q];exact Or.inr ⟨n,aB,rfl⟩;rw[aC q];rcases I4 n with e|⟨i,hi,e⟩
  exact Or.inl e;exact Or.inr ⟨i,aB,e⟩
theorem RI(h:j7 Ds k){n:Nat}(h1:n≤3)(h2:Ds.length≤n):cU vars Ds k n=cO vars Ds k:=by
 have key:∀m:Nat,Ds.length≤m→m<3→cU vars Ds k (m+1)=cU vars Ds k m:=λm a b=>by
  have e:=(h m aB aB).2 aB;have l:bY vars (mG (dm Ds m)) (kg k m)=vars:=by rw[e,AK aB aB];exact mD (G:=mG m0) QZ
  have t:=I8 (vars:=vars) (Ds:=Ds) (k:=k) m;show(if bY vars (mG (dm Ds m)) (kg k m)<cU vars Ds k m then bY vars (mG (dm Ds m)) (kg k m)else cU vars Ds k m)=_;rw[l,aC aB]
 unfold cO;by_cases e3:n=3;rw[e3];rw[key 2 aB aB];by_cases e2:n=2;rw[e2];rw[key 1 aB aB];by_cases e1:n=1;rw[e1];rw[key 0 aB aB,show n=0 by omega]
theorem AS{i:Int}(h0:0≤i)(h1:i<3):cO vars Ds k≤bY vars (mG (dm Ds i)) (kg k i):=by
 have:=YG (vars:=vars) (Ds:=Ds) (k:=k) (n:=3) (i:=i.toNat) aB;rwa[show((i.toNat:Nat):Int)=i by omega]at this
theorem jO(d:gQ vars Ds)(h:j7 Ds k):0≤cO vars Ds k∧cO vars Ds k≤vars:=⟨HO d h 3 aB,I8 3⟩
def vw(Ds:List Mg)(k:fH)(n j:Nat):Int:=if j<n then gi (dm Ds j).L (kg k j)else 0
def vwL(Ds:List Mg)(k:fH)(n:Nat):fH:=(vw Ds k n 0,vw Ds k n 1,vw Ds k n 2)
theorem aJQ{j:Nat}:vw Ds k 0 j=0:=aC aB
theorem z_{n j:Nat}(h:j≠n):vw Ds k (n+1) j=vw Ds k n j:=by
 unfold vw;by_cases q:j<n;rw[aK q,aK aB];rw[aC q,aC aB]
theorem ZR{n:Nat}:vw Ds k (n+1) n=gi (dm Ds n).L (kg k n):=aK aB
def pI(l:fH):List Value:=[.int .i64 l.1,.int .i64 l.2.1,.int .i64 l.2.2]
theorem aoG{i:Int}(h0:0≤i)(h1:i<3):(pI (vwL Ds k i.toNat)).set (0+i.toNat) (.int .i64 (gi (dm Ds i).L (gi [k.1,k.2.1,k.2.2] i)))=pI (vwL Ds k (i+1).toNat):=by
 rcases(show i=0∨i=1∨i=2 by omega)with rfl|rfl|rfl
 show [_,_,_]=pI (vw Ds k (0+1) 0,vw Ds k (0+1) 1,vw Ds k (0+1) 2);rw[ZR,z_ (j:=1) aB,z_ (j:=2) aB];rfl;show [_,_,_]=pI (vw Ds k (1+1) 0,vw Ds k (1+1) 1,vw Ds k (1+1) 2);rw[ZR,z_ (j:=0) aB,z_ (j:=2) aB];rfl;show [_,_,_]=pI (vw Ds k (2+1) 0,vw Ds k (2+1) 1,vw Ds k (2+1) 2);rw[ZR,z_ (j:=0) aB,z_ (j:=1) aB];rfl
theorem F8(d:gQ vars Ds)(h:j7 Ds k)(ht:cO vars Ds k=vars){n:Nat}(h2:Ds.length≤n)(e:Int→Bool){j:Nat}(hj:j<3):vw Ds k n j=cD (mG (dm Ds j)) e (kg k j):=by
 have hk:=h j aB aB;have hl:=AS (vars:=vars) (Ds:=Ds) (k:=k) (i:=j) aB aB;have f:=d.red j aB;have hlf:=f.lev_lt hk.1 (by have:=f.lev_le hk.1;omega);rw[fE hlf];by_cases q:j<n;exact aK q;rw[show vw Ds k n j=0 from aC q,hk.2 aB,AK aB aB];rfl
theorem F3(d:gQ vars Ds)(h:j7 Ds k)(ht:cO vars Ds k=vars){n:Nat}(h2:Ds.length≤n)(e:Int→Bool):F (vw Ds k n 0) (vw Ds k n 1) (vw Ds k n 2)=gF Ds F k e:=by
 unfold gF;rw[F8 d h ht h2 e (j:=0) aB,F8 d h ht h2 e (j:=1) aB,F8 d h ht h2 e (j:=2) aB];rfl
def lw(Ds:List Mg)(k:fH)(tp:Int)(hi:Prop)(n j:Nat):Int:=if j<n then tN (dm Ds j) (kg k j) tp hi else 0
def HA(Ds:List Mg)(k:fH)(tp:Int)(hi:Prop)(n:Nat):fH:=(lw Ds k tp hi n 0,lw Ds k tp hi n 1,lw Ds k tp hi n 2)
theorem aoM{tp:Int}{hi:Prop}{j:Nat}:lw Ds k tp hi 0 j=0:=aC aB
theorem kY{tp:Int}{hi:Prop}{n j:Nat}(h:j≠n):lw Ds k tp hi (n+1) j=lw Ds k tp hi n j:=by
 unfold lw;by_cases q:j<n;rw[aK q,aK aB];rw[aC q,aC aB]
theorem zV{tp:Int}{hi:Prop}{n:Nat}:lw Ds k tp hi (n+1) n=tN (dm Ds n) (kg k n) tp hi:=aK aB
theorem AX{tp:Int}{hi:Prop}{i:Int}(h0:0≤i)(h1:i<3):(pI (HA Ds k tp hi i.toNat)).set (0+i.toNat) (.int .i64 (tN (dm Ds i) (gi [k.1,k.2.1,k.2.2] i) tp hi))=pI (HA Ds k tp hi (i+1).toNat):=by
 rcases(show i=0∨i=1∨i=2 by omega)with rfl|rfl|rfl
 show [_,_,_]=pI (lw Ds k tp hi (0+1) 0,lw Ds k tp hi (0+1) 1,lw Ds k tp hi (0+1) 2);rw[zV,kY (j:=1) aB,kY (j:=2) aB];rfl;show [_,_,_]=pI (lw Ds k tp hi (1+1) 0,lw Ds k tp hi (1+1) 1,lw Ds k tp hi (1+1) 2);rw[zV,kY (j:=0) aB,kY (j:=2) aB];rfl;show [_,_,_]=pI (lw Ds k tp hi (2+1) 0,lw Ds k tp hi (2+1) 1,lw Ds k tp hi (2+1) 2);rw[zV,kY (j:=0) aB,kY (j:=1) aB];rfl
def fM(vars:Int)(Ds:List Mg)(k:fH)(hi:Prop):fH:=HA Ds k (cO vars Ds k) hi Ds.length
theorem aES{A:Mg}(hv:A.v=vars)(f:GRed vars (mG A)){r x:Int}{hi:Prop}(h:(mG A).ok r)(hx:x<vars)(hl:x≤bY vars (mG A) r):(mG A).ok (tN A r x hi)∧x<bY vars (mG A) (tN A r x hi):=by
 have ht:=H6 (r:=r) hv;by_cases q:tp A r=x;have h2:¬(mG A).lf r:=λz=>by rw[mD z]at ht;omega
 have q2:=ht;rw[m_ h2]at q2;have a:=f.lo r h h2;have b:=f.hi r h h2;by_cases p:hi;rw[UJ q p];exact⟨b.1,by have:=b.2.2;show x<bY vars (mG A) ((mG A).nd r).h;omega⟩;rw[UC q p];exact⟨a.1,by have:=a.2.2;show x<bY vars (mG A) ((mG A).nd r).l;omega⟩;rw[aeT q];exact⟨h,aB⟩
theorem aDR{A:Mg}(hv:A.v=vars)(f:GRed vars (mG A)){r x:Int}{hi:Prop}(h:(mG A).ok r)(hx:x<vars)(e:Int→Bool)(he:e x=true↔hi):cD (mG A) e (tN A r x hi)=cD (mG A) e r:=by
 have ht:=H6 (r:=r) hv;by_cases q:tp A r=x;have h2:¬(mG A).lf r:=λz=>by rw[mD z]at ht;omega
 have q2:=ht;rw[m_ h2]at q2;have e1:((mG A).nd r).v=x:=aB;rw[f8 f h h2 (r:=r),e1];by_cases p:hi;rw[UJ q p,aK (he.2 p)];rfl;rw[UC q p,aC λz=>p (he.1 z)];rfl;rw[aeT q]
def uB(vars:Int)(Ds:List Mg):Prop:=∀i:Int,0≤i→i<Ds.length→(dm Ds i).v=vars
theorem PC{hi:Prop}{i:Nat}(h1:i<3):kg (fM vars Ds k hi) i=if i<Ds.length then tN (dm Ds i) (kg k i) (cO vars Ds k) hi else 0:=by
 have:i=0∨i=1∨i=2:=aB;rcases this with rfl|rfl|rfl<;>rfl
theorem sM(sv:uB vars Ds)(d:gQ vars Ds)(h:j7 Ds k)(ht:cO vars Ds k<vars)(hi:Prop):j7 Ds (fM vars Ds k hi)∧cO vars Ds k<cO vars Ds (fM vars Ds k hi):=by
 have each:∀i:Nat,i<3→(mG (dm Ds i)).ok (kg (fM vars Ds k hi) i)∧(Ds.length≤i→kg (fM vars Ds k hi) i=0)∧cO vars Ds k<bY vars (mG (dm Ds i)) (kg (fM vars Ds k hi) i):=λi hi3=>by
  have hk:=h i aB aB;rw[PC hi3];by_cases q:i<Ds.length;rw[aK q];have:=aES (sv i aB aB) (d.red i aB) (hi:=hi) hk.1 ht (AS aB aB);exact⟨this.1,λz=>aB,this.2⟩;rw[aC q];have e:=hk.2 aB;have hk1:=hk.1;rw[e]at hk1;refine⟨hk1,λz=>rfl,?_⟩;rw[AK aB aB,mD (G:=mG m0) QZ];exact ht
 refine⟨λi h0 h1=> ?_,?_⟩;have:=each i.toNat aB;rw[show((i.toNat:Nat):Int)=i by omega]at this;exact⟨this.1,λz=>this.2.1 aB⟩;rcases I4 (vars:=vars) (Ds:=Ds) (k:=fM vars Ds k hi) 3 with e|⟨i,h3,e⟩
 unfold cO at ht⊢;rw[e];exact ht;have:=(each i h3).2.2;show _<cU vars Ds (fM vars Ds k hi) 3;rw[e];exact this
theorem JW(sv:uB vars Ds)(d:gQ vars Ds)(h:j7 Ds k)(ht:cO vars Ds k<vars){hi:Prop}{e:Int→Bool}(he:e (cO vars Ds k)=true↔hi):gF Ds F (fM vars Ds k hi) e=gF Ds F k e:=by
 have each:∀i:Nat,i<3→cD (mG (dm Ds i)) e (kg (fM vars Ds k hi) i)=cD (mG (dm Ds i)) e (kg k i):=λi hi3=>by
  have hk:=h i aB aB;rw[PC hi3];by_cases q:i<Ds.length;rw[aK q];exact aDR (sv i aB aB) (d.red i aB) hk.1 ht e he;rw[aC q,hk.2 aB]
 unfold gF;have e0:cD (mG (dm Ds 0)) e (kg (fM vars Ds k hi) 0)=cD (mG (dm Ds 0)) e (kg k 0):=each 0 aB;have e1:cD (mG (dm Ds 1)) e (kg (fM vars Ds k hi) 1)=cD (mG (dm Ds 1)) e (kg k 1):=each 1 aB;have e2:cD (mG (dm Ds 2)) e (kg (fM vars Ds k hi) 2)=cD (mG (dm Ds 2)) e (kg k 2):=each 2 aB;rw[e0,e1,e2]
end
structure Std (vars:Int) (Ds:List Mg) (F:Int→Int→Int→Int) (L:List Int) (M:List Fk) (k:fH) (p:Int):Prop where
 rf:(bV L M).ok p
 lv:cO vars Ds k≤bY vars (bV L M) p
 val:∀e,cD (bV L M) e p=gF Ds F k e
structure kG (vars:Int) (Ds:List Mg) (F:Int→Int→Int→Int) (L:List Int) (M:List Fk) (Dn:fH→Option Int):Prop where
 ok:hJ vars L M
 dn:∀k p,Dn k=some p→j7 Ds k→Std vars Ds F L M k p
structure xC (vars:Int) (Ds:List Mg) (F:Int→Int→Int→Int) (k:fH) (L L':List Int) (M M':List Fk) (Dn':fH→Option Int) (p:Int):Prop where
 inv:kG vars Ds F L' M' Dn'
 ext:∃X,L'=L++X
 exn:∃Y,M'=M++Y
 std:Std vars Ds F L' M' k p
 len:M'.length+1≤M.length+2^(vars-cO vars Ds k).toNat
 lel:L'.length≤L.length+2^(vars-cO vars Ds k).toNat
 rch:∀z∈L',z∈L∨∃e,gF Ds F k e=z
section
variable {vars:Int} {Ds:List Mg} {k:fH} {F:Int→Int→Int→Int} {L:List Int} {M:List Fk} {Dn:fH→Option Int}
theorem Std.up{X:List Int}{Y:List Fk}{p:Int}(s:Std vars Ds F L M k p)(f:GRed vars (bV L M))(g:GRed vars (bV (L++X) (M++Y))):Std vars Ds F (L++X) (M++Y) k p where
 rf:=(wS s.rf).1
 lv:=by rw[GB s.rf];exact s.lv
 val:=λe=>by rw[NQ f g s.rf e];exact s.val e
theorem kG.up{X:List Int}{Y:List Fk}(c:kG vars Ds F L M Dn)(g:hJ vars (L++X) (M++Y)):kG vars Ds F (L++X) (M++Y) Dn:=⟨g,λk p h hk=>(c.dn k p h hk).up c.ok.red g.red⟩
theorem kG.set{p:Int}(c:kG vars Ds F L M Dn)(s:Std vars Ds F L M k p):kG vars Ds F L M (cX Dn k p):=⟨c.ok,λq r h hk=>by
 by_cases e:q=k;subst e;rw[dG]at h;cases h;exact s;rw[cP e]at h;exact c.dn q r h hk⟩
theorem awU:kG vars Ds F [] [] (λ_=>none):=⟨yZ,λ_ _ h=>by cases h⟩
theorem eR(n:Nat):1≤2^n:=Nat.one_le_two_pow
theorem LD{p:Int}(c:kG vars Ds F L M Dn)(hk:j7 Ds k)(h:Dn k=some p):xC vars Ds F k L L M M Dn p:=
 ⟨c,⟨[],bK⟩,⟨[],bK⟩,c.dn k p h hk,by have:=eR (vars-cO vars Ds k).toNat;omega,Nat.le_add_right _ _,λ_ h=>.inl h⟩
theorem RZ{L:List Int}{z y:Int}(h:y∈(eA L z).1):y∈L∨y=z:=by
 unfold eA at h;cases q:gx z L with
 |some i=>rw[q]at h;exact .inl h
 |none=>
  rw[q]at h;rcases jW.1 h with h|h
  exact .inl h;exact .inr (gY.1 h)
theorem am8(sv:uB vars Ds)(d:gQ vars Ds)(hk:j7 Ds k)(ht:cO vars Ds k<vars){hi:Prop}{z:Int}(h:∃e,gF Ds F (fM vars Ds k hi) e=z):∃e,gF Ds F k e=z:=by
 obtain⟨e,rfl⟩:=h;have l:=sM sv d hk ht hi;have hb:up e (cO vars Ds k) (decide hi) (cO vars Ds k)=true↔hi:=by unfold up;rw[aK rfl];simp
 refine⟨up e (cO vars Ds k) (decide hi),?_⟩;rw[←JW sv d hk ht hb];have each:∀i:Nat,i<3→cD (mG (dm Ds i)) (up e (cO vars Ds k) (decide hi)) (kg (fM vars Ds k hi) i)=cD (mG (dm Ds i)) e (kg (fM vars Ds k hi) i):=λi hi3=>
  GG (d.red i aB) _ _ (l.1 i aB aB).1 (cV _) λj hj _=>by
   have:=AS (vars:=vars) (Ds:=Ds) (k:=fM vars Ds k hi) (i:=i) aB aB;exact aC aB
 unfold gF;have e0:=each 0 aB;have e1:=each 1 aB;have e2:=each 2 aB;simp only[Int.ofNat_zero,show((0:Nat):Int)=0 from rfl,show((1:Nat):Int)=1 from rfl,show((2:Nat):Int)=2 from rfl]at e0 e1 e2;rw[e0,e1,e2]
theorem B2(c:kG vars Ds F L M Dn)(d:gQ vars Ds)(hk:j7 Ds k)(ht:cO vars Ds k=vars){n:Nat}(h2:Ds.length≤n){x:List Int×Int}
  (hx:x=eA L (F (vw Ds k n 0) (vw Ds k n 1) (vw Ds k n 2))):xC vars Ds F k L x.1 M M (cX Dn k x.2) x.2:=by
 have lo:=qY (z:=F (vw Ds k n 0) (vw Ds k n 1) (vw Ds k n 2)) c.ok;have ll:=(tM (L:=L) (z:=F (vw Ds k n 0) (vw Ds k n 1) (vw Ds k n 2))).2;rw[←hx]at lo ll;obtain⟨X,eX⟩:=lo.ext;have s:Std vars Ds F x.1 M k x.2:=⟨lo.rf,by rw[mD (G:=bV x.1 M) lo.lf];omega,λe=>by
  rw[fE (G:=bV x.1 M) lo.lf,←F3 d hk ht h2 e];exact lo.vl⟩
 have g:hJ vars (L++X) (M++ []):=by rw[←eX,kN];exact lo.ok
 have c2:=c.up g;rw[←eX,kN]at c2;have:=eR (vars-cO vars Ds k).toNat;exact⟨c2.set s,⟨X,eX⟩,⟨[],bK⟩,s,aB,aB,λy hy=>by
  rw[hx]at hy;exact(RZ hy).imp id λq=>⟨λ_=>false,by rw[q];exact(F3 d hk ht h2 _).symm⟩⟩
theorem IV{L1 L2:List Int}{M1 M2:List Fk}{D1 D2:fH→Option Int}{p1 p2:Int}{x:List Fk×Int}(sv:uB vars Ds)(d:gQ vars Ds)(hk:j7 Ds k)(ht:cO vars Ds k<vars)
  (A:xC vars Ds F (fM vars Ds k False) L L1 M M1 D1 p1) (B:xC vars Ds F (fM vars Ds k True) L1 L2 M1 M2 D2 p2) (hx:x=kT M2 (cO vars Ds k) p1 p2):xC vars Ds F k L L2 M x.1 (cX D2 k x.2) x.2:=by
 obtain⟨X1,e1⟩:=A.ext;obtain⟨X2,e2⟩:=B.ext;obtain⟨Y1,f1⟩:=A.exn;obtain⟨Y2,f2⟩:=B.exn;have l1:=sM sv d hk ht False;have l2:=sM sv d hk ht True;have mb:=jO d hk;have g2:hJ vars (L1++X2) (M1++Y2):=by rw[←e2,←f2];exact B.inv.ok
 have s1:Std vars Ds F L2 M2 (fM vars Ds k False) p1:=by rw[e2,f2];exact A.std.up A.inv.ok.red g2.red
 have n:=zD B.inv.ok mb.1 ht s1.rf B.std.rf (by have:=s1.lv;omega) (by have:=B.std.lv;omega);have nl:=(QG (N:=M2) (v:=cO vars Ds k) (l:=p1) (h:=p2)).2;rw[←hx]at n nl;obtain⟨Y3,f3⟩:=n.ext;have s:Std vars Ds F L2 x.1 k x.2:=⟨n.rf,n.lv,λe=>by
  rw[n.vl e];by_cases q:e (cO vars Ds k)=true
  ·rw[aK q,B.std.val e,JW sv d hk ht (by simp[q])]
  ·rw[aC q,s1.val e,JW sv d hk ht (by simp[q])]⟩
 have m1:2^(vars-cO vars Ds (fM vars Ds k False)).toNat≤2^((vars-cO vars Ds k).toNat-1):=oB aB (by have:=(jO d l1.1);omega);have m2:2^(vars-cO vars Ds (fM vars Ds k True)).toNat≤2^((vars-cO vars Ds k).toNat-1):=oB aB (by have:=(jO d l2.1);omega);have m3:2^(vars-cO vars Ds k).toNat=2^((vars-cO vars Ds k).toNat-1)+2^((vars-cO vars Ds k).toNat-1):=by
  conv=>lhs;rw[show(vars-cO vars Ds k).toNat=((vars-cO vars Ds k).toNat-1)+1 by omega]
  rw[qE];omega
 refine⟨?_,⟨X1++X2,by rw[e2,e1];simp⟩,⟨Y1++Y2++Y3,by rw[f3,f2,f1];simp⟩,s,?_,?_,λy hy=> ?_⟩
 ·have g3:hJ vars (L2++ []) (M2++Y3):=by rw[←f3,kN];exact n.ok
  have:=B.inv.up g3;rw[←f3,kN]at this;exact this.set s
 ·have a:=A.len
  have b:=B.len;omega
 ·have a:=A.lel
  have b:=B.lel;omega
 ·rcases B.rch y hy with q|q
  ·exact(A.rch y q).imp id λq=>am8 sv d hk ht q
  ·exact .inr (am8 sv d hk ht q)
theorem MQ{i:Int}(h0:0≤i):cU vars Ds k (i+1).toNat=if bY vars (mG (dm Ds i)) (kg k i)<cU vars Ds k i.toNat then bY vars (mG (dm Ds i)) (kg k i)else cU vars Ds k i.toNat:=by
 rw[show(i+1).toNat=i.toNat+1 by omega];show(if bY vars (mG (dm Ds (i.toNat:Int))) (kg k (i.toNat:Int))<_ then bY vars (mG (dm Ds (i.toNat:Int))) (kg k (i.toNat:Int))else _)=_;rw[show((i.toNat:Nat):Int)=i by omega]
theorem IR(sv:uB vars Ds)(d:gQ vars Ds)(hk:j7 Ds k)(ht:cO vars Ds k<vars)(hi:Prop):2^(vars-cO vars Ds (fM vars Ds k hi)).toNat+2^(vars-cO vars Ds (fM vars Ds k hi)).toNat≤2^(vars-cO vars Ds k).toNat:=by
 have l1:=sM sv d hk ht hi;have b:=jO d l1.1;have m1:2^(vars-cO vars Ds (fM vars Ds k hi)).toNat≤2^((vars-cO vars Ds k).toNat-1):=oB aB aB;have m3:2^(vars-cO vars Ds k).toNat=2^((vars-cO vars Ds k).toNat-1)+2^((vars-cO vars Ds k).toNat-1):=by
  conv=>lhs;rw[show(vars-cO vars Ds k).toNat=((vars-cO vars Ds k).toNat-1)+1 by omega]
  rw[qE];omega
 omega
theorem MJ(d:gQ vars Ds)(hk:j7 Ds k):2^(vars-cO vars Ds k).toNat≤1099511627776:=by
 have mb:=jO d hk;have h1:=d.v1;have:2^(vars-cO vars Ds k).toNat≤2^40:=oB aB aB;omega
end
def dgc(lvs nvs:List Value)(D:List Mg)(i:Nat):List Value:=[.int .i64 (dm D i).v,gv lvs i,gv nvs i,.int .i64 (dm D i).r]
def af0(lvs nvs:List Value)(D:List Mg):List Value:=(List.range D.length).flatMap (dgc lvs nvs D)
theorem SQ(f:Nat→List Value)(hf:∀i,(f i).length=4):∀n,((List.range n).flatMap f).length=n*4
 |0=>rfl
 |n+1=>by rw[sP,sV,dD,SQ f hf n];simp[hf];omega
theorem atR(f:Nat→List Value)(hf:∀i,(f i).length=4):∀n i,i<n→(((List.range n).flatMap f).drop (i*4)).take 4=f i
 |n+1,i,hi=>by
  have hl:=SQ f hf n;rw[sP,sV];by_cases e:i<n;rw[S5 aB,N4 HY];exact atR f hf n i e;have:i=n:=aB
  subst this;rw[show i*4=((List.range i).flatMap f).length by omega,List.drop_left];simp only[List.flatMap_cons,List.flatMap_nil,kN];rw[lJ (by rw[hf];exact cV _)]
theorem D0{lvs nvs:List Value}{D:List Mg}(h0:0≤i)(h1:i<D.length):((af0 lvs nvs D).drop (i.toNat*4)).take 4=[.int .i64 (dm D i).v,gv lvs i,gv nvs i,.int .i64 (dm D i).r]:=by
 unfold af0;rw[atR _ (λ_=>rfl) D.length i.toNat aB];unfold dgc;rw[show((i.toNat:Nat):Int)=i by omega]
theorem PY{lvs nvs:List Value}{D:List Mg}(h0:0≤i)(h1:i<D.length)(ho:o<4)(hu:[Value.int .i64 (dm D i).v,gv lvs i,gv nvs i,.int .i64 (dm D i).r][o]? =some u):(af0 lvs nvs D)[i.toNat*4+o]? =some u:=by
 rw[←hu,←D0 h0 h1,iH,aK ho,kO]
structure pD (H:HV) (v:Value) (lvs nvs:List Value) (D:List Mg):Prop where
 sl:aR 4 H v D.length (af0 lvs nvs D)
 at_:∀i:Int,0≤i→i<D.length→Mt H (gv lvs i) (gv nvs i) (dm D i)
theorem pD.mono{H':HV}{v:Value}{lvs nvs:List Value}{D:List Mg}(h:pD H v lvs nvs D)(s:Vc.bR H H'):pD H' v lvs nvs D:=⟨h.sl.mono s,λi a b=>(h.at_ i a b).mono s⟩
theorem pD.one{l n:Value}{A:Mg}(h:Cells H b [.int .i64 A.v,l,n,.int .i64 A.r])(hA:Mt H l n A):pD H (.slice (some ⟨b,0,none⟩) 1 1) [l] [n] [A]:=
 ⟨mP (n:=1) (c:=1) h rfl (cV _) aB,λi h0 h1=>by
  have h1:i<((1:Nat):Int):=h1;have:i=0:=aB;subst this;exact hA⟩
theorem pD.two{l n l2 n2:Value}{A B:Mg}(h:Cells H b [.int .i64 A.v,l,n,.int .i64 A.r,.int .i64 B.v,l2,n2,.int .i64 B.r])(hA:Mt H l n A)(hB:Mt H l2 n2 B):pD H (.slice (some ⟨b,0,none⟩) 2 2) [l,l2] [n,n2] [A,B]:=
 ⟨mP (n:=2) (c:=2) h rfl (cV _) aB,λi h0 h1=>by
  have h1:i<((2:Nat):Int):=h1;rcases(show i=0∨i=1 by omega)with rfl|rfl
  exact hA;exact hB⟩
theorem pD.three{l n l2 n2 l3 n3:Value}{A B C0:Mg}(h:Cells H b [.int .i64 A.v,l,n,.int .i64 A.r,.int .i64 B.v,l2,n2,.int .i64 B.r,.int .i64 C0.v,l3,n3,.int .i64 C0.r])(hA:Mt H l n A)(hB:Mt H l2 n2 B)(hC:Mt H l3 n3 C0):pD H (.slice (some ⟨b,0,none⟩) 3 3) [l,l2,l3] [n,n2,n3] [A,B,C0]:=
 ⟨mP (n:=3) (c:=3) h rfl (cV _) aB,λi h0 h1=>by
  have h1:i<((3:Nat):Int):=h1;rcases(show i=0∨i=1∨i=2 by omega)with rfl|rfl|rfl
  exact hA;exact hB;exact hC⟩
abbrev rt(Ds:List Mg):fH:=((dm Ds 0).r,(dm Ds 1).r,(dm Ds 2).r)
def rn(Ds:List Mg)(n j:Nat):Int:=if j<n then(dm Ds j).r else 0
def KV(Ds:List Mg)(n:Nat):fH:=(rn Ds n 0,rn Ds n 1,rn Ds n 2)
theorem aqH{Ds:List Mg}:rn Ds 0 j=0:=aC aB
theorem kW{Ds:List Mg}{n:Nat}(h:j≠n):rn Ds (n+1) j=rn Ds n j:=by
 unfold rn;by_cases q:j<n;rw[aK q,aK aB];rw[aC q,aC aB]
theorem AL{Ds:List Mg}{n:Nat}:rn Ds (n+1) n=(dm Ds n).r:=aK aB
theorem MD{Ds:List Mg}(h0:0≤i)(h1:i<3):(pI (KV Ds i.toNat)).set (0+i.toNat) (.int .i64 (dm Ds i).r)=pI (KV Ds (i+1).toNat):=by
 rcases(show i=0∨i=1∨i=2 by omega)with rfl|rfl|rfl
 show [_,_,_]=pI (rn Ds (0+1) 0,rn Ds (0+1) 1,rn Ds (0+1) 2);rw[AL,kW (j:=1) aB,kW (j:=2) aB];rfl;show [_,_,_]=pI (rn Ds (1+1) 0,rn Ds (1+1) 1,rn Ds (1+1) 2);rw[AL,kW (j:=0) aB,kW (j:=2) aB];rfl;show [_,_,_]=pI (rn Ds (2+1) 0,rn Ds (2+1) 1,rn Ds (2+1) 2);rw[AL,kW (j:=0) aB,kW (j:=1) aB];rfl
theorem PT{Ds:List Mg}{n:Nat}(h:Ds.length≤n):KV Ds n=rt Ds:=by
 have key:∀j:Nat,rn Ds n j=(dm Ds j).r:=λj=>by
  unfold rn;by_cases q:j<n;exact aK q;rw[aC q,AK aB aB];rfl
 show(rn Ds n 0,rn Ds n 1,rn Ds n 2)=_;rw[key 0,key 1,key 2];rfl
def IF(Ds:List Mg):Prop:=∀i:Int,0≤i→i<Ds.length→(mG (dm Ds i)).ok (dm Ds i).r
theorem ahA{Ds:List Mg}(h0:0≤i)(h1:i<3):kg (rt Ds) i=(dm Ds i).r:=by
 rcases(show i=0∨i=1∨i=2 by omega)with rfl|rfl|rfl<;>rfl
theorem VO{Ds:List Mg}(h:IF Ds):j7 Ds (rt Ds):=λi h0 h1=>by
 rw[ahA h0 h1];by_cases q:i<Ds.length;exact⟨h i h0 q,λz=>aB⟩;rw[AK h0 aB];exact⟨⟨by show(0:Int)≤0;omega,by show(0:Int)<((1:Nat):Int)+((0:Nat):Int);omega⟩,λ_=>rfl⟩
theorem XD{Ds:List Mg}{k:fH}(d:gQ vars Ds)(h:j7 Ds k)(ht:cO vars Ds k=vars)(h0:0≤i)(h1:i<3):0≤kg k i∧kg k i<(dm Ds i).L.length:=by
 have hk:=(h i h0 h1).1;have hl:=AS (vars:=vars) (Ds:=Ds) (k:=k) h0 h1;have f:=d.red i h0;exact⟨hk.1,f.lev_lt hk (by have:=f.lev_le hk;omega)⟩
def VZ(Ds:List Mg):Prop:=∀i:Int,0≤i→i<Ds.length→∀z∈(dm Ds i).L,bF z
theorem YC{Ds:List Mg}{k:fH}(d:gQ vars Ds)(h:j7 Ds k)(ht:cO vars Ds k=vars)(hr:VZ Ds){n:Nat}(hn:n≤Ds.length)(hj:j<3):bF (vw Ds k n j):=by
 unfold vw;by_cases q:j<n;rw[aK q];have hi:=XD d h ht (i:=j) aB aB;refine hr j aB aB _ ?_;unfold gi;rw[bX,dT aB];exact CP aB;rw[aC q];exact⟨aB,aB⟩
end Go.Proofs.YtbchkopkgpfkgaaGreat.Dd
end


