import Derived.Test.YtbchkopkgpfkgaaGreatQAA
set_option linter.unusedVariables false
set_option linter.unusedSimpArgs false
namespace Go.Vc
open Go.RowKit
variable{N:Nat}{a:Act}{w:World}
abbrev cR:=Nat→Value
@[reducible] noncomputable def upd (N : Nat) (e : cR) (d : Nat) (v : Value) : cR := λt => Bool.rec (motive := λ_ => Value) (e t) (Bool.rec (motive := λ_ => Value) (e t) v (Nat.ble (Nat.succ d) N)) (Nat.beq t d)
theorem adH(N:Nat)(e:cR)(d:Nat)(v:Value)(t:Nat):upd N e d v t=bif (Nat.beq t d&&Nat.blt d N)then v else e t:=by
 show Bool.rec (motive:=λ_=>Value) (e t) (Bool.rec (motive:=λ_=>Value) (e t) v (Nat.blt d N)) (Nat.beq t d)=_;cases Nat.beq t d<;>cases Nat.blt d N<;>rfl
@[reducible] noncomputable def GD (N : Nat) (e : cR) (d : Option Nat) (v : Value) : cR := match d with | some d => upd N e d v | none => e
@[reducible] def ev (e : cR) : Operand → Value
 | .tmp t=>e t
 | .const v=>v
 | .global g=>.pointer (some ⟨g,0,none⟩)
 | .func f=>.func (.func f) #[] #[]
structure Fr (N:Nat) (e:cR) (a:Act):Prop where
 defers:a.defers=[]
 size:a.tmps.size=N
 get:∀t,a.tmps.getD t undef=e t
theorem Fr.eval{e:cR}(h:Fr N e a):a.eval=ev e:=by
 funext x;cases x<;>simp[Act.eval,ev,h.get]
theorem ae8(xs:Array Value)(d:Nat)(v:Value)(t:Nat):
  (xs.setIfInBounds d v).getD t undef=bif (Nat.beq t d&&Nat.blt d xs.size)then v else xs.getD t undef:=by
 by_cases h1:t=d;subst h1;by_cases h2:t<xs.size;have hb:Nat.blt t xs.size=true:=by simp[Nat.blt_eq,h2]
 simp[Array.getD,h2,hb];have hb:Nat.blt t xs.size=false:=by
  rw[←Bool.not_eq_true,Nat.blt_eq];exact h2
 simp[Array.getD,h2,hb];have hb:Nat.beq t d=false:=by
  rw[←Bool.not_eq_true,Nat.beq_eq];exact h1
 rw[hb];simp only[Bool.false_and,cond_false,Array.getD,Array.size_setIfInBounds];by_cases h2:t<xs.size;have:d≠t:=λe=>h1 e.symm;simp[h2,this];simp[h2]
theorem Fr.put{e:cR}(h:Fr N e a)(d:Option Nat)(v:Value):Fr N (GD N e d v) (a.put d v):=by
 cases d with
 |none=>exact h
 |some d=>
  refine⟨h.defers,by simp[Act.put,h.size],λt=> ?_⟩;have hs:=h.size;subst hs;show(a.tmps.setIfInBounds d v).getD t undef=upd a.tmps.size e d v t;rw[adH,ae8,h.get]
def kK(ops:Array Oper)(e:cR)(j:Nat):Option Bool:=
 match (ops[j]?).bind (·.dst)with
 |some d=>(match e d with| .bool b=>some b|_=>none)
 |none=>none
theorem Fr.yielded{e:cR}(h:Fr N e a)(ops:Array Oper):yielded ops a.tmps=kK ops e:=by
 funext j;unfold Go.yielded kK;cases hd:(ops[j]?).bind (·.dst)with
 |none=>rfl
 |some d=>
  simp only[Option.bind_some];have:=h.get d;by_cases hl:d<a.tmps.size;rw[wC hl];simp only[Array.getD,hl,dite_true]at this;have e2:a.tmps[d]=e d:=this;rw[e2];cases e d<;>rfl;rw[Array.getElem?_eq_none (Nat.le_of_not_lt hl)];simp only[Array.getD,hl,dite_false]at this;rw[←this];rfl
abbrev HV:=Nat→Option Obj
def hv(w:World):HV:=λb=>w.heap[b]?
def bR(g h:HV):Prop:=∀b o,g b=some o→h b=some o
def kP(g h:HV):Prop:=∀b,g b=none∨h b=none
abbrev fB:=HV→Prop
abbrev aY:=List fB
def one(b:Nat)(o:Obj):HV:=λc=>if c=b then some o else none
def pQ(g h:HV):HV:=λb=>match g b with|some o=>some o|none=>h b
theorem bR.refl(g:HV):bR g g:=λ_ _ h=>h
theorem bR.trans{f g h:HV}(h1:bR f g)(h2:bR g h):bR f h:=λb o hb=>h2 b o (h1 b o hb)
theorem kP.symm{g h:HV}(d:kP g h):kP h g:=λb=>(d b).symm
theorem iP(g h:HV):bR g (pQ g h):=λb o hb=>by simp[pQ,hb]
theorem jU{g h:HV}(d:kP g h):bR h (pQ g h):=λb o hb=>by
 rcases d b with e|e
 simp[pQ,e,hb];rw[e]at hb;cases hb
theorem aaS{g h k:HV}(h1:bR g k)(h2:bR h k):bR (pQ g h) k:=λb o hb=>by
 unfold pQ at hb;cases e:g b with
 |some o'=>simp only[e]at hb;cases hb;exact h1 _ _ e
 |none=>simp only[e]at hb;exact h2 _ _ hb
theorem jD{b:Nat}{o:Obj}(h:hv w b=some o):b<w.heap.size:=by
 unfold hv at h;rcases Nat.lt_or_ge b w.heap.size with h1|h1
 exact h1;rw[Array.getElem?_eq_none h1]at h;cases h
def nO:aY→List HV→Prop
 | [],[]=>True
 |A::σ,h::hs=>A h∧nO σ hs
 |_,_=>False
def iR(hs:List HV):Nat→Prop:=λb=>∃h∈hs,h b≠none
structure Cx where
 w0:World
 V0:HV
 D:Nat→Prop
structure bZ (C:Cx) (V:HV) (σ:aY) (w:World):Prop where
 os:w.os=C.w0.os
 tape:w.tape=C.w0.tape
 output:w.output=C.w0.output
 dr:C.w0.drawn≤w.drawn
 size:C.w0.heap.size≤w.heap.size
 frame:∀b,b<C.w0.heap.size→¬C.D b→w.heap[b]? =C.w0.heap[b]?
 sub:bR C.V0 V
 view:bR V (hv w)
 vold:∀b,b<C.w0.heap.size→¬C.D b→V b=C.V0 b
 own:∃hs,nO σ hs∧hs.Pairwise kP∧∀h∈hs,bR h (hv w)∧kP h V∧∀b,b<C.w0.heap.size→h b≠none→C.D b
theorem bZ.drawn{C:Cx}{V:HV}{σ:aY}(m:bZ C V σ w)(n:Nat)(hn:w.drawn≤n:=by first|exact Nat.le_succ _|exact Nat.le_add_right _ _):bZ C V σ {w with drawn:=n}:=
 ⟨m.os,m.tape,m.output,EU m.dr hn,m.size,m.frame,m.sub,m.view,m.vold,m.own⟩
structure kA (w w':World):Prop extends Below w.heap.size w w' where
 dr:w.drawn≤w'.drawn
theorem kA.refl(w:World):kA w w:=⟨Below.refl _ _,cV _⟩
theorem kA.hv{w':World}(h:kA w w'):bR (hv w) (hv w'):=λb o hb=>by
 have:=h.block b (jD hb);unfold Go.Vc.hv at*;rw[this];exact hb
theorem kA.trans{a b c:World}(h:kA a b)(k:kA b c):kA a c:=⟨Below.trans h.toBelow (Below.mono k.toBelow h.size),EU h.dr k.dr⟩
theorem bZ.ext{C:Cx}{V:HV}{σ:aY}{w':World}(m:bZ C V σ w)(h:kA w w'):bZ C V σ w':=by
 obtain⟨hs,h1,h2,h3⟩:=m.own;refine⟨h.os.trans m.os,h.tape.trans m.tape,h.output.trans m.output,EU m.dr h.dr,EU m.size h.size,λb hb hd=> ?_,m.sub,m.view.trans h.hv,m.vold,
  hs,h1,h2,λx hx=>⟨(h3 x hx).1.trans h.hv,(h3 x hx).2⟩⟩
 rw[h.block b (Nat.lt_of_lt_of_le hb m.size)];exact m.frame b hb hd
inductive Ex where
 |exit (id:Nat)
 |goto (l:Nat)
 |ret
abbrev K3:=cR→HV→aY→Prop
def pR(C:Cx)(N:Nat)(K:K3)(Q:Ex→K3):Exit→Act→World→Prop:=λe a w=>
 ∃env V σ,Fr N env a∧bZ C V σ w∧match e with
  | .normal=>K env V σ
  | .exit id=>Q (.exit id) env V σ
  | .goto l=>Q (.goto l) env V σ
  | .ret=>Q .ret env V σ
  |_=>False
def VC(P:Program)(C:Cx)(N:Nat)(c:Code)(K:K3)(Q:Ex→K3)(env:cR)(V:HV)(σ:aY):Prop:=
 ∀a w,Fr N env a→bZ C V σ w→c.wp P (pR C N K Q) a w
section
variable {P:Program} {C:Cx} {N:Nat} {K:K3} {Q:Ex→K3} {env:cR} {V:HV} {σ:aY}
theorem axP(h:K env V σ):VC P C N .skip K Q env V σ:=λ_ _ hf hm=>wp_skip ⟨_,_,_,hf,hm,h⟩
theorem ay5{id:Nat}(h:Q (.exit id) env V σ):VC P C N (.exit id) K Q env V σ:=λ_ _ hf hm=>wp_exit ⟨_,_,_,hf,hm,h⟩
theorem aDp(h:Q .ret env V σ):VC P C N .ret K Q env V σ:=λ_ _ hf hm=>wp_ret ⟨_,_,_,hf,hm,h⟩
theorem aEc{x y:Code}(h:VC P C N x (λe V σ=>VC P C N y K Q e V σ) Q env V σ):VC P C N (.seq x y) K Q env V σ:=λa w hf hm=>by
 refine wp_seq (wp_mono (h a w hf hm) ?_);rintro e a' w' ⟨env',V',σ',hf',hm',hh⟩;cases e with
 |normal=>exact hh _ _ hf' hm'
 |exit id=>exact⟨env',V',σ',hf',hm',hh⟩
 |goto l=>exact⟨env',V',σ',hf',hm',hh⟩
 |ret=>exact⟨env',V',σ',hf',hm',hh⟩
 |panic ch=>exact hh.elim
 |outgrown=>exact hh.elim
theorem f5{c:Code}{K':K3}{Q':Ex→K3}(h:VC P C N c K Q env V σ)(hk:∀e V σ,K e V σ→K' e V σ)(hq:∀x e V σ,Q x e V σ→Q' x e V σ):
  VC P C N c K' Q' env V σ:=λa w hf hm=>by
 refine wp_mono (h a w hf hm) ?_;rintro e a' w' ⟨env',V',σ',hf',hm',hh⟩;refine⟨env',V',σ',hf',hm',?_⟩;cases e<;>first|exact hk _ _ _ hh|exact hq _ _ _ _ hh|exact hh
theorem QR{c:Operand}{x y:Code}{t:Bool}(hc:ev env c= .bool t)(ht:t=true→VC P C N x K Q env V σ)(hf:t=false→VC P C N y K Q env V σ):
  VC P C N (.cond c x y) K Q env V σ:=λa w hfr hm=>by
 refine wp_cond_split (t:=t) (by rw[hfr.eval];exact hc) (λh=>ht h a w hfr hm) (λh=>hf h a w hfr hm)
def AW(id:Nat)(K:K3)(Q:Ex→K3):Ex→K3
 | .exit id'=>if id'=id then K else Q (.exit id')
 |e=>Q e
theorem ah_{id:Nat}(h:K env V σ):AW id K Q (.exit id) env V σ:=by simp only[AW,if_true];exact h
theorem aa6{id id':Nat}(hn:Nat.beq id' id=false)(h:Q (.exit id') env V σ):AW id K Q (.exit id') env V σ:=by
 have:id'≠id:=λe=>by rw[←Nat.beq_eq]at e;rw[hn]at e;cases e
 simp only[AW,this,if_false];exact h
theorem aeA{id:Nat}(h:Q .ret env V σ):AW id K Q .ret env V σ:=h
theorem aq9{id:Nat}{c:Code}(h:VC P C N c K (AW id K Q) env V σ):VC P C N (.block id c) K Q env V σ:=λa w hf hm=>by
 refine wp_block (wp_mono (h a w hf hm) ?_);rintro e a' w' ⟨env',V',σ',hf',hm',hh⟩;cases e with
 |normal=>exact⟨env',V',σ',hf',hm',hh⟩
 |exit id'=>
  simp only[AW]at hh;by_cases h1:id'=id;simp only[h1,if_true]at hh;simp only[Exit.inBlock,h1,if_true];exact⟨env',V',σ',hf',hm',hh⟩;simp only[h1,if_false]at hh;simp only[Exit.inBlock,h1,if_false];exact⟨env',V',σ',hf',hm',hh⟩
 |goto l=>exact⟨env',V',σ',hf',hm',hh⟩
 |ret=>exact⟨env',V',σ',hf',hm',hh⟩
 |panic ch=>exact hh.elim
 |outgrown=>exact hh.elim
@[reducible] noncomputable def dN (N : Nat) : List (Nat × Value) → cR → cR
 | [],e=>e
 |(t,v)::r,e=>upd N (dN N r e) t v
def bT(e:cR):List (Nat×Value)→Prop
 | []=>True
 |(t,v)::r=>e t=v∧bT e r
theorem ayW{N:Nat}{e:cR}{t:Nat}{v:Value}(h:e t=v):upd N e t v=e:=by
 funext s;rw[adH];cases hb:(Nat.beq s t&&Nat.blt t N)with
 |false=>rfl
 |true=>
  simp only[Bool.and_eq_true,Nat.beq_eq]at hb;simp only[cond_true];rw[hb.1,h]
theorem F7{N:Nat}{e:cR}:∀{l:List (Nat×Value)},bT e l→dN N l e=e
 | [],_=>rfl
 |(t,v)::r,h=>by
  show upd N (dN N r e) t v=e;rw[F7 h.2];exact ayW h.1
theorem axC{α:Type}{c:Code}(S:α→List (Nat×Value))(I:α→HV→aY→Prop)(μ:α→Nat)(x0:α)(hs:bT env (S x0))(h0:I x0 V σ)
  (round:∀x e V σ,I x V σ→VC P C N c (λe' V' σ'=>∃x',bT e' (S x')∧I x' V' σ'∧μ x'<μ x) Q (dN N (S x) e) V σ):VC P C N (.loop c) K Q env V σ:=λa w hf hm=>by
 refine wp_loop_ghost (λn a w=>∃x env V σ,μ x=n∧bT env (S x)∧I x V σ∧Fr N env a∧bZ C V σ w) (μ x0) ⟨x0,env,V,σ,rfl,hs,h0,hf,hm⟩ ?_;rintro n a w ⟨x,env,V,σ,rfl,hs,hI,hf,hm⟩;have hr:=round x env V σ hI;rw[F7 hs]at hr;refine wp_mono (hr a w hf hm) ?_;rintro e a' w' ⟨env',V',σ',hf',hm',hh⟩;cases e with
 |normal=>
  obtain⟨x',hs',hI',hlt⟩:=hh;exact⟨μ x',hlt,x',env',V',σ',rfl,hs',hI',hf',hm'⟩
 |exit id=>exact⟨env',V',σ',hf',hm',hh⟩
 |goto l=>exact⟨env',V',σ',hf',hm',hh⟩
 |ret=>exact⟨env',V',σ',hf',hm',hh⟩
 |panic ch=>exact hh.elim
 |outgrown=>exact hh.elim
theorem JI{α:Type}{c:Code}(S:α→List (Nat×Value))(I:α→HV→aY→Prop)
  (h:VC P C N c (λe V σ=>∃x,bT e (S x)∧I x V σ) Q env V σ) (k:∀x e V σ,I x V σ→K (dN N (S x) e) V σ):VC P C N c K Q env V σ:=
 f5 h (λe V σ ⟨x,hs,hI⟩=>by have:=k x e V σ hI;rwa[F7 hs]at this) (λ_ _ _ _ h=>h)
end
def dE(o:Oper)(ops:Array Oper)(e:cR):Bool:=Region.wanted o (kK ops e)
theorem tS{o:Oper}{ops:Array Oper}{e:cR}(h:o.guard=none):dE o ops e=true:=by simp[dE,Region.wanted,h]
def QV(P:Program)(C:Cx)(o:Oper)(env:cR)(V:HV)(σ:aY)(v:Value):Prop:=
 ∀w,bZ C V σ w→Oper.quietUpon P (λw'=>bZ C V σ w'∧kA w w') w v ((execOp (ev env) o).run P w)
theorem o8{P:Program}{A B:World→Prop}{v:Value}{r:Result Next}(h:∀w,A w→B w)(q:Oper.quietUpon P A w v r):Oper.quietUpon P B w v r:=by
 cases r with
 |ok n w'=>
  cases n<;>simp only[Oper.quietUpon]at q⊢;case value u=>exact q
  case skip=>exact q
  case enter f args=>exact⟨q.1,q.2.mono λ_ _ ⟨h1,h2⟩=>⟨h1,h _ h2⟩⟩
 |halt x w'=>exact q
def d6(P:Program)(C:Cx)(N:Nat)(ops:Array Oper)(K:K3)(l:List Oper)(env:cR)(V:HV)(σ:aY):Prop:=
 ∀a w,Fr N env a→bZ C V σ w→wpList P ops (pR C N K (λ_ _ _ _=>False)) l a w
def vV(P:Program)(C:Cx)(N:Nat)(ops:Array Oper)(V:HV)(σ:aY)(K:cR→Prop)(l:List Oper)(env:cR):Prop:=
 ∀a,Fr N env a→wpQuiet P ops (bZ C V σ) (λa'=>∃env',Fr N env' a'∧K env') l a
section
variable {P:Program} {C:Cx} {N:Nat} {K:K3} {Q:Ex→K3} {env:cR} {V:HV} {σ:aY} {ops:Array Oper} {rest:List Oper} {o:Oper} {v:Value}
theorem cL(h:K env V σ):d6 P C N ops K [] env V σ:=λ_ _ hf hm=>wpList_nil ⟨_,_,_,hf,hm,h⟩
theorem asA(hq:QV P C o env V σ v)(hw:dE o ops env=true)(h:d6 P C N ops K rest (GD N env o.dst v) V σ):d6 P C N ops K (o::rest) env V σ:=λa w hf hm=>by
 refine wpList_step λK' hK'=> ?_;rw[hf.yielded,aK (show Region.wanted o (kK ops env)=true from hw)];refine Oper.wp_of_quiet (C:=bZ C V σ) (K:=λa'=>a'=a.put o.dst v) hm (λa' w' hm' e=> ?_) ⟨v,λw' hm'=> ?_,rfl⟩;subst e;exact hK' _ _ (h _ _ (hf.put _ _) hm');unfold Oper.quietAt;rw[hf.eval];exact o8 (λ_ h=>h.1) (hq w' hm')
theorem aqR(hw:dE o ops env=false)(h:d6 P C N ops K rest (GD N env o.dst undef) V σ):d6 P C N ops K (o::rest) env V σ:=λa w hf hm=>by
 refine wpList_step λK' hK'=> ?_;rw[hf.yielded,aC awP];exact hK' _ _ (h _ _ (hf.put _ _) hm)
theorem apL{K:cR→Prop}(h:K env):vV P C N ops V σ K [] env:=λ_ hf=>wpQuiet_nil ⟨_,hf,h⟩
theorem ajK{K:cR→Prop}(hq:QV P C o env V σ v)(hw:dE o ops env=true)(h:vV P C N ops V σ K rest (GD N env o.dst v)):vV P C N ops V σ K (o::rest) env:=λa hf=>by
 refine wpQuiet_step λK' hK'=> ?_;rw[hf.yielded,aK (show Region.wanted o (kK ops env)=true from hw)];refine⟨v,λw' hm'=> ?_,hK' _ (h _ (hf.put _ _))⟩;unfold Oper.quietAt;rw[hf.eval];exact o8 (λ_ h=>h.1) (hq w' hm')
theorem akR{K:cR→Prop}(hw:dE o ops env=false)(h:vV P C N ops V σ K rest (GD N env o.dst undef)):vV P C N ops V σ K (o::rest) env:=λa hf=>by
 refine wpQuiet_step λK' hK'=> ?_;rw[hf.yielded,aC awP];exact hK' _ (h _ (hf.put _ _))
theorem B1{CC:World→Prop}{A B:Act→Prop}(h:∀a,A a→B a):∀(l:List Oper) (a:Act),wpQuiet P ops CC A l a→wpQuiet P ops CC B l a
 | [],a,hh=>h a hh
 |o::l,a,hh=>by
  simp only[wpQuiet]at hh⊢;split;rename_i hw;rw[aK hw]at hh;exact Oper.quiet_mono (λa=>B1 h l a) hh;rename_i hw;rw[aC hw]at hh;exact B1 h l _ hh
theorem ajG{id:Nat}{l:List Oper}(h:d6 P C N l.toArray K l env V σ):VC P C N (.region id l.toArray false) K Q env V σ:=λa w hf hm=>by
 refine wp_mono (wp_region_lit (h a w hf hm)) ?_;rintro e a' w' ⟨env',V',σ',hf',hm',hh⟩;refine⟨env',V',σ',hf',hm',?_⟩;cases e<;>first|exact hh|exact hh.elim
theorem U2{id:Nat}{l:List Oper}(hm:P.follows .mixedOrders=true)(hB:Region.lexB .any l.toArray=true)
  (h:vV P C N l.toArray V σ (λe=>K e V σ) l env):VC P C N (.region id l.toArray true) K Q env V σ:=λa w hf hmm=>by
 refine wp_region_quiet (C:=bZ C V σ) hm hB (hmm.drawn _) ?_;have h':=h a hf;simp only at h'⊢;refine B1 ?_ _ _ h';rintro a' ⟨env',hf',hk⟩ w' hm';exact⟨env',V,σ,hf',hm',hk⟩
end
end Go.Vc
namespace Go.Vc
open Go.RowKit
variable{N:Nat}{P:Program}{V0:HV}{args:List Value}{f:FuncId}
theorem nO.append:∀{σ τ:aY} {hs ks:List HV},nO σ hs→nO τ ks→nO (σ++τ) (hs++ks)
 | [],_,[],_,_,h2=>h2
 |_::_,_,_::_,_,h1,h2=>⟨h1.1,h1.2.append h2⟩
 | [],_,_::_,_,h1,_=>h1.elim
 |_::_,_,[],_,h1,_=>h1.elim
theorem nO.split:∀{σ τ:aY} {hs:List HV},nO (σ++τ) hs→∃a b,hs=a++b∧nO σ a∧nO τ b
 | [],_,hs,h=>⟨[],hs,rfl,trivial,h⟩
 |_::σ,τ,x::hs,h=>by
  obtain⟨a,b,e,h1,h2⟩:=nO.split (σ:=σ) (τ:=τ) h.2;exact⟨x::a,b,by rw[e];rfl,⟨h.1,h1⟩,h2⟩
 |_::_,_,[],h=>h.elim
theorem nO.perm{σ τ:aY}(p:σ.Perm τ):∀{hs:List HV},nO σ hs→∃ks,hs.Perm ks∧nO τ ks:=by
 induction p with
 |nil=>intro hs h;exact⟨hs,.refl _,h⟩
 |cons A _ ih=>
  intro hs h;match hs,h with
  |x::hs,h=>
   obtain⟨ks,p,h2⟩:=ih h.2;exact⟨x::ks,p.cons x,h.1,h2⟩
 |swap A B l=>
  intro hs h;match hs,h with
  |x::y::hs,h=>exact⟨y::x::hs,.swap _ _ _,h.2.1,h.1,h.2.2⟩
 |trans _ _ ih1 ih2=>
  intro hs h;obtain⟨k1,p1,h1⟩:=ih1 h;obtain⟨k2,p2,h2⟩:=ih2 h1;exact⟨k2,p1.trans p2,h2⟩
theorem U1{hs ks:List HV}(p:hs.Perm ks)(h:hs.Pairwise kP):ks.Pairwise kP:=
 (p.pairwise_iff (λd=>d.symm)).1 h
theorem bZ.perm{C:Cx}{V:HV}{σ τ:aY}{w:World}(m:bZ C V σ w)(p:σ.Perm τ):bZ C V τ w:=by
 obtain⟨hs,h1,h2,h3⟩:=m.own;obtain⟨ks,q,h4⟩:=h1.perm p;exact⟨m.os,m.tape,m.output,m.dr,m.size,m.frame,m.sub,m.view,m.vold,ks,h4,U1 q h2,λh hh=>h3 h (q.mem_iff.2 hh)⟩
def ZP(P:Program)(f:FuncId):Prop:=∃fn,P.funcs[f]? =some fn∧(fn.name== "runtime.NumGoroutine")=false∧fn.body.isNone=false
structure aP (P:Program) (f:FuncId) (args:List Value) (V0:HV) (σ0:aY) (Φ:Value→HV→aY→Prop):Prop where
 ok:ZP P f
 run:∀w0 hs0,nO σ0 hs0→hs0.Pairwise kP→bR V0 (hv w0)→(∀h∈hs0,bR h (hv w0)∧kP h V0)→
  Calls P f args.toArray w0 λe w'=>∃v V' σ',e= .returned v∧Φ v V' σ'∧bZ ⟨w0,V0,iR hs0⟩ V' σ' w'
theorem aP.mono{σ0:aY}{Φ Ψ:Value→HV→aY→Prop}(h:aP P f args V0 σ0 Φ)
  (hm:∀v V σ,bR V0 V→Φ v V σ→Ψ v V σ):aP P f args V0 σ0 Ψ:=
 ⟨h.ok,λw0 hs0 h1 h2 h3 h4=>(h.run w0 hs0 h1 h2 h3 h4).mono λ_ _ ⟨v,V',σ',h5,h6,h7⟩=>⟨v,V',σ',h5,hm _ _ _ h7.sub h6,h7⟩⟩
def oS(rs:Array ResultVar)(env:cR):Sem Value:=do
 let vs←rs.mapM fun
  | .tmp t=>pure (env t)
  | .cell a t=>do loadVar t (←asAddr (env a))
 pure (if h:vs.size=1 then vs[0]else .tuple vs)
theorem Fr.results{e:cR}{a:Act}(h:Fr N e a)(fn:Func):Go.results fn a.tmps=oS fn.results e:=by
 unfold Go.results oS;simp only[h.get];rfl
def aGJ(P:Program)(C:Cx)(rs:Array ResultVar)(env:cR)(V:HV)(σ:aY)(v:Value):Prop:=∀w,bZ C V σ w→(oS rs env).run P w= .ok v w
def LI(P:Program)(C:Cx)(rs:Array ResultVar)(Φ:Value→HV→aY→Prop):K3:=λenv V σ=>∃v,aGJ P C rs env V σ v∧Φ v V σ
def q_(P:Program)(C:Cx)(rs:Array ResultVar)(Φ:Value→HV→aY→Prop):Ex→K3
 | .ret=>LI P C rs Φ
 |_=>λ_ _ _=>False
section
variable {P:Program} {C:Cx} {env:cR} {V:HV} {σ:aY} {Φ:Value→HV→aY→Prop}
theorem HH(h:Φ (.tuple #[]) V σ):LI P C #[] Φ env V σ:=⟨_,λw _=>by simp[oS],h⟩
theorem aIP{t:Nat}{v:Value}(e:env t=v)(h:Φ v V σ):LI P C #[.tmp t] Φ env V σ:=⟨_,λw _=>by simp[oS,e],h⟩
theorem aIx{t u:Nat}{v1 v2:Value}(e1:env t=v1)(e2:env u=v2)(h:Φ (.tuple #[v1,v2]) V σ):LI P C #[.tmp t,.tmp u] Φ env V σ:=
 ⟨_,λw _=>by simp[oS,e1,e2],h⟩
theorem aJq{t u x:Nat}{v1 v2 v3:Value}(e1:env t=v1)(e2:env u=v2)(e3:env x=v3)(h:Φ (.tuple #[v1,v2,v3]) V σ):LI P C #[.tmp t,.tmp u,.tmp x] Φ env V σ:=
 ⟨_,λw _=>by simp[oS,e1,e2,e3],h⟩
end
section
variable {P:Program} {C:Cx} {env:cR} {V:HV} {σ:aY} {Φ:Value→HV→aY→Prop}
theorem rq0(h:Φ (.tuple #[]) V σ):q_ P C #[] Φ .ret env V σ:=HH h
theorem rq1{t:Nat}(v:Value)(e:env t=v)(h:Φ v V σ):q_ P C #[.tmp t] Φ .ret env V σ:=aIP e h
theorem rq2{t u:Nat}(v1 v2:Value)(e1:env t=v1)(e2:env u=v2)(h:Φ (.tuple #[v1,v2]) V σ):q_ P C #[.tmp t,.tmp u] Φ .ret env V σ:=aIx e1 e2 h
theorem rq3{t u x:Nat}(v1 v2 v3:Value)(e1:env t=v1)(e2:env u=v2)(e3:env x=v3)(h:Φ (.tuple #[v1,v2,v3]) V σ):q_ P C #[.tmp t,.tmp u,.tmp x] Φ .ret env V σ:=aJq e1 e2 e3 h
end
@[reducible] def EZ : List Value → Nat → Value
 | [],_=>undef
 |v::_,0=>v
 |_::r,n+1=>EZ r n
theorem TC:∀(l:List Value) (n k:Nat),(l++List.replicate k undef).toArray.getD n undef=EZ l n
 | [],n,k=>by
  simp only[xR,EZ,Array.getD];split;simp;rfl
 |v::l,0,k=>by simp[EZ,Array.getD]
 |v::l,n+1,k=>by
  have:=TC l n k;simp only[Array.getD,A_,GO,l4,EZ]at this⊢;rw[←this];by_cases h:n<(l++List.replicate k undef).length;rw[dif_pos h,dif_pos aB];simp;rw[dif_neg h,dif_neg aB]
theorem aaY(hl:args.length≤N):Fr N (EZ args) {tmps:=args.toArray++Array.replicate (N-args.toArray.size) undef,defers:=[]}:=by
 refine⟨rfl,by simp;omega,λt=> ?_⟩;have e:args.toArray++Array.replicate (N-args.toArray.size) undef=(args++List.replicate (N-args.length) undef).toArray:=by
  apply Array.ext';simp
 show(args.toArray++Array.replicate (N-args.toArray.size) undef).getD t undef=_;rw[e];exact TC _ _ _
theorem an3{fn:Func}{c:Code}{σ0:aY}{Φ:Value→HV→aY→Prop}{rs:Array ResultVar}
  (hf:P.funcs[f]? =some fn) (hname:(fn.name== "runtime.NumGoroutine")=false) (hb:fn.body=some c) (hN:fn.ntmps=N) (hr:fn.results=rs) (hl:args.length≤N)
  (h:∀w0 D,VC P ⟨w0,V0,D⟩ N c (LI P ⟨w0,V0,D⟩ rs Φ) (q_ P ⟨w0,V0,D⟩ rs Φ) (EZ args) V0 σ0):aP P f args V0 σ0 Φ:=by
 refine⟨⟨fn,hf,hname,by rw[hb];rfl⟩,λw0 hs0 h1 h2 h3 h4=> ?_⟩;refine calls_of_wp hf hb ?_;have hm:bZ ⟨w0,V0,iR hs0⟩ V0 σ0 w0:=⟨rfl,rfl,rfl,cV _,cV _,λ_ _ _=>rfl,.refl _,h3,λ_ _ _=>rfl,hs0,h1,h2,
  λh hh=>⟨(h4 h hh).1,(h4 h hh).2,λb _ hn=>⟨h,hh,hn⟩⟩⟩
 subst hN;subst hr;refine wp_mono (h w0 (iR hs0) _ w0 (aaY hl) hm) ?_;rintro e a' w' ⟨env',V',σ',hf',hm',hh⟩;cases e with
 |normal=>
  obtain⟨v,h5,h6⟩:=hh;exact⟨hf'.defers,v,by rw[hf'.results];exact h5 _ hm',v,V',σ',rfl,h6,hm'⟩
 |ret=>
  obtain⟨v,h5,h6⟩:=hh;exact⟨hf'.defers,v,by rw[hf'.results];exact h5 _ hm',v,V',σ',rfl,h6,hm'⟩
 |exit id=>exact hh.elim
 |goto l=>exact hh.elim
 |panic ch=>exact hh.elim
 |outgrown=>exact hh.elim
theorem bZ.ext_of_none{w w':World}{V V':HV}{σ':aY}(m:bZ ⟨w,V,iR []⟩ V' σ' w'):kA w w':=
 ⟨⟨m.os,m.tape,m.output,m.size,λb hb=>m.frame b hb (λ⟨_,hh,_⟩=>by cases hh)⟩,m.dr⟩
theorem F9{ρ:Operand→Value}{dst:Option Nat}{x:Operand}{l:List Operand}{at_:Array TypeId}{t:TypeId}{pos:String}{af:Array Edge}{g:Option (Nat×Bool)}
  {f:FuncId} {cap:Array Value} (hok:ZP P f) (hx:ρ x= .func (.func f) #[] cap) (w:World):
  (execOp ρ ⟨dst,.call {callee:=.value x,args:=l.toArray,argTypes:=at_},t,pos,af,g⟩).run P w= .ok (.enter f (l.map ρ++cap.toList).toArray) w:=by
 obtain⟨fn,h1,h2,h3⟩:=hok;have e:(l.map ρ++cap.toList).toArray=l.toArray.map ρ++cap:=by apply Array.ext';simp
 rw[e];have h2':fn.name≠ "runtime.NumGoroutine" :=λh=>by rw[h]at h2;exact bM h2 bK
 have h3':fn.body≠none:=λh=>by rw[h]at h3;cases h3
 simp[execOp,resolve,hx,Deferred.ofValue,invoke,callFunc,h1,h2',h3']
section
variable {P:Program} {C:Cx} {N:Nat} {K:K3} {env:cR} {V:HV} {σ:aY} {ops:Array Oper} {rest:List Oper}
variable {dst:Option Nat} {x:Operand} {l:List Operand} {at_:Array TypeId} {t:TypeId} {pos:String} {af:Array Edge} {g:Option (Nat×Bool)} {f:FuncId} {cap:Array Value} {args:List Value}
theorem J8{v:Value}(h:aP P f args V [] (λv' _ _=>v'=v))(hx:ev env x= .func (.func f) #[] cap)(ha:l.map (ev env)++cap.toList=args):
  QV P C ⟨dst,.call {callee:=.value x,args:=l.toArray,argTypes:=at_},t,pos,af,g⟩ env V σ v:=λw hm=>by
 rw[F9 h.ok hx w,ha];refine⟨rfl,(h.run w [] trivial .nil hm.view (λ_ hh=>by cases hh)).mono ?_⟩;rintro e w' ⟨v',V',σ',rfl,hv,hm'⟩;exact⟨by rw[hv],hm.ext hm'.ext_of_none,hm'.ext_of_none⟩
theorem bZ.call{w w':World}{σa σr σ':aY}{hsa hsr:List HV}{V':HV}(m:bZ C V (σa++σr) w)(_ha:nO σa hsa)(hr:nO σr hsr)
  (hp:(hsa++hsr).Pairwise kP) (hh:∀h∈hsa++hsr,bR h (hv w)∧kP h V∧∀b,b<C.w0.heap.size→h b≠none→C.D b)
  (m':bZ ⟨w,V,iR hsa⟩ V' σ' w'):bZ C V' (σ'++σr) w':=by
 obtain⟨p1,p2,p3⟩:=xZ.1 hp;have old:∀b,b<C.w0.heap.size→¬C.D b→¬iR hsa b:=λb hb hd ⟨h,h1,h2⟩=>hd ((hh h (t5 _ h1)).2.2 b hb h2);obtain⟨hs',s1,s2,s3⟩:=m'.own;refine⟨m'.os.trans m.os,m'.tape.trans m.tape,m'.output.trans m.output,EU m.dr m'.dr,EU m.size m'.size,λb hb hd=> ?_,m.sub.trans m'.sub,m'.view,λb hb hd=> ?_,hs'++hsr,s1.append hr,?_,?_⟩;have:=m'.frame b (Nat.lt_of_lt_of_le hb m.size) (old b hb hd);rw[this];exact m.frame b hb hd;have:=m'.vold b (Nat.lt_of_lt_of_le hb m.size) (old b hb hd);rw[this];exact m.vold b hb hd;refine xZ.2 ⟨s2,p2,λh1 i1 h2 i2 b=> ?_⟩;cases e2:h2 b with
 |none=>exact .inr rfl
 |some o=>
  left;have hb:b<w.heap.size:=jD ((hh h2 (FU _ i2)).1 b o e2);cases e1:h1 b with
  |none=>rfl
  |some o1=>
   obtain⟨h3,i3,e3⟩:=(s3 h1 i1).2.2 b hb (by rw[e1];simp);rcases p3 h3 i3 h2 i2 b with q|q
   exact bM q e3;rw[e2]at q;cases q
 intro h hi;rcases jW.1 hi with hi|hi
 refine⟨(s3 h hi).1,(s3 h hi).2.1,λb hb hn=> ?_⟩;obtain⟨h3,i3,e3⟩:=(s3 h hi).2.2 b (Nat.lt_of_lt_of_le hb m.size) hn;exact(hh h3 (t5 _ i3)).2.2 b hb e3;obtain⟨q1,q2,q3⟩:=hh h (FU _ hi);have nd:∀b o,h b=some o→b<w.heap.size∧¬iR hsa b:=λb o hb=>⟨jD (q1 b o hb),λ⟨h3,i3,e3⟩=>by
  rcases p3 h3 i3 h hi b with q|q
  exact e3 q;rw[hb]at q;cases q⟩
 refine⟨λb o hb=> ?_,λb=> ?_,q3⟩;have:=m'.frame b (nd b o hb).1 (nd b o hb).2;show w'.heap[b]? =_;rw[this];exact q1 b o hb;cases e:h b with
 |none=>exact .inl rfl
 |some o=>
  right;have:=m'.vold b (nd b o e).1 (nd b o e).2;rw[this];rcases q2 b with q|q
  rw[e]at q;cases q;exact q
theorem ap9{σa σr:aY}{Φ:Value→HV→aY→Prop}(h:aP P f args V σa Φ)(hx:ev env x= .func (.func f) #[] cap)(ha:l.map (ev env)++cap.toList=args)(hp:σ.Perm (σa++σr))
  (k:∀v V' σ',bR V V'→Φ v V' σ'→d6 P C N ops K rest (GD N env dst v) V' (σ'++σr)):
  d6 P C N ops K (⟨dst,.call {callee:=.value x,args:=l.toArray,argTypes:=at_},t,pos,af,none⟩::rest) env V σ:=λa w hf hm=>by
 refine wpList_plain rfl λK' hK'=> ?_;unfold Oper.wp;rw[hf.eval,F9 h.ok hx w,ha,Oper.upon_enter];have hm2:=hm.perm hp;obtain⟨hs,h1,h2,h3⟩:=hm2.own;obtain⟨hsa,hsr,rfl,h4,h5⟩:=h1.split;refine(h.run w hsa h4 (xZ.1 h2).1 hm2.view (λh hh=>⟨(h3 h (t5 _ hh)).1,(h3 h (t5 _ hh)).2.1⟩)).mono ?_;rintro e w' ⟨v,V',σ',rfl,hΦ,hm'⟩;exact hK' _ _ (k v V' σ' hm'.sub hΦ _ _ (hf.put _ _) (hm2.call h4 h5 h2 h3 hm'))
end
end Go.Vc
namespace Go.Vc
open Go.RowKit
variable{C:Cx}{E:TypeId}{H V:HV}{P:Program}{k:IntKind}{v:Value}{vals:List Value}{xs:List Int}
def gV(b:Nat)(o:Obj):fB:=λh=>h=one b o
def aM(T:TypeId)(b:Nat)(cs:List Value):fB:=gV b (.cells cs.toArray T (0,0))
theorem nO.get:∀{σ:aY} {hs:List HV} {k:Nat} {A:fB},nO σ hs→σ[k]? =some A→∃h,hs[k]? =some h∧A h
 |A::_,h::_,0,_,s,e=>by cases e;exact⟨h,rfl,s.1⟩
 |_::σ,_::hs,k+1,A,s,e=>nO.get (σ:=σ) (hs:=hs) (k:=k) s.2 (by simpa using e)
 | [],_,_,_,_,e=>by simp at e
 |_::_,[],_,_,s,_=>s.elim
theorem nO.set:∀{σ:aY} {hs:List HV} {k:Nat} {A:fB} {h:HV},nO σ hs→k<σ.length→A h→nO (σ.set k A) (hs.set k h)
 |_::_,_::_,0,_,_,s,_,a=>⟨a,s.2⟩
 |_::σ,_::hs,k+1,_,_,s,hk,a=>⟨s.1,nO.set (σ:=σ) (hs:=hs) s.2 (by simpa using hk) a⟩
 | [],_,_,_,_,_,hk,_=>by simp at hk
 |_::_,[],_,_,_,s,_,_=>s.elim
section
variable {P:Program} {C:Cx} {N:Nat} {K:K3} {Q:Ex→K3} {env:cR} {V:HV} {σ:aY} {ops:Array Oper} {rest:List Oper} {w:World} {b:Nat} {o:Obj} {k:Nat}
theorem bZ.blk(m:bZ C V σ w)(hk:σ[k]? =some (gV b o)):w.heap[b]? =some o∧V b=none:=by
 obtain⟨hs,h1,h2,h3⟩:=m.own;obtain⟨h,e,rfl⟩:=h1.get hk;have hm:one b o∈hs:=List.mem_of_getElem? e;obtain⟨q1,q2,_⟩:=h3 _ hm;have hb:one b o b=some o:=by simp[one]
 refine⟨q1 b o hb,?_⟩;rcases q2 b with q|q
 rw[hb]at q;cases q;exact q
theorem bZ.setBlk(m:bZ C V σ w)(hk:σ[k]? =some (gV b o))(o':Obj)(w':World)(hw:w'={w with heap:=w.heap.setIfInBounds b o'}):bZ C V (σ.set k (gV b o')) w':=by
 subst hw;obtain⟨hb,hV⟩:=m.blk hk;have hlt:b<w.heap.size:=jD (w:=w) hb;obtain⟨hs,h1,h2,h3⟩:=m.own;obtain⟨h,e,rfl⟩:=h1.get hk;have hkl:k<σ.length:=(EG.1 hk).1;have hkh:k<hs.length:=(EG.1 e).1;have hm:one b o∈hs:=List.mem_of_getElem? e;have oth:∀c,c≠b→(w.heap.setIfInBounds b o')[c]? =w.heap[c]? :=λc hc=>by
  rw[N1,aC (λh=>hc h.symm)]
 have hD:b<C.w0.heap.size→C.D b:=λhb'=>(h3 _ hm).2.2 b hb' JR;have dis:∀i (hi:i<hs.length),i≠k→hs[i] b=none:=λi hi hik=>by
  have hpw:=AP.1 h2;have ek:hs[k]=one b o:=by have:=EG.1 e;exact this.2
  have hb1:one b o b=some o:=by simp[one]
  rcases Nat.lt_or_ge i k with hlt'|hge
  rcases hpw i k hi hkh hlt' b with q|q
  exact q;rw[ek,hb1]at q;cases q;rcases hpw k i hkh hi aB b with q|q
  rw[ek,hb1]at q;cases q;exact q
 refine⟨m.os,m.tape,m.output,m.dr,by simp[m.size],λc hc hd=> ?_,m.sub,λc x hx=> ?_,m.vold,hs.set k (one b o'),h1.set hkl rfl,?_,?_⟩;show(w.heap.setIfInBounds b o')[c]? =_;rw[oth c (λh=>hd (h▸hD (h▸hc)))];exact m.frame c hc hd;show(w.heap.setIfInBounds b o')[c]? =_;rw[oth c (λh=>by rw[h,hV]at hx;cases hx)];exact m.view c x hx;refine AP.2 λi j hi hj hij c=> ?_;have hi':i<hs.length:=by simpa using hi
 have hj':j<hs.length:=by simpa using hj
 have hpw:=AP.1 h2 i j hi' hj' hij c;simp only[List.getElem_set];by_cases h1:k=i;subst h1;have hne:¬k=j:=aB;simp only[if_true,hne,if_false];by_cases hc:c=b;subst hc;exact .inr (dis j hj' aB);exact .inl NX;by_cases h2:k=j;subst h2;simp only[h1,if_true,if_false];by_cases hc:c=b;subst hc;exact .inl (dis i hi' aB);exact .inr NX;simp only[h1,h2,if_false];exact hpw;intro h hh;obtain⟨i,hi,rfl⟩:=H2 hh;have hi':i<hs.length:=by simpa using hi
 simp only[List.getElem_set];by_cases h1:k=i;subst h1;simp only[if_true];refine⟨λc x hx=> ?_,λc=> ?_,λc hc hn=> ?_⟩;unfold one at hx;split at hx;rename_i hcb;subst hcb;cases hx;show(w.heap.setIfInBounds c o')[c]? =_;rw[N1,aK rfl,aK hlt];cases hx;by_cases hc:c=b;subst hc;exact .inr hV;exact .inl NX;by_cases hcb:c=b;subst hcb;exact hD hc;exact bM (by simp[one,hcb]) hn;simp only[h1,if_false];obtain⟨q1,q2,q3⟩:=h3 _ (CP hi');refine⟨λc x hx=> ?_,q2,q3⟩;show(w.heap.setIfInBounds b o')[c]? =_;rw[oth c (λh=>by subst h;rw[dis i hi' (λh=>h1 h.symm)]at hx;cases hx)];exact q1 c x hx
theorem bZ.alloc(m:bZ C V σ w)(o:Obj)(w':World)(hw:w'={w with heap:=w.heap.push o}):bZ C V (σ++ [gV w.heap.size o]) w':=by
 have hE:kA w w':=by
  subst hw;exact⟨⟨rfl,rfl,rfl,bK,λc hc=>by show(w.heap.push o)[c]? =_;rw[Array.getElem?_push,aC aB]⟩,cV _⟩
 obtain⟨hs,h1,h2,h3⟩:=(m.ext hE).own;obtain⟨hs',h1',_,h3'⟩:=m.own;have m':=m.ext hE;have hnew:(hv w') w.heap.size=some o:=by subst hw;show(w.heap.push o)[w.heap.size]? =_;simp
 refine⟨m'.os,m'.tape,m'.output,m'.dr,m'.size,m'.frame,m'.sub,m'.view,m'.vold,?_⟩;obtain⟨ks,k1,k2,k3⟩:=m.own;refine⟨ks++ [one w.heap.size o],k1.append ⟨rfl,trivial⟩,?_,?_⟩;refine xZ.2 ⟨k2,GA _ _,λh1 i1 h2 i2 c=> ?_⟩;rw[gY]at i2;subst i2;by_cases hc:c=w.heap.size;left;cases e:h1 c with
 |none=>rfl
 |some x=>have:=jD ((k3 h1 i1).1 c x e);omega
 exact .inr NX;intro h hh;rcases jW.1 hh with hh|hh
 exact⟨(k3 h hh).1.trans hE.hv,(k3 h hh).2⟩;rw[gY]at hh;subst hh;refine⟨λc x hx=> ?_,λc=> ?_,λc hc hn=> ?_⟩;unfold one at hx;split at hx;rename_i hcb;subst hcb;cases hx;exact hnew;cases hx;by_cases hc:c=w.heap.size;right;cases e:V c with
 |none=>rfl
 |some x=>have:=jD (m.view c x e);omega
 exact .inl NX;by_cases hcb:c=w.heap.size;have:=m.size;omega;exact bM (by simp[one,hcb]) hn
theorem bZ.freeze{A:fB}{σr:aY}(m:bZ C V σ w)(hp:σ.Perm (A::σr)):∃h,A h∧kP V h∧bZ C (Go.Vc.pQ V h) σr w:=by
 obtain⟨hs,h1,h2,h3⟩:=(m.perm hp).own;match hs,h1 with
 |h::hs,h1=>
  obtain⟨p1,p2⟩:=EW.1 h2;obtain⟨q1,q2,q3⟩:=h3 h (mZ ..);refine⟨h,h1.1,q2.symm,m.os,m.tape,m.output,m.dr,m.size,m.frame,m.sub.trans (iP _ _),aaS m.view q1,λc hc hd=> ?_,hs,h1.2,p2,λx hx=> ?_⟩;have:h c=none:=by
   cases e:h c with
   |none=>rfl
   |some y=>exact bM (q3 c hc (by rw[e];simp)) hd
  unfold Go.Vc.pQ;rw[this,m.vold c hc hd];cases C.V0 c<;>rfl;obtain⟨r1,r2,r3⟩:=h3 x (uC _ hx);refine⟨r1,λc=> ?_,r3⟩;rcases r2 c with q|q
  exact .inl q;rcases p1 x hx c with s|s
  right;unfold Go.Vc.pQ;rw[q];exact s;exact .inl s
theorem amH{c:Code}{σr:aY}(hp:σ.Perm (gV b o::σr))(h:∀V',bR V V'→V' b=some o→VC P C N c K Q env V' σr):VC P C N c K Q env V σ:=λa w hf hm=>by
 have hn:V b=none:=by
  obtain⟨hs,h1,h2,h3⟩:=(hm.perm hp).own;match hs,h1 with
  |x::hs,h1=>
   have hx:x=one b o:=h1.1;rcases(h3 x (mZ ..)).2.1 b with q|q
   rw[hx]at q;simp[one]at q;exact q
 obtain⟨x,hx,_,m'⟩:=hm.freeze hp;have hx':x=one b o:=hx;subst hx';exact h _ (iP _ _) (by simp[Go.Vc.pQ,hn,one]) a w hf m'
end
def In(C:Cx)(V:HV)(σ:aY)(F:HV→Prop):Prop:=∀w,bZ C V σ w→F (hv w)
def Sl(H:HV)(v:Value)(vals:List Value):Prop:=
 ∃a cap,v= .slice a vals.length cap∧vals.length≤cap∧cap≤9223372036854775807∧(vals≠ []→∃b off cs T fz,a=some ⟨b,off,none⟩∧H b=some (.cells cs T fz)∧∀i,i<vals.length→cs[off+i]? =vals[i]?)
theorem Sl.mono{H':HV}(h:Sl H v vals)(s:bR H H'):Sl H' v vals:=by
 obtain⟨a,cap,h1,h2,h2',h3⟩:=h;refine⟨a,cap,h1,h2,h2',λhn=> ?_⟩;obtain⟨b,off,cs,T,fz,e1,e2,e3⟩:=h3 hn;exact⟨b,off,cs,T,fz,e1,s _ _ e2,e3⟩
theorem Sl.bound(h:Sl H v vals):vals.length≤9223372036854775807:=by
 obtain⟨_,_,_,h1,h2,_⟩:=h;omega
theorem Sl.cells(h:Sl H v vals):v.cells=[v].toArray:=by
 obtain⟨_,_,h,_⟩:=h;rw[h];rfl
theorem Sl.one(h:Sl H v vals):v.oneCell'=true:=by
 obtain⟨_,_,h,_⟩:=h;rw[h];rfl
def aT(k:IntKind)(H:HV)(v:Value)(xs:List Int):Prop:=Sl H v (xs.map (Value.int k))
theorem aT.bound(h:aT k H v xs):xs.length≤9223372036854775807:=by
 have:=Sl.bound h;simpa using this
theorem aT.mono{H':HV}(h:aT k H v xs)(s:bR H H'):aT k H' v xs:=Sl.mono h s
theorem d9{σ:aY}(h:aT k V v xs):In C V σ (λH=>aT k H v xs):=λ_ m=>Sl.mono h m.view
theorem inO{σ:aY}{k:Nat}{T:TypeId}{b n cap:Nat}{cs:List Value}(hk:σ[k]? =some (aM T b cs))(hn:n=cs.length)(hc:n≤cap)(hm:cap≤9223372036854775807):
  In C V σ (λH=>Sl H (.slice (some ⟨b,0,none⟩) n cap) cs):=λw m=>
 ⟨some ⟨b,0,none⟩,cap,by rw[hn],aB,hm,λ_=>⟨b,0,cs.toArray,T,(0,0),rfl,(m.blk hk).1,λi _=>bK⟩⟩
abbrev gi(xs:List Int)(i:Int):Int:=xs.getD i.toNat 0
abbrev gv(vs:List Value)(i:Int):Value:=vs.getD i.toNat undef
def iG(v:Value)(i:Int)(s:Nat):Value:=
 match v with
 | .slice (some a) _ _=>.pointer (some (a.add (i.toNat*s)))
 |_=>undef
def eF(P:Program)(E:TypeId)(s:Nat):Prop:=(P.info? E).map (·.size)=some s
def sK(P:Program)(E:TypeId):Prop:=∃d,P.underlying E=some d∧(∀f,d≠ .struct f)∧∀n e,d≠ .array n e
theorem eT{s:Nat}(h:eF P E s)(w:World):(sizeOf E).run P w= .ok s w:=by
 unfold eF at h;cases e:P.info? E with
 |none=>rw[e]at h;cases h
 |some i=>rw[e]at h;cases h;simp[sizeOf,typeInfo,e]
theorem wY(h:sK P E)(w:World):(isAgg E).run P w= .ok false w:=by
 obtain⟨d,h1,h2,h3⟩:=h;simp only[isAgg,underlying];cases d<;>simp_all
end Go.Vc
namespace Go.Vc
open Go.RowKit
section
variable {P:Program} {C:Cx} {N:Nat} {K:K3} {Q:Ex→K3} {env:cR} {V:HV} {σ:aY} {ops:Array Oper} {rest:List Oper}
variable {dst:Option Nat} {x y z:Operand} {t T T' E:TypeId} {pos:String} {af:Array Edge} {g:Option (Nat×Bool)} {k:IntKind} {m n r:Int} {v:Value}
theorem cS{o:Oper}(h:∀w,bZ C V σ w→(execOp (ev env) o).run P w= .ok (.value v) w):QV P C o env V σ v:=λw hm=>by
 rw[h w hm];exact⟨rfl,rfl⟩
theorem P7(v:Value)(hx:ev env x=v):QV P C ⟨dst,.move x,t,pos,af,g⟩ env V σ v:=cS λw _=>by simp[execOp,hx]
theorem aFC(v:Value)(hx:ev env x=v):QV P C ⟨dst,.assign x,t,pos,af,g⟩ env V σ v:=cS λw _=>by simp[execOp,hx]
theorem al5{a:Value}{p:Prop}[Decidable p](hp:p)(hc:ev env z= .bool (decide p))(hx:ev env x=a):QV P C ⟨dst,.pick z x y,t,pos,af,g⟩ env V σ a:=cS λw _=>by
 simp[execOp,hc,hx,asBool,hp]
theorem amP{a:Value}{p:Prop}[Decidable p](hp:¬p)(hc:ev env z= .bool (decide p))(hy:ev env y=a):QV P C ⟨dst,.pick z x y,t,pos,af,g⟩ env V σ a:=cS λw _=>by
 simp[execOp,hc,hy,asBool,hp]
theorem axV(hx:ev env x= .int k m)(hy:ev env y= .int k n)(hw:k.wrap (m+n)=r):QV P C ⟨dst,.binOp .add T x y T',t,pos,af,g⟩ env V σ (.int k r):=cS λw _=>by
 simp[execOp,hx,hy,eqGuard,binOp,Op.intArith,hw]
theorem ayQ(hx:ev env x= .int k m)(hy:ev env y= .int k n)(hw:k.wrap (m-n)=r):QV P C ⟨dst,.binOp .sub T x y T',t,pos,af,g⟩ env V σ (.int k r):=cS λw _=>by
 simp[execOp,hx,hy,eqGuard,binOp,Op.intArith,hw]
theorem axE(hx:ev env x= .int k m)(hy:ev env y= .int k n)(hw:k.wrap (m*n)=r):QV P C ⟨dst,.binOp .mul T x y T',t,pos,af,g⟩ env V σ (.int k r):=cS λw _=>by
 simp[execOp,hx,hy,eqGuard,binOp,Op.intArith,hw]
theorem aCx(hx:ev env x= .int .i64 m)(hy:ev env y= .int .i64 n)(hb:-9223372036854775808≤m+n∧m+n≤9223372036854775807):
 QV P C ⟨dst,.binOp .add T x y T',t,pos,af,g⟩ env V σ (.int .i64 (m+n)):=axV hx hy (IntWalk.i64_in _ hb)
theorem aEN(hx:ev env x= .int .i64 m)(hy:ev env y= .int .i64 n)(hb:-9223372036854775808≤m-n∧m-n≤9223372036854775807):
 QV P C ⟨dst,.binOp .sub T x y T',t,pos,af,g⟩ env V σ (.int .i64 (m-n)):=ayQ hx hy (IntWalk.i64_in _ hb)
theorem ai2(hx:ev env x= .int .i64 m)(hy:ev env y= .int .i64 n)(hb:-9223372036854775808≤m*n∧m*n≤9223372036854775807):
 QV P C ⟨dst,.binOp .mul T x y T',t,pos,af,g⟩ env V σ (.int .i64 (m*n)):=axE hx hy (IntWalk.i64_in _ hb)
theorem RK(hx:ev env x= .int k m)(hy:ev env y= .int k n)(h0:n≠0)(hw:k.wrap (m.tdiv n)=r):QV P C ⟨dst,.binOp .quo T x y T',t,pos,af,g⟩ env V σ (.int k r):=cS λw _=>by
 simp[execOp,hx,hy,eqGuard,binOp,Op.intDiv,hw,h0]
theorem S_(hx:ev env x= .int k m)(hy:ev env y= .int k n)(h0:n≠0)(hw:m.tmod n=r):QV P C ⟨dst,.binOp .rem T x y T',t,pos,af,g⟩ env V σ (.int k r):=cS λw _=>by
 simp[execOp,hx,hy,eqGuard,binOp,Op.intDiv,hw,h0]
theorem qL(hx:ev env x= .int .i64 m)(hb:-9223372036854775807≤m∧m≤9223372036854775808):QV P C ⟨dst,.unOp .neg T x,t,pos,af,g⟩ env V σ (.int .i64 (-m)):=cS λw _=>by
 have h:IntKind.i64.wrap (-m)= -m:=IntWalk.i64_in _ aB;simp[execOp,hx,Op.unary,Op.intArith,h]
theorem ak7(hx:ev env x= .int k m)(hy:ev env y= .int k n):QV P C ⟨dst,.binOp .lss T x y T',t,pos,af,g⟩ env V σ (.bool (decide (m<n))):=cS λw _=>by
 simp[execOp,hx,hy,eqGuard,binOp,Op.intCmp]
theorem akK(hx:ev env x= .int k m)(hy:ev env y= .int k n):QV P C ⟨dst,.binOp .leq T x y T',t,pos,af,g⟩ env V σ (.bool (decide (m≤n))):=cS λw _=>by
 simp[execOp,hx,hy,eqGuard,binOp,Op.intCmp]
theorem aCg(hx:ev env x= .int k m)(hy:ev env y= .int k n):QV P C ⟨dst,.binOp .gtr T x y T',t,pos,af,g⟩ env V σ (.bool (decide (n<m))):=cS λw _=>by
 simp[execOp,hx,hy,eqGuard,binOp,Op.intCmp]
theorem akB(hx:ev env x= .int k m)(hy:ev env y= .int k n):QV P C ⟨dst,.binOp .geq T x y T',t,pos,af,g⟩ env V σ (.bool (decide (n≤m))):=cS λw _=>by
 simp[execOp,hx,hy,eqGuard,binOp,Op.intCmp]
theorem aEr(hx:ev env x= .int k m)(hy:ev env y= .int k n):QV P C ⟨dst,.binOp .eql T x y T',t,pos,af,g⟩ env V σ (.bool (decide (m=n))):=cS λw _=>by
 have:(m==n)=decide (m=n):=rfl;simp[execOp,hx,hy,eqGuard,binOp,Op.intCmp,this]
theorem aB1(hx:ev env x= .int k m)(hy:ev env y= .int k n):QV P C ⟨dst,.binOp .neq T x y T',t,pos,af,g⟩ env V σ (.bool (decide (m≠n))):=cS λw _=>by
 have:(m !=n)=decide (m≠n):=by by_cases h:m=n<;>simp[h]
 simp[execOp,hx,hy,eqGuard,binOp,Op.intCmp,this]
theorem RE{P:Program}{T:TypeId}(hT:P.underlying T=some .bool)(b c:Bool)(w:World):(Op.equal T (.bool b) (.bool c)).run P w= .ok (b==c) w:=by
 have h:∀d,(Op.equalIn (d+1) T (.bool b) (.bool c)).run P w= .ok (b==c) w:=λd=>by simp[Op.equalIn,underlying,hT]
 exact h 9999
theorem aCC{p:Prop}[Decidable p](hx:ev env x= .bool (decide p)):QV P C ⟨dst,.unOp .not T x,t,pos,af,g⟩ env V σ (.bool (decide (¬p))):=cS λw _=>by
 have:(!decide p)=decide (¬p):=bK;simp only[execOp,hx,Op.unary,this];rfl
theorem aCy{at_:Array TypeId}(hx:ev env x= .int k m)(hy:ev env y= .int k n):QV P C ⟨dst,.call {callee:=.builtin .min,args:= #[x,y],argTypes:=at_},t,pos,af,g⟩ env V σ (.int k (if n<m then n else m)):=cS λw _=>by
 simp[execOp,resolve,invoke,builtin,Builtin.min_,Builtin.min2,hx,hy]
theorem aCF{at_:Array TypeId}(hx:ev env x= .int k m)(hy:ev env y= .int k n):QV P C ⟨dst,.call {callee:=.builtin .max,args:= #[x,y],argTypes:=at_},t,pos,af,g⟩ env V σ (.int k (if m<n then n else m)):=cS λw _=>by
 simp[execOp,resolve,invoke,builtin,Builtin.max_,Builtin.max2,hx,hy]
theorem aAX{l:List Value}{i:Nat}(v:Value)(hx:ev env x= .tuple l.toArray)(hi:l[i]? =some v):QV P C ⟨dst,.extract x i,t,pos,af,g⟩ env V σ v:=cS λw _=>by
 simp[execOp,hx,Instr.extract,hi]
theorem iA{fn:Fn}{l:List Operand}{cs:List Value}(hl:l.map (ev env)=cs):QV P C ⟨dst,.makeFunc fn #[] l.toArray,t,pos,af,g⟩ env V σ (.func fn #[] cs.toArray):=cS λw _=>by
 have:l.toArray.map (ev env)=cs.toArray:=by apply Array.ext';simp[hl]
 simp[execOp,Instr.makeFunc,←hl]
theorem AB{n c:Nat}{a:Option Addr}{at_:TypeId}(hT:P.underlying at_=some (.slice E))(hx:ev env x=v)(hv:v= .slice a n c):
  QV P C ⟨dst,.call {callee:=.builtin .len,args:= #[x],argTypes:= #[at_]},t,pos,af,g⟩ env V σ (.int .i64 n):=cS λw _=>by
 subst hv;simp[execOp,resolve,invoke,builtin,Builtin.len_,hx,underlying,hT,goInt]
theorem S1{vals:List Value}{H:HV}{at_:TypeId}(hT:P.underlying at_=some (.slice E))(hx:ev env x=v)(hv:Sl H v vals):
  QV P C ⟨dst,.call {callee:=.builtin .len,args:= #[x],argTypes:= #[at_]},t,pos,af,g⟩ env V σ (.int .i64 vals.length):=by
 obtain⟨a,c,h,_⟩:=hv;exact AB hT hx h
theorem JQ{xs:List Int}{H:HV}{at_:TypeId}(hT:P.underlying at_=some (.slice E))(hx:ev env x=v)(hv:aT k H v xs):
  QV P C ⟨dst,.call {callee:=.builtin .len,args:= #[x],argTypes:= #[at_]},t,pos,af,g⟩ env V σ (.int .i64 xs.length):=by
 obtain⟨a,c,h,_⟩:=hv;rw[fT]at h;exact AB hT hx h
theorem Sl.at{H:HV}{v:Value}{vals:List Value}(h:Sl H v vals){i:Int}(h0:0≤i)(h1:i<vals.length):
  ∃b off cs T fz c,v= .slice (some ⟨b,off,none⟩) vals.length c∧vals.length≤c∧H b=some (.cells cs T fz)∧iG v i 1= .pointer (some ((⟨b,off,none⟩:Addr).add i.toNat))∧
   cs[off+i.toNat]? =some (vals.getD i.toNat undef):=by
 obtain⟨a,c,hv,hc,_,hh⟩:=h;have hlt:i.toNat<vals.length:=aB;obtain⟨b,off,cs,T,fz,rfl,e2,e3⟩:=hh (λe=>by rw[e]at hlt;simp at hlt);refine⟨b,off,cs,T,fz,c,hv,hc,e2,by rw[hv];simp[iG],?_⟩;rw[e3 _ hlt,bX,dT hlt];rfl
theorem EL{vals:List Value}{s:Nat}{v:Value}{i:Int}(hT:P.underlying T=some (.slice E))(hS:eF P E s)(hx:ev env x=v)(hv:In C V σ (λH=>Sl H v vals))(hy:ev env y= .int k i)(h0:0≤i)
  (h1:i<vals.length):QV P C ⟨dst,.indexAddr T x y,t,pos,af,g⟩ env V σ (iG v i s):=cS λw hm=>by
 obtain⟨b,off,cs,T,fz,c,e,_⟩:=(hv w hm).at h0 h1;simp only[execOp,hx,hy,e,Instr.indexAt,asIntOf,underlying,iG];simp[hT,eT hS,h0,h1]
theorem zN{w:World}{b off i:Nat}{cs:Array Value}{T:TypeId}{fz:Nat×Nat}(h:hv w b=some (.cells cs T fz)):w.cell? ((⟨b,off,none⟩:Addr).add i)=cs[off+i]? :=by
 unfold hv at h;have e:((⟨b,off,none⟩:Addr).add i).block=b∧((⟨b,off,none⟩:Addr).add i).off=off+i∧((⟨b,off,none⟩:Addr).add i).spot=none:=by
  unfold Addr.add;split<;>simp_all
 unfold World.cell?;rw[e.1,h];simp[e.2.1,e.2.2]
theorem ND{vals:List Value}{v:Value}{i:Int}(hP:sK P T)(hx:ev env x=iG v i 1)(hv:In C V σ (λH=>Sl H v vals))(h0:0≤i)(h1:i<vals.length):
  QV P C ⟨dst,.load T x,t,pos,af,g⟩ env V σ (gv vals i):=cS λw hm=>by
 obtain⟨b,off,cs,T,fz,c,e,hc,e2,e3,e4⟩:=(hv w hm).at h0 h1;rw[e3]at hx;have hcell:=zN (i:=i.toNat) (off:=off) e2;rw[e4]at hcell;simp[execOp,hx,Instr.loadAt,Instr.sureAddr,loadVar,wY hP,load,Sem.run,hcell]
theorem zO{xs:List Int}{j:IntKind}{s:Nat}{v:Value}{i:Int}(hT:P.underlying T=some (.slice E))(hS:eF P E s)(hx:ev env x=v)(hv:In C V σ (λH=>aT j H v xs))(hy:ev env y= .int k i)(h0:0≤i)
 (h1:i<xs.length):QV P C ⟨dst,.indexAddr T x y,t,pos,af,g⟩ env V σ (iG v i s):=EL hT hS hx hv hy h0 MY
theorem zS{xs:List Int}{v:Value}{i:Int}(hP:sK P T)(hx:ev env x=iG v i 1)(hv:In C V σ (λH=>aT k H v xs))(h0:0≤i)(h1:i<xs.length):
  QV P C ⟨dst,.load T x,t,pos,af,g⟩ env V σ (.int k (gi xs i)):=by
 have:=ND (dst:=dst) (t:=t) (pos:=pos) (af:=af) (g:=g) hP hx hv h0 MY;have hlt:i.toNat<xs.length:=aB;have e:(xs.map (Value.int k)).getD i.toNat undef= .int k (xs.getD i.toNat 0):=by
  simp[bX,dT hlt]
 have e':gv (xs.map (Value.int k)) i= .int k (gi xs i):=e;rwa[e']at this
theorem afN{c:Operand}{a b:Code}{p:Prop}[Decidable p](hc:ev env c= .bool (decide p))(ht:p→VC P C N a K Q env V σ)(hf:¬p→VC P C N b K Q env V σ):VC P C N (.cond c a b) K Q env V σ:=
 QR hc (λh=>ht (of_decide_eq_true h)) (λh=>hf (of_decide_eq_false h))
theorem iN{o:Oper}{j d:Nat}{p:Prop}[Decidable p](hp:p)(hg:o.guard=some (j,true))(hd:(ops[j]?).bind (·.dst)=some d)(he:env d= .bool (decide p)):dE o ops env=true:=by
 simp[dE,Region.wanted,hg,kK,hd,he,hp]
theorem aEz{o:Oper}{j d:Nat}{p:Prop}[Decidable p](hp:¬p)(hg:o.guard=some (j,false))(hd:(ops[j]?).bind (·.dst)=some d)(he:env d= .bool (decide p)):dE o ops env=true:=by
 simp[dE,Region.wanted,hg,kK,hd,he,hp]
theorem KC{o:Oper}{j d:Nat}{p:Prop}[Decidable p](hp:¬p)(hg:o.guard=some (j,true))(hd:(ops[j]?).bind (·.dst)=some d)(he:env d= .bool (decide p)):dE o ops env=false:=by
 simp[dE,Region.wanted,hg,kK,hd,he,hp]
theorem azX{o:Oper}{j d:Nat}{p:Prop}[Decidable p](hp:p)(hg:o.guard=some (j,false))(hd:(ops[j]?).bind (·.dst)=some d)(he:env d= .bool (decide p)):dE o ops env=false:=by
 simp[dE,Region.wanted,hg,kK,hd,he,hp]
end
end Go.Vc
namespace Go.Vc
open Go
section
variable {P:Program} {ops:Array Oper} {md:Region.Mode} {CC:World→Prop}
end
section
variable {P:Program} {C:Cx} {N:Nat} {K:K3} {Q:Ex→K3} {env:cR} {V:HV} {σ:aY}
end
end Go.Vc
namespace Go.Vc
open Go.RowKit
variable{E:TypeId}{P:Program}{z:Value}
def TI(P:Program)(E:TypeId)(z:Value)(s by_:Nat):Prop:=(P.info? E).map (λi=>(i.zero,i.size,i.bytes))=some (some z,s,by_)
theorem TI.out{s y:Nat}(h:TI P E z s y):∃i,P.info? E=some i∧i.zero=some z∧i.size=s∧i.bytes=y:=by
 unfold TI at h;cases e:P.info? E with
 |none=>rw[e]at h;cases h
 |some i=>rw[e]at h;simp at h;exact⟨i,rfl,h.1,h.2.1,h.2.2⟩
theorem TI.size{s y:Nat}(h:TI P E z s y):eF P E s:=by
 obtain⟨i,h1,_,h3,_⟩:=h.out;unfold eF;rw[h1];simp[h3]
theorem G2{α:Type}:∀{l:List α} {k:Nat} {a:α},l[k]? =some a→l.Perm (a::l.eraseIdx k)∧∀b,(l.set k b).Perm (b::l.eraseIdx k)
 | [],_,_,h=>by simp at h
 |x::l,0,a,h=>by simp at h;subst h;exact⟨.refl _,λb=>.refl _⟩
 |x::l,k+1,a,h=>by
  obtain⟨h1,h2⟩:=G2 (l:=l) (k:=k) vB;exact⟨(h1.cons x).trans (.swap _ _ _),λb=>((h2 b).cons x).trans (.swap _ _ _)⟩
section
variable {P:Program} {C:Cx} {N:Nat} {K:K3} {Q:Ex→K3} {env:cR} {V:HV} {σ:aY} {ops:Array Oper} {rest:List Oper} {w:World}
variable {d k:Nat} {x y z:Operand} {t T T' E:TypeId} {pos:String} {af:Array Edge} {g:Option (Nat×Bool)} {v:Value} {op:Op}
theorem oq(hq:QV P C ⟨some d,op,t,pos,af,none⟩ env V σ v)(h:d6 P C N ops K rest (upd N env d v) V σ):d6 P C N ops K (⟨some d,op,t,pos,af,none⟩::rest) env V σ:=
 asA hq (tS rfl) h
theorem og(hq:QV P C ⟨some d,op,t,pos,af,g⟩ env V σ v)(hw:dE ⟨some d,op,t,pos,af,g⟩ ops env=true)(h:d6 P C N ops K rest (upd N env d v) V σ):d6 P C N ops K (⟨some d,op,t,pos,af,g⟩::rest) env V σ:=
 asA hq hw h
theorem os(hw:dE ⟨some d,op,t,pos,af,g⟩ ops env=false)(h:d6 P C N ops K rest (upd N env d undef) V σ):d6 P C N ops K (⟨some d,op,t,pos,af,g⟩::rest) env V σ:=
 aqR hw h
theorem qq{K:cR→Prop}(hq:QV P C ⟨some d,op,t,pos,af,none⟩ env V σ v)(h:vV P C N ops V σ K rest (upd N env d v)):vV P C N ops V σ K (⟨some d,op,t,pos,af,none⟩::rest) env:=
 ajK hq (tS rfl) h
theorem qg{K:cR→Prop}(hq:QV P C ⟨some d,op,t,pos,af,g⟩ env V σ v)(hw:dE ⟨some d,op,t,pos,af,g⟩ ops env=true)(h:vV P C N ops V σ K rest (upd N env d v)):
 vV P C N ops V σ K (⟨some d,op,t,pos,af,g⟩::rest) env:=ajK hq hw h
theorem qs{K:cR→Prop}(hw:dE ⟨some d,op,t,pos,af,g⟩ ops env=false)(h:vV P C N ops V σ K rest (upd N env d undef)):vV P C N ops V σ K (⟨some d,op,t,pos,af,g⟩::rest) env:=
 akR hw h
theorem bZ.upd{A A':fB}{w':World}(m:bZ C V σ w)(hk:σ[k]? =some A)
  (H:∀h,A h→bR h (hv w)→kP h V→bZ ⟨w,V,iR [h]⟩ V [A'] w'):bZ C V (σ.set k A') w':=by
 obtain⟨p1,p2⟩:=G2 hk;have m1:=m.perm p1;obtain⟨hs,h1,h2,h3⟩:=m1.own;match hs,h1 with
 |h::hs,h1=>
  have:=bZ.call (σa:=[A]) (hsa:=[h]) (hsr:=hs) m1 ⟨h1.1,trivial⟩ h1.2 h2 h3 (H h h1.1 (h3 h (mZ ..)).1 (h3 h (mZ ..)).2.1);exact this.perm (p2 A').symm
theorem bZ.single{h h':HV}{A':fB}{w':World}(os:w'.os=w.os)(tape:w'.tape=w.tape)(output:w'.output=w.output)(size:w.heap.size≤w'.heap.size)
  (frame:∀b,b<w.heap.size→h b=none→w'.heap[b]? =w.heap[b]?) (hV:bR V (hv w)) (hd:kP h V) (hs:bR h' (hv w')) (hA:A' h') (hn:∀b,b<w.heap.size→h' b≠none→h b≠none) (dr:w.drawn≤w'.drawn:=by first|exact cV _|exact Nat.le_succ _|(subst_vars;exact cV _)):
  bZ ⟨w,V,iR [h]⟩ V [A'] w':=by
 refine⟨os,tape,output,dr,size,λb hb hD=>frame b hb ?_,.refl _,λb o hb=> ?_,λ_ _ _=>rfl,[h'],⟨hA,trivial⟩,GA _ _,λx hx=> ?_⟩;cases e:h b with
 |none=>rfl
 |some o=>exact bM ⟨h,gY.2 rfl,by rw[e];simp⟩ hD
 have h1:=hV b o hb;have h2:h b=none:=by rcases hd b with q|q;exact q;rw[hb]at q;cases q
 have:=frame b (jD h1) h2;unfold hv at h1⊢;rw[this];exact h1;rw[gY]at hx;subst hx;refine⟨hs,λb=> ?_,λb hb hb'=>⟨h,gY.2 rfl,hn b hb hb'⟩⟩;cases e:V b with
 |none=>exact .inr rfl
 |some o=>
  left;have h1:=jD (hV b o e);cases e':x b with
  |none=>rfl
  |some o'=>
   have:=hn b h1 (by rw[e'];simp);rcases hd b with q|q
   exact bM q this;rw[e]at q;cases q
theorem yO(P:Program)(E:TypeId)(cs:Array Value)(w:World):(newRow E cs).run P w= .ok ⟨w.heap.size,0,none⟩ (w.alloc (.cells cs E)):=by
 simp[newRow,newObj,Sem.run]
theorem tF{cs:List Value}(hx:ev env x=v)(hc:v.cells=cs.toArray)(h:∀b,d6 P C N ops K rest (Go.Vc.upd N env d (.pointer (some ⟨b,0,none⟩))) V (σ++ [aM T b cs])):
  d6 P C N ops K (⟨some d,.box T x,t,pos,af,none⟩::rest) env V σ:=λa w hf hm=>by
 refine wpList_plain rfl λK' hK'=> ?_;unfold Oper.wp;have e:(execOp (ev env) ⟨some d,.box T x,t,pos,af,none⟩).run P w= .ok (.value (.pointer (some ⟨w.heap.size,0,none⟩))) (w.alloc (.cells cs.toArray T)):=by
  simp[execOp,hx,Instr.box,newVar,yO,hc]
 rw[hf.eval,e];exact hK' _ _ (h w.heap.size _ _ (hf.put (some d) _) (hm.alloc _ _ rfl))
theorem YZ{n:Int}{s y:Nat}{z0:Value}(hT:P.underlying T=some (.slice E))(hi:TI P E z0 s y)(hz:z0.cells= #[z0])(hs:s=1){k1 k2:IntKind}(hx:ev env x= .int k1 n)(hy:ev env z= .int k2 n)
  (h0:0≤n) (h1:n*y≤281474976710656) (h2:n≤9223372036854775807)
  (h:∀b,d6 P C N ops K rest (Go.Vc.upd N env d (.slice (some ⟨b,0,none⟩) n.toNat n.toNat)) V (σ++ [aM E b (List.replicate n.toNat z0)])):
  d6 P C N ops K (⟨some d,.makeSlice T x z,t,pos,af,none⟩::rest) env V σ:=λa w hf hm=>by
 refine wpList_plain rfl λK' hK'=> ?_;unfold Oper.wp;obtain⟨i,i1,i2,i3,i4⟩:=hi.out;have hmc:madeCells z0.cells n.toNat=(List.replicate n.toNat z0).toArray:=by
  apply Array.ext;simp[madeCells];intro j h1 h2;simp[madeCells,hz,Nat.mod_one]
 have e:=run_make (P:=P) w T E i z0 hT i1 i2 k1 k2 n n h0 (eL _) (by rw[i4,u6];exact h1) h2;rw[i3,hs,C_,hmc]at e;have e':(execOp (ev env) ⟨some d,.makeSlice T x z,t,pos,af,none⟩).run P w= .ok (.value (.slice (some ⟨w.heap.size,0,none⟩) n.toNat n.toNat)) (w.alloc (.cells (List.replicate n.toNat z0).toArray E)):=by
  simp[execOp,hx,hy,e]
 rw[hf.eval,e'];exact hK' _ _ (h w.heap.size _ _ (hf.put (some d) _) (hm.alloc _ _ rfl))
theorem ai0{n:Int}{s y:Nat}{z0:Value}(hT:P.underlying T=some (.slice E))(hi:TI P E z0 s y){k1 k2:IntKind}(hx:ev env x= .int k1 0)(hy:ev env z= .int k2 n)
  (h0:0≤n) (h1:n*y≤281474976710656) (h2:n≤9223372036854775807)
  (h:∀b cs,cs.size=n.toNat*s→d6 P C N ops K rest (Go.Vc.upd N env d (.slice (some ⟨b,0,none⟩) 0 n.toNat)) V (σ++ [gV b (.cells cs E (0,0))])):
  d6 P C N ops K (⟨some d,.makeSlice T x z,t,pos,af,none⟩::rest) env V σ:=λa w hf hm=>by
 refine wpList_plain rfl λK' hK'=> ?_;unfold Oper.wp;obtain⟨i,i1,i2,i3,i4⟩:=hi.out;have e:=run_make (P:=P) w T E i z0 hT i1 i2 k1 k2 0 n (eL _) h0 (by rw[i4,u6];exact h1) h2;have e':(execOp (ev env) ⟨some d,.makeSlice T x z,t,pos,af,none⟩).run P w= .ok (.value (.slice (some ⟨w.heap.size,0,none⟩) 0 n.toNat)) (w.alloc (.cells (madeCells z0.cells (n.toNat*i.size)) E)):=by
  simp[execOp,hx,hy,e]
 rw[hf.eval,e'];exact hK' _ _ (h w.heap.size _ (by rw[size_madeCells,i3]) _ _ (hf.put (some d) _) (hm.alloc _ _ rfl))
def Cells(H:HV)(b:Nat)(cs:List Value):Prop:=∃T fz,H b=some (.cells cs.toArray T fz)
theorem Cells.mono{H H':HV}{b:Nat}{cs:List Value}(h:Cells H b cs)(s:bR H H'):Cells H' b cs:=by
 obtain⟨T,fz,h⟩:=h;exact⟨T,fz,s _ _ h⟩
theorem d7{b:Nat}{cs:List Value}(h:Cells V b cs):In C V σ (λH=>Cells H b cs):=λ_ m=>h.mono m.view
theorem p_{b:Nat}{cs:List Value}(hk:σ[k]? =some (aM T b cs)):In C V σ (λH=>Cells H b cs):=λ_ m=>⟨T,(0,0),(m.blk hk).1⟩
theorem f7{dst:Option Nat}{b off:Nat}{cs:List Value}(hP:sK P T)(hx:ev env x= .pointer (some ⟨b,off,none⟩))(hv':In C V σ (λH=>Cells H b cs))(ho:cs[off]? =some v):
  QV P C ⟨dst,.load T x,t,pos,af,g⟩ env V σ v:=cS λw hm=>by
 obtain⟨T',fz,h⟩:=hv' w hm;have hc:w.cell? ⟨b,off,none⟩=some v:=by
  unfold hv at h;simp[World.cell?,h,ho]
 simp[execOp,hx,Instr.loadAt,Instr.sureAddr,loadVar,wY hP,load,Sem.run,hc]
theorem afQ{w:World}{b off:Nat}{cs:List Value}{T:TypeId}{v:Value}(h:w.heap[b]? =some (.cells cs.toArray T (0,0))):
  w.setCell ⟨b,off,none⟩ v={w with heap:=w.heap.setIfInBounds b (.cells (cs.set off v).toArray T (0,0))}:=by
 have hlt:b<w.heap.size:=jD (w:=w) h;have hb:w.heap[b]= .cells cs.toArray T (0,0):=by rw[wC hlt]at h;exact Option.some.inj h
 unfold World.setCell;congr 1;apply Array.ext;simp;intro i h1 h2;simp only[Z4];by_cases hi:b=i;subst hi;simp[hb];rw[aC hi,adX _ hi]
theorem sW{P:Program}{T:TypeId}{b off:Nat}{v:Value}{w:World}{cs:List Value}{E:TypeId}(hS:eF P T 1)(hv1:v.oneCell'=true)(hb:w.heap[b]? =some (.cells cs.toArray E (0,0)))(ho:off<cs.length):
  (storeVar T ⟨b,off,none⟩ v).run P w= .ok () {w with heap:=w.heap.setIfInBounds b (.cells (cs.set off v).toArray E (0,0))}:=by
 have hcs:v.cells= #[v]:=by cases v<;>first|rfl|cases hv1
 have hcell:w.cell? ⟨b,off,none⟩=some cs[off]:=by simp[World.cell?,hb,ho]
 have hfr:w.frozen? ⟨b,off,none⟩=false:=by simp[World.frozen?,hb]
 rw[←afQ hb];have hadd:(⟨b,off,none⟩:Addr).add 0=⟨b,off,none⟩:=by simp[Addr.add]
 simp only[storeVar,Sem.run_bind,eT hS,Result.andThen_ok,hcs];simp[storeCells,hadd,run_store P w _ v .plain hv1,hcell,hfr]
theorem pO{b off:Nat}{cs:List Value}(hS:eF P T 1)(hx:ev env x= .pointer (some ⟨b,off,none⟩))(hy:ev env y=v)(hv1:v.oneCell'=true)(hk:σ[k]? =some (aM E b cs))(ho:off<cs.length)
  (h:d6 P C N ops K rest env V (σ.set k (aM E b (cs.set off v)))):d6 P C N ops K (⟨none,.store T x y,t,pos,af,none⟩::rest) env V σ:=λa w hf hm=>by
 refine wpList_plain rfl λK' hK'=> ?_;unfold Oper.wp;have hb:=(hm.blk hk).1;have e:(execOp (ev env) ⟨none,.store T x y,t,pos,af,none⟩).run P w= .ok .skip {w with heap:=w.heap.setIfInBounds b (.cells (cs.set off v).toArray E (0,0))}:=by
  simp[execOp,hx,hy,Instr.storeAt,Instr.sureAddr,sW hS hv1 hb ho]
 rw[hf.eval,e];exact hK' _ _ (h _ _ (hf.put none _) (hm.setBlk hk _ _ rfl))
theorem ZE(b n c:Nat)(i:Int):iG (.slice (some ⟨b,0,none⟩) n c) i 1= .pointer (some ⟨b,i.toNat,none⟩):=by
 simp only[iG,C_,Addr.add];split;rename_i h;rw[h];simp
theorem Q1{b n c:Nat}{i:Int}{cs:List Value}(hS:eF P T 1)(hx:ev env x=iG (.slice (some ⟨b,0,none⟩) n c) i 1)(hy:ev env y=v)(hv1:v.oneCell'=true)(hk:σ[k]? =some (aM E b cs))(h0:0≤i)
  (ho:i<cs.length) (h:d6 P C N ops K rest env V (σ.set k (aM E b (cs.set i.toNat v)))):d6 P C N ops K (⟨none,.store T x y,t,pos,af,none⟩::rest) env V σ:=
 pO hS (by rw[hx,ZE]) hy hv1 hk aB h
end
end Go.Vc
namespace Go.Vc
open Go.RowKit
theorem E7(off:Nat):∀(vs:List Value) (j:Nat) (cells:Array Value),off+j+vs.length≤cells.size→
  ((vs.zipIdx j).foldl (λcs (p:Value×Nat)=>cs.setIfInBounds (off+p.2) p.1) cells).toList=cells.toList.take (off+j)++vs++cells.toList.drop (off+j+vs.length)
 | [],j,cells,_=>by simp
 |v::vs,j,cells,h=>by
  simp only[l4]at h;simp only[List.zipIdx_cons,List.foldl_cons];rw[E7 off vs (j+1) _ (by simp;omega)];simp only[Array.toList_setIfInBounds,l4];generalize hc:cells.toList=cl;have hlen:off+j+(vs.length+1)≤cl.length:=by rw[←hc];simpa using h
  have e1:(cl.set (off+j) v).take (off+(j+1))=cl.take (off+j)++ [v]:=by
   have hl:off+j<cl.length:=aB;rw[show off+(j+1)=(off+j)+1 by omega,List.take_succ_eq_append_getElem PZ];simp[List.take_set_of_le (cV _)]
  have e2:(cl.set (off+j) v).drop (off+(j+1)+vs.length)=cl.drop (off+j+(vs.length+1)):=by
   rw[show off+j+(vs.length+1)=off+(j+1)+vs.length by omega,List.drop_set_of_lt aB]
  rw[e1,e2];simp
theorem aaM(s:Nat):∀(l:List (Nat×Value)) (i:Nat) (cells:Array Value),l.map Prod.fst=List.range' i l.length→(∀p∈l,p.2.cells.size=s)→(i+l.length)*s=cells.size→
  Instr.fill (λi=>some (i*s,s)) cells l=some (cells.toList.take (i*s)++l.flatMap (λp=>p.2.cells.toList)).toArray
 | [],i,cells,_,_,h=>by
  simp only[xP,Nat.add_zero]at h;simp[Instr.fill,h,lJ]
 |(j,v)::l,i,cells,h1,h2,h3=>by
  simp only[lQ,l4,List.range'_succ,List.cons.injEq]at h1;obtain⟨rfl,h1⟩:=h1;have hv:v.cells.size=s:=h2 _ (mZ ..);simp only[l4]at h3;have h3':j*s+s+l.length*s=cells.size:=by rw[←h3,←HI,o5,o5];omega
  have hfit:¬(j*s+v.cells.size>cells.size):=by rw[hv];omega
  have hfold:(v.cells.zipIdx.foldl (λcs (p:Value×Nat)=>cs.setIfInBounds (j*s+p.2) p.1) cells).toList=cells.toList.take (j*s)++v.cells.toList++cells.toList.drop (j*s+s):=by
   rw[←Array.foldl_toList,Array.toList_zipIdx,E7 _ _ _ _ (by simp[hv];omega)];simp[hv]
  have eV:(v.cells.zipIdx.foldl (λcs (p:Value×Nat)=>cs.setIfInBounds (j*s+p.2) p.1) cells).size=cells.size:=by
   rw[←ahL,hfold];simp[hv];omega
  simp only[Instr.fill,hv];rw[aC k6];have ih:=aaM s l (j+1) (v.cells.zipIdx.foldl (λcs (p:Value×Nat)=>cs.setIfInBounds (j*s+p.2) p.1) cells) h1 (λp hp=>h2 p (uC _ hp)) (by rw[eV,←h3];congr 1;omega);have e:=ih;simp only[hfold]at e;refine Eq.trans e ?_;congr 2;rw[N4 (by simp[hv,o5];omega),lJ (by simp[hv,o5];omega)];simp
section
variable {P:Program} {C:Cx} {N:Nat} {K:K3} {Q:Ex→K3} {env:cR} {V:HV} {σ:aY} {ops:Array Oper} {rest:List Oper} {w:World}
variable {d k:Nat} {x y z:Operand} {t T T' E:TypeId} {pos:String} {af:Array Edge} {g:Option (Nat×Bool)} {v:Value} {op:Op}
theorem K9{l:List (Nat×Operand)}{n s yy:Nat}{z0:Value}{cs:List Value}(hT:P.underlying T=some (.slice E))(hi:TI P E z0 s yy)(_hs:0<s)(hn:l.map Prod.fst=List.range' 0 n)
  (hc:l.flatMap (λp=>(ev env p.2).cells.toList)=cs) (hcs:(l.all λp=>(ev env p.2).cells.size==s)=true) (hle:n*s≤16777216) (_hzs:z0.cells.size=s)
  (h:∀b,d6 P C N ops K rest (upd N env d (.slice (some ⟨b,0,none⟩) n n)) V (σ++ [aM E b cs])):
  d6 P C N ops K (⟨some d,.buildSlice T n l.toArray,t,pos,af,none⟩::rest) env V σ:=λa w hf hm=>by
 refine wpList_plain rfl λK' hK'=> ?_;unfold Oper.wp;obtain⟨i,i1,i2,i3,i4⟩:=hi.out;have hln:l.length=n:=by have:=congrArg List.length hn;simpa using this
 have hpl:l.toArray.map (λp=>(p.1,ev env p.2))=(l.map (λp=>(p.1,ev env p.2))).toArray:=bK;have hfill:∀cells:Array Value,cells.size=n*s→Instr.fill (λi=>some (i*s,s)) cells (l.map (λp=>(p.1,ev env p.2)))=some cs.toArray:=λcells hc'=>by
  rw[aaM s _ 0 cells];simp only[Nat.zero_mul,List.take_zero,xR,List.flatMap_map];rw[←hc];simp only[List.map_map,fT,hln];exact hn;intro p hp;obtain⟨q,hq,rfl⟩:=HW.1 hp;have:=List.all_eq_true.1 hcs q hq;simpa using this;simp[hln,hc']
 have e:(execOp (ev env) ⟨some d,.buildSlice T n l.toArray,t,pos,af,none⟩).run P w= .ok (.value (.slice (some ⟨w.heap.size,0,none⟩) n n)) (w.alloc (.cells cs.toArray E)):=by
  have hle':¬(16777216<n*s):=aB;have hmm:=hfill ((Array.range (n*s)).map (z0.cells[·%z0.cells.size]!)) bK;by_cases h0:n*s=0;have hmm:=hfill ((Array.range (n*s)).map ((#[]:Array Value)[·%(#[]:Array Value).size]!)) bK;simp only[execOp,Instr.buildSlice,hpl];simp[run_underlying hT,sizeOf,typeInfo,i1,i3,h0]at hmm⊢;simp[hmm,yO];simp only[execOp,Instr.buildSlice,hpl];simp[run_underlying hT,sizeOf,typeInfo,i1,i3,h0,hle',zeroValue,i2,hmm,yO]
 rw[hf.eval,e];exact hK' _ _ (h w.heap.size _ _ (hf.put (some d) _) (hm.alloc _ _ rfl))
def Gr(E:TypeId)(s:Nat)(v:Value)(n:Nat)(xs:List Value):fB:=λh=>
 xs.length=n*s∧((v= .slice none 0 0∧n=0∧h=λ_=>none)∨
  ∃g cap cur,v= .slice (some ⟨g,0,none⟩) n cap∧h=one g (.cells cur E (0,0))∧n≤cap∧cap≤maxLen∧cur.size=cap*s∧cur.toList.take (n*s)=xs)
theorem bZ.add_none(m:bZ C V σ w)(E:TypeId)(s:Nat):bZ C V (σ++ [Gr E s (.slice none 0 0) 0 []]) w:=by
 obtain⟨hs,h1,h2,h3⟩:=m.own;refine⟨m.os,m.tape,m.output,m.dr,m.size,m.frame,m.sub,m.view,m.vold,hs++ [λ_=>none],h1.append ⟨⟨bK,.inl ⟨rfl,rfl,rfl⟩⟩,trivial⟩,?_,?_⟩;exact xZ.2 ⟨h2,GA _ _,λ_ _ b hb _=>by rw[gY]at hb;subst hb;exact .inr rfl⟩;intro h hh;rcases jW.1 hh with hh|hh
 exact h3 h hh;rw[gY]at hh;subst hh;exact⟨(λ_ _ q=>by cases q),(λ_=>.inl rfl),(λ_ _ q=>bM rfl q)⟩
theorem fF{c:Code}(E:TypeId)(s:Nat)(h:VC P C N c K Q env V (σ++ [Gr E s (.slice none 0 0) 0 []])):VC P C N c K Q env V σ:=λa w hf hm=>h a w hf (hm.add_none E s)
theorem bZ.to_gr{b n cap:Nat}{cs:Array Value}{E:TypeId}{s:Nat}{xs:List Value}(m:bZ C V σ w)(hk:σ[k]? =some (gV b (.cells cs E (0,0))))(hx:xs.length=n*s)(hn:n≤cap)(hm:cap≤maxLen)(hc:cs.size=cap*s)
  (ht:cs.toList.take (n*s)=xs):bZ C V (σ.set k (Gr E s (.slice (some ⟨b,0,none⟩) n cap) n xs)) w:=
 m.upd hk λh hA hs hd=>by
  have hA:h=one b (.cells cs E (0,0)):=hA;exact bZ.single rfl rfl rfl (cV _) (λ_ _ _=>rfl) m.view hd hs ⟨hx,.inr ⟨b,cap,cs,rfl,hA,hn,hm,hc,ht⟩⟩ (λ_ _ q=>q)
theorem tD{l:List Oper}{b n cap:Nat}{cs:Array Value}(s:Nat)(xs:List Value)(hk:σ[k]? =some (gV b (.cells cs E (0,0))))(hx:xs.length=n*s)(hn:n≤cap)(hm':cap≤maxLen)(hc:cs.size=cap*s)
 (ht:cs.toList.take (n*s)=xs) (h:d6 P C N ops K l env V (σ.set k (Gr E s (.slice (some ⟨b,0,none⟩) n cap) n xs))):d6 P C N ops K l env V σ:=λa w hf hm=>h a w hf (hm.to_gr hk hx hn hm' hc ht)
theorem Gr.shape{E:TypeId}{s:Nat}{v:Value}{n:Nat}{xs:List Value}{h:HV}(hg:Gr E s v n xs h):∃a c,v= .slice a n c∧n≤c∧c≤maxLen:=by
 rcases hg.2 with⟨rfl,rfl,_⟩|⟨g,cap,cur,rfl,_,h1,h2,_⟩
 exact⟨none,0,rfl,cV _,kE _⟩;exact⟨_,cap,rfl,h1,h2⟩
theorem Gr.sl{E:TypeId}{v:Value}{n:Nat}{xs:List Value}{h:HV}(hg:Gr E 1 v n xs h):Sl h v xs:=by
 obtain⟨hx,hg⟩:=hg;rw[C_]at hx;rcases hg with⟨rfl,rfl,_⟩|⟨g,cap,cur,rfl,rfl,h1,h2,h3,h4⟩
 have:xs=[]:=rS hx;subst this;exact⟨none,0,rfl,cV _,kE _,λh=>bM rfl h⟩;refine⟨some ⟨g,0,none⟩,cap,by rw[hx],aB,by simpa[maxLen]using h2,λ_=>⟨g,0,cur,E,(0,0),rfl,by simp[one],λi hi=> ?_⟩⟩;rw[←h4,C_,iH,aK aB];simp
theorem inG{n:Nat}{xs:List Value}(hk:σ[k]? =some (Gr E 1 v n xs)):In C V σ (λH=>Sl H v xs):=λw m=>by
 obtain⟨hs,h1,h2,h3⟩:=m.own;obtain⟨h,e,hg⟩:=h1.get hk;exact hg.sl.mono (h3 h (List.mem_of_getElem? e)).1
theorem yJ{n s yy m c:Nat}{z0:Value}{xs news:List Value}{ad:Addr}(hT:P.underlying T=some (.slice E))(hi:TI P E z0 s yy)(hzs:z0.cells.size=s)(hs:0<s)(hx:ev env x=v)(hk:σ[k]? =some (Gr E s v n xs))
  (hy:ev env y= .slice (some ad) m c) (hl:news.length=m*s) (hnews:∀w,bZ C V σ w→∀j u,news[j]? =some u→w.cell? (ad.add j)=some u) (h1:∀u∈news,u.oneCell'=true)
  (hb:(n+m)*yy≤140737488355328) (h63:n+m≤maxLen)
  (h:∀v',(v'= .slice none 0 0↔v= .slice none 0 0∧m=0)→d6 P C N ops K rest (upd N env d v') V (σ.set k (Gr E s v' (n+m) (xs++news)))):
  d6 P C N ops K (⟨some d,.call {callee:=.builtin .append,args:= #[x,y],argTypes:= #[T,T]},t,pos,af,none⟩::rest) env V σ:=λa w hf hm=>by
 refine wpList_plain rfl λK' hK'=> ?_;unfold Oper.wp;obtain⟨i,i1,i2,i3,i4⟩:=hi.out;subst i3;subst i4;have hnews':=hnews w hm;have run:∀(r:Result Value),(Builtin.append_ #[T,T] t #[v,.slice (some ad) m c]).run P w=r→
   (execOp (ev env) ⟨some d,.call {callee:=.builtin .append,args:= #[x,y],argTypes:= #[T,T]},t,pos,af,none⟩).run P w=r.andThen (λv w=>.ok (.value v) w):=λr hr=>by
  simp only[execOp,resolve,invoke,builtin,Sem.run_bind,Sem.run_pure,Result.andThen_ok,List.map_toArray,lQ,y_,hx,hy,hr]
 have fin:∀v' w',(Builtin.append_ #[T,T] t #[v,.slice (some ad) m c]).run P w= .ok v' w'→bZ C V (σ.set k (Gr E i.size v' (n+m) (xs++news))) w'→(v'= .slice none 0 0↔v= .slice none 0 0∧m=0)→
   Oper.upon P ⟨some d,.call {callee:=.builtin .append,args:= #[x,y],argTypes:= #[T,T]},t,pos,af,none⟩ a K' (pR C N K λ_ _ _ _=>False) ((execOp (ev env) ⟨some d,.call {callee:=.builtin .append,args:= #[x,y],argTypes:= #[T,T]},t,pos,af,none⟩).run P w):=λv' w' hr hm' hiff=>by
  rw[run _ hr];exact hK' _ _ (h v' hiff _ _ (hf.put (some d) _) hm')
 rw[hf.eval];have hsmall:n+m≤9223372036854775807:=by simp only[maxLen]at h63;omega
 obtain⟨hs0,s1,s2,s3⟩:=hm.own;obtain⟨hh,e,hg⟩:=s1.get hk;have hsub:=(s3 hh (List.mem_of_getElem? e)).1;have hlen:(xs++news).length=(n+m)*i.size:=by rw[dD,hg.1,hl,o5]
 have grown:∀(old:Nat),bZ C V (σ.set k (Gr E i.size (.slice (some ⟨w.heap.size,0,none⟩) (n+m) (grownCap w (n+m) old E)) (n+m) (xs++news)))
   (w.drew.alloc (.cells (xs.toArray++news.toArray++Builtin.zeroCells z0.cells (grownCap w (n+m) old E-(n+m))) E)):=λold=>by
  have hge:=grownCap_ge w (n+m) old E;have hcm:grownCap w (n+m) old E≤maxLen:=grownCap_le_maxLen w (n+m) old E h63;refine hm.upd hk λq hq hqs hqd=> ?_;refine bZ.single (h':=one w.heap.size (.cells (xs.toArray++news.toArray++Builtin.zeroCells z0.cells (grownCap w (n+m) old E-(n+m))) E (0,0))) rfl rfl rfl bK (λb hb _=>heap_alloc_old w.drew _ b hb) hm.view hqd ?_
   ⟨hlen,.inr ⟨w.heap.size,_,_,rfl,rfl,hge,hcm,?_,?_⟩⟩ ?_
  intro b o hb;unfold one at hb;split at hb;rename_i hbe;subst hbe;cases hb;exact heap_alloc_new w.drew _;cases hb;simp only[Array.size_append,A_,size_zeroCells,hzs,hg.1,hl,←o5];congr 1;omega;simp only[Array.toList_append,EJ];rw[←EJ,←hlen];exact List.take_left;intro b hb hn;unfold one at hn;split at hn;omega;exact bM rfl hn
 rcases hg.2 with⟨rfl,rfl,he⟩|⟨gb,cap,cur,rfl,he,hnc,hcm,hcs,htake⟩
 have hx0:xs=[]:=rS (by simpa using hg.1);subst hx0;by_cases hm0:m=0;subst hm0;have hn0:news=[]:=rS PZ;subst hn0;refine fin (.slice none 0 0) w ?_ ?_ bK;simp[Builtin.append_,run_underlying hT,sizeOf,typeInfo,i1,Builtin.lenOf,Builtin.firstCells,loadCells,loadCellsFrom];have hset:σ.set k (Gr E i.size (.slice none 0 0) (0+0) ([]++ []))=σ:=by
  obtain⟨hk1,hk2⟩:=EG.1 hk;have:Gr E i.size (.slice none 0 0) (0+0) ([]++ [])=σ[k]:=by rw[hk2];rfl
  rw[this];exact List.set_getElem_self hk1
 rw[hset];exact hm;have hr:=run_append_nil (P:=P) w T t E i z0 hT i1 i2 ad m c news hl hnews' aB aB (by have hb:=hb;simp only[Nat.zero_add]at hb;omega);have hgr:=grown 0;simp only[Nat.zero_add,xR,Array.empty_append]at hgr hr;refine fin _ _ hr ?_ (by simp[hm0]);simpa using hgr;have hcell:w.heap[gb]? =some (.cells cur E (0,0)):=hsub gb _ (by rw[he];simp[one]);by_cases hroom:n+m≤cap;have hfit:n*i.size+news.length≤cur.size:=by rw[hl,hcs,←o5];exact vG _ hroom
 have hr:=run_append_room (P:=P) w T t E i hT i1 gb n cap cur hcell ad m c news hl hnews' h1 hroom hfit;refine fin _ _ hr ?_ bK;have hlt:gb<w.heap.size:=jD (w:=w) hcell;refine hm.upd hk λq hq hqs hqd=> ?_;have hqe:q gb≠none:=by
  rcases hq.2 with⟨q1,_⟩|⟨g',_,_,q1,q2,_⟩
  cases q1;cases q1;rw[q2];simp[one]
 refine bZ.single (h':=one gb (.cells (cur.toList.take (n*i.size)++news++cur.toList.drop (n*i.size+news.length)).toArray E (0,0))) rfl rfl rfl (by simp[World.setRow]) (λb hb hn=>setRow_other w gb b _ (λe=>hqe (e▸hn))) hm.view hqd ?_
  ⟨hlen,.inr ⟨gb,cap,_,rfl,rfl,hroom,hcm,?_,?_⟩⟩ ?_
 intro b o hb;unfold one at hb;split at hb;rename_i hbe;subst hbe;cases hb;exact setRow_heap w _ cur _ E _ hcell;cases hb;simp only[A_,dD,jL,mX,ahL];omega;rw[htake,←hlen];exact List.take_left;intro b hb hn;unfold one at hn;split at hn;rename_i hbe;subst hbe;exact hqe;exact bM rfl hn;have holds:∀j u,xs[j]? =some u→w.cell? ((⟨gb,0,none⟩:Addr).add j)=some u:=λj u hu=>by
  rw[zN (w:=w) (b:=gb) (off:=0) (i:=j) hcell];rw[←htake,iH]at hu;split at hu;simpa using hu;cases hu
 have hr:=run_append_grow (P:=P) w T t E i z0 hT i1 i2 ⟨gb,0,none⟩ n cap xs hg.1 holds ad m c news hl hnews' aB aB (growslice_fits aB hb);exact fin _ _ hr (grown cap) bK
theorem arN{j b:Nat}{T':TypeId}{news:List Value}(hj:σ[j]? =some (aM T' b news)):∀w,bZ C V σ w→∀i u,news[i]? =some u→w.cell? ((⟨b,0,none⟩:Addr).add i)=some u:=λw hm i u hu=>by
 rw[zN (w:=w) (hm.blk hj).1];simpa using hu
end
end Go.Vc
namespace Go.Vc
open Go.RowKit
variable{i j:Int}{v:Value}{vs:List Value}{xs:List Int}
abbrev gr(L:List (List Int))(i:Int):List Int:=L.getD i.toNat []
section
variable {P:Program} {C:Cx} {N:Nat} {K:K3} {Q:Ex→K3} {env:cR} {V:HV} {σ:aY} {ops:Array Oper} {rest:List Oper} {w:World}
variable {d k:Nat} {dst:Option Nat} {x y z:Operand} {t T T' E:TypeId} {pos:String} {af:Array Edge} {g:Option (Nat×Bool)} {v:Value} {op:Op} {m n:Int}
theorem aEi{vals:List Value}{i:Int}{u:Value}(hP:sK P T)(hx:ev env x=iG v i 1)(hv:In C V σ (λH=>Sl H v vals))(h0:0≤i)(h1:i<vals.length)(hu:gv vals i=u):
 QV P C ⟨dst,.load T x,t,pos,af,g⟩ env V σ u:=by rw[←hu];exact ND hP hx hv h0 h1
theorem ax9{c:Operand}{a b:Code}{p:Prop}[Decidable p](hc:ev env c= .bool (decide p))(hp:p)(h:VC P C N a K Q env V σ):VC P C N (.cond c a b) K Q env V σ:=
 afN hc (λ_=>h) (λhn=>bM hp hn)
theorem ay1{c:Operand}{a b:Code}{p:Prop}[Decidable p](hc:ev env c= .bool (decide p))(hp:¬p)(h:VC P C N b K Q env V σ):VC P C N (.cond c a b) K Q env V σ:=
 afN hc (λhn=>bM hn hp) (λ_=>h)
theorem aGw{c:Operand}{a b:Code}(hc:ev env c= .bool true)(h:VC P C N a K Q env V σ):VC P C N (.cond c a b) K Q env V σ:=
 QR hc (λ_=>h) (λhn=>by cases hn)
theorem aFJ{c:Operand}{a b:Code}(hc:ev env c= .bool false)(h:VC P C N b K Q env V σ):VC P C N (.cond c a b) K Q env V σ:=
 QR hc (λhn=>by cases hn) (λ_=>h)
theorem azR{o:Oper}{j d:Nat}(hg:o.guard=some (j,true))(hd:(ops[j]?).bind (·.dst)=some d)(he:env d= .bool true):dE o ops env=true:=by
 simp[dE,Region.wanted,hg,kK,hd,he]
theorem azA{o:Oper}{j d:Nat}(hg:o.guard=some (j,false))(hd:(ops[j]?).bind (·.dst)=some d)(he:env d= .bool false):dE o ops env=true:=by
 simp[dE,Region.wanted,hg,kK,hd,he]
theorem aoH{o:Oper}{j d:Nat}(hg:o.guard=some (j,true))(hd:(ops[j]?).bind (·.dst)=some d)(he:env d= .bool false):dE o ops env=false:=by
 simp[dE,Region.wanted,hg,kK,hd,he]
theorem anT{o:Oper}{j d:Nat}(hg:o.guard=some (j,false))(hd:(ops[j]?).bind (·.dst)=some d)(he:env d= .bool true):dE o ops env=false:=by
 simp[dE,Region.wanted,hg,kK,hd,he]
theorem aA0{o:Oper}{j d:Nat}{c:Bool}(hg:o.guard=some (j,c))(hd:(ops[j]?).bind (·.dst)=some d)(he:env d=undef):dE o ops env=false:=by
 simp[dE,Region.wanted,hg,kK,hd,he,undef]
theorem ae9{a:Value}(hc:ev env z= .bool true)(hx:ev env x=a):QV P C ⟨dst,.pick z x y,t,pos,af,g⟩ env V σ a:=cS λw _=>by
 simp[execOp,hc,hx,asBool]
theorem aeB{a:Value}(hc:ev env z= .bool false)(hy:ev env y=a):QV P C ⟨dst,.pick z x y,t,pos,af,g⟩ env V σ a:=cS λw _=>by
 simp[execOp,hc,hy,asBool]
theorem adR{b:Bool}(hx:ev env x= .bool b):QV P C ⟨dst,.unOp .not T x,t,pos,af,g⟩ env V σ (.bool (!b)):=cS λw _=>by
 simp[execOp,hx,Op.unary]
theorem D4(hx:ev env x= .int .i64 m)(hy:ev env y= .int .i64 n)(h1:0≤m∧m≤9223372036854775807)(h2:1≤n):QV P C ⟨dst,.binOp .quo T x y T',t,pos,af,g⟩ env V σ (.int .i64 (m/n)):=
 RK hx hy aB (IntWalk.i64_quo m n ⟨h1.1,h1.2,h2⟩)
theorem aC3(hx:ev env x= .int .i64 m)(hy:ev env y= .int .i64 n)(h1:0≤m)(h2:1≤n):QV P C ⟨dst,.binOp .rem T x y T',t,pos,af,g⟩ env V σ (.int .i64 (m%n)):=
 S_ hx hy aB (Int.tmod_eq_emod_of_nonneg h1)
def yV(P:Program)(T:TypeId)(f o:Nat):Prop:=∃fs fl s,P.underlying T=some (.struct fs)∧fs[f]? =some fl∧fl.offset=o∧eF P fl.type s∧s≠0
theorem KA{f b off o:Nat}(hF:yV P T f o)(hx:ev env x= .pointer (some ⟨b,off,none⟩)):QV P C ⟨dst,.fieldAddr T x f,t,pos,af,g⟩ env V σ (.pointer (some ⟨b,off+o,none⟩)):=cS λw _=>by
 obtain⟨fs,fl,s,h1,h2,h3,h4,h5⟩:=hF;subst h3;have e:(⟨b,off,none⟩:Addr).add fl.offset=⟨b,off+fl.offset,none⟩:=by
  unfold Addr.add;by_cases h:fl.offset=0;simp[h];simp[h]
 simp[execOp,hx,Instr.fieldAt,underlying,h1,h2,Instr.sureAddr,fieldPlace,eT h4,h5,e]
end
open Classical in
theorem eK{p:Int→Prop}(h:∀i:Int,0≤i→i<j→p i)(hj:p j):∀i:Int,0≤i→i<j+1→p i:=λi a b=>by
 by_cases e:i=j
 ·rw[e];exact hj
 ·exact h i a aB
theorem wF(_:0≤i)(h1:i<vs.length):gv (vs.set i.toNat v) i=v:=by
 have h:i.toNat<vs.length:=aB;simp[gv,bX,h]
theorem uQ(h0:0≤i)(h1:0≤j)(h:i≠j):gv (vs.set i.toNat v) j=gv vs j:=by
 have h:i.toNat≠j.toNat:=aB;simp[gv,bX,List.getElem?_set,h]
theorem aa4{v:Int}(_:0≤i)(h1:i<xs.length):gi (xs.set i.toNat v) i=v:=by
 have h:i.toNat<xs.length:=aB;simp[gi,bX,h]
theorem WT{v:Int}(h0:0≤i)(h1:0≤j)(h:i≠j):gi (xs.set i.toNat v) j=gi xs j:=by
 have h:i.toNat≠j.toNat:=aB;simp[gi,bX,h]
structure Mat (k:IntKind) (H:HV) (v:Value) (rv:List Value) (L:List (List Int)):Prop where
 sl:Sl H v rv
 len:rv.length=L.length
 row:∀i:Int,0≤i→i<L.length→aT k H (gv rv i) (gr L i)
end Go.Vc
namespace Go.Vc
open Go
section
variable {P:Program} {ops:Array Oper} {md:Region.Mode} {Q:Exit→Act→World→Prop}
theorem aiS{j:Nat}{oi oj:Oper}{v:Value}{Y:Act→Prop}(hj:ops[j]? =some oj)(hap:oi.apart ops oj=true)(hsj:∀cs b,oj.op≠ .select cs b)
  (hQ:∀c a w,Q (.panic c) (a.put oi.dst v) w→Q (.panic c) a w) {K:Act→World→Prop} {a:Act} {w:World}
  (keep:∀a u,Y a→Y (a.put oj.dst u)) (keepD:∀a d,Y a→Y {a with defers:=d::a.defers}) (hy:Y a) (h:wpOp P ops Q j K (a.put oi.dst v) w):
  wpOp P ops Q j (λa' w'=>Y a'∧K (a'.put oi.dst v) w') a w:=by
 obtain⟨h1,h2,h3⟩:=Oper.apart_spec hap;unfold wpOp at*;simp only[hj]at*;rw[wanted_put oj a oi.dst v h1]at h;split
 ·rename_i hw
  simp only[hw,if_true]at h;rcases h with h|⟨hasks,hlets⟩
  case inr=>exact .inr ⟨by unfold Oper.asks at*;rw[execOp_put oj hsj a oi.dst v h1]at hasks;exact hasks,hlets⟩
  refine .inl ?_;unfold Oper.wp at*;rw[execOp_put oj hsj a oi.dst v h1]at h;generalize (execOp a.eval oj).run P w=r at*;cases r with
  |ok n w'=>
   cases n<;>simp only[Oper.upon]at h⊢;case value u=>exact⟨keep a u hy,by rw[←Act.put_comm a v u h2];exact h⟩
   case skip=>exact⟨keep a _ hy,by rw[←Act.put_comm a v undef h2];exact h⟩
   case defer d=>
    refine⟨keep _ _ (keepD a d hy),?_⟩;rw[←Act.put_comm _ v undef h2,←Act.put_defers];exact h
   case enter f args=>
    refine Calls.mono h λe w'' he=> ?_;cases e with
    |returned u=>exact⟨keep a u hy,by rw[←Act.put_comm a v u h2];exact he⟩
    |panicked c=>exact hQ _ _ _ he
    |outgrown=>exact he
   case row row args=>exact Rows.mono h λu w'' he=>⟨keep a u hy,by rw[←Act.put_comm a v u h2];exact he⟩
  |halt x w'=>
   cases x<;>simp only[Oper.upon]at h⊢;case panic u=>exact hQ _ _ _ h
 ·rename_i hw
  simp only[hw]at h;exact⟨keep a _ hy,by rw[←Act.put_comm a v undef h2];exact h⟩
def lX(P:Program)(ops:Array Oper)(CQ:World→Prop)(o:Oper)(v:Value)(a:Act):Prop:=
 (Region.wanted o (yielded ops a.tmps)=true∧∀w,CQ w→Oper.quietUpon P (λw'=>kA w w') w v ((execOp a.eval o).run P w))∨
 (Region.wanted o (yielded ops a.tmps)=false∧v=undef)
theorem lX.of_same{CQ:World→Prop}{o:Oper}{v:Value}{a a':Act}(hy:lX P ops CQ o v a)(he:execOp a'.eval o=execOp a.eval o)
  (hw:Region.wanted o (yielded ops a'.tmps)=Region.wanted o (yielded ops a.tmps)):lX P ops CQ o v a':=by
 unfold lX at*;rw[he,hw];exact hy
theorem lX.mono{CQ CQ':World→Prop}{o:Oper}{v:Value}{a:Act}(hy:lX P ops CQ o v a)(h:∀w,CQ' w→CQ w):lX P ops CQ' o v a:=by
 rcases hy with⟨h1,h2⟩|h1
 exact .inl ⟨h1,λw c=>h2 w (h w c)⟩;exact .inr h1
theorem lX.wpOp{CQ:World→Prop}{i:Nat}{o:Oper}{v:Value}{a:Act}(hi:ops[i]? =some o)(hy:lX P ops CQ o v a){K:Act→World→Prop}{w:World}(hw:CQ w)
  (h:∀w',kA w w'→K (a.put o.dst v) w'):Go.wpOp P ops Q i K a w:=by
 unfold Go.wpOp;simp only[hi];rcases hy with⟨hwant,hv⟩|⟨hwant,rfl⟩
 ·simp only[hwant,if_true]
  left;have h3:=hv w hw;unfold Oper.wp;generalize (execOp a.eval o).run P w=r at*;cases r with
  |ok n w'=>
   cases n<;>simp only[Oper.quietUpon]at h3<;>simp only[Oper.upon];case value u=>obtain⟨e1,e2⟩:=h3;rw[e1,e2];exact h _ (kA.refl _)
   case skip=>obtain⟨e1,e2⟩:=h3;rw[e1,←e2];exact h _ (kA.refl _)
   case enter f args=>
    obtain⟨e1,hc⟩:=h3;rw[e1];exact hc.mono λe w'' ⟨he,hw''⟩=>by subst he;exact h _ hw''
  |halt x w'=>simp only[Oper.quietUpon]at h3
 ·simp only[hwant,Bool.false_eq_true,if_false];exact h _ (kA.refl _)
def II(CQ:World→Prop):Prop:=∀w w',CQ w→kA w w'→CQ w'
def nP(md:Region.Mode)(ops:Array Oper)(j:Nat):Bool:=
 (List.range ops.size).all λi=>i==j||Region.waitsFor md ops j i||Region.waitsFor md ops i j
theorem aqM{i j:Nat}{listed:Array Bool}(h:nP md ops j=true)(hij:j≠i)(hi:i∈Region.ready md ops listed)(hj:j∈Region.ready md ops listed):False:=by
 obtain⟨ui,oi,hoi,alli⟩:=mem_ready.1 hi;obtain⟨uj,oj,hoj,allj⟩:=mem_ready.1 hj;have hlt:i<ops.size:=(Array.getElem?_eq_some_iff.1 hoi).1;have:=List.all_eq_true.1 h i (CM.2 hlt);simp only[Bool.or_eq_true,beq_iff_eq]at this;rcases this with(e|e)|e
 exact hij e.symm;obtain⟨o,ho,x,hx,hb,hon⟩:=Region.waitsFor_spec e;have:o=oj:=Option.some.inj (ho.symm.trans hoj);subst this;have:=allj x hx hb;rw[hon,getD_both ui]at this;cases this;obtain⟨o,ho,x,hx,hb,hon⟩:=Region.waitsFor_spec e;have:o=oi:=Option.some.inj (ho.symm.trans hoi);subst this;have:=alli x hx hb;rw[hon,getD_both uj]at this;cases this
def N8(P:Program)(md:Region.Mode)(ops:Array Oper)(Q:Exit→Act→World→Prop):Nat→(World→Prop)→Array Bool→Act→World→Prop
 |0,_,listed,a,w=>∀w',kA w w'→Region.ready md ops listed=[]∧Q .normal a w'
 |f+1,CQ,listed,a,w=>∀w',kA w w'→(Region.ready md ops listed=[]→Q .normal a w')∧
  ∀i∈Region.ready md ops listed,wpOp P ops Q i (λa' w''=>∃CQ':World→Prop,II CQ'∧((∀w,CQ' w→CQ w)∨nP md ops i=true)∧CQ' w''∧N8 P md ops Q f CQ' (listed.setIfInBounds i true) a' w'') a w'
theorem axK:∀{f:Nat} {CQ:World→Prop} {listed:Array Bool} {a:Act} {w w':World},N8 P md ops Q f CQ listed a w→kA w w'→N8 P md ops Q f CQ listed a w'
 |0,_,_,_,_,_,h,e=>λw2 e2=>h w2 (e.trans e2)
 |_+1,_,_,_,_,_,h,e=>λw2 e2=>h w2 (e.trans e2)
theorem FO:∀(f:Nat) (CQ:World→Prop) (listed:Array Bool) (a:Act) (w:World),N8 P md ops Q f CQ listed a w→wpAny P md ops Q f listed a w
 |0,_,_,_,w,h=>h w (kA.refl _)
 |f+1,_,_,_,w,h=>⟨(h w (kA.refl _)).1,λi hi=>wpOp_mono (λa' w' ⟨_,_,_,_,h'⟩=>FO f _ _ a' w' h') ((h w (kA.refl _)).2 i hi)⟩
theorem ab4{i:Nat}{oi:Oper}{v:Value}(hi:ops[i]? =some oi)(hsel:∀(j:Nat) (o:Oper) cs b,ops[j]? =some o→o.op≠ .select cs b)
  (hQ:∀c a w,Q (.panic c) (a.put oi.dst v) w→Q (.panic c) a w):
  ∀(fuel:Nat) (CQ:World→Prop) (listed:Array Bool) (a:Act) (w:World),II CQ→CQ w→
   (∀j oj,ops[j]? =some oj→j≠i→listed.getD j true=false→(∀e∈oj.after,Region.binds md e=true→e.on≠i)→oi.apart ops oj=true)→
   i∈Region.ready md ops listed→lX P ops CQ oi v a→
   N8 P md ops Q fuel CQ (listed.setIfInBounds i true) (a.put oi.dst v) w→N8 P md ops Q (fuel+1) CQ listed a w:=by
 intro fuel;induction fuel with
 |zero=>
  intro CQ listed a w hS hw _ hr hy H w' e';refine⟨λh=>(by rw[h]at hr;cases hr),λj hj=> ?_⟩;by_cases hji:j=i;subst hji;exact hy.wpOp hi (hS _ _ hw e') (λw2 e2=>⟨CQ,hS,.inl λ_ h=>h,hS _ _ hw (e'.trans e2),λw3 e3=>H w3 ((e'.trans e2).trans e3)⟩);have:=ready_mono hj hji;rw[(H w' e').1]at this;cases this
 |succ fuel ih=>
  intro CQ listed a w hS hw hfree hr hy H w' e';refine⟨λh=>(by rw[h]at hr;cases hr),λj hj=> ?_⟩;by_cases hji:j=i;subst hji;exact hy.wpOp hi (hS _ _ hw e') (λw2 e2=>⟨CQ,hS,.inl λ_ h=>h,hS _ _ hw (e'.trans e2),axK H (e'.trans e2)⟩);have h1:=(H w' e').2 j (ready_mono hj hji);obtain⟨hjun,oj,hoj,hall⟩:=mem_ready.1 hj;have hnot:∀e∈oj.after,Region.binds md e=true→e.on≠i:=λe he hb heq=>by
   have h2:=hall e he hb;rw[heq,getD_both (mem_ready.1 hr).1]at h2;cases h2
  have hap:=hfree j oj hoj hji hjun hnot;obtain⟨p1,p2,p3⟩:=Oper.apart_spec hap;have h2:=aiS (Y:=λa=>lX P ops CQ oi v a) hoj hap (λcs b=>hsel j oj cs b hoj) hQ
   (λa u hy=>hy.of_same (execOp_put oi (λcs b=>hsel i oi cs b hi) a oj.dst u p3) (wanted_put oi a oj.dst u p3)) (λa d hy=>hy.of_same rfl rfl) hy h1
  refine wpOp_mono (λa' w2 ⟨hy',CQ',q1,q2,q3,q4⟩=>⟨CQ',q1,q2,q3,ih CQ' (listed.setIfInBounds j true) a' w2 q1 q3 (λk ok hk hki hun hno=> ?_) (ready_mono hr (Ne.symm hji)) (hy'.mono (q2.resolve_right λhl=>aqM hl hji hr hj)) ?_⟩) h2;refine hfree k ok hk hki ?_ hno;by_cases hjk:j=k;subst hjk;exact hjun;rw[getD_set_ne true hjk]at hun;exact hun;rw[Array.setIfInBounds_comm _ _ hji];exact q4
def qK(md:Region.Mode)(ops:Array Oper):List (Nat×Bool)→Array Bool→Bool
 | [],listed=>(Region.ready md ops listed).isEmpty
 |(i,false)::l,listed=>(Region.ready md ops listed).contains i&&Region.free md ops listed i&&qK md ops l (listed.setIfInBounds i true)
 |(i,true)::l,listed=>decide (Region.ready md ops listed=[i])&&qK md ops l (listed.setIfInBounds i true)
def wpO(P:Program)(ops:Array Oper)(Q:Exit→Act→World→Prop):List (Nat×Bool)→(World→Prop)→Act→World→Prop
 | [],_,a,w=>∀w',kA w w'→Q .normal a w'
 |(i,false)::l,CQ,a,w=>∃o v,ops[i]? =some o∧lX P ops CQ o v a∧wpO P ops Q l CQ (a.put o.dst v) w
 |(i,true)::l,CQ,a,w=>∀w',kA w w'→wpOp P ops Q i (λa' w''=>∃CQ':World→Prop,II CQ'∧((∀w,CQ' w→CQ w)∨nP .any ops i=true)∧CQ' w''∧wpO P ops Q l CQ' a' w'') a w'
theorem OQ(hsel:Region.noSelect ops=true)(hQ:∀c a w,¬Q (.panic c) a w):∀(l:List (Nat×Bool)) (CQ:World→Prop) (listed:Array Bool) (a:Act) (w:World),II CQ→CQ w→
  qK .any ops l listed=true→wpO P ops Q l CQ a w→N8 P .any ops Q l.length CQ listed a w
 | [],_,_,_,_,_,_,hB,h=>λw' e'=>⟨by simpa[qK]using hB,h w' e'⟩
 |(i,false)::l,CQ,listed,a,w,hS,hw,hB,h=>by
  simp only[qK,Bool.and_eq_true]at hB;obtain⟨⟨hr,hf⟩,hB'⟩:=hB;obtain⟨o,v,ho,hy,hK⟩:=h;exact ab4 ho (Region.noSelect_spec hsel) (λc a w h=>bM h (hQ _ _ _)) _ CQ listed a w hS hw (Region.free_spec ho hf) (by simpa using hr) hy
   (OQ hsel hQ l CQ _ _ w hS hw hB' hK)
 |(i,true)::l,CQ,listed,a,w,hS,hw,hB,h=>by
  simp only[qK,Bool.and_eq_true,decide_eq_true_eq]at hB;intro w' e';refine⟨λh1=>(by rw[hB.1]at h1;cases h1),λj hj=> ?_⟩;rw[hB.1]at hj;have hij:j=i:=by simpa using hj
  subst hij;exact wpOp_mono (λa' w'' ⟨CQ',q1,q2,q3,q4⟩=>⟨CQ',q1,q2,q3,OQ hsel hQ l CQ' _ a' w'' q1 q3 hB.2 q4⟩) (h w' e')
theorem OY{CQ:World→Prop}{id:Nat}{a:Act}{w:World}(l:List (Nat×Bool))(hm:P.follows .mixedOrders=true)(hsel:Region.noSelect ops=true)(hl:l.length=ops.size)
  (hB:qK .any ops l (Array.replicate ops.size false)=true) (hQ:∀c a w,¬Q (.panic c) a w) (hS:II CQ)
  (hC:CQ {w with drawn:=w.drawn+1}) (h:wpO P ops Q l CQ a {w with drawn:=w.drawn+1}):(Code.region id ops true).wp P Q a w:=by
 refine wp_region_any hm ?_;have:=OQ hsel hQ l CQ _ a _ hS hC hB h;rw[hl]at this;exact FO _ CQ _ _ _ this
end
section
variable {P:Program} {C:Cx} {N:Nat} {K:K3} {Q:Ex→K3} {env:cR} {V V0:HV} {σ σq:aY} {ops:Array Oper} {rest:List (Nat×Bool)} {w:World}
variable {d i:Nat} {t T T' E:TypeId} {pos:String} {af:Array Edge} {g:Option (Nat×Bool)} {v:Value} {op:Op} {o:Oper}
theorem bZ.weaken{τ:aY}(m:bZ C V σ w)(h1:bR V0 V)(h2:bR C.V0 V0)(h3:∀b,b<C.w0.heap.size→¬C.D b→V0 b=C.V0 b)(hp:σ.Perm (σq++τ)):bZ C V0 σq w:=by
 obtain⟨hs,s1,s2,s3⟩:=(m.perm hp).own;obtain⟨ha,hb,rfl,s4,s5⟩:=s1.split;refine⟨m.os,m.tape,m.output,m.dr,m.size,m.frame,h2,h1.trans m.view,h3,ha,s4,(xZ.1 s2).1,λh hh=> ?_⟩;obtain⟨q1,q2,q3⟩:=s3 h (t5 _ hh);refine⟨q1,λb=> ?_,q3⟩;rcases q2 b with q|q
 exact .inl q;right;cases e:V0 b with
 |none=>rfl
 |some o=>rw[h1 b o e]at q;cases q
def iY(P:Program)(C:Cx)(N:Nat)(ops:Array Oper)(K:K3)(l:List (Nat×Bool))(env:cR)(V:HV)(σ σq:aY):Prop:=
 ∀a w,Fr N env a→bZ C V σ w→(∃τ,σ.Perm (σq++τ))→wpO P ops (pR C N K (λ_ _ _ _=>False)) l (bZ C V σq) a w
theorem AM(C:Cx)(V:HV)(σ:aY):II (bZ C V σ):=λ_ _ h e=>h.ext e
theorem aKg(h:K env V σ):iY P C N ops K [] env V σ σq:=λ_ _ hf hm _ _ e=>⟨env,V,σ,hf,hm.ext e,h⟩
theorem re(ho:ops[i]? =some ⟨some d,op,t,pos,af,g⟩)(hq:QV P C ⟨some d,op,t,pos,af,g⟩ env V σq v)(hw:dE ⟨some d,op,t,pos,af,g⟩ ops env=true)(h:iY P C N ops K rest (upd N env d v) V σ σq):
  iY P C N ops K ((i,false)::rest) env V σ σq:=λa w hf hm hp=>
 ⟨_,v,ho,.inl ⟨by rw[hf.yielded];exact hw,λw' c=>by rw[hf.eval];exact o8 (λ_ h=>h.2) (hq w' c)⟩,h _ w (hf.put (some d) v) hm hp⟩
theorem rq(ho:ops[i]? =some ⟨some d,op,t,pos,af,none⟩)(hq:QV P C ⟨some d,op,t,pos,af,none⟩ env V σq v)(h:iY P C N ops K rest (upd N env d v) V σ σq):iY P C N ops K ((i,false)::rest) env V σ σq:=
 re ho hq (tS rfl) h
theorem rs(ho:ops[i]? =some ⟨some d,op,t,pos,af,g⟩)(hw:dE ⟨some d,op,t,pos,af,g⟩ ops env=false)(h:iY P C N ops K rest (upd N env d undef) V σ σq):iY P C N ops K ((i,false)::rest) env V σ σq:=λa w hf hm hp=>
 ⟨_,undef,ho,.inr ⟨by rw[hf.yielded];exact hw,rfl⟩,h _ w (hf.put (some d) undef) hm hp⟩
theorem Oper.wp_monoQ{a:Act}{K K':Act→World→Prop}{Q Q':Exit→Act→World→Prop}(hK:∀a w,K a w→K' a w)(hQ:∀c a w,Q (.panic c) a w→Q' (.panic c) a w)(hO:LetsOut Q→LetsOut Q')
  (h:Oper.wp P o a w K Q):Oper.wp P o a w K' Q':=by
 unfold Oper.wp at*;generalize (execOp a.eval o).run P w=r at*;cases r with
 |ok n w'=>
  cases n<;>simp only[Oper.upon]at h⊢;case value u=>exact hK _ _ h
  case skip=>exact hK _ _ h
  case defer d=>exact hK _ _ h
  case enter f args=>
   refine Calls.mono h λe w'' he=> ?_;cases e with
   |returned u=>exact hK _ _ he
   |panicked c=>exact hQ _ _ _ he
   |outgrown=>exact hO he
  case row row args=>exact Rows.mono h λu w'' he=>hK _ _ he
 |halt x w'=>
  cases x<;>simp only[Oper.upon]at h⊢;case panic u=>exact hQ _ _ _ h
theorem uP{K:K3}:¬LetsOut (pR C N K (λ_ _ _ _=>False)):=by
 rintro⟨_,_,_,_,_,_,_,h⟩;exact h
theorem BQ{K1 K2:K3}{a:Act}(h:∀a w,pR C N K1 (λ_ _ _ _=>False) .normal a w→pR C N K2 (λ_ _ _ _=>False) .normal a w)
  (hl:wpList P ops (pR C N K1 (λ_ _ _ _=>False)) [o] a w):wpList P ops (pR C N K2 (λ_ _ _ _=>False)) [o] a w:=by
 simp only[wpList]at hl⊢;split;rename_i hw;rw[aK hw]at hl;rcases hl with hl|⟨_,hl⟩
 exact .inl (Oper.wp_monoQ h (λc a w ⟨_,_,_,_,_,h⟩=>h.elim) (λh=>bM h uP) hl);exact bM hl uP;rename_i hw;rw[aC hw]at hl;exact h _ _ hl
theorem rl0(ho:ops[i]? =some o)
  (h:d6 P C N ops (λe' V' σ'=>∃σq' τ',σ'.Perm (σq'++τ')∧((bR V V'∧∃ρ,σq'.Perm (σq++ρ))∨nP .any ops i=true)∧iY P C N ops K rest e' V' σ' σq') [o] env V σ):iY P C N ops K ((i,true)::rest) env V σ σq:=λa w hf hm hp w' e'=>by
 have hm':=hm.ext e';have hl:=h a w' hf hm';have fin:∀a'' w'',pR C N (λe' V' σ'=>∃σq' τ',σ'.Perm (σq'++τ')∧((bR V V'∧∃ρ,σq'.Perm (σq++ρ))∨nP .any ops i=true)∧iY P C N ops K rest e' V' σ' σq') (λ_ _ _ _=>False) .normal a'' w''→
   ∃CQ':World→Prop,II CQ'∧((∀w,CQ' w→bZ C V σq w)∨nP .any ops i=true)∧CQ' w''∧wpO P ops (pR C N K (λ_ _ _ _=>False)) rest CQ' a'' w'':=by
  rintro a'' w'' ⟨env',V',σ',hf',hm2,σq',τ',h2,h3,h4⟩;exact⟨bZ C V' σq',AM _ _ _,h3.imp (λ⟨h1,ρ,h3⟩ w c=>c.weaken h1 hm.sub hm.vold h3) id,hm2.weaken (bR.refl _) hm2.sub hm2.vold h2,h4 _ _ hf' hm2 ⟨τ',h2⟩⟩
 unfold wpOp;simp only[ho];simp only[wpList]at hl;split;rename_i hw;rw[aK hw]at hl;rcases hl with hl|⟨_,hl⟩
 exact .inl (Oper.wp_monoQ fin (λc a w ⟨_,_,_,_,_,h⟩=>h.elim) (λh=>bM h uP) hl);exact bM hl uP;rename_i hw;rw[aC hw]at hl;exact fin _ _ hl
theorem cB{α:Type _}(l:List α):l.Perm (l++ []):=by rw[kN]
theorem rl(ho:ops[i]? =some o)
  (h:d6 P C N ops (λe' V' σ'=>∃σq' τ',bR V V'∧σ'.Perm (σq'++τ')∧(∃ρ,σq'.Perm (σq++ρ))∧iY P C N ops K rest e' V' σ' σq') [o] env V σ):iY P C N ops K ((i,true)::rest) env V σ σq:=
 rl0 ho λa w hf hm=>by
  refine BQ ?_ (h a w hf hm);rintro a' w' ⟨e',V',σ',h1,h2,σq',τ',h3,h4,h5,h6⟩;exact⟨e',V',σ',h1,h2,σq',τ',h4,.inl ⟨h3,h5⟩,h6⟩
theorem rl1(hs:nP .any ops i=true)(ho:ops[i]? =some o)
  (h:d6 P C N ops (λe' V' σ'=>∃σq' τ',σ'.Perm (σq'++τ')∧iY P C N ops K rest e' V' σ' σq') [o] env V σ):iY P C N ops K ((i,true)::rest) env V σ σq:=
 rl0 ho λa w hf hm=>by
  refine BQ ?_ (h a w hf hm);rintro a' w' ⟨e',V',σ',h1,h2,σq',τ',h4,h6⟩;exact⟨e',V',σ',h1,h2,σq',τ',h4,.inr hs,h6⟩
theorem rt(ho:ops[i]? =some ⟨some d,op,t,pos,af,g⟩)(hq:QV P C ⟨some d,op,t,pos,af,g⟩ env V σ v)(hw:dE ⟨some d,op,t,pos,af,g⟩ ops env=true){τ:aY}(hp:σ.Perm (σq++τ))
  (h:iY P C N ops K rest (upd N env d v) V σ σq):iY P C N ops K ((i,true)::rest) env V σ σq:=
 rl ho (og hq hw (cL ⟨σq,τ,bR.refl _,hp,⟨[],bK⟩,h⟩))
theorem BX{id:Nat}{l:List Oper}{τ:aY}(ord:List (Nat×Bool))(σq:aY)(hm:P.follows .mixedOrders=true)(hp:σ.Perm (σq++τ))
  (hB:(Region.noSelect l.toArray&&decide (ord.length=l.toArray.size)&&qK .any l.toArray ord (Array.replicate l.toArray.size false))=true)
  (h:iY P C N l.toArray K ord env V σ σq):VC P C N (.region id l.toArray true) K Q env V σ:=λa w hf hmm=>by
 simp only[Bool.and_eq_true,decide_eq_true_eq]at hB;have hmd:=hmm.drawn (w.drawn+1);refine wp_mono (OY (CQ:=bZ C V σq) (Q:=pR C N K (λ_ _ _ _=>False)) ord hm hB.1.1 hB.1.2 hB.2 (λc a w h=> ?_) (AM _ _ _) (hmd.weaken (bR.refl _) hmm.sub hmm.vold hp) (h a _ hf hmd ⟨τ,hp⟩)) ?_;obtain⟨_,_,_,_,_,h⟩:=h;exact h;rintro e a'' w'' ⟨env'',V',σ',q1,q2,hh⟩;refine⟨env'',V',σ',q1,q2,?_⟩;cases e<;>first|exact hh|exact hh.elim
end
end Go.Vc
namespace Go.Vc
open Go
section
variable {P:Program} {C:Cx} {N:Nat} {ops:Array Oper} {K:K3} {Q:Ex→K3} {env:cR} {V:HV} {σ:aY}
theorem bZ.drop{w:World}{σq τ:aY}(m:bZ C V σ w)(hp:σ.Perm (σq++τ)):bZ C V σq w:=m.weaken (bR.refl _) m.sub m.vold hp
theorem QY{c:Code}(σq τ:aY)(hp:σ.Perm (σq++τ))(h:VC P C N c K Q env V σq):VC P C N c K Q env V σ:=λa w hf hm=>h a w hf (hm.drop hp)
theorem ag3{c:Code}{v:Value}{E n:Nat}{xs:List Value}{σr:aY}(hp:σ.Perm (Gr E 1 v n xs::σr))(h:∀V',bR V V'→Sl V' v xs→VC P C N c K Q env V' σr):VC P C N c K Q env V σ:=λa w hf hm=>by
 obtain⟨x,hx,hd,m'⟩:=hm.freeze hp;exact h _ (iP _ _) (hx.sl.mono (jU hd)) a w hf m'
theorem Sl.nil:Sl V (.slice none 0 0) []:=⟨none,0,rfl,cV _,kE _,λh=>bM rfl h⟩
theorem aT.nil{k:IntKind}:aT k V (.slice none 0 0) []:=Sl.nil
theorem alI{rest:List Oper}{d:Nat}{T t:TypeId}{pos:String}{af:Array Edge}{s y:Nat}{z0:Value}{cs:List Value}(hi:TI P T z0 s y)(hc:z0.cells=cs.toArray)(h:∀b,d6 P C N ops K rest (Go.Vc.upd N env d (.pointer (some ⟨b,0,none⟩))) V (σ++ [aM T b cs])):
  d6 P C N ops K (⟨some d,.alloc T,t,pos,af,none⟩::rest) env V σ:=λa w hf hm=>by
 refine wpList_plain rfl λK' hK'=> ?_;unfold Oper.wp;obtain⟨i,i1,i2,i3,i4⟩:=hi.out;have e:(execOp (ev env) ⟨some d,.alloc T,t,pos,af,none⟩).run P w= .ok (.value (.pointer (some ⟨w.heap.size,0,none⟩))) (w.alloc (.cells cs.toArray T)):=by
  simp[execOp,Instr.alloc,zeroValue,typeInfo,i1,i2,newVar,yO,hc]
 rw[hf.eval,e];exact hK' _ _ (h w.heap.size _ _ (hf.put (some d) _) (hm.alloc _ _ rfl))
theorem agI{l:List Oper}{b:Nat}{o:Obj}{σr:aY}(hp:σ.Perm (gV b o::σr))(h:∀V',bR V V'→V' b=some o→d6 P C N ops K l env V' σr):d6 P C N ops K l env V σ:=λa w hf hm=>by
 obtain⟨x,hx,hd,m'⟩:=hm.freeze hp;have hx:x=one b o:=hx;exact h _ (iP _ _) (jU hd b o (by rw[hx];simp[one])) a w hf m'
theorem ahO{dst:Option Nat}{x:Operand}{l:List Operand}{at_:Array TypeId}{t:TypeId}{pos:String}{af:Array Edge}{g:Option (Nat×Bool)}{f:FuncId}{cap:Array Value}{args:List Value}{v:Value}{V1:HV}
  (h:aP P f args V1 [] (λv' _ _=>v'=v)) (hs:∀w,bZ C V σ w→bR V1 (hv w)) (hx:ev env x= .func (.func f) #[] cap) (ha:l.map (ev env)++cap.toList=args):
  QV P C ⟨dst,.call {callee:=.value x,args:=l.toArray,argTypes:=at_},t,pos,af,g⟩ env V σ v:=λw hm=>by
 have q:QV P ⟨w,V1,iR []⟩ ⟨dst,.call {callee:=.value x,args:=l.toArray,argTypes:=at_},t,pos,af,g⟩ env V1 [] v:=J8 h hx ha;have m0:bZ ⟨w,V1,iR []⟩ V1 [] w:=⟨rfl,rfl,rfl,cV _,cV _,λ_ _ _=>rfl,.refl _,hs w hm,λ_ _ _=>rfl,[],trivial,List.Pairwise.nil,λ_ hh=>by cases hh⟩;exact o8 (λ_ ⟨_,e⟩=>⟨hm.ext e,e⟩) (q w m0)
theorem nJ{dst:Option Nat}{x:Operand}{l:List Operand}{at_:Array TypeId}{t:TypeId}{pos:String}{af:Array Edge}{g:Option (Nat×Bool)}{f:FuncId}{cap:Array Value}{args:List Value}{v:Value}{k b:Nat}{o:Obj}
  (hk:σ[k]? =some (gV b o)) (h:∀V1,bR V V1→V1 b=some o→aP P f args V1 [] (λv' _ _=>v'=v)) (hx:ev env x= .func (.func f) #[] cap) (ha:l.map (ev env)++cap.toList=args):
  QV P C ⟨dst,.call {callee:=.value x,args:=l.toArray,argTypes:=at_},t,pos,af,g⟩ env V σ v:=λw hm=>by
 obtain⟨h2,h3⟩:=hm.blk hk;have h1:=hm.view;have s1:bR V (pQ V (one b o)):=iP _ _;have hb:pQ V (one b o) b=some o:=by unfold pQ;rw[h3];simp[one]
 refine ahO (h _ s1 hb) (λw' hm'=> ?_) hx ha w hm;have h2:=(hm'.blk hk).1;intro c o' hc;unfold pQ at hc;cases hV:V c with
 |some o2=>rw[hV]at hc;exact hm'.view c o' (by rw[hV];exact hc)
 |none=>
  rw[hV]at hc;simp only[one]at hc;split at hc;rename_i e;subst e;cases hc;exact h2;cases hc
end
end Go.Vc
namespace Go.Vc
open Go Go.RowKit
variable{P:Program}{T e:TypeId}{pl:List (Nat×Nat)}{s:Nat}{z:List Value}
def r_(P:Program)(T:TypeId)(s:Nat):Prop:=(∃d,P.underlying T=some d∧((∃f,d= .struct f)∨∃n e,d= .array n e))∧eF P T s
theorem r_.struct{f:Array Field}(h:P.underlying T=some (.struct f))(hs:eF P T s):r_ P T s:=⟨⟨_,h,Or.inl ⟨_,rfl⟩⟩,hs⟩
theorem r_.array{n:Nat}(h:P.underlying T=some (.array n e))(hs:eF P T s):r_ P T s:=⟨⟨_,h,Or.inr ⟨_,_,rfl⟩⟩,hs⟩
theorem axN(h:r_ P T s)(w:World):(isAgg T).run P w= .ok true w:=by
 obtain⟨⟨d,h1,h2⟩,_⟩:=h;rcases h2 with⟨f,rfl⟩|⟨n,e,rfl⟩<;>simp[isAgg,run_underlying h1]
def FSx(pl:List (Nat×Nat)):List Value→List (Nat×List Value)→Option (List Value)
 |cs,[]=>some cs
 |cs,(i,v)::r=>match pl[i]? with
  |none=>none
  |some (off,s)=>if v.length=s∧off+v.length≤cs.length then FSx pl (cs.take off++v++cs.drop (off+v.length)) r else none
theorem ax6(cs:List Value):∀(v:List Value) (off:Nat),off+v.length≤cs.length→cs.take off++v++cs.drop (off+v.length)=(v.zipIdx.foldl (λl (c,j)=>l.set (off+j) c) cs):=by
 suffices h:∀(v:List Value) (k off:Nat) (cs:List Value),off+k+v.length≤cs.length→(v.zipIdx k).foldl (λl (c,j)=>l.set (off+j) c) cs=cs.take (off+k)++v++cs.drop (off+k+v.length) by
  intro v off hl;have:=h v 0 off cs aB;simpa using this.symm
 intro v;induction v with
 |nil=>intro k off cs h;simp
 |cons x v ih=>
  intro k off cs h;simp only[l4]at h;simp only[List.zipIdx_cons,List.foldl_cons];rw[ih (k+1) off _ k6];have e1:(cs.set (off+k) x).take (off+(k+1))=cs.take (off+k)++ [x]:=by
   rw[show off+(k+1)=(off+k)+1 by omega,t7,List.take_set_of_le aB,ML aB];rfl
  have e2:(cs.set (off+k) x).drop (off+(k+1)+v.length)=cs.drop (off+k+(x::v).length):=by
   rw[List.drop_set_of_lt aB];simp only[l4];congr 1;omega
  rw[e1,e2];simp
theorem GJ(off:Nat):∀(v:List (Value×Nat)) (cs:List Value),v.foldl (λ(a:Array Value) (x:Value×Nat)=>a.setIfInBounds (off+x.2) x.1) cs.toArray=(v.foldl (λl (x:Value×Nat)=>l.set (off+x.2) x.1) cs).toArray
 | [],_=>rfl
 |x::v,cs=>by simp only[List.foldl_cons];rw[←GJ off v];congr 1;simp
theorem R7{place:Nat→Option (Nat×Nat)}(hp:∀i x,pl[i]? =some x→place i=some x):∀(parts:List (Nat×Value)) (pv:List (Nat×List Value)) (cs out:List Value),
  parts.map (λx=>(x.1,x.2.cells))=pv.map (λx=>(x.1,x.2.toArray))→FSx pl cs pv=some out→Instr.fill place cs.toArray parts=some out.toArray
 | [],[],cs,out,_,h=>by simp only[FSx,Option.some.injEq]at h;subst h;rfl
 | [],_::_,_,_,h,_=>by simp at h
 |_::_,[],_,_,h,_=>by simp at h
 |(i,v)::r,(j,l)::q,cs,out,h,h2=>by
  simp only[lQ,List.cons.injEq,Prod.mk.injEq]at h;obtain⟨⟨rfl,hv⟩,hr⟩:=h;simp only[FSx]at h2;cases e:pl[i]? with
  |none=>rw[e]at h2;cases h2
  |some x=>
   obtain⟨off,s⟩:=x;rw[e]at h2;simp only at h2;split at h2;rename_i hc;have:=R7 hp r q _ out hr h2;simp only[Instr.fill,hp i _ e,hv,A_];rw[aC (by have:=hc.2;simp[hc.1]at this⊢;omega)];rw[←this,ax6 cs l off hc.2,←GJ,←Array.foldl_toList,Array.toList_zipIdx];cases h2
def zH(P:Program)(t:TypeId)(pl:List (Nat×Nat))(z:List Value):Prop:=
 ∀parts pv out,parts.map (λ(x:Nat×Value)=>(x.1,x.2.cells))=pv.map (λ(x:Nat×List Value)=>(x.1,x.2.toArray))→FSx pl z pv=some out→P.built t parts=some out.toArray
theorem zH.struct{t:TypeId}{fs:Array Field}{z0:Value}{y:Nat}(hu:P.underlying t=some (.struct fs))(hi:TI P t z0 s y)(hz:z0.cells=z.toArray)
  (hp:fs.toList.mapM (λf=>(P.info? f.type).map λi=>(f.offset,i.size))=some pl):zH P t pl z:=λparts pv out h1 h2=>by
 obtain⟨i,i1,i2,i3,i4⟩:=hi.out;unfold Program.built;simp only[i1,hu,i2,hp,hz];exact R7 (λj x hx=>by simpa using hx) parts pv z out h1 h2
theorem zH.array{t:TypeId}{n:Nat}{z0 ze:Value}{y se ye:Nat}(hu:P.underlying t=some (.array n e))(hi:TI P t z0 s y)(hz:z0.cells=z.toArray)(he:TI P e ze se ye):
  zH P t ((List.range n).map λi=>(i*se,se)) z:=λparts pv out h1 h2=>by
 obtain⟨i,i1,i2,i3,i4⟩:=hi.out;obtain⟨j,j1,j2,j3,j4⟩:=he.out;unfold Program.built;simp only[i1,hu,i2,j1,hz,j3];refine R7 (λk x hx=> ?_) parts pv z out h1 h2;simp only[iZ,Option.map_eq_some_iff,EG,List.getElem_range]at hx;obtain⟨a,⟨_,rfl⟩,rfl⟩:=hx;rfl
def wX(P:Program):Nat→List Field→List IntKind→Prop
 |_,[],[]=>True
 |off,f::fs,k::ks=>f.name≠ "_" ∧f.offset=off∧P.underlying f.type=some (.int k)∧wX P (off+1) fs ks
 |_,_,_=>False
def EV(P:Program):Nat→List Field→List IntKind→Bool
 |_,[],[]=>true
 |off,f::fs,k::ks=>f.name != "_" &&Nat.beq f.offset off&&(match P.underlying f.type with|some (.int k')=>decide (k'=k)|_=>false)&&EV P (off+1) fs ks
 |_,_,_=>false
theorem xY:∀{off:Nat} {fs:List Field} {ks:List IntKind},EV P off fs ks=true→wX P off fs ks
 |_,[],[],_=>trivial
 |off,f::fs,k::ks,h=>by
  simp only[EV,Bool.and_eq_true]at h;obtain⟨⟨⟨h1,h2⟩,h3⟩,h4⟩:=h;refine⟨by simpa using h1,Nat.eq_of_beq_eq_true h2,?_,xY h4⟩;split at h3;rename_i k' e;rw[e,of_decide_eq_true h3];cases h3
 |_,[],_::_,h=>by cases h
 |_,_::_,[],h=>by cases h
structure vR (P:Program) (t:TypeId) (ks:List IntKind):Prop where
 und:P.underlying t=some (.struct (P.fieldsOf t))
 stood:P.stoodInHeld t=false
 guard:P.eqGuardType P.depth t=false
 flds:wX P 0 (P.fieldsOf t).toList ks
def kC(ks:List IntKind)(aSx:List Int):List Value:=List.zipWith Value.int ks aSx
theorem o3{k:IntKind}(he:P.underlying e=some (.int k)){xs:Array Value}{off:Nat}{v:Value}(hx:xs[off]? =some v)(w:World):(part e xs off).run P w= .ok v w:=by
 have:(isAgg e).run P w= .ok false w:=by simp[isAgg,run_underlying he]
 simp[part,this,hx]
theorem G9(d:Nat)(w:World):∀(fs:List Field) (ks:List IntKind) (off:Nat) (A B aSx bs:List Value) (x y:List Int),wX P off fs ks→x.length=ks.length→y.length=ks.length→
  aSx=A++kC ks x→bs=B++kC ks y→A.length=off→B.length=off→(Op.eqFields (d+1) aSx.toArray bs.toArray fs).run P w= .ok (decide (x=y)) w
 | [],[],_,_,_,_,_,x,y,_,h1,h2,_,_,_,_=>by
  have:x=[]:=rS h1;have:y=[]:=rS h2;subst_vars;simp[Op.eqFields]
 |f::fs,k::ks,off,A,B,aSx,bs,x,y,h,h1,h2,ha,hb,hA,hB=>by
  obtain⟨f1,f2,f3,f4⟩:=h;cases x with
  |nil=>simp at h1
  |cons p x=>
   cases y with
   |nil=>simp at h2
   |cons q y=>
    have a1:aSx.toArray[f.offset]? =some (.int k p):=by rw[ha,f2,←hA];simp[kC]
    have b1:bs.toArray[f.offset]? =some (.int k q):=by rw[hb,f2,←hB];simp[kC]
    simp only[Op.eqFields];rw[aK f1];simp only[Sem.run_bind,o3 f3 a1,o3 f3 b1,Result.andThen_ok,run_equalIn_int w d f.type k k p q f3];by_cases hpq:p=q;subst hpq;simp only[beq_self_eq_true,Bool.not_true,Bool.false_eq_true,if_false];rw[G9 d w fs ks (off+1) (A++ [.int k p]) (B++ [.int k p]) aSx bs x y f4 MY (by simpa using h2) (by rw[ha];simp[kC]) (by rw[hb];simp[kC]) (by simp[hA]) (by simp[hB])];simp;have:(p==q)=false:=by simpa using hpq
    simp[this,hpq]
 | [],_::_,_,_,_,_,_,_,_,h,_,_,_,_,_,_=>by cases h
 |_::_,[],_,_,_,_,_,_,_,h,_,_,_,_,_,_=>by cases h
section
variable {P:Program} {C:Cx} {N:Nat} {K:K3} {Q:Ex→K3} {env:cR} {V:HV} {σ:aY} {ops:Array Oper} {rest:List Oper} {Φ:Value→HV→aY→Prop}
variable {dst:Option Nat} {k:Nat} {x y:Operand} {t T E:TypeId} {pos:String} {af:Array Edge} {g:Option (Nat×Bool)} {v:Value}
theorem sA{P:Program}{T:TypeId}{b off s:Nat}{cs vs:List Value}{w:World}{T':TypeId}{fz:Nat×Nat}(hA:r_ P T s)(h:w.heap[b]? =some (.cells cs.toArray T' fz))(hs:(cs.drop off).take s=vs)(hl:vs.length=s):
  (loadVar T ⟨b,off,none⟩).run P w= .ok (.agg vs.toArray) w:=by
 have hc:∀j v,vs[j]? =some v→w.cell? ((⟨b,off,none⟩:Addr).add j)=some v:=λj v hj=>by
  have hadd:(⟨b,off,none⟩:Addr).add j=⟨b,off+j,none⟩:=by unfold Addr.add;split<;>simp_all
  rw[hadd];have:cs[off+j]? =some v:=by
   rw[←hs,iH]at hj;split at hj;rwa[kO]at hj;cases hj
  simp[World.cell?,h,this]
 have:=run_loadCells_list (P:=P) w ⟨b,off,none⟩ vs hc;rw[hl]at this;simp[loadVar,axN hA,eT hA.2,this]
theorem xG{b off s:Nat}{cs vs:List Value}(hA:r_ P T s)(hx:ev env x= .pointer (some ⟨b,off,none⟩))(hv':In C V σ (λH=>Cells H b cs))(hs:(cs.drop off).take s=vs)(hl:vs.length=s):
  QV P C ⟨dst,.load T x,t,pos,af,g⟩ env V σ (.agg vs.toArray):=cS λw hm=>by
 obtain⟨T',fz,h⟩:=hv' w hm;have h:w.heap[b]? =some (.cells cs.toArray T' fz):=h;simp[execOp,hx,Instr.loadAt,Instr.sureAddr,sA hA h hs hl]
theorem kX{b off s:Nat}{cs vs cs':List Value}(hS:eF P T s)(hx:ev env x= .pointer (some ⟨b,off,none⟩))(hy:ev env y=v)(hv:v.cells=vs.toArray)(hl:vs.length=s)(h1:vs.all (·.oneCell')=true)(hk:σ[k]? =some (aM E b cs))
  (ho:off+vs.length≤cs.length) (hc:cs.take off++vs++cs.drop (off+vs.length)=cs')
  (h:d6 P C N ops K rest env V (σ.set k (aM E b cs'))):d6 P C N ops K (⟨none,.store T x y,t,pos,af,none⟩::rest) env V σ:=λa w hf hm=>by
 refine wpList_plain rfl λK' hK'=> ?_;unfold Oper.wp;have hb:=(hm.blk hk).1;have hb:w.heap[b]? =some (.cells cs.toArray E (0,0)):=hb;have hst:=run_storeCells_at P b off E vs 0 cs.toArray w hb (by simpa using ho) (λv hv=>by simpa using List.all_eq_true.1 h1 v hv);have hrow:w.setRow b cs'.toArray={w with heap:=w.heap.setIfInBounds b (.cells cs'.toArray E (0,0))}:=by
  unfold World.setRow;congr 1;have hlt:b<w.heap.size:=jD (w:=w) hb;apply Array.ext;simp;intro i q1 q2;simp only[Z4];by_cases hi:b=i;subst hi;have:w.heap[b]= .cells cs.toArray E (0,0):=by rw[wC hlt]at hb;exact Option.some.inj hb
  simp[this];rw[aC hi,adX _ hi]
 have e:(execOp (ev env) ⟨none,.store T x y,t,pos,af,none⟩).run P w= .ok .skip {w with heap:=w.heap.setIfInBounds b (.cells cs'.toArray E (0,0))}:=by
  rw[←hrow,←hc];simp only[Nat.add_zero]at hst;simp[execOp,hx,hy,Instr.storeAt,Instr.sureAddr,storeVar,eT hS,hv,hl,hst]
 rw[hf.eval,e];exact hK' _ _ (h _ _ (hf.put none _) (hm.setBlk hk _ _ rfl))
theorem aw9{b s:Nat}{cs vs:List Value}(hS:eF P T s)(hx:ev env x= .pointer (some ⟨b,0,none⟩))(hy:ev env y= .agg vs.toArray)(hl:vs.length=s)(h1:vs.all (·.oneCell')=true)(hk:σ[k]? =some (aM E b cs))(hc:cs.length=vs.length)
  (h:d6 P C N ops K rest env V (σ.set k (aM E b vs))):d6 P C N ops K (⟨none,.store T x y,t,pos,af,none⟩::rest) env V σ:=
 kX (off:=0) hS hx hy rfl hl h1 hk aB (by simp[←hc]) h
theorem bL{pl:List (Nat×Nat)}{z out:List Value}{parts:List (Nat×Operand)}(hB:zH P t pl z)(pv:List (Nat×List Value))(hp:parts.map (λx=>(x.1,(ev env x.2).cells))=pv.map (λx=>(x.1,x.2.toArray)))(ho:FSx pl z pv=some out):
  QV P C ⟨dst,.build t parts.toArray,T,pos,af,g⟩ env V σ (.agg out.toArray):=cS λw _=>by
 have:=run_build w t (parts.map λx=>(x.1,ev env x.2)).toArray out.toArray (hB _ pv out (by simpa[Function.comp_def]using hp) ho);simp only[execOp];have e:(parts.toArray.map λ(x:Nat×Operand)=>(x.1,ev env x.2))=(parts.map λx=>(x.1,ev env x.2)).toArray:=bK;rw[show(Array.map (λ(i,x)=>(i,ev env x)) parts.toArray)=(parts.map λx=>(x.1,ev env x.2)).toArray from e];simp[this]
theorem CB{ks:List IntKind}(hF:vR P T ks){aSx bs:List Value}(a b:List Int)(ha:aSx=kC ks a)(hb:bs=kC ks b)(h1:a.length=ks.length)(h2:b.length=ks.length)(w:World):
  (Op.equalIn 10000 T (.agg aSx.toArray) (.agg bs.toArray)).run P w= .ok (decide (a=b)) w:=by
 rw[show(10000:Nat)=9998+1+1 by rfl,run_equalIn_struct w (9998+1) T aSx.toArray bs.toArray hF.und hF.stood];exact G9 9998 w _ ks 0 [] [] aSx bs a b hF.flds h1 h2 (by simpa using ha) (by simpa using hb) rfl rfl
theorem ay7{ks:List IntKind}{aSx bs:List Value}{p:Prop}[i:Decidable p]{t2:TypeId}(hF:vR P T ks)(a b:List Int)(hx:ev env x= .agg aSx.toArray)(hy:ev env y= .agg bs.toArray)(ha:aSx=kC ks a)(hb:bs=kC ks b)(h1:a.length=ks.length)(h2:b.length=ks.length)(hp:a=b↔p):
  QV P C ⟨dst,.binOp .eql T x y t2,t,pos,af,g⟩ env V σ (.bool (decide p)):=cS λw _=>by
 have e:decide (a=b)=decide p:=decide_eq_decide.2 hp;simp[execOp,hx,hy,run_eqGuard_agg w .eql T x y _ _ hF.guard,run_eql_struct,CB hF a b ha hb h1 h2,e]
theorem axW{ks:List IntKind}{aSx bs:List Value}{p:Prop}[i:Decidable (¬p)]{t2:TypeId}(hF:vR P T ks)(a b:List Int)(hx:ev env x= .agg aSx.toArray)(hy:ev env y= .agg bs.toArray)(ha:aSx=kC ks a)(hb:bs=kC ks b)(h1:a.length=ks.length)(h2:b.length=ks.length)(hp:a=b↔p):
  QV P C ⟨dst,.binOp .neq T x y t2,t,pos,af,g⟩ env V σ (.bool (@decide (¬p) i)):=cS λw _=>by
 have e:(!decide (a=b))=decide (¬p):=by
  by_cases h:a=b;have:=hp.1 h;simp[h,this];have:¬p:=λq=>h (hp.2 q);simp[h,this]
 simp[execOp,hx,hy,run_eqGuard_agg w .neq T x y _ _ hF.guard,run_neq_struct,CB hF a b ha hb h1 h2,e]
theorem lS{aSx bs:List Value}(h:aSx=bs):Value.agg aSx.toArray=Value.agg bs.toArray:=by rw[h]
theorem eI{a b:Value}{aSx bs:List Value}(h:a=b)(h2:aSx=bs):a::aSx=b::bs:=by rw[h,h2]
theorem aA4{a b c d:Value}(h1:a=c)(h2:b=d):Value.tuple #[a,b]=Value.tuple #[c,d]:=by rw[h1,h2]
theorem XO{k:IntKind}{xs:List Int}{i:Int}(h0:0≤i)(h1:i<xs.length):(xs.map (Value.int k))[i.toNat]? =some (.int k (gi xs i)):=by
 have hlt:i.toNat<xs.length:=aB;simp[gi,dT hlt]
theorem eq3{a b c d e f:Int}:[a,b,c]=[d,e,f]↔(a=d∧b=e∧c=f):=by simp
theorem eq2{a b d e:Int}:[a,b]=[d,e]↔(a=d∧b=e):=by simp
theorem YE{p q:Prop}{ip:Decidable p}{iq:Decidable q}[i:Decidable (¬(p↔q))]{t2:TypeId}(hT:P.underlying T=some .bool)(hx:ev env x= .bool (@decide p ip))(hy:ev env y= .bool (@decide q iq)):
  QV P C ⟨dst,.binOp .neq T x y t2,t,pos,af,g⟩ env V σ (.bool (decide (¬(p↔q)))):=cS λw _=>by
 have e:(!(decide p==decide q))=decide (¬(p↔q)):=by by_cases h:p<;>by_cases h':q<;>simp[h,h']
 rw[←e];simp[execOp,hx,hy,eqGuard,binOp,RE hT]
theorem W9{n:Nat}{cs:List Value}{i:Int}{kk:IntKind}(hu:P.underlying T=some (.array n E))(hP:sK P E)(hS:eF P E 1)(hx:ev env x= .agg cs.toArray)(hy:ev env y= .int kk i)(h0:0≤i)(h1:i<n)(hc:cs[i.toNat]? =some v):
  QV P C ⟨dst,.index T x y,t,pos,af,g⟩ env V σ v:=cS λw _=>by
 have:(part E cs.toArray i.toNat).run P w= .ok v w:=by simp[part,wY hP,hc]
 simp only[execOp,hx,hy,Instr.index,asIntOf];simp[run_underlying hu,eT hS,h0,h1,this]
theorem fO(l l':aY)(p:List Nat)(hp:p.isPerm (List.range l.length)=true)(h:p.map (λi=>l.getD i (λ_=>True))=l'):l.Perm l':=by
 have h1:(List.range l.length).map (λi=>l.getD i (λ_=>True))=l:=by
  apply R5;simp;intro i h1 h2;simp at h1;simp[bX,dT h1]
 have h2:=(List.isPerm_iff.1 hp).map (λi=>l.getD i (λ_=>True));rw[h1,h]at h2;exact h2.symm
theorem aB5{c:Code}{σ':aY}(h:σ=σ')(k:VC P C N c K Q env V σ'):VC P C N c K Q env V σ:=h▸k
def PR(env:cR):ResultVar→Sem Value
 | .tmp t=>pure (env t)
 | .cell a t=>do loadVar t (←asAddr (env a))
theorem CI(rs:Array ResultVar)(env:cR):oS rs env=(do let vs←rs.mapM (PR env);pure (if h:vs.size=1 then vs[0]else .tuple vs)):=by
 unfold oS PR;rfl
def RV(P:Program)(C:Cx)(env:cR)(V:HV)(σ:aY)(r:ResultVar)(v:Value):Prop:=∀w,bZ C V σ w→(PR env r).run P w= .ok v w
theorem fA{t:Nat}(e:env t=v):RV P C env V σ (.tmp t) v:=λw _=>by simp[PR,e]
theorem eC{a b off s:Nat}{cs vs:List Value}(hA:r_ P T s)(hx:env a= .pointer (some ⟨b,off,none⟩))(hv':In C V σ (λH=>Cells H b cs))(hs:(cs.drop off).take s=vs)(hl:vs.length=s):RV P C env V σ (.cell a T) (.agg vs.toArray):=λw hm=>by
 obtain⟨T',fz,h⟩:=hv' w hm;have h:w.heap[b]? =some (.cells cs.toArray T' fz):=h;simp[PR,hx,asAddr,sA hA h hs hl]
theorem aIE{a b off:Nat}{cs:List Value}(hP:sK P T)(hx:env a= .pointer (some ⟨b,off,none⟩))(hv':In C V σ (λH=>Cells H b cs))(ho:cs[off]? =some v):RV P C env V σ (.cell a T) v:=λw hm=>by
 obtain⟨T',fz,h⟩:=hv' w hm;have hc:w.cell? ⟨b,off,none⟩=some v:=by
  unfold hv at h;simp[World.cell?,h,ho]
 simp[PR,hx,asAddr,loadVar,wY hP,load,Sem.run,hc]
theorem s8{r:ResultVar}(v:Value)(e:RV P C env V σ r v)(h:Φ v V σ):q_ P C #[r] Φ .ret env V σ:=⟨_,λw hm=>by simp[CI,e w hm],h⟩
theorem jE{r1 r2:ResultVar}(v1 v2:Value)(e1:RV P C env V σ r1 v1)(e2:RV P C env V σ r2 v2)(h:Φ (.tuple #[v1,v2]) V σ):q_ P C #[r1,r2] Φ .ret env V σ:=
 ⟨_,λw hm=>by simp[CI,e1 w hm,e2 w hm],h⟩
theorem rs3{r1 r2 r3:ResultVar}(v1 v2 v3:Value)(e1:RV P C env V σ r1 v1)(e2:RV P C env V σ r2 v2)(e3:RV P C env V σ r3 v3)(h:Φ (.tuple #[v1,v2,v3]) V σ):q_ P C #[r1,r2,r3] Φ .ret env V σ:=
 ⟨_,λw hm=>by simp[CI,e1 w hm,e2 w hm,e3 w hm],h⟩
end
end Go.Vc
namespace Go.Vc
open Go Go.RowKit
theorem anG(n:Int):IntKind.u64.wrap n=n%18446744073709551616:=by
 unfold IntKind.wrap;simp[IntKind.bits,IntKind.signed]
theorem ajE{n:Int}(h0:0≤n)(h1:n<18446744073709551616):IntKind.u64.wrap n=n:=by rw[anG];exact Int.emod_eq_of_lt h0 h1
section
variable {P:Program} {C:Cx} {N:Nat} {env:cR} {V:HV} {σ:aY}
variable {dst:Option Nat} {k k2:IntKind} {m n r:Int} {x y:Operand} {t T T' E:TypeId} {pos:String} {af:Array Edge} {g:Option (Nat×Bool)} {v:Value}
theorem ayB{w:World}(h0:0≤n):(binOp .shl T (.int k m) (.int k2 n)).run P w= .ok (.int k (k.wrap (m*2^(min n.toNat k.bits)))) w:=by
 simp only[binOp,Op.shift];rw[aC aB];simp
theorem ab9{w:World}(h0:0≤n):(binOp .shr T (.int k m) (.int k2 n)).run P w= .ok (.int k (m.fdiv (2^(min n.toNat k.bits)))) w:=by
 simp only[binOp,Op.shift];rw[aC aB];simp
theorem axL(hx:ev env x= .int .u64 m)(hy:ev env y= .int k2 n)(h0:0≤n)(h1:n≤64):QV P C ⟨dst,.binOp .shr T x y T',t,pos,af,g⟩ env V σ (.int .u64 (m/2^n.toNat)):=cS λw _=>by
 have e:min n.toNat IntKind.u64.bits=n.toNat:=by show min n.toNat 64=n.toNat;omega
 have:=ab9 (P:=P) (T:=T) (k:=.u64) (k2:=k2) (m:=m) (n:=n) (w:=w) h0;rw[e,Int.fdiv_eq_ediv_of_nonneg _ (Int.le_of_lt (Int.pow_pos aB))]at this;simp[execOp,hx,hy,eqGuard,this]
theorem aw3(hx:ev env x= .int .u64 m)(hy:ev env y= .int k2 n)(p:Int)(h0:0≤n)(h1:n≤64)(hp:(2:Int)^n.toNat=p):QV P C ⟨dst,.binOp .shr T x y T',t,pos,af,g⟩ env V σ (.int .u64 (m/p)):=hp▸axL hx hy h0 h1
def jH(s:ByteArray)(i:Int):Int:=((s[i.toNat]?).getD 0).toNat
theorem acC{s:ByteArray}{i:Int}(hu:P.underlying T=some .string)(hx:ev env x= .string s)(hy:ev env y= .int k i)(h0:0≤i)(h1:i<s.size):QV P C ⟨dst,.index T x y,t,pos,af,g⟩ env V σ (.int .u8 (jH s i)):=cS λw _=>by
 have hlt:i.toNat<s.size:=aB;have e:s[i.toNat]? =some s[i.toNat]:=getElem?_pos s i.toNat hlt;simp only[execOp,hx,hy,Instr.index,asIntOf];simp[run_underlying hu,h0,e,jH]
theorem MC{S:TypeId}{d:TypeDesc}(hS:P.underlying S=some d)(hT:P.underlying T=some (.int k2))(hx:ev env x= .int k m)(hw:k2.wrap m=r):QV P C ⟨dst,.convert S T x,t,pos,af,g⟩ env V σ (.int k2 r):=cS λw _=>by
 have e:(convert S T (.int k m)).run P w= .ok (.int k2 r) w:=by
  unfold convert;simp only[Sem.run_bind,run_underlying hS,run_underlying hT,Result.andThen_ok];simp[Conv.intToInt,hw]
 simp[execOp,hx,e]
end
end Go.Vc
