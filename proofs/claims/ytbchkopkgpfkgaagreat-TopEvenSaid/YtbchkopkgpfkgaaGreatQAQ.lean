import Derived.RangeFuncLeaves
import Derived.RangeFuncIn
import Derived.RangeFuncRecord
import Derived.RangeFuncCalls
import Derived.OrdersIn
import Derived.TacticsIn
import Derived.Test.YtbchkopkgpfkgaaGreatQAM
set_option linter.unusedVariables false
set_option linter.unusedSimpArgs false
namespace Go.Vc
open Go Go.RowKit
abbrev RW(r:Nat):Fence:=Fence.wide.inRound r
def CU(ops:Array Oper):Bool:=ops.all λo=>match o.op with| .defer _=>false|_=>true
theorem ID{ops:Array Oper}(h:CU ops=true){i:Nat}{o:Oper}(ho:ops[i]? =some o)(c:Call):o.op≠ .defer c:=λe=>by
 unfold CU at h;obtain⟨hi,rfl⟩:=Array.getElem?_eq_some_iff.1 ho;have:=(Array.all_eq_true.1 h) i hi;rw[e]at this;cases this
section
variable {P:Program} {ops:Array Oper} {Q:Exit→Act→World→Prop} {r n:Nat}
theorem amX{row:String}{args:Array Value}{w:World}{R R':Value→World→Prop}(h:Rows P row args w R)(hr:∀v w',R v w'→R' v w'):RowsIn (RW r) n P row args w R':=λc cs _=>by
 obtain⟨v,w',h1,s⟩:=h c cs;exact⟨v,w',hr _ _ h1,stepsIn_wide.2 s⟩
theorem akO{o:Oper}{a:Act}{w:World}{K K':Act→World→Prop}(hnd:∀c,o.op≠ .defer c)(hk:∀a w,K a w→K' a w)(h:o.wp P a w K Q):o.wpIn (RW r) n P a w K' Q:=by
 unfold Oper.wp at h;refine⟨λ_ _=>trivial,?_⟩;rw[Oper.semAt_eq _ _ _ hnd];have hd:(RW r).depth.isSome=true→1≤n:=λe=>by cases e
 generalize (execOp a.eval o).run P w=x at*;cases x with
 |ok x w'=>
  cases x<;>simp only[Oper.upon]at h<;>simp only[Oper.uponIn];case enter f args=>
   refine⟨hd,CallsIn.inRound r ((callsIn_wide (n:=n-1)).2 (Calls.mono h ?_))⟩;intro e w'' he;cases e<;>first|exact hk _ _ he|exact he
  all_goals first
   |exact hk _ _ h
   |exact⟨hd,CallsIn.mono (CallsIn.inRound r ((callsIn_wide (n:=n-1)).2 h)) (λe w'' he=>by cases e<;>first|exact hk _ _ he|exact he)⟩
   |exact⟨hd,amX h (λ_ _ he=>hk _ _ he)⟩
   |exact h.elim
   |trivial
 |halt x w'=>cases x<;>simp only[Oper.upon]at h<;>simp only[Oper.uponIn]<;>exact h
theorem ZO(hQ:¬LetsOut Q):∀{l:List Oper} {a:Act} {w:World},(∀o∈l,∀c,o.op≠ .defer c)→wpList P ops Q l a w→wpListIn (RW r) n P ops Q l a w
 | [],_,_,_,h=>h
 |o::l,a,w,hd,h=>by
  simp only[wpList]at h;simp only[wpListIn];split;rename_i hw;rw[aK hw]at h;rcases h with h|⟨_,h⟩
  exact akO (hd o (mZ ..)) (λa w h=>ZO hQ (λo ho=>hd o (uC _ ho)) h) h;exact bM h hQ;rename_i hw;rw[aC hw]at h;exact⟨λ_ _=>trivial,ZO hQ (λo ho=>hd o (uC _ ho)) h⟩
theorem VF(hQ:¬LetsOut Q)(hd:CU ops=true):∀(fuel:Nat) (listed:Array Bool) (a:Act) (w:World),wpAny P .any ops Q fuel listed a w→wpAnyIn (RW r) n P .any ops Q fuel listed a w
 |0,_,_,_,h=>h
 |fuel+1,listed,a,w,h=>by
  refine⟨h.1,λi hi=> ?_⟩;have h:=h.2 i hi;unfold wpOp at h;unfold wpOpIn;cases ho:ops[i]? with
  |none=>simp only[ho]at h;exact VF hQ hd fuel _ _ _ h
  |some o=>
   simp only[ho]at h;simp only;split;rename_i hw;rw[aK hw]at h;rcases h with h|⟨_,h⟩
   exact akO (ID hd ho) (λa w h=>VF hQ hd fuel _ _ _ h) h;exact bM h hQ;rename_i hw;rw[aC hw]at h;exact⟨λ_ _=>trivial,VF hQ hd fuel _ _ _ h⟩
end
def O3(r:Nat)(P:Program)(C:Cx)(N:Nat)(c:Code)(K:K3)(env:cR)(V:HV)(σ:aY):Prop:=
 ∀a w,Fr N env a→bZ C V σ w→c.wpIn (RW r) 3 P (pR C N K (λ_ _ _ _=>False)) a w
section
variable {P:Program} {C:Cx} {N r:Nat} {K:K3} {env:cR} {V:HV} {σ σq:aY}
theorem ayI{x y:Code}(h:O3 r P C N x (λe V σ=>O3 r P C N y K e V σ) env V σ):O3 r P C N (.seq x y) K env V σ:=λa w hf hm=>by
 refine wpIn_seq (wpIn_mono (h a w hf hm) ?_);rintro e a' w' ⟨env',V',σ',hf',hm',hh⟩;cases e<;>first|exact hh _ _ hf' hm'|exact hh.elim
theorem BH{id:Nat}{c:Code}(h:O3 r P C N c K env V σ):O3 r P C N (.block id c) K env V σ:=λa w hf hm=>by
 refine wpIn_block (wpIn_mono (h a w hf hm) ?_);rintro e a' w' ⟨env',V',σ',hf',hm',hh⟩;cases e<;>first|exact⟨env',V',σ',hf',hm',hh⟩|exact hh.elim
theorem lZ{id:Nat}{l:List Oper}(hd:CU l.toArray=true)(h:d6 P C N l.toArray K l env V σ):O3 r P C N (.region id l.toArray false) K env V σ:=λa w hf hm=>
 wpIn_region_lit (ZO uP (λo ho=>by
  obtain⟨i,hi,rfl⟩:=H2 ho;exact ID hd (i:=i) (by simp[hi])) (h a w hf hm))
theorem N5{id:Nat}{l:List Oper}{τ:aY}(ord:List (Nat×Bool))(σq:aY)(hd:CU l.toArray=true)(hm:P.follows .mixedOrders=true)(hp:σ.Perm (σq++τ))
  (hB:(Region.noSelect l.toArray&&decide (ord.length=l.toArray.size)&&qK .any l.toArray ord (Array.replicate l.toArray.size false))=true)
  (h:iY P C N l.toArray K ord env V σ σq):O3 r P C N (.region id l.toArray true) K env V σ:=λa w hf hmm=>by
 simp only[Bool.and_eq_true,decide_eq_true_eq]at hB;have hmd:=hmm.drawn (w.drawn+1);refine wpIn_region_any hm (VF uP hd _ _ _ _ ?_);have:=OQ hB.1.1 (λc a w h=>by obtain⟨_,_,_,_,_,h⟩:=h;exact h) ord (bZ C V σq) _ a _ (AM _ _ _) (hmd.weaken (bR.refl _) hmm.sub hmm.vold hp) hB.2 (h a _ hf hmd ⟨τ,hp⟩);rw[hB.1.2]at this;exact FO _ _ _ _ _ this
end
attribute [local go_sem] Oper.semAt_some
def BR(P:Program)(g:Nat)(lb:Array Value)(n:Nat)(encs:Nat→Array Value)(Rd:World→Prop):Prop:=
 ∀(l:Nat) (J:Nat→World→Prop) (W:World),(∀i W,J i W→Rd W)→(∀i W (cs:Array Value) (T:TypeId),J i W→J i (W.alloc (.cells cs T)))→
  (∀i W,i<n→J i W→YieldAt Fence.wide 3 P l (encs i) W λe W'=>e= .returned (.bool true)∧J (i+1) W')→J 0 W→
  CallsIn Fence.wide 4 P g (#[.func (.yield l) #[] #[]]++lb) W λe W'=>(∃v,e= .returned v)∧J n W'
abbrev mU:Obj:=.deferred (some [])
abbrev N6(D:Nat):Deferred:={target:=.collected D,args:= #[]}
theorem akL(w:World)(o:Obj):kA w (w.alloc o):=⟨⟨rfl,rfl,rfl,bK,λc hc=>Below.heap_alloc _ _ _ hc⟩,cV _⟩
theorem QP{α:Type _}(l:List α)(x y z:α):(l++ [x,y]).set (l.length+1) z=l++ [x,z]:=by
 rw[List.set_append_right _ _ aB];simp
theorem vJ{α:Type _}(l:List α)(x y:α):(l++ [x,y])[l.length+1]? =some y:=by simp
theorem arU{α:Type _}(l:List α)(x y:α):(l++ [x,y]).Perm ((l++ [x])++ [y]):=by rw[EJ];exact .refl _
section
variable {P:Program} {C:Cx} {N n gf:Nat} {V:HV} {σ:aY} {w:World} {a:Act} {env:cR} {g:Operand} {ps:Array Tmp} {assign body:Code} {Q:Exit→Act→World→Prop} {lb:Array Value} {encs:Nat→Array Value} {Rd:World→Prop}
theorem FE(hf:Fr N env a)(hm:bZ C V σ w)(hg:ev env g= .func (.func gf) #[] lb)(eg:∀args w,(callFunc gf args).run P w= .ok (.enter gf args) w)
  (it:BR P gf lb n encs Rd) (hps:∀i,(encs i).size=ps.size) (er:Nat→cR) (her:∀i,Fr N (er i) {tmps:=(ps.zip (encs i)).foldl (λt (p,v)=>t.setIfInBounds p v) a.tmps,defers:=[]})
  (I:Nat→HV→aY→Prop) (h0:I 0 V σ) (hRd:∀i V' σ' w',I i V' σ'→bZ C V' σ' w'→Rd w')
  (round:∀r D o i V' σ',i<n→I i V' σ'→O3 r P C N assign (λe V1 σ1=>∃σa τa,σ1.Perm ((σa++ [gV D mU,gV r o])++τa)∧
   ∀o',O3 r P C N body (λ_ V2 σ2=>∃σb τb,σ2.Perm ((σb++ [gV D mU,gV r o'])++τb)∧I (i+1) V2 σb) e V1 (σa++ [gV D mU,gV r o'])) (er i) V' (σ'++ [gV D mU,gV r o]))
  (hdone:∀D W V' σ',I n V' σ'→bZ C V' (σ'++ [gV D mU]) W→Q .normal {a with defers:=N6 D::a.defers} W):
  (Code.rangeFunc g ps assign body).wpIn Fence.wide 5 P Q a w:=by
 refine wpIn_rangeFunc λfn _=> ?_;obtain⟨rec,hrec⟩:∃rec:LoopState→Option Code→Loop,rec=λst pe=>{state:=st,pending:=pe,fn,tmps:=a.tmps,params:=ps,assign,body,defers:=w.heap.size}:=⟨_,rfl⟩;have hm1:bZ C V (σ++ [gV w.heap.size mU,gV (w.heap.size+1) (.loop (rec .ready none))]) ((w.alloc mU).alloc (.loop (rec .ready none))):=by
  have:=(hm.alloc mU (w.alloc mU) rfl).alloc (.loop (rec .ready none)) ((w.alloc mU).alloc (.loop (rec .ready none))) rfl;rw[World.size_alloc,EJ]at this;exact this
 refine⟨w.heap.size+1,[N6 w.heap.size],(w.alloc mU).alloc (.loop (rec .ready none)),{target:=.fn (.func gf) lb,args:= #[.func (.yield (w.heap.size+1)) #[] #[]]},(w.alloc mU).alloc (.loop (rec .ready none)),gf,
  #[.func (.yield (w.heap.size+1)) #[] #[]]++lb,(w.alloc mU).alloc (.loop (rec .ready none)),?_,?_,λ_ _=>trivial,?_,λe=>(by cases e),?_⟩
 rw[hrec];exact run_enterLoop_outer _ _ _ _ _;simp only[resolve,hf.eval,hg];simp[go_sem];simp[invoke,go_sem,eg];refine(it (w.heap.size+1) (λi W=>∃V' σ',I i V' σ'∧bZ C V' (σ'++ [gV w.heap.size mU,gV (w.heap.size+1) (.loop (rec .ready none))]) W) _
  (λi W ⟨V',σ',hi,hw⟩=>hRd i V' σ' W hi (hw.drop (.refl _))) (λi W cs T ⟨V',σ',hi,hw⟩=>⟨V',σ',hi,hw.ext (akL _ _)⟩) ?_ ⟨V,σ,h0,hm1⟩).mono ?_
 rintro i W hin ⟨V',σ',hi,hw⟩;have hl:=(hw.blk (vJ _ _ _)).1;have hy:=run_yield (P:=P) (args:=encs i) hl (by rw[hrec];exact hps i);rw[hrec]at hy;refine⟨fn,_,assign,body,hy,roundIn_of_wpIn trivial (wpIn_mono (round _ _ _ i V' σ' hin hi _ _ (her i) hw) ?_)⟩;rintro e a1 w1 ⟨e1,V1,σ1,hf1,hm1',hh⟩;cases e with
 |normal=>
  obtain⟨σa,τa,hp,hb⟩:=hh;have hm2:=hm1'.drop hp;have hl2:=(hm2.blk (vJ _ _ _)).1;have hm3:=hm2.setBlk (vJ _ _ _) (.loop {rec .ready none with state:=.busy}) (w1.putObj (w.heap.size+1) (.loop {rec .ready none with state:=.busy})) rfl;rw[QP]at hm3;refine⟨_,run_beginRound hl2 (by rw[hrec]),wpIn_mono (hb _ _ _ hf1 hm3) ?_⟩;rintro e2 a2 w2 ⟨e2',V2,σ2,hf2,hm4,hh2⟩;cases e2 with
  |normal=>
   obtain⟨σb,τb,hp2,hi2⟩:=hh2;have hm5:=hm4.drop hp2;have hl5:=(hm5.blk (vJ _ _ _)).1;have hm6:=hm5.setBlk (vJ _ _ _) (.loop (rec .ready none)) (w2.putObj (w.heap.size+1) (.loop (rec .ready none))) rfl;rw[QP]at hm6;have he:=run_endRound (P:=P) none hl5;refine⟨_,_,he,rfl,V2,σb,hi2,?_⟩;have e:({{rec .ready none with state:=.busy}with state:=if(none:Option Code).isNone then .ready else .done,pending:=none}:Loop)=rec .ready none:=by rw[hrec];rfl
   rw[e];exact hm6
  |_=>exact hh2.elim
 |_=>exact hh.elim
 rintro e W ⟨⟨v,rfl⟩,V',σ',hi,hw⟩;have hl:=(hw.blk (vJ _ _ _)).1;have he:=run_endLoop (P:=P) hl (by rw[hrec];simp);have hm6:=hw.setBlk (vJ _ _ _) (.loop {rec .ready none with state:=.exhausted}) (W.putObj (w.heap.size+1) (.loop {rec .ready none with state:=.exhausted})) rfl;rw[QP]at hm6;have ep:(rec .ready none).pending=none:=by rw[hrec]
 exact⟨none,_,he.trans (congrArg (λj=>Result.ok j _) ep),hdone _ _ V' σ' hi (hm6.drop (arU _ _ _))⟩
def shift(ds:List Deferred)(a:Act):Act:={a with defers:=a.defers++ds}
theorem aC9(ds:List Deferred){o:Oper}{a:Act}{w:World}{K K':Act→World→Prop}{Q':Exit→Act→World→Prop}(hQ:∀c a w,¬Q (.panic c) a w)(ho:¬LetsOut Q)(hk:∀a w,K a w→K' (shift ds a) w)
  (h:o.wp P a w K Q):o.wp P (shift ds a) w K' Q':=by
 unfold Oper.wp at h⊢;rw[show(shift ds a).eval=a.eval from rfl];generalize (execOp a.eval o).run P w=x at*;have hput:∀(b:Act) d v,(shift ds b).put d v=shift ds (b.put d v):=λb d v=>by cases d<;>rfl
 cases x with
 |ok x w'=>
  cases x<;>simp only[Oper.upon]at h⊢;case value v=>rw[hput];exact hk _ _ h
  case skip=>rw[hput];exact hk _ _ h
  case defer d=>have h:=hk _ _ h;rw[←hput]at h;exact h
  case enter f args=>
   refine Calls.mono h ?_;intro e w'' he;cases e with
   |returned v=>show K' ((shift ds a).put o.dst v) w'';rw[hput];exact hk _ _ he
   |panicked c=>exact bM he (hQ _ _ _)
   |outgrown=>exact bM he ho
  case row r args=>exact Rows.mono h (λv w'' he=>by rw[hput];exact hk _ _ he)
 |halt x w'=>
  cases x<;>simp only[Oper.upon]at h⊢;case panic u=>exact bM h (hQ _ _ _)
theorem WW(ds:List Deferred){ops:Array Oper}{Q':Exit→Act→World→Prop}(hQ:∀c a w,¬Q (.panic c) a w)(ho:¬LetsOut Q)(hn:∀a w,Q .normal a w→Q' .normal (shift ds a) w):
  ∀{l:List Oper} {a:Act} {w:World},wpList P ops Q l a w→wpList P ops Q' l (shift ds a) w
 | [],_,_,h=>hn _ _ h
 |o::l,a,w,h=>by
  simp only[wpList]at h⊢;rw[show(shift ds a).tmps=a.tmps from rfl];split;rename_i hw;rw[aK hw]at h;rcases h with h|⟨_,h⟩
  exact .inl (aC9 ds hQ ho (λa w h=>WW ds hQ ho hn h) h);exact bM h ho;rename_i hw;rw[aC hw]at h;have hput:(shift ds a).put o.dst undef=shift ds (a.put o.dst undef):=by cases o.dst<;>rfl
  rw[hput];exact WW ds hQ ho hn h
end
section
variable {P:Program}
theorem alF{c:Code}{C:Cx}{N:Nat}{K:K3}{env:cR}{V:HV}{σ:aY}{Q:Exit→Act→World→Prop}{a:Act}{w:World}(hf:Fr N env a)(hm:bZ C V σ w)
  (h:VC P C N c K (λ_ _ _ _=>False) env V σ) (k:∀a w e V σ,Fr N e a→bZ C V σ w→K e V σ→Q .normal a w):c.wpIn Fence.wide 5 P Q a w:=by
 refine wpIn_wide.2 (wp_mono (h a w hf hm) ?_);rintro e a' w' ⟨env',V',σ',hf',hm',hh⟩;cases e<;>first|exact k _ _ _ _ _ hf' hm' hh|exact hh.elim
def FZ(C:Cx)(D:Nat)(G:HV→aY→Prop)(V:HV)(σ:aY):Prop:=∀w,bZ C V σ w→∃V' σ',bZ C V' (σ'++ [gV D mU]) w∧G V' σ'
theorem GR{C:Cx}{D b:Nat}{o:Obj}{G:HV→aY→Prop}{V:HV}{σ σr:aY}(hp:σ.Perm (gV b o::σr))(h:∀V',bR V V'→V' b=some o→FZ C D G V' σr):FZ C D G V σ:=λw hm=>by
 obtain⟨x,hx,hd,m'⟩:=hm.freeze hp;have hx:x=one b o:=hx;exact h _ (iP _ _) (jU hd b o (by subst hx;simp[one])) w m'
theorem JO{C:Cx}{D:Nat}{G:HV→aY→Prop}{V:HV}{σ σb τ:aY}(hp:σ.Perm ((σb++ [gV D mU])++τ))(h:G V σb):FZ C D G V σ:=λ_ hm=>⟨V,σb,hm.drop hp,h⟩
def akE(P:Program)(C:Cx)(N:Nat)(l6:List Oper)(rs:Array ResultVar)(Φ:Value→HV→aY→Prop):Exit→Act→World→Prop:=λex a' w'=>
 ex= .normal∧∃D env V σ a0,a'=shift [N6 D] a0∧Fr N env a0∧bZ C V (σ++ [gV D mU]) w'∧
  d6 P C N l6.toArray (λe V' σ'=>FZ C D (λV σ=>q_ P C rs Φ .ret e V σ) V' σ') l6 env V (σ++ [gV D mU])
def FT(P:Program)(C:Cx)(fn:Func)(N:Nat)(Φ:Value→HV→aY→Prop)(c:Code)(env:cR)(V:HV)(σ:aY):Prop:=∀a w,Fr N env a→bZ C V σ w→
 c.wpIn Fence.wide 5 P (bodyPostM Fence.wide 5 P fn (λe w'=>∃v V' σ',e= .returned v∧Φ v V' σ'∧bZ C V' σ' w')) a w
theorem aoB{f:FuncId}{fn:Func}{c:Code}{N:Nat}{args:List Value}{V0:HV}{σ0:aY}{Φ:Value→HV→aY→Prop}
  (hf:P.funcs[f]? =some fn) (hname:(fn.name== "runtime.NumGoroutine")=false) (hb:fn.body=some c) (hN:fn.ntmps=N) (hl:args.length≤N)
  (h:∀w0 D,FT P ⟨w0,V0,D⟩ fn N Φ c (EZ args) V0 σ0):aP P f args V0 σ0 Φ:=by
 refine⟨⟨fn,hf,hname,by rw[hb];rfl⟩,λw0 hs0 h1 h2 h3 h4=> ?_⟩;refine(callsIn_wide (n:=5)).1 (callsIn_of_wp_marks hf hb trivial ?_);have hm:bZ ⟨w0,V0,iR hs0⟩ V0 σ0 w0:=⟨rfl,rfl,rfl,cV _,cV _,λ_ _ _=>rfl,.refl _,h3,λ_ _ _=>rfl,hs0,h1,h2,
  λh hh=>⟨(h4 h hh).1,(h4 h hh).2,λb _ hn=>⟨h,hh,hn⟩⟩⟩
 subst hN;exact h w0 (iR hs0) _ _ (aaY hl) hm
section
variable {C:Cx} {fn:Func} {N:Nat} {Φ:Value→HV→aY→Prop} {c x:Code} {env:cR} {V:HV} {σ σb:aY}
theorem DS(h:VC P C N x (λe V σ=>FT P C fn N Φ c e V σ) (λ_ _ _ _=>False) env V σ):FT P C fn N Φ (.seq x c) env V σ:=λ_ _ hf hm=>
 wpIn_seq (alF hf hm h λa w _ _ _ f1 m1 k1=>k1 a w f1 m1)
theorem F5{id id6:Nat}{g:Operand}{ps:Array Tmp}{assign body:Code}{l6:List Oper}{rs:Array ResultVar}(hr:fn.results=rs)
  (h:VC P C N x (λe V σ=>∀a w,Fr N e a→bZ C V σ w→(Code.rangeFunc g ps assign body).wpIn Fence.wide 5 P (akE P C N l6 rs Φ) a w) (λ_ _ _ _=>False) env V σ):
  FT P C fn N Φ (.seq (.seq x (.block id (.rangeFunc g ps assign body))) (.seq (.region id6 l6.toArray false) .ret)) env V σ:=λa w f1 m1=>by
 subst hr;refine wpIn_seq (wpIn_seq (alF f1 m1 h λa w e V σ f1 m1 k1=>wpIn_block (wpIn_mono (k1 a w f1 m1) ?_)));rintro ex a' w' ⟨rfl,D,env,V',σ',a0,rfl,f2,m2,ho⟩;refine wpIn_seq (wpIn_wide.2 (wp_region_lit (WW (Q:=pR _ _ _ _) [N6 D] (λc a w ⟨_,_,_,_,_,q⟩=>q) uP (λa w hq=> ?_) (ho a0 w' f2 m2))));obtain⟨e3,V3',σ3,f3,m3,hz⟩:=hq;obtain⟨V3,σb,m4,v,hv,hΦ⟩:=hz w m3;refine wpIn_ret ?_;have hd:(shift [N6 D] a).defers=[N6 D]:=by simp[shift,f3.defers]
 have hget:(σb++ [gV D mU])[σb.length]? =some (gV D mU):=bK;have hD:=(m4.blk hget).1;have m5:=(m4.setBlk hget (.deferred none) (w.putObj D (.deferred none)) rfl);have m6:bZ C V3 σb (w.putObj D (.deferred none)):=m5.drop (by rw[List.set_append_right _ _ (cV _),ED]);show LeavesInM _ _ _ _ _ _ _ _ _;rw[hd];refine⟨bK,.inl ⟨_,_,rfl,run_takeDeferred hD,?_⟩⟩;refine⟨v,?_,v,V3,σb,rfl,hΦ,m6⟩;exact(congrArg (λs=>Sem.run P s _) (f3.results fn)).trans (hv _ m6)
theorem fr2{a:Act}{p q:Nat}{u v:Value}(hf:Fr N env a):Fr N (upd N (upd N env p u) q v) {tmps:=((#[p,q]:Array Tmp).zip #[u,v]).foldl (λt (p,v)=>t.setIfInBounds p v) a.tmps,defers:=[]}:=by
 have h:=(hf.put (some p) u).put (some q) v;have e:((#[p,q]:Array Tmp).zip #[u,v]).foldl (λt (p,v)=>t.setIfInBounds p v) a.tmps=((a.put (some p) u).put (some q) v).tmps:=by simp[Act.put]
 rw[e];exact⟨rfl,h.size,h.get⟩
theorem fr1{a:Act}{p:Nat}{u:Value}(hf:Fr N env a):Fr N (upd N env p u) {tmps:=((#[p]:Array Tmp).zip #[u]).foldl (λt (p,v)=>t.setIfInBounds p v) a.tmps,defers:=[]}:=by
 have h:=hf.put (some p) u;have e:((#[p]:Array Tmp).zip #[u]).foldl (λt (p,v)=>t.setIfInBounds p v) a.tmps=(a.put (some p) u).tmps:=by simp[Act.put]
 rw[e];exact⟨rfl,h.size,h.get⟩
theorem JP{a:Act}{w:World}{D:Nat}{l6:List Oper}{rs:Array ResultVar}(hf:Fr N env a)(hm:bZ C V (σ++ [gV D mU]) w)
  (h:d6 P C N l6.toArray (λe V' σ'=>FZ C D (λV σ=>q_ P C rs Φ .ret e V σ) V' σ') l6 env V (σ++ [gV D mU])):akE P C N l6 rs Φ .normal {a with defers:=N6 D::a.defers} w:=
 ⟨rfl,D,env,V,σ,a,by simp[shift,hf.defers],hf,hm,h⟩
end
end
end Go.Vc
