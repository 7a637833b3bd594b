import Derived.Test.YtbchkopkgpfkgaaGreatQAL
import Derived.Test.YtbchkopkgpfkgaaGreatQAH
set_option linter.unusedVariables false
set_option linter.unusedSimpArgs false
set_option maxRecDepth 100000
set_option maxHeartbeats 4000000
noncomputable section
namespace Go.Vc
open Go
variable{V:HV}{a:Option Addr}{k:IntKind}{ks m:List Nat}{p q:Prop}
theorem a_(h:p:=by omega):p:=h
theorem eU(h:p:=by kernel_rfl):p:=h
theorem nW{a b:Nat}(h:a.ble b=true):a≤b:=Nat.le_of_ble_eq_true h
theorem fW(h:p:=by simp[Value.oneCell']):p:=h
theorem eZ(h:p:=by(simp only[maxLen];omega)):p:=h
abbrev qt(i:Nat):Nat×Bool:=(i,false)
abbrev ld(i:Nat):Nat×Bool:=(i,true)
abbrev vi:Int→Value:=Value.int .i64
theorem aL{a b:Int}(h:a=b):Value.int k a=Value.int k b:=congrArg _ h
class AtR (σ:aY) (k:Nat) (A:outParam fB):Prop where out:∀d,σ.getD k d=A
instance aK7 {A:fB} {σ:aY}:AtR (A::σ) 0 A:=⟨λ_=>rfl⟩
instance (priority:=100) atrMiss {A B:fB} {σ:aY} {k:Nat} [h:AtR σ k A]:AtR (B::σ) (k+1) A:=⟨λd=>by simpa using h.out d⟩
class Er (σ:aY) (k:Nat) (A:outParam fB) (τ:outParam aY):Prop where out:σ.Perm (A::τ)
instance aLE {A:fB} {σ:aY}:Er (A::σ) 0 A σ:=⟨.refl _⟩
instance (priority:=100) erMiss {A B:fB} {σ τ:aY} {k:Nat} [h:Er σ k A τ]:Er (B::σ) (k+1) A (B::τ):=⟨(h.out.cons B).trans (.swap _ _ _)⟩
class Ers (σ:aY) (ks:List Nat) (aSx τ:outParam aY):Prop where out:σ.Perm (aSx++τ)
instance aLm {σ:aY}:Ers σ [] [] σ:=⟨.refl _⟩
instance aKo {A:fB} {σ σ1 aSx τ:aY} {k:Nat}  [h:Er σ k A σ1] [i:Ers σ1 ks aSx τ]:Ers σ (k::ks) (A::aSx) τ:=⟨h.out.trans (i.out.cons A)⟩
class Ix (σ:aY) (ks:List Nat) (τ:outParam aY):Prop where out:ks.map (λi=>σ.getD i (λ_=>True))=τ
instance aLt {σ:aY}:Ix σ [] []:=⟨rfl⟩
instance aLe {A:fB} {σ τ:aY} {k:Nat}  [h:AtR σ k A] [i:Ix σ ks τ]:Ix σ (k::ks) (A::τ):=⟨by rw[lQ,h.out,i.out]⟩
class Ms (σ:aY) (m:List Nat) (sq ta:outParam aY):Prop where out:σ.Perm (sq++ta)
instance aLx {σ:aY}:Ms σ [] σ []:=⟨by rw[kN]⟩
instance ms0 {A:fB} {σ sq ta:aY}  [h:Ms σ m sq ta]:Ms (A::σ) (0::m) (A::sq) ta:=⟨h.out.cons A⟩
instance ms1 {A:fB} {σ sq ta:aY}  [h:Ms σ m sq ta]:Ms (A::σ) (1::m) sq (A::ta):=⟨(h.out.cons A).trans List.perm_middle.symm⟩
class Ap (σ σq:aY) (ρ:outParam aY):Prop where out:σ.Perm (σq++ρ)
instance aLs {σ:aY}:Ap σ [] σ:=⟨.refl _⟩
instance aKx {A:fB} {σ σq ρ:aY} [h:Ap σ σq ρ]:Ap (A::σ) (A::σq) ρ:=⟨h.out.cons A⟩
class Cl (v:Value) (cs:outParam (List Value)):Prop where out:v.cells=cs.toArray
instance aLD {l:List Value}:Cl (.agg l.toArray) l:=⟨rfl⟩
instance aLF  {i:Int}:Cl (.int k i) [.int k i]:=⟨rfl⟩
instance aKP {b:Bool}:Cl (.bool b) [.bool b]:=⟨rfl⟩
instance aLr :Cl (.pointer a) [.pointer a]:=⟨rfl⟩
instance aKp  {n c:Nat}:Cl (.slice a n c) [.slice a n c]:=⟨rfl⟩
instance aLv {b:ByteArray}:Cl (.string b) [.string b]:=⟨rfl⟩
instance aLw {b:Option Nat}:Cl (.map b) [.map b]:=⟨rfl⟩
class Zc (z:Value) (cs:outParam (List Value)):Prop where out:z.cells=cs.toArray
instance aLJ {z:Value} {cs:List Value} [h:Cl z cs]:Zc z cs:=⟨h.out⟩
class aeI (cs:List Value) (k:Nat) (v:Value) (ds:outParam (List Value)):Prop where out:cs.set k v=ds
instance aKm {u v:Value} {cs:List Value}:aeI (u::cs) 0 v (v::cs):=⟨rfl⟩
instance (priority:=100) setlMiss {u v:Value} {cs ds:List Value} {k:Nat} [h:aeI cs k v ds]:aeI (u::cs) (k+1) v (u::ds):=⟨by rw[←h.out];rfl⟩
section
variable {P:Program} {C:Cx} {N:Nat} {K:K3} {Q:Ex→K3} {env:cR} {V V0:HV} {σ σ' σ1 σq τ sq ta ρ:aY} {ops:Array Oper} {rest:List Oper} {ro:List (Nat×Bool)} {c:Code}
variable {d i n s y' m' b off:Nat} {x y z:Operand} {t T T2 E:TypeId} {pos:String} {af:Array Edge} {g:Option (Nat×Bool)} {v u z0:Value} {op:Op} {cs ds xs news:List Value}
theorem bI{f:FuncId}{fn:Func}{args:List Value}{σ0:aY}{Φ:Value→HV→aY→Prop}{rs:Array ResultVar}(hf:P.funcs[f]? =some fn)
  (h:∀w0 D,VC P ⟨w0,V0,D⟩ N c (LI P ⟨w0,V0,D⟩ rs Φ) (q_ P ⟨w0,V0,D⟩ rs Φ) (EZ args) V0 σ0)
  (hname:(fn.name== "runtime.NumGoroutine")=false:=by kernel_rfl) (hb:fn.body=some c:=by rfl) (hN:fn.ntmps=N:=by((conv=>lhs;whnf)<;>fail)) (hr:fn.results=rs:=by rfl) (hl:args.length.ble N=true:=by rfl):aP P f args V0 σ0 Φ:=
 an3 hf hname hb hN hr (Nat.le_of_ble_eq_true hl) h
theorem aG{c:Operand}{a b:Code}{p:Prop}{i:Decidable p}(ht:p→VC P C N a K Q env V σ)(hf:¬p→VC P C N b K Q env V σ)(hc:ev env c= .bool (decide p):=by exact gC):VC P C N (.cond c a b) K Q env V σ:=afN hc ht hf
theorem nB{c:Operand}{a b:Code}{p:Prop}{i:Decidable p}(hp:p)(h:VC P C N a K Q env V σ)(hc:ev env c= .bool (decide p):=by exact gC):VC P C N (.cond c a b) K Q env V σ:=ax9 hc hp h
theorem IM{c:Operand}{a b:Code}{p:Prop}{i:Decidable p}(hp:¬p)(h:VC P C N b K Q env V σ)(hc:ev env c= .bool (decide p):=by exact gC):VC P C N (.cond c a b) K Q env V σ:=ay1 hc hp h
theorem dP(k:Nat){A:fB}[hn:Nz σ σ'][h:Er σ' k A τ](g:VC P C N c K Q env V τ):VC P C N c K Q env V σ:=by
 rw[hn.out];exact QY τ [A] (h.out.trans (List.perm_append_singleton A τ).symm) g
theorem apV(g:VC P C N c K Q env V []):VC P C N c K Q env V σ:=QY [] σ (.refl _) g
theorem c_(k:Nat)[hn:Nz σ σ'][h:Er σ' k (aM T b cs) τ](g:∀V',bR V V'→Cells V' b cs→VC P C N c K Q env V' τ):VC P C N c K Q env V σ:=by
 rw[hn.out];exact amH h.out (λV' h1 h2=>g V' h1 ⟨_,_,h2⟩)
theorem pV(k:Nat)[hn:Nz σ σ'][h:Er σ' k (Gr E 1 v n xs) τ](g:∀V',bR V V'→Sl V' v xs→VC P C N c K Q env V' τ):VC P C N c K Q env V σ:=by
 rw[hn.out];exact ag3 h.out g
theorem jM(k:Nat)[hn:Nz σ σ'][h:Er σ' k (Gr E s v n xs) τ](g:∀V',bR V V'→aR s V' v n xs→VC P C N c K Q env V' τ):VC P C N c K Q env V σ:=by
 rw[hn.out];exact ag4 h.out g
theorem lD(k:Nat)[hn:Nz σ σ'][h:Er σ' k (aM T b cs) τ](g:∀V',bR V V'→Cells V' b cs→d6 P C N ops K rest env V' τ):d6 P C N ops K rest env V σ:=by
 rw[hn.out];exact agI h.out (λV' h1 h2=>g V' h1 ⟨_,_,h2⟩)
theorem h_(p:List Nat)[hn:Nz σ σ'][h:Ix σ' p τ](g:d6 P C N ops K rest env V τ)(hp:p.isPerm (List.range σ'.length)=true:=by kernel_rfl):d6 P C N ops K rest env V σ:=by
 rw[hn.out];exact an9 (fO σ' τ p hp h.out) g
theorem kV(ord:List (Nat×Bool)){id:Nat}{l:List Oper}[hm:MX P][hn:Nz σ σ'](h:iY P C N l.toArray K ord env V σ' σ')
  (hB:(Region.noSelect l.toArray&&decide (ord.length=l.toArray.size)&&qK .any l.toArray ord (Array.replicate l.toArray.size false))=true:=by kernel_rfl):VC P C N (.region id l.toArray true) K Q env V σ:=by
 rw[hn.out];exact BX ord σ' hm.out (cB _) hB h
theorem oL(ord:List (Nat×Bool))(m:List Nat){id:Nat}{l:List Oper}[hm:MX P][hn:Nz σ σ'][k:Ms σ' m sq ta](h:iY P C N l.toArray K ord env V σ' sq)
  (hB:(Region.noSelect l.toArray&&decide (ord.length=l.toArray.size)&&qK .any l.toArray ord (Array.replicate l.toArray.size false))=true:=by kernel_rfl):VC P C N (.region id l.toArray true) K Q env V σ:=by
 rw[hn.out];exact BX ord sq hm.out k.out hB h
theorem rE(n:Nat)(m:List Nat){id:Nat}{l:List Oper}[hm:MX P][hn:Nz σ σ'][k:Ms σ' m sq ta](h:iX P C N l.toArray K n (Array.replicate n false) env V σ' sq)(hl:l.length=n:=by rfl):VC P C N (.region id l.toArray true) K Q env V σ:=by
 rw[hn.out];exact aa5 sq hm.out k.out hl h
theorem qT[hn:Nz σ σ'](h:iY P C N ops K ro env V σ' σ'):d6 P C N ops (λe' V' σ'=>∃σq' τ',σ'.Perm (σq'++τ')∧iY P C N ops K ro e' V' σ' σq') [] env V σ:=
 cL ⟨σ',[],by rw[hn.out,kN],by rw[hn.out];exact h⟩
theorem xT(m:List Nat)[hn:Nz σ σ'][k:Ms σ' m sq ta](h:iY P C N ops K ro env V σ' sq):d6 P C N ops (λe' V' σ'=>∃σq' τ',σ'.Perm (σq'++τ')∧iY P C N ops K ro e' V' σ' σq') [] env V σ:=
 cL ⟨sq,ta,by rw[hn.out];exact k.out,by rw[hn.out];exact h⟩
theorem gW(m:List Nat)(hV:bR V0 V)[hn:Nz σ σ'][k:Ms σ' m sq ta][a:Ap sq σq ρ](h:iY P C N ops K ro env V σ' sq):
  d6 P C N ops (λe' V' σ'=>∃σq' τ',bR V0 V'∧σ'.Perm (σq'++τ')∧(∃ρ,σq'.Perm (σq++ρ))∧iY P C N ops K ro e' V' σ' σq') [] env V σ:=
 cL ⟨sq,ta,hV,by rw[hn.out];exact k.out,⟨ρ,a.out⟩,by rw[hn.out];exact h⟩
theorem cC{f:Nat}{ls:Array Bool}(m:List Nat)(hV:bR V0 V)[hn:Nz σ σ'][k:Ms σ' m sq ta][a:Ap sq σq ρ](h:iX P C N ops K f ls env V σ' sq):
  d6 P C N ops (λe' V' σ'=>∃σq' τ',σ'.Perm (σq'++τ')∧((bR V0 V'∧∃ρ,σq'.Perm (σq++ρ))∨nP .any ops i=true)∧iX P C N ops K f ls e' V' σ' σq') [] env V σ:=
 cL ⟨sq,ta,by rw[hn.out];exact k.out,.inl ⟨hV,ρ,a.out⟩,by rw[hn.out];exact h⟩
theorem I_{f:Nat}{ls:Array Bool}(m:List Nat)[hn:Nz σ σ'][k:Ms σ' m sq ta](h:iX P C N ops K f ls env V σ' sq)(hl:nP .any ops i=true:=by kernel_rfl):
  d6 P C N ops (λe' V' σ'=>∃σq' τ',σ'.Perm (σq'++τ')∧((bR V0 V'∧∃ρ,σq'.Perm (σq++ρ))∨nP .any ops i=true)∧iX P C N ops K f ls e' V' σ' σq') [] env V σ:=
 cL ⟨sq,ta,by rw[hn.out];exact k.out,.inr hl,by rw[hn.out];exact h⟩
class OpL (l:List Oper) (i:Nat) (o:outParam Oper):Prop where out:l[i]? =some o
instance aLu {o:Oper} {l:List Oper}:OpL (o::l) 0 o:=⟨rfl⟩
instance (priority:=100) opMiss {o u:Oper} {l:List Oper} {i:Nat} [h:OpL l i o]:OpL (u::l) (i+1) o:=⟨by simpa using h.out⟩
class OpA (l:Array Oper) (i:Nat) (o:outParam Oper):Prop where out:l[i]? =some o
instance aLy {o:Oper} {l:List Oper} {i:Nat} [h:OpL l i o]:OpA l.toArray i o:=⟨by simpa using h.out⟩
theorem jS{o:Oper}[ho:OpA ops i o](h:d6 P C N ops (λe' V' σ'=>∃σq' τ',σ'.Perm (σq'++τ')∧iY P C N ops K ro e' V' σ' σq') [o] env V σ)(hs:nP .any ops i=true:=by kernel_rfl):iY P C N ops K ((i,true)::ro) env V σ σq:=rl1 hs ho.out h
theorem I9{o:Oper}[ho:OpA ops i o](h:d6 P C N ops (λe' V' σ'=>∃σq' τ',bR V V'∧σ'.Perm (σq'++τ')∧(∃ρ,σq'.Perm (σq++ρ))∧iY P C N ops K ro e' V' σ' σq') [o] env V σ):iY P C N ops K ((i,true)::ro) env V σ σq:=rl ho.out h
theorem ao9{f:Nat}{ls:Array Bool}{o:Oper}[ho:OpA ops i o](h:d6 P C N ops (λe' V' σ'=>∃σq' τ',σ'.Perm (σq'++τ')∧((bR V V'∧∃ρ,σq'.Perm (σq++ρ))∨nP .any ops i=true)∧iX P C N ops K f (ls.setIfInBounds i true) e' V' σ' σq') [o] env V σ):P5 P C N ops K f ls env V σ σq i:=⟨o,ho.out,h⟩
theorem axD(h:d6 P C N ops K (⟨none,.store T x y,t,pos,af,none⟩::rest) env V σ):d6 P C N ops K (⟨none,.store T x y,t,pos,af,none⟩::rest) env V σ:=h
theorem j8{k:Nat}[hS:SZ P T 1](hx:ev env x= .pointer (some ⟨b,off,none⟩))[hn:Nz σ σ'][hk:wG σ' b k E cs](hy:ev env y=v)[hs:aeI cs off v ds][hr:ER σ' k (aM E b ds) τ](hv1:v.oneCell'=true)
  (h:d6 P C N ops K rest env V τ) (ho:Nat.blt off cs.length=true:=by rfl):d6 P C N ops K (⟨none,.store T x y,t,pos,af,none⟩::rest) env V σ:=by
 refine pO hS.out hx hy hv1 W5 (by simpa[Nat.blt_eq]using ho) ?_;rw[hs.out,hn.out,hr.out];exact h
theorem dM{k:Nat}[hS:SZ P T s](hx:ev env x= .pointer (some ⟨b,0,none⟩))(hy:ev env y= .agg ds.toArray)[hn:Nz σ σ'][hk:wG σ' b k E cs][hr:ER σ' k (aM E b ds) τ](h1:ds.all (·.oneCell')=true)
  (h:d6 P C N ops K rest env V τ) (hl:ds.length=s:=by rfl) (hc:cs.length=ds.length:=by rfl):d6 P C N ops K (⟨none,.store T x y,t,pos,af,none⟩::rest) env V σ:=by
 refine aw9 hS.out hx hy hl h1 W5 hc ?_;rw[hn.out,hr.out];exact h
theorem bH(h:∀b,d6 P C N ops K rest (Go.Vc.upd N env d (.pointer (some ⟨b,0,none⟩))) V (σ++ [aM T b cs]))[hc:Cl v cs](hx:ev env x=v:=by exact gC):d6 P C N ops K (⟨some d,.box T x,t,pos,af,none⟩::rest) env V σ:=tF hx hc.out h
theorem aQ[hi:TZ P T z0 s y'][hc:Zc z0 cs](h:∀b,d6 P C N ops K rest (Go.Vc.upd N env d (.pointer (some ⟨b,0,none⟩))) V (σ++ [aM T b cs])):d6 P C N ops K (⟨some d,.alloc T,t,pos,af,none⟩::rest) env V σ:=alI hi.out hc.out h
theorem eH{f:FuncId}{cap:Array Value}{l:List Operand}{at_:Array TypeId}{args:List Value}{dst:Option Nat}(h:aP P f args V [] (λv' _ _=>v'=v))(hx:ev env x= .func (.func f) #[] cap)(ha:l.map (ev env)++cap.toList=args):
 QV P C ⟨dst,.call {callee:=.value x,args:=l.toArray,argTypes:=at_},t,pos,af,g⟩ env V σ v:=J8 h hx ha
theorem AA{f:FuncId}{cap:Array Value}{l:List Operand}{at_:Array TypeId}{args:List Value}{dst:Option Nat}(ks:List Nat){σp σr:aY}{Φ:Value→HV→aY→Prop}[hn:Nz σ σ'][hk:Ers σ' ks σp σr](h:aP P f args V σp Φ)
  (hx:ev env x= .func (.func f) #[] cap) (ha:l.map (ev env)++cap.toList=args) (k:∀v V' τ,bR V V'→Φ v V' τ→d6 P C N ops K rest (GD N env dst v) V' (τ++σr)):
  d6 P C N ops K (⟨dst,.call {callee:=.value x,args:=l.toArray,argTypes:=at_},t,pos,af,none⟩::rest) env V σ:=
 ap9 h hx ha W5 k
theorem dV{k j m c:Nat}{b2:Nat}[hT:UL P T (.slice E)][hi:TZ P E z0 s y'](hx:ev env x=v)[hn:Nz σ σ'][hk:ZX σ' v k E s n xs](hy:ev env y= .slice (some ⟨b2,0,none⟩) m c)[hj:wG σ' b2 j T2 news]
  (hl:news.length=m*s) (h1:∀u∈news,u.oneCell'=true) (hb:(n+m)*y'≤140737488355328) (h63:n+m≤maxLen)
  (h:∀v',(v'= .slice none 0 0↔v= .slice none 0 0∧m=0)→d6 P C N ops K rest (upd N env d v') V (σ'.set k (Gr E s v' (n+m) (xs++news)))) (hz:z0.cells.size=s:=by rfl) (hs:Nat.ble 1 s=true:=by rfl):
  d6 P C N ops K (⟨some d,.call {callee:=.builtin .append,args:= #[x,y],argTypes:= #[T,T]},t,pos,af,none⟩::rest) env V σ:=by
 obtain rfl:=hn.out;exact yJ hT.out hi.out hz (Nat.le_of_ble_eq_true hs) hx hk.out hy hl (arN hj.out) h1 hb h63 h
theorem YV{a k:Nat}[hA:AG P T s](hx:env a= .pointer (some ⟨b,off,none⟩))[hn:Nz σ σ'][hk:wG σ' b k E cs][hd:Dp cs off ds][ht:Tk ds s xs]:RV P C env V σ (.cell a T) (.agg xs.toArray):=
 eC hA.out hx (p_ W5) (by rw[hd.out,ht.out]) ht.len
theorem aBL{a k:Nat}[hP:PL P T](hx:env a= .pointer (some ⟨b,off,none⟩))[hn:Nz σ σ'][hk:wG σ' b k E cs][hd:At cs off v]:RV P C env V σ (.cell a T) v:=
 aIE hP.out hx (p_ W5) hd.out
end
structure Hd (q:Prop):Prop where out:q
theorem jG(h:q)(f:Hd q→p:=by
 intro h;first
 |((with_reducible apply oq);exact q_a)
 |with_reducible apply aEc
 |with_reducible apply vcN
 |with_reducible apply cL
 |with_reducible apply axP
 |with_reducible apply aq9
 |((with_reducible apply os);exact w_n)
 |((with_reducible apply axD);first|refine j8 rfl gC (by first|rfl|assumption) ?_|refine dM rfl rfl (by rfl) ?_)
 |((with_reducible apply og);(exact q_a);exact cZ)
 |((with_reducible apply qq);exact q_a)
 |with_reducible apply apL
 |((with_reducible apply qs);exact w_n)
 |((with_reducible apply qg);(exact q_a);exact cZ)
 |with_reducible apply aDp
 |with_reducible apply aeA
 |with_reducible apply ay5
 |with_reducible apply ah_
 |((with_reducible apply aa6);rfl)
 |((with_reducible apply rq);rfl;exact q_a)
 |with_reducible apply aKg
 |((with_reducible apply aGw);exact gC)
 |((with_reducible apply aFJ);exact gC)
 |((with_reducible apply aGV);kernel_rfl)
 exact h.out):p:=f ⟨h⟩
theorem s_2(h:q)(f:Hd q→p:=by(intro h;(iterate 2 (refine jG ?_));exact h.out)):p:=f ⟨h⟩
theorem s_3(h:q)(f:Hd q→p:=by(intro h;(iterate 3 (refine jG ?_));exact h.out)):p:=f ⟨h⟩
theorem s_4(h:q)(f:Hd q→p:=by(intro h;(iterate 4 (refine jG ?_));exact h.out)):p:=f ⟨h⟩
theorem s_5(h:q)(f:Hd q→p:=by(intro h;(iterate 5 (refine jG ?_));exact h.out)):p:=f ⟨h⟩
theorem s_6(h:q)(f:Hd q→p:=by(intro h;(iterate 6 (refine jG ?_));exact h.out)):p:=f ⟨h⟩
theorem s_7(h:q)(f:Hd q→p:=by(intro h;(iterate 7 (refine jG ?_));exact h.out)):p:=f ⟨h⟩
theorem s_8(h:q)(f:Hd q→p:=by(intro h;(iterate 8 (refine jG ?_));exact h.out)):p:=f ⟨h⟩
theorem eW(h:q)(f:Hd q→p:=by(intro h;(iterate 9 (refine jG ?_));exact h.out)):p:=f ⟨h⟩
theorem aAY(h:q)(f:Hd q→p:=by(intro h;(iterate 10 (refine jG ?_));exact h.out)):p:=f ⟨h⟩
theorem iJ(h:q)(f:Hd q→p:=by(intro h;(iterate 11 (refine jG ?_));exact h.out)):p:=f ⟨h⟩
theorem aID(h:q)(f:Hd q→p:=by(intro h;(iterate 12 (refine jG ?_));exact h.out)):p:=f ⟨h⟩
theorem nA(h:q)(f:Hd q→p:=by(intro h;(iterate 13 (refine jG ?_));exact h.out)):p:=f ⟨h⟩
theorem nK(h:q)(f:Hd q→p:=by(intro h;(iterate 14 (refine jG ?_));exact h.out)):p:=f ⟨h⟩
theorem qQ(h:q)(f:Hd q→p:=by(intro h;(iterate 15 (refine jG ?_));exact h.out)):p:=f ⟨h⟩
theorem FJ(h:q)(f:Hd q→p:=by(intro h;(iterate 16 (refine jG ?_));exact h.out)):p:=f ⟨h⟩
theorem MS(h:q)(f:Hd q→p:=by(intro h;(iterate 17 (refine jG ?_));exact h.out)):p:=f ⟨h⟩
theorem af5(h:q)(f:Hd q→p:=by(intro h;(iterate 18 (refine jG ?_));exact h.out)):p:=f ⟨h⟩
theorem afE(h:q)(f:Hd q→p:=by(intro h;(iterate 19 (refine jG ?_));exact h.out)):p:=f ⟨h⟩
theorem ZS(h:q)(f:Hd q→p:=by(intro h;(iterate 20 (refine jG ?_));exact h.out)):p:=f ⟨h⟩
theorem XA(h:q)(f:Hd q→p:=by(intro h;(iterate 21 (refine jG ?_));exact h.out)):p:=f ⟨h⟩
theorem aAN(h:q)(f:Hd q→p:=by(intro h;(iterate 22 (refine jG ?_));exact h.out)):p:=f ⟨h⟩
theorem ao8(h:q)(f:Hd q→p:=by(intro h;(iterate 23 (refine jG ?_));exact h.out)):p:=f ⟨h⟩
theorem af9(h:q)(f:Hd q→p:=by(intro h;(iterate 24 (refine jG ?_));exact h.out)):p:=f ⟨h⟩
theorem aI2(h:q)(f:Hd q→p:=by(intro h;(iterate 25 (refine jG ?_));exact h.out)):p:=f ⟨h⟩
theorem aIv(h:q)(f:Hd q→p:=by(intro h;(iterate 26 (refine jG ?_));exact h.out)):p:=f ⟨h⟩
theorem aeL(h:q)(f:Hd q→p:=by(intro h;(iterate 27 (refine jG ?_));exact h.out)):p:=f ⟨h⟩
theorem aoK(h:q)(f:Hd q→p:=by(intro h;(iterate 28 (refine jG ?_));exact h.out)):p:=f ⟨h⟩
theorem aKi(h:q)(f:Hd q→p:=by(intro h;(iterate 29 (refine jG ?_));exact h.out)):p:=f ⟨h⟩
theorem aKc(h:q)(f:Hd q→p:=by(intro h;(iterate 33 (refine jG ?_));exact h.out)):p:=f ⟨h⟩
theorem aKk(h:q)(f:Hd q→p:=by(intro h;(iterate 34 (refine jG ?_));exact h.out)):p:=f ⟨h⟩
theorem aJy(h:q)(f:Hd q→p:=by(intro h;(iterate 36 (refine jG ?_));exact h.out)):p:=f ⟨h⟩
theorem aBo(h:q)(f:Hd q→p:=by(intro h;(iterate 40 (refine jG ?_));exact h.out)):p:=f ⟨h⟩
inductive iC (e:cR):List Nat→List (Nat×Value)→Prop
 |nil:iC e [] []
 |cons {t:Nat} {v:Value} {W:List Nat} {l:List (Nat×Value)} (h:e t=v) (r:iC e W l):iC e (t::W) ((t,v)::l)
theorem iC.has{e:cR}{W:List Nat}{l:List (Nat×Value)}(h:iC e W l):bT e l:=by
 induction h with
 |nil=>exact trivial
 |cons h _ ih=>exact⟨h,ih⟩
theorem kQ(h:q:=by repeat (first|exact iC.nil|(apply iC.cons;(exact gC)))):q:=h
theorem nF(h:q:=by repeat (first|exact trivial|refine⟨rfl,?_⟩)):q:=h
theorem zF{e:cR}:∀{a b:List (Nat×Value)},bT e a→bT e b→bT e (a++b)
 | [],_,_,h=>h
 |_::_,_,h,g=>⟨h.1,zF h.2 g⟩
theorem zK{N:Nat}{e:cR}:∀{a b:List (Nat×Value)},dN N (a++b) e=dN N a (dN N b e)
 | [],_=>rfl
 |(t,v)::r,b=>by
  show upd N (dN N (r++b) e) t v=upd N (dN N r (dN N b e)) t v;rw[zK]
section
variable {P:Program} {C:Cx} {N:Nat} {K:K3} {Q:Ex→K3} {env e':cR} {V V':HV} {σ σ' σ2 σ3:aY} {c:Code} {l:List (Nat×Value)}
theorem eE(W:List Nat)(S:List (Nat×Value))(h:VC P C N c (λe V' σ'=>bT e S∧bT e l∧V=V'∧σ=σ') Q env V σ)(k:∀e,K (dN N S (dN N l e)) V σ)(hl:iC env W l:=by exact kQ):VC P C N c K Q env V σ:=
 aJC (S++l) (f5 h (λ_ _ _ ⟨a,b,d⟩=>⟨zF a b,d⟩) (λ_ _ _ _ h=>h)) (λe=>by rw[zK];exact k e)
theorem bC{S:List (Nat×Value)}(a:bT e' S)(hl:bT e' l:=by exact nF)(hv:V=V':=by rfl)(hσ:σ=σ2:=by rfl):bT e' S∧bT e' l∧V=V'∧σ=σ2:=⟨a,hl,hv,hσ⟩
theorem NW{α:Type}(S:α→List (Nat×Value))(R:α→aY)(F:α→HV→Prop)(μ:α→Nat)(x0:α)(W:List Nat)(hn:σ=σ')(hl:iC env W l)(hs:bT env (S x0))(h0:R x0=σ')(hF:F x0 V)
  (round:∀x e V1,F x V1→VC P C N c (λe' V' σ2=>∃x',bT e' (S x')∧bT e' l∧R x'=σ2∧F x' V'∧μ x'<μ x) Q (dN N (S x) (dN N l e)) V1 (R x)):VC P C N (.loop c) K Q env V σ:=by
 subst hn;refine axC (λx=>S x++l) (λx V' τ=>R x=τ∧F x V') μ x0 (zF hs hl.has) ⟨h0,hF⟩ ?_;rintro x e V1 τ ⟨rfl,h⟩;rw[zK];exact f5 (round x e V1 h) (λ_ _ _ ⟨x',a,b,d,f,g⟩=>⟨x',zF a b,⟨d,f⟩,g⟩) (λ_ _ _ _ h=>h)
theorem xJ{A0:Type}(W:List Nat)(S:A0→List (Nat×Value))(R:A0→aY)(F:A0→Prop)(μ:A0→Nat)(x0:A0)[hn:Nz σ σ'](hs:bT env (S x0))(h0:R x0=σ')(hF:F x0)
  (round:∀(y0:A0) (e:cR),F y0→VC P C N c (λe' V' σ2=>∃(z0:A0),bT e' (S z0)∧bT e' l∧V=V'∧R z0=σ2∧F z0∧μ z0<μ y0) Q (dN N (S y0) (dN N l e)) V (R y0)) (hl:iC env W l:=by exact kQ):VC P C N (.loop c) K Q env V σ:=
 NW (λp=>S p) (λp=>R p) (λp V'=>V=V'∧F p) (λp=>μ p) x0 W hn.out hl hs h0 ⟨rfl,hF⟩ (λp e V1 ⟨hV,h⟩=>by subst hV;exact f5 (round p e h) (λ_ _ _ ⟨z0,a,b,hV,d,f,g⟩=>⟨z0,a,b,d,⟨hV,f⟩,g⟩) (λ_ _ _ _ h=>h))
theorem g_{A0:Type}(W:List Nat)(S:A0→List (Nat×Value))(F:A0→Prop)(μ:A0→Nat)(x0:A0)[hn:Nz σ σ'](hs:bT env (S x0))(hF:F x0)
  (round:∀(y0:A0) (e:cR),F y0→VC P C N c (λe' V' σ2=>∃(z0:A0),bT e' (S z0)∧bT e' l∧V=V'∧σ'=σ2∧F z0∧μ z0<μ y0) Q (dN N (S y0) (dN N l e)) V σ') (hl:iC env W l:=by exact kQ):VC P C N (.loop c) K Q env V σ:=
 xJ W S (λ_=>σ') F μ x0 hs rfl hF round hl
theorem oH{A0:Type}(W:List Nat)(S:A0→List (Nat×Value))(R:A0→aY)(F:A0→HV→Prop)(μ:A0→Nat)(x0:A0)[hn:Nz σ σ'](hs:bT env (S x0))(h0:R x0=σ')(hF:F x0 V)
  (round:∀(y0:A0) (e:cR) (V1:HV),F y0 V1→VC P C N c (λe' V' σ2=>∃(z0:A0),bT e' (S z0)∧bT e' l∧R z0=σ2∧F z0 V'∧μ z0<μ y0) Q (dN N (S y0) (dN N l e)) V1 (R y0)) (hl:iC env W l:=by exact kQ):VC P C N (.loop c) K Q env V σ:=
 NW (λp=>S p) (λp=>R p) (λp V'=>F p V') (λp=>μ p) x0 W hn.out hl hs h0 hF (λp e V1 h=>f5 (round p e V1 h) (λ_ _ _ ⟨z0,a,b,d,f,g⟩=>⟨z0,a,b,d,f,g⟩) (λ_ _ _ _ h=>h))
theorem dW{A0:Type}{S:A0→List (Nat×Value)}{R:A0→aY}{F:A0→Prop}{ν:A0→Nat}{m:Nat}(x0:A0)[hn:Nz σ2 σ3](a:bT e' (S x0))(b:F x0)(hr:R x0=σ3:=by rfl)(hμ:ν x0<m:=by omega)(hl:bT e' l:=by exact nF)(hv:V=V':=by rfl):
 ∃(z0:A0),bT e' (S z0)∧bT e' l∧V=V'∧R z0=σ2∧F z0∧ν z0<m:=⟨x0,a,hl,hv,by rw[hn.out];exact hr,b,hμ⟩
theorem BU{A0:Type}{A1:Type}(W:List Nat)(S:A0→A1→List (Nat×Value))(R:A0→A1→aY)(F:A0→A1→Prop)(μ:A0→A1→Nat)(x0:A0)(x1:A1)[hn:Nz σ σ'](hs:bT env (S x0 x1))(h0:R x0 x1=σ')(hF:F x0 x1)
  (round:∀(y0:A0) (y1:A1) (e:cR),F y0 y1→VC P C N c (λe' V' σ2=>∃(z0:A0) (z1:A1),bT e' (S z0 z1)∧bT e' l∧V=V'∧R z0 z1=σ2∧F z0 z1∧μ z0 z1<μ y0 y1) Q (dN N (S y0 y1) (dN N l e)) V (R y0 y1)) (hl:iC env W l:=by exact kQ):VC P C N (.loop c) K Q env V σ:=
 NW (λp=>S (p.1) (p.2)) (λp=>R (p.1) (p.2)) (λp V'=>V=V'∧F (p.1) (p.2)) (λp=>μ (p.1) (p.2)) (x0,x1) W hn.out hl hs h0 ⟨rfl,hF⟩ (λp e V1 ⟨hV,h⟩=>by subst hV;exact f5 (round (p.1) (p.2) e h) (λ_ _ _ ⟨z0,z1,a,b,hV,d,f,g⟩=>⟨(z0,z1),a,b,d,⟨hV,f⟩,g⟩) (λ_ _ _ _ h=>h))
theorem lc2{A0:Type}{A1:Type}(W:List Nat)(S:A0→A1→List (Nat×Value))(F:A0→A1→Prop)(μ:A0→A1→Nat)(x0:A0)(x1:A1)[hn:Nz σ σ'](hs:bT env (S x0 x1))(hF:F x0 x1)
  (round:∀(y0:A0) (y1:A1) (e:cR),F y0 y1→VC P C N c (λe' V' σ2=>∃(z0:A0) (z1:A1),bT e' (S z0 z1)∧bT e' l∧V=V'∧σ'=σ2∧F z0 z1∧μ z0 z1<μ y0 y1) Q (dN N (S y0 y1) (dN N l e)) V σ') (hl:iC env W l:=by exact kQ):VC P C N (.loop c) K Q env V σ:=
 BU W S (λ_ _=>σ') F μ x0 x1 hs rfl hF round hl
theorem lv2{A0:Type}{A1:Type}(W:List Nat)(S:A0→A1→List (Nat×Value))(R:A0→A1→aY)(F:A0→A1→HV→Prop)(μ:A0→A1→Nat)(x0:A0)(x1:A1)[hn:Nz σ σ'](hs:bT env (S x0 x1))(h0:R x0 x1=σ')(hF:F x0 x1 V)
  (round:∀(y0:A0) (y1:A1) (e:cR) (V1:HV),F y0 y1 V1→VC P C N c (λe' V' σ2=>∃(z0:A0) (z1:A1),bT e' (S z0 z1)∧bT e' l∧R z0 z1=σ2∧F z0 z1 V'∧μ z0 z1<μ y0 y1) Q (dN N (S y0 y1) (dN N l e)) V1 (R y0 y1)) (hl:iC env W l:=by exact kQ):VC P C N (.loop c) K Q env V σ:=
 NW (λp=>S (p.1) (p.2)) (λp=>R (p.1) (p.2)) (λp V'=>F (p.1) (p.2) V') (λp=>μ (p.1) (p.2)) (x0,x1) W hn.out hl hs h0 hF (λp e V1 h=>f5 (round (p.1) (p.2) e V1 h) (λ_ _ _ ⟨z0,z1,a,b,d,f,g⟩=>⟨(z0,z1),a,b,d,f,g⟩) (λ_ _ _ _ h=>h))
theorem qM{A0:Type}{A1:Type}{S:A0→A1→List (Nat×Value)}{R:A0→A1→aY}{F:A0→A1→Prop}{ν:A0→A1→Nat}{m:Nat}(x0:A0)(x1:A1)[hn:Nz σ2 σ3](a:bT e' (S x0 x1))(b:F x0 x1)(hr:R x0 x1=σ3:=by rfl)(hμ:ν x0 x1<m:=by omega)(hl:bT e' l:=by exact nF)(hv:V=V':=by rfl):
 ∃(z0:A0) (z1:A1),bT e' (S z0 z1)∧bT e' l∧V=V'∧R z0 z1=σ2∧F z0 z1∧ν z0 z1<m:=⟨x0,x1,a,hl,hv,by rw[hn.out];exact hr,b,hμ⟩
theorem VU{A0:Type}{A1:Type}{S:A0→A1→List (Nat×Value)}{R:A0→A1→aY}{F:A0→A1→Prop}{ν:A0→A1→Nat}{m:Nat}(x0:A0)(x1:A1)[hn:Nz σ2 σ3](a:bT e' (S x0 x1))(b:F x0 x1)(hr:R x0 x1=σ3:=by rfl)(hμ:ν x0 x1<m:=by omega)(hl:bT e' l:=by exact nF):
 ∃(z0:A0) (z1:A1),bT e' (S z0 z1)∧bT e' l∧R z0 z1=σ2∧F z0 z1∧ν z0 z1<m:=⟨x0,x1,a,hl,by rw[hn.out];exact hr,b,hμ⟩
theorem lp3{A0:Type}{A1:Type}{A2:Type}(W:List Nat)(S:A0→A1→A2→List (Nat×Value))(R:A0→A1→A2→aY)(F:A0→A1→A2→Prop)(μ:A0→A1→A2→Nat)(x0:A0)(x1:A1)(x2:A2)[hn:Nz σ σ'](hs:bT env (S x0 x1 x2))(h0:R x0 x1 x2=σ')(hF:F x0 x1 x2)
  (round:∀(y0:A0) (y1:A1) (y2:A2) (e:cR),F y0 y1 y2→VC P C N c (λe' V' σ2=>∃(z0:A0) (z1:A1) (z2:A2),bT e' (S z0 z1 z2)∧bT e' l∧V=V'∧R z0 z1 z2=σ2∧F z0 z1 z2∧μ z0 z1 z2<μ y0 y1 y2) Q (dN N (S y0 y1 y2) (dN N l e)) V (R y0 y1 y2)) (hl:iC env W l:=by exact kQ):VC P C N (.loop c) K Q env V σ:=
 NW (λp=>S (p.1) (p.2.1) (p.2.2)) (λp=>R (p.1) (p.2.1) (p.2.2)) (λp V'=>V=V'∧F (p.1) (p.2.1) (p.2.2)) (λp=>μ (p.1) (p.2.1) (p.2.2)) (x0,x1,x2) W hn.out hl hs h0 ⟨rfl,hF⟩ (λp e V1 ⟨hV,h⟩=>by subst hV;exact f5 (round (p.1) (p.2.1) (p.2.2) e h) (λ_ _ _ ⟨z0,z1,z2,a,b,hV,d,f,g⟩=>⟨(z0,z1,z2),a,b,d,⟨hV,f⟩,g⟩) (λ_ _ _ _ h=>h))
theorem IP{A0:Type}{A1:Type}{A2:Type}(W:List Nat)(S:A0→A1→A2→List (Nat×Value))(R:A0→A1→A2→aY)(F:A0→A1→A2→HV→Prop)(μ:A0→A1→A2→Nat)(x0:A0)(x1:A1)(x2:A2)[hn:Nz σ σ'](hs:bT env (S x0 x1 x2))(h0:R x0 x1 x2=σ')(hF:F x0 x1 x2 V)
  (round:∀(y0:A0) (y1:A1) (y2:A2) (e:cR) (V1:HV),F y0 y1 y2 V1→VC P C N c (λe' V' σ2=>∃(z0:A0) (z1:A1) (z2:A2),bT e' (S z0 z1 z2)∧bT e' l∧R z0 z1 z2=σ2∧F z0 z1 z2 V'∧μ z0 z1 z2<μ y0 y1 y2) Q (dN N (S y0 y1 y2) (dN N l e)) V1 (R y0 y1 y2)) (hl:iC env W l:=by exact kQ):VC P C N (.loop c) K Q env V σ:=
 NW (λp=>S (p.1) (p.2.1) (p.2.2)) (λp=>R (p.1) (p.2.1) (p.2.2)) (λp V'=>F (p.1) (p.2.1) (p.2.2) V') (λp=>μ (p.1) (p.2.1) (p.2.2)) (x0,x1,x2) W hn.out hl hs h0 hF (λp e V1 h=>f5 (round (p.1) (p.2.1) (p.2.2) e V1 h) (λ_ _ _ ⟨z0,z1,z2,a,b,d,f,g⟩=>⟨(z0,z1,z2),a,b,d,f,g⟩) (λ_ _ _ _ h=>h))
theorem le3{A0:Type}{A1:Type}{A2:Type}{S:A0→A1→A2→List (Nat×Value)}{R:A0→A1→A2→aY}{F:A0→A1→A2→Prop}{ν:A0→A1→A2→Nat}{m:Nat}(x0:A0)(x1:A1)(x2:A2)[hn:Nz σ2 σ3](a:bT e' (S x0 x1 x2))(b:F x0 x1 x2)(hr:R x0 x1 x2=σ3:=by rfl)(hμ:ν x0 x1 x2<m:=by omega)(hl:bT e' l:=by exact nF)(hv:V=V':=by rfl):
 ∃(z0:A0) (z1:A1) (z2:A2),bT e' (S z0 z1 z2)∧bT e' l∧V=V'∧R z0 z1 z2=σ2∧F z0 z1 z2∧ν z0 z1 z2<m:=⟨x0,x1,x2,a,hl,hv,by rw[hn.out];exact hr,b,hμ⟩
theorem uU{A0:Type}{A1:Type}{A2:Type}{S:A0→A1→A2→List (Nat×Value)}{R:A0→A1→A2→aY}{F:A0→A1→A2→Prop}{ν:A0→A1→A2→Nat}{m:Nat}(x0:A0)(x1:A1)(x2:A2)[hn:Nz σ2 σ3](a:bT e' (S x0 x1 x2))(b:F x0 x1 x2)(hr:R x0 x1 x2=σ3:=by rfl)(hμ:ν x0 x1 x2<m:=by omega)(hl:bT e' l:=by exact nF):
 ∃(z0:A0) (z1:A1) (z2:A2),bT e' (S z0 z1 z2)∧bT e' l∧R z0 z1 z2=σ2∧F z0 z1 z2∧ν z0 z1 z2<m:=⟨x0,x1,x2,a,hl,by rw[hn.out];exact hr,b,hμ⟩
theorem lv4{A0:Type}{A1:Type}{A2:Type}{A3:Type}(W:List Nat)(S:A0→A1→A2→A3→List (Nat×Value))(R:A0→A1→A2→A3→aY)(F:A0→A1→A2→A3→HV→Prop)(μ:A0→A1→A2→A3→Nat)(x0:A0)(x1:A1)(x2:A2)(x3:A3)[hn:Nz σ σ'](hs:bT env (S x0 x1 x2 x3))(h0:R x0 x1 x2 x3=σ')(hF:F x0 x1 x2 x3 V)
  (round:∀(y0:A0) (y1:A1) (y2:A2) (y3:A3) (e:cR) (V1:HV),F y0 y1 y2 y3 V1→VC P C N c (λe' V' σ2=>∃(z0:A0) (z1:A1) (z2:A2) (z3:A3),bT e' (S z0 z1 z2 z3)∧bT e' l∧R z0 z1 z2 z3=σ2∧F z0 z1 z2 z3 V'∧μ z0 z1 z2 z3<μ y0 y1 y2 y3) Q (dN N (S y0 y1 y2 y3) (dN N l e)) V1 (R y0 y1 y2 y3)) (hl:iC env W l:=by exact kQ):VC P C N (.loop c) K Q env V σ:=
 NW (λp=>S (p.1) (p.2.1) (p.2.2.1) (p.2.2.2)) (λp=>R (p.1) (p.2.1) (p.2.2.1) (p.2.2.2)) (λp V'=>F (p.1) (p.2.1) (p.2.2.1) (p.2.2.2) V') (λp=>μ (p.1) (p.2.1) (p.2.2.1) (p.2.2.2)) (x0,x1,x2,x3) W hn.out hl hs h0 hF (λp e V1 h=>f5 (round (p.1) (p.2.1) (p.2.2.1) (p.2.2.2) e V1 h) (λ_ _ _ ⟨z0,z1,z2,z3,a,b,d,f,g⟩=>⟨(z0,z1,z2,z3),a,b,d,f,g⟩) (λ_ _ _ _ h=>h))
theorem lw4{A0:Type}{A1:Type}{A2:Type}{A3:Type}{S:A0→A1→A2→A3→List (Nat×Value)}{R:A0→A1→A2→A3→aY}{F:A0→A1→A2→A3→Prop}{ν:A0→A1→A2→A3→Nat}{m:Nat}(x0:A0)(x1:A1)(x2:A2)(x3:A3)[hn:Nz σ2 σ3](a:bT e' (S x0 x1 x2 x3))(b:F x0 x1 x2 x3)(hr:R x0 x1 x2 x3=σ3:=by rfl)(hμ:ν x0 x1 x2 x3<m:=by omega)(hl:bT e' l:=by exact nF):
 ∃(z0:A0) (z1:A1) (z2:A2) (z3:A3),bT e' (S z0 z1 z2 z3)∧bT e' l∧R z0 z1 z2 z3=σ2∧F z0 z1 z2 z3∧ν z0 z1 z2 z3<m:=⟨x0,x1,x2,x3,a,hl,by rw[hn.out];exact hr,b,hμ⟩
theorem lv5{A0:Type}{A1:Type}{A2:Type}{A3:Type}{A4:Type}(W:List Nat)(S:A0→A1→A2→A3→A4→List (Nat×Value))(R:A0→A1→A2→A3→A4→aY)(F:A0→A1→A2→A3→A4→HV→Prop)(μ:A0→A1→A2→A3→A4→Nat)(x0:A0)(x1:A1)(x2:A2)(x3:A3)(x4:A4)[hn:Nz σ σ'](hs:bT env (S x0 x1 x2 x3 x4))(h0:R x0 x1 x2 x3 x4=σ')(hF:F x0 x1 x2 x3 x4 V)
  (round:∀(y0:A0) (y1:A1) (y2:A2) (y3:A3) (y4:A4) (e:cR) (V1:HV),F y0 y1 y2 y3 y4 V1→VC P C N c (λe' V' σ2=>∃(z0:A0) (z1:A1) (z2:A2) (z3:A3) (z4:A4),bT e' (S z0 z1 z2 z3 z4)∧bT e' l∧R z0 z1 z2 z3 z4=σ2∧F z0 z1 z2 z3 z4 V'∧μ z0 z1 z2 z3 z4<μ y0 y1 y2 y3 y4) Q (dN N (S y0 y1 y2 y3 y4) (dN N l e)) V1 (R y0 y1 y2 y3 y4)) (hl:iC env W l:=by exact kQ):VC P C N (.loop c) K Q env V σ:=
 NW (λp=>S (p.1) (p.2.1) (p.2.2.1) (p.2.2.2.1) (p.2.2.2.2)) (λp=>R (p.1) (p.2.1) (p.2.2.1) (p.2.2.2.1) (p.2.2.2.2)) (λp V'=>F (p.1) (p.2.1) (p.2.2.1) (p.2.2.2.1) (p.2.2.2.2) V') (λp=>μ (p.1) (p.2.1) (p.2.2.1) (p.2.2.2.1) (p.2.2.2.2)) (x0,x1,x2,x3,x4) W hn.out hl hs h0 hF (λp e V1 h=>f5 (round (p.1) (p.2.1) (p.2.2.1) (p.2.2.2.1) (p.2.2.2.2) e V1 h) (λ_ _ _ ⟨z0,z1,z2,z3,z4,a,b,d,f,g⟩=>⟨(z0,z1,z2,z3,z4),a,b,d,f,g⟩) (λ_ _ _ _ h=>h))
theorem lw5{A0:Type}{A1:Type}{A2:Type}{A3:Type}{A4:Type}{S:A0→A1→A2→A3→A4→List (Nat×Value)}{R:A0→A1→A2→A3→A4→aY}{F:A0→A1→A2→A3→A4→Prop}{ν:A0→A1→A2→A3→A4→Nat}{m:Nat}(x0:A0)(x1:A1)(x2:A2)(x3:A3)(x4:A4)[hn:Nz σ2 σ3](a:bT e' (S x0 x1 x2 x3 x4))(b:F x0 x1 x2 x3 x4)(hr:R x0 x1 x2 x3 x4=σ3:=by rfl)(hμ:ν x0 x1 x2 x3 x4<m:=by omega)(hl:bT e' l:=by exact nF):
 ∃(z0:A0) (z1:A1) (z2:A2) (z3:A3) (z4:A4),bT e' (S z0 z1 z2 z3 z4)∧bT e' l∧R z0 z1 z2 z3 z4=σ2∧F z0 z1 z2 z3 z4∧ν z0 z1 z2 z3 z4<m:=⟨x0,x1,x2,x3,x4,a,hl,by rw[hn.out];exact hr,b,hμ⟩
end
section
variable {P:Program} {C:Cx} {env:cR} {V:HV} {σ:aY} {Φ:Value→HV→aY→Prop} {t1 t2 t3 t4:Nat} {v1 v2 v3 v4:Value}
theorem aW(h:env t1=v1):q_ P C #[.tmp t1] (λv _ _=>v=v1) .ret env V σ:=rq1 v1 h rfl
theorem lE(h:env t1=v1)(h2:env t2=v2):q_ P C #[.tmp t1,.tmp t2] (λv _ _=>v= .tuple #[v1,v2]) .ret env V σ:=rq2 v1 v2 h h2 rfl
theorem rt3(h:env t1=v1)(h2:env t2=v2)(h3:env t3=v3):q_ P C #[.tmp t1,.tmp t2,.tmp t3] (λv _ _=>v= .tuple #[v1,v2,v3]) .ret env V σ:=rq3 v1 v2 v3 h h2 h3 rfl
theorem zJ(h:Φ v1 V σ)(e:env t1=v1:=by exact gC):q_ P C #[.tmp t1] Φ .ret env V σ:=rq1 v1 e h
theorem T8(h:Φ (.tuple #[v1,v2]) V σ)(e:env t1=v1:=by exact gC)(e2:env t2=v2:=by exact gC):q_ P C #[.tmp t1,.tmp t2] Φ .ret env V σ:=rq2 v1 v2 e e2 h
theorem ra3(h:Φ (.tuple #[v1,v2,v3]) V σ)(e:env t1=v1:=by exact gC)(e2:env t2=v2:=by exact gC)(e3:env t3=v3:=by exact gC):q_ P C #[.tmp t1,.tmp t2,.tmp t3] Φ .ret env V σ:=rq3 v1 v2 v3 e e2 e3 h
end
instance aK6 {a:Fn} {b c:Array Value}:Cl (.func a b c) [.func a b c]:=⟨rfl⟩
instance aKJ:Cl .nilFunc [.nilFunc]:=⟨rfl⟩
section
variable {P:Program} {C:Cx} {N:Nat} {K:K3} {Q:Ex→K3} {env:cR} {V H:HV} {σ σ':aY} {ops:Array Oper} {rest:List Oper}
variable {dst:Option Nat} {s n o:Nat} {x y:Operand} {t T E:TypeId} {pos:String} {af:Array Edge} {g:Option (Nat×Bool)} {v:Value} {xs:List Value} {i:Int}
theorem cH{kk:IntKind}[hT:UL P T (.slice E)][hS:SZ P E s](hv:aR s V v n xs)(hx:ev env x=v:=by exact eQ)(hy:ev env y= .int kk i:=by rfl)(h0:0≤i:=by omega)(h1:i<n:=by omega):
 QV P C ⟨dst,.indexAddr T x y,t,pos,af,g⟩ env V σ (iG v i s):=zU hT.out hS.out hx hv hy h0 h1
theorem fC{f:Nat}[hF:FI P T f o](hv:aR s V v n xs)(hx:ev env x=iG v i s:=by rfl)(h0:0≤i:=by omega)(h1:i<n:=by omega):QV P C ⟨dst,.fieldAddr T x f,t,pos,af,g⟩ env V σ (C8 v i s o):=OR hF.out hx hv h0 h1
theorem eM{vs:List Value}[hA:AG P T s](hx:ev env x=iG v i s)(hv:aR s V v n xs)(hs:(xs.drop (i.toNat*s)).take s=vs)(h0:0≤i:=by omega)(h1:i<n:=by omega):QV P C ⟨dst,.load T x,t,pos,af,g⟩ env V σ (.agg vs.toArray):=DM hA.out hx hv h0 h1 hs
theorem fZ{ys:List Int}{j k:IntKind}[hT:UL P T (.slice E)][hS:SZ P E s](hv:In C V σ (λH=>aT j H v ys))(hx:ev env x=v:=by exact eQ)(hy:ev env y= .int k i:=by rfl)(h0:0≤i:=by omega)(h1:i<ys.length:=by omega):
 QV P C ⟨dst,.indexAddr T x y,t,pos,af,g⟩ env V σ (iG v i s):=zO hT.out hS.out hx hv hy h0 h1
theorem fY{ys:List Int}{k:IntKind}[hP:PL P T](hv:In C V σ (λH=>aT k H v ys))(hx:ev env x=iG v i 1:=by rfl)(h0:0≤i:=by omega)(h1:i<ys.length:=by omega):QV P C ⟨dst,.load T x,t,pos,af,g⟩ env V σ (.int k (gi ys i)):=zS hP.out hx hv h0 h1
theorem e_{at_:TypeId}[hT:UL P at_ (.slice E)](hv:aR s H v n xs)(hx:ev env x=v:=by rfl):QV P C ⟨dst,.call {callee:=.builtin .len,args:= #[x],argTypes:= #[at_]},t,pos,af,g⟩ env V σ (.int .i64 n):=sU hT.out hx hv
theorem fK{ys:List Int}{k:IntKind}{at_:TypeId}[hT:UL P at_ (.slice E)](hv:aT k H v ys)(hx:ev env x=v:=by rfl):QV P C ⟨dst,.call {callee:=.builtin .len,args:= #[x],argTypes:= #[at_]},t,pos,af,g⟩ env V σ (.int .i64 ys.length):=JQ hT.out hx hv
theorem gZ{b off:Nat}(hx:ev env x= .pointer (some ⟨b,off,none⟩):=by rfl):QV P C ⟨dst,.nilCheck x,t,pos,af,g⟩ env V σ (.pointer (some ⟨b,off,none⟩)):=ao7 hx
theorem cM{f:FuncId}{cap:Array Value}{l:List Operand}{at_:Array TypeId}{args:List Value}(h:aP P f args V [] (λv' _ _=>v'=v))(hx:ev env x= .func (.func f) #[] cap:=by rfl)(ha:l.map (ev env)++cap.toList=args:=by rfl):
 QV P C ⟨dst,.call {callee:=.value x,args:=l.toArray,argTypes:=at_},t,pos,af,g⟩ env V σ v:=J8 h hx ha
theorem aZ{f:FuncId}{cap:Array Value}{l:List Operand}{at_:Array TypeId}{args:List Value}(ks:List Nat){σp σr:aY}{Φ:Value→HV→aY→Prop}[hn:Nz σ σ'][hk:Ers σ' ks σp σr](h:aP P f args V σp Φ)
 (k:∀v V' τ,bR V V'→Φ v V' τ→d6 P C N ops K rest (GD N env dst v) V' (τ++σr)) (hx:ev env x= .func (.func f) #[] cap:=by rfl) (ha:l.map (ev env)++cap.toList=args:=by rfl):
 d6 P C N ops K (⟨dst,.call {callee:=.value x,args:=l.toArray,argTypes:=at_},t,pos,af,none⟩::rest) env V σ:=AA ks h hx ha k
end
theorem dL:bR V V:=bR.refl _
section
variable {P:Program} {C:Cx} {N:Nat} {K:K3} {env:cR} {V:HV} {σ σ' σq:aY} {ops:Array Oper} {rest:List Oper} {listed:Array Bool}
variable {d f:Nat} {op:Op} {t T E:TypeId} {pos:String} {af:Array Edge} {v:Value}
theorem en(p:List Nat)(h:K env V σ')(hr:(Region.ready .any ops listed).isEmpty=true:=by kernel_rfl)(hm:p.map (λi=>σ.getD i (λ_=>True))=σ':=by rfl)(hp:p.isPerm (List.range σ.length)=true:=by kernel_rfl):iX P C N ops K 0 listed env V σ σq:=aJ5 hr (pz p hm hp) h
theorem cY(i:Nat)(h:iX P C N ops K f (listed.setIfInBounds i true) (upd N env d v) V σ σq)(hB:GH ops listed i=true:=by kernel_rfl)(ho:ops[i]? =some ⟨some d,op,t,pos,af,none⟩:=by rfl)(hq:QV P C ⟨some d,op,t,pos,af,none⟩ env V σq v:=by exact q_a):iX P C N ops K (f+1) listed env V σ σq:=eq_ hB ho hq h
theorem jZ(i:Nat)(ho:ops[i]? =some ⟨some d,op,t,pos,af,none⟩)(hq:QV P C ⟨some d,op,t,pos,af,none⟩ env V σq v)(h:iX P C N ops K f (listed.setIfInBounds i true) (upd N env d v) V σ σq)(hB:GH ops listed i=true:=by kernel_rfl):iX P C N ops K (f+1) listed env V σ σq:=eq_ hB ho hq h
theorem bW(i:Nat){o:Oper}[ho:OpA ops i o](h:d6 P C N ops (λe' V' σ'=>∃σq' τ',σ'.Perm (σq'++τ')∧((bR V V'∧∃ρ,σq'.Perm (σq++ρ))∨nP .any ops i=true)∧iX P C N ops K f (listed.setIfInBounds i true) e' V' σ' σq') [o] env V σ)
 (hr:decide (Region.ready .any ops listed=[i])=true:=by kernel_rfl):iX P C N ops K (f+1) listed env V σ σq:=el1 hr (ao9 h)
theorem cQ{l:List (Nat×Operand)}(n s:Nat){yy:Nat}{z0:Value}(cs:List Value)[hT:UL P T (.slice E)][hi:TZ P E z0 s yy](h:∀b,d6 P C N ops K rest (upd N env d (.slice (some ⟨b,0,none⟩) n n)) V (σ++ [aM E b cs]))
 (hs:Nat.ble 1 s=true:=by rfl) (hn:l.map Prod.fst=List.range' 0 n:=by rfl) (hc:l.flatMap (λp=>(ev env p.2).cells.toList)=cs:=by rfl) (hcs:(l.all λp=>(ev env p.2).cells.size==s)=true:=by rfl) (hle:Nat.ble (n*s) 16777216=true:=by rfl) (hzs:z0.cells.size=s:=by rfl):
 d6 P C N ops K (⟨some d,.buildSlice T n l.toArray,t,pos,af,none⟩::rest) env V σ:=K9 hT.out hi.out (nW hs) hn hc hcs (nW hle) hzs h
end
abbrev vp(b:Nat):Value:=Value.pointer (some ⟨b,0,none⟩)
abbrev vn:Value:=Value.slice none 0 0
theorem iO{u v w z:Value}{a b:List Value}{m n:Nat}(h1:u.oneCell'=true)(h2:Sl V v a)(h3:aR m V w n b)(h4:z.oneCell'=true):([u,v,w,z].all (·.oneCell'))=true:=aU h1 (aU (Sl.one h2) (aU (aR.one h3) (aU h4 rfl)))
section
variable {P:Program} {C:Cx} {N:Nat} {K:K3} {Q:Ex→K3} {env e':cR} {V V':HV} {σ σ':aY} {c:Code} {l:List (Nat×Value)}
theorem jx0{α:Type}(W:List Nat)(S:α→List (Nat×Value))(R:α→aY)(F:α→HV→Prop)(h:VC P C N c (λe V' σ'=>∃x,bT e (S x)∧bT e l∧bR V V'∧R x=σ'∧F x V') Q env V σ)
  (k:∀x e V',bR V V'→F x V'→K (dN N (S x) (dN N l e)) V' (R x)) (hl:iC env W l):VC P C N c K Q env V σ:=
 JI (λx=>S x++l) (λx V' τ=>bR V V'∧R x=τ∧F x V') (f5 h (λ_ _ _ ⟨x,a,b,d⟩=>⟨x,zF a b,d⟩) (λ_ _ _ _ h=>h)) (λx e V' τ ⟨a,b,d⟩=>by subst b;rw[zK];exact k x e V' a d)
theorem jp0{α:Type}(W:List Nat)(S:α→List (Nat×Value))(R:α→aY)(F:α→Prop)(h:VC P C N c (λe V' σ'=>∃x,bT e (S x)∧bT e l∧V=V'∧R x=σ'∧F x) Q env V σ)
  (k:∀x e,F x→K (dN N (S x) (dN N l e)) V (R x)) (hl:iC env W l):VC P C N c K Q env V σ:=
 JI (λx=>S x++l) (λx V' τ=>V=V'∧R x=τ∧F x) (f5 h (λ_ _ _ ⟨x,a,b,d⟩=>⟨x,zF a b,d⟩) (λ_ _ _ _ h=>h)) (λx e V' τ ⟨a,b,d⟩=>by subst a;subst b;rw[zK];exact k x e d)
theorem jx1{A0:Type}(W:List Nat)(S:A0→List (Nat×Value))(R:A0→aY)(F:A0→HV→Prop)(h:VC P C N c (λe V' σ'=>∃(x0:A0),bT e (S x0)∧bT e l∧bR V V'∧R x0=σ'∧F x0 V') Q env V σ)
  (k:∀(x0:A0) (e:cR) (V':HV),bR V V'→F x0 V'→K (dN N (S x0) (dN N l e)) V' (R x0)) (hl:iC env W l:=by exact kQ):VC P C N c K Q env V σ:=
 jx0 W (λp=>S p) (λp=>R p) (λp V'=>F p V') (f5 h (λ_ _ _ ⟨x0,d⟩=>⟨x0,d⟩) (λ_ _ _ _ h=>h)) (λp=>k p) hl
theorem KL{A0:Type}{A1:Type}(W:List Nat)(S:A0→A1→List (Nat×Value))(R:A0→A1→aY)(F:A0→A1→HV→Prop)(h:VC P C N c (λe V' σ'=>∃(x0:A0) (x1:A1),bT e (S x0 x1)∧bT e l∧bR V V'∧R x0 x1=σ'∧F x0 x1 V') Q env V σ)
  (k:∀(x0:A0) (x1:A1) (e:cR) (V':HV),bR V V'→F x0 x1 V'→K (dN N (S x0 x1) (dN N l e)) V' (R x0 x1)) (hl:iC env W l:=by exact kQ):VC P C N c K Q env V σ:=
 jx0 W (λp=>S (p.1) (p.2)) (λp=>R (p.1) (p.2)) (λp V'=>F (p.1) (p.2) V') (f5 h (λ_ _ _ ⟨x0,x1,d⟩=>⟨(x0,x1),d⟩) (λ_ _ _ _ h=>h)) (λp=>k (p.1) (p.2)) hl
theorem TL{A0:Type}{A1:Type}(W:List Nat)(S:A0→A1→List (Nat×Value))(R:A0→A1→aY)(F:A0→A1→Prop)(h:VC P C N c (λe V' σ'=>∃(x0:A0) (x1:A1),bT e (S x0 x1)∧bT e l∧V=V'∧R x0 x1=σ'∧F x0 x1) Q env V σ)
  (k:∀(x0:A0) (x1:A1) (e:cR),F x0 x1→K (dN N (S x0 x1) (dN N l e)) V (R x0 x1)) (hl:iC env W l:=by exact kQ):VC P C N c K Q env V σ:=
 jp0 W (λp=>S (p.1) (p.2)) (λp=>R (p.1) (p.2)) (λp=>F (p.1) (p.2)) (f5 h (λ_ _ _ ⟨x0,x1,d⟩=>⟨(x0,x1),d⟩) (λ_ _ _ _ h=>h)) (λp=>k (p.1) (p.2)) hl
theorem uZ{A0:Type}{A1:Type}{S:A0→A1→List (Nat×Value)}{R:A0→A1→aY}{F:A0→A1→Prop}(x0:A0)(x1:A1)(a:bT e' (S x0 x1))(f:F x0 x1)(hr:R x0 x1=σ':=by rfl)(hl:bT e' l:=by exact nF)(hv:V=V':=by rfl):
 ∃(x0:A0) (x1:A1),bT e' (S x0 x1)∧bT e' l∧V=V'∧R x0 x1=σ'∧F x0 x1:=⟨x0,x1,a,hl,hv,hr,f⟩
theorem YO{A0:Type}{A1:Type}{A2:Type}(W:List Nat)(S:A0→A1→A2→List (Nat×Value))(R:A0→A1→A2→aY)(F:A0→A1→A2→HV→Prop)(h:VC P C N c (λe V' σ'=>∃(x0:A0) (x1:A1) (x2:A2),bT e (S x0 x1 x2)∧bT e l∧bR V V'∧R x0 x1 x2=σ'∧F x0 x1 x2 V') Q env V σ)
  (k:∀(x0:A0) (x1:A1) (x2:A2) (e:cR) (V':HV),bR V V'→F x0 x1 x2 V'→K (dN N (S x0 x1 x2) (dN N l e)) V' (R x0 x1 x2)) (hl:iC env W l:=by exact kQ):VC P C N c K Q env V σ:=
 jx0 W (λp=>S (p.1) (p.2.1) (p.2.2)) (λp=>R (p.1) (p.2.1) (p.2.2)) (λp V'=>F (p.1) (p.2.1) (p.2.2) V') (f5 h (λ_ _ _ ⟨x0,x1,x2,d⟩=>⟨(x0,x1,x2),d⟩) (λ_ _ _ _ h=>h)) (λp=>k (p.1) (p.2.1) (p.2.2)) hl
theorem jp4{A0:Type}{A1:Type}{A2:Type}{A3:Type}(W:List Nat)(S:A0→A1→A2→A3→List (Nat×Value))(R:A0→A1→A2→A3→aY)(F:A0→A1→A2→A3→Prop)(h:VC P C N c (λe V' σ'=>∃(x0:A0) (x1:A1) (x2:A2) (x3:A3),bT e (S x0 x1 x2 x3)∧bT e l∧V=V'∧R x0 x1 x2 x3=σ'∧F x0 x1 x2 x3) Q env V σ)
  (k:∀(x0:A0) (x1:A1) (x2:A2) (x3:A3) (e:cR),F x0 x1 x2 x3→K (dN N (S x0 x1 x2 x3) (dN N l e)) V (R x0 x1 x2 x3)) (hl:iC env W l:=by exact kQ):VC P C N c K Q env V σ:=
 jp0 W (λp=>S (p.1) (p.2.1) (p.2.2.1) (p.2.2.2)) (λp=>R (p.1) (p.2.1) (p.2.2.1) (p.2.2.2)) (λp=>F (p.1) (p.2.1) (p.2.2.1) (p.2.2.2)) (f5 h (λ_ _ _ ⟨x0,x1,x2,x3,d⟩=>⟨(x0,x1,x2,x3),d⟩) (λ_ _ _ _ h=>h)) (λp=>k (p.1) (p.2.1) (p.2.2.1) (p.2.2.2)) hl
theorem jx6{A0:Type}{A1:Type}{A2:Type}{A3:Type}{A4:Type}{A5:Type}(W:List Nat)(S:A0→A1→A2→A3→A4→A5→List (Nat×Value))(R:A0→A1→A2→A3→A4→A5→aY)(F:A0→A1→A2→A3→A4→A5→HV→Prop)(h:VC P C N c (λe V' σ'=>∃(x0:A0) (x1:A1) (x2:A2) (x3:A3) (x4:A4) (x5:A5),bT e (S x0 x1 x2 x3 x4 x5)∧bT e l∧bR V V'∧R x0 x1 x2 x3 x4 x5=σ'∧F x0 x1 x2 x3 x4 x5 V') Q env V σ)
  (k:∀(x0:A0) (x1:A1) (x2:A2) (x3:A3) (x4:A4) (x5:A5) (e:cR) (V':HV),bR V V'→F x0 x1 x2 x3 x4 x5 V'→K (dN N (S x0 x1 x2 x3 x4 x5) (dN N l e)) V' (R x0 x1 x2 x3 x4 x5)) (hl:iC env W l:=by exact kQ):VC P C N c K Q env V σ:=
 jx0 W (λp=>S (p.1) (p.2.1) (p.2.2.1) (p.2.2.2.1) (p.2.2.2.2.1) (p.2.2.2.2.2)) (λp=>R (p.1) (p.2.1) (p.2.2.1) (p.2.2.2.1) (p.2.2.2.2.1) (p.2.2.2.2.2)) (λp V'=>F (p.1) (p.2.1) (p.2.2.1) (p.2.2.2.1) (p.2.2.2.2.1) (p.2.2.2.2.2) V') (f5 h (λ_ _ _ ⟨x0,x1,x2,x3,x4,x5,d⟩=>⟨(x0,x1,x2,x3,x4,x5),d⟩) (λ_ _ _ _ h=>h)) (λp=>k (p.1) (p.2.1) (p.2.2.1) (p.2.2.2.1) (p.2.2.2.2.1) (p.2.2.2.2.2)) hl
end
end Go.Vc
namespace Go.Proofs.YtbchkopkgpfkgaaGreat
open Go.Vc
variable{T:TypeId}{d:TypeDesc}{z:Value}{zs:List Value}
abbrev Tryz.mx:=MX.mk Tryz.mixed
class UTZ (T:TypeId) (d:outParam TypeDesc) (z:outParam Value) (s y:outParam Nat):Prop where
 u:Tryz.prog.underlying T=some d
 t:TI Tryz.prog T z s y
theorem uT(h:Tryz.prog.underlying T=some d)(z:Value)(s y:Nat)(k:(Tryz.prog.info? T).map (λi=>(i.zero,i.size,i.bytes))=some (some z,s,y):=by kernel_rfl):UTZ T d z s y:=⟨h,k⟩
instance    {s y:Nat} [h:UTZ T d z s y]:UL Tryz.prog T d:=⟨h.u⟩
instance    {s y:Nat} [h:UTZ T d z s y]:TZ Tryz.prog T z s y:=⟨h.t⟩
abbrev ty3:=uT Tryz.underlying3 (.int .i64 0) 1 8
abbrev ty4:=uT Tryz.underlying4 (.bool false) 1 1
abbrev ty5:=uT Tryz.underlying5 (.int .u8 0) 1 1
abbrev ty9:=uT Tryz.underlying9 (.string ⟨#[]⟩) 1 16
abbrev aJb:=uT Tryz.underlying22 (.slice none 0 0) 1 24
abbrev aIn:=uT Tryz.underlying23 (.slice none 0 0) 1 24
abbrev aIr:=uT Tryz.underlying24 (.slice none 0 0) 1 24
abbrev aBR:=uT Tryz.underlying25 (.agg #[.slice none 0 0,.slice none 0 0,.slice none 0 0]) 3 72
abbrev aAG:=uT Tryz.underlying26 (.agg #[.slice none 0 0,.slice none 0 0,.slice none 0 0]) 3 72
abbrev aJA:=uT Tryz.underlying29 (.int .i64 0) 1 8
abbrev aIA:=uT Tryz.underlying34 (.int .i64 0) 1 8
abbrev aA3:=uT Tryz.underlying35 (.slice none 0 0) 1 24
abbrev aAi:=uT Tryz.underlying39 (.agg #[.slice none 0 0,.bool false]) 2 32
abbrev aCr:=uT Tryz.underlying40 (.agg #[.slice none 0 0,.bool false]) 2 32
abbrev aDa:=uT Tryz.underlying42 (.agg #[.slice none 0 0,.slice none 0 0,.slice none 0 0]) 3 72
abbrev aD6:=uT Tryz.underlying43 (.agg #[.slice none 0 0,.slice none 0 0,.slice none 0 0]) 3 72
abbrev aC4:=uT Tryz.underlying44 (.agg #[.slice none 0 0,.int .i64 0]) 2 32
abbrev aAs:=uT Tryz.underlying45 (.agg #[.slice none 0 0,.int .i64 0]) 2 32
abbrev aIN:=uT Tryz.underlying48 (.slice none 0 0) 1 24
abbrev aI3:=uT Tryz.underlying49 (.slice none 0 0) 1 24
abbrev aBe:=uT Tryz.underlying50 (.agg #[.int .i64 0,.slice none 0 0,.slice none 0 0,.int .i64 0]) 4 64
abbrev aDP:=uT Tryz.underlying51 (.agg #[.int .i64 0,.slice none 0 0,.slice none 0 0,.int .i64 0]) 4 64
abbrev aEM:=uT Tryz.underlying52 (.agg #[.slice none 0 0,.int .i64 0,.slice none 0 0,.slice none 0 0,.int .i64 0]) 5 88
abbrev aAn:=uT Tryz.underlying53 (.agg #[.slice none 0 0,.int .i64 0,.slice none 0 0,.slice none 0 0,.int .i64 0]) 5 88
abbrev aJd:=uT Tryz.underlying56 (.slice none 0 0) 1 24
abbrev aAo:=uT Tryz.underlying59 (.agg #[.int .i64 0,.int .i64 0,.int .i64 0]) 3 24
abbrev aBj:=uT Tryz.underlying60 (.agg #[.int .i64 0,.int .i64 0,.int .i64 0]) 3 24
abbrev aJO:=uT Tryz.underlying61 (.slice none 0 0) 1 24
abbrev aJU:=uT Tryz.underlying65 Value.nilFunc 1 8
abbrev aAV:=uT Tryz.underlying68 (.agg #[.string ⟨#[]⟩,.int .i64 0,.int .i64 0,.int .i64 0,.int .i64 0]) 5 48
abbrev aDi:=uT Tryz.underlying69 (.agg #[.string ⟨#[]⟩,.int .i64 0,.int .i64 0,.int .i64 0,.int .i64 0]) 5 48
abbrev aJ3:=uT Tryz.underlying70 (.int .i64 0) 1 8
abbrev aKe:=uT Tryz.underlying71 (.int .i64 0) 1 8
abbrev aIu:=uT Tryz.underlying72 (.slice none 0 0) 1 24
abbrev aBX:=uT Tryz.underlying73 (.agg #[.int .i64 0,.int .i64 0,.slice none 0 0]) 3 40
abbrev aCN:=uT Tryz.underlying74 (.agg #[.int .i64 0,.int .i64 0,.slice none 0 0]) 3 40
abbrev aBs:=uT Tryz.underlying75 (.agg #[.int .i64 0,.int .i64 0,.int .i64 0,.int .i64 0,.int .i64 0,.int .i64 0,.slice none 0 0,.slice none 0 0,.slice none 0 0,.slice none 0 0]) 10 144
abbrev aBx:=uT Tryz.underlying76 (.agg #[.int .i64 0,.int .i64 0,.int .i64 0,.int .i64 0,.int .i64 0,.int .i64 0,.slice none 0 0,.slice none 0 0,.slice none 0 0,.slice none 0 0]) 10 144
abbrev aIU:=uT Tryz.underlying85 (.pointer none) 1 8
abbrev aBJ:=uT Tryz.underlying89 (.agg #[.slice none 0 0,.slice none 0 0,.slice none 0 0,.slice none 0 0,.slice none 0 0,.slice none 0 0,.int .i64 0]) 7 152
abbrev aD8:=uT Tryz.underlying90 (.agg #[.slice none 0 0,.slice none 0 0,.slice none 0 0,.slice none 0 0,.slice none 0 0,.slice none 0 0,.int .i64 0]) 7 152
abbrev aJK:=uT Tryz.underlying91 (.pointer none) 1 8
abbrev aJW:=uT Tryz.underlying92 (.slice none 0 0) 1 24
abbrev aDy:=uT Tryz.underlying93 (.agg #[.slice none 0 0,.int .i64 0,.slice none 0 0,.slice none 0 0,.int .i64 0,.slice none 0 0,.int .i64 0,.slice none 0 0,.slice none 0 0,.int .i64 0]) 10 176
abbrev aEC:=uT Tryz.underlying94 (.agg #[.slice none 0 0,.int .i64 0,.slice none 0 0,.slice none 0 0,.int .i64 0,.slice none 0 0,.int .i64 0,.slice none 0 0,.slice none 0 0,.int .i64 0]) 10 176
abbrev avZ:=uT Tryz.underlying102 (.agg #[.int .i64 0,.slice none 0 0,.int .i64 0]) 3 40
abbrev avG:=uT Tryz.underlying103 (.agg #[.int .i64 0,.slice none 0 0,.int .i64 0]) 3 40
abbrev aFa:=uT Tryz.underlying106 Value.nilFunc 1 8
abbrev awJ:=uT Tryz.underlying112 (.agg #[.slice none 0 0,.slice none 0 0,.slice none 0 0,.int .i64 0,.int .i64 0,.slice none 0 0,.slice none 0 0]) 7 136
abbrev awE:=uT Tryz.underlying113 (.agg #[.slice none 0 0,.slice none 0 0,.slice none 0 0,.int .i64 0,.int .i64 0,.slice none 0 0,.slice none 0 0]) 7 136
abbrev auK:=uT Tryz.underlying123 (.agg #[.string ⟨#[]⟩,.int .i64 0,.int .i64 0,.int .i64 0,.int .i64 0,.slice none 0 0]) 6 72
abbrev au1:=uT Tryz.underlying124 (.agg #[.string ⟨#[]⟩,.int .i64 0,.int .i64 0,.int .i64 0,.int .i64 0,.slice none 0 0]) 6 72
abbrev aFm:=uT Tryz.underlying131 Value.nilFunc 1 8
abbrev atP:=uT Tryz.underlying132 (.agg #[.int .i64 0,.bool false]) 2 16
abbrev asS:=uT Tryz.underlying133 (.agg #[.int .i64 0,.bool false]) 2 16
abbrev av8:=uT Tryz.underlying136 (.agg #[.int .i64 0,.int .i64 0,.int .i64 0]) 3 24
abbrev auD:=uT Tryz.underlying137 (.agg #[.int .i64 0,.int .i64 0,.int .i64 0]) 3 24
abbrev ar3:=uT Tryz.underlying145 (.agg #[.slice none 0 0,.slice none 0 0,.slice none 0 0,.slice none 0 0]) 4 96
abbrev aHj:=uT Tryz.underlying149 Value.nilFunc 1 8
abbrev aG7:=uT Tryz.underlying150 Value.nilFunc 1 8
abbrev aGv:=uT Tryz.underlying158 (.slice none 0 0) 1 24
abbrev at3:=uT Tryz.underlying161 (.agg #[.int .i64 0,.int .i64 0]) 2 16
abbrev atY:=uT Tryz.underlying162 (.agg #[.int .i64 0,.int .i64 0]) 2 16
abbrev aHi:=uT Tryz.underlying177 (.int .u64 0) 1 8
abbrev aHo:=uT Tryz.underlying179 (.pointer none) 1 8
abbrev aHh:=uT Tryz.underlying181 Value.nilFunc 1 8
abbrev aG6:=uT Tryz.underlying183 (.slice none 0 0) 1 24
abbrev aFD:=uT Tryz.underlying184 (.slice none 0 0) 1 24
abbrev aHe:=uT Tryz.underlying197 (.pointer none) 1 8
abbrev aFr:=uT Tryz.underlying198 Value.nilFunc 1 8
abbrev aGE:=uT Tryz.underlying200 Value.nilFunc 1 8
abbrev aHc:=uT Tryz.underlying203 (.slice none 0 0) 1 24
abbrev auX:=uT Tryz.underlying214 (.agg #[.int .i64 0,.int .i64 0,.int .i64 0]) 3 24
abbrev aF7:=uT Tryz.underlying215 Value.nilFunc 1 8
abbrev aE5:=uT Tryz.underlying219 (.map none) 1 8
abbrev ar2:=uT Tryz.underlying221 (.agg #[.int .i64 0,.int .i64 0]) 2 16
abbrev aFT:=uT Tryz.underlying223 Value.nilFunc 1 8
abbrev aHf:=uT Tryz.underlying224 Value.nilFunc 1 8
abbrev aHm:=uT Tryz.underlying226 Value.nilFunc 1 8
abbrev aG8:=uT Tryz.underlying227 (.map none) 1 8
abbrev aF3:=uT Tryz.underlying228 (.map none) 1 8
abbrev avA:=uT Tryz.underlying229 (.agg #[.slice none 0 0,.slice none 0 0,.map none,.map none,.bool false]) 5 72
abbrev atU:=uT Tryz.underlying230 (.agg #[.slice none 0 0,.slice none 0 0,.map none,.map none,.bool false]) 5 72
abbrev aG4:=uT Tryz.underlying232 (.slice none 0 0) 1 24
abbrev avM:=uT Tryz.underlying233 (.agg #[.int .i64 0,.slice none 0 0,.int .i64 0,.slice none 0 0,.int .i64 0,.slice none 0 0,.slice none 0 0,.int .i64 0,.slice none 0 0,.int .i64 0,.slice none 0 0,.slice none 0 0,.int .i64 0]) 13 216
abbrev avD:=uT Tryz.underlying234 (.agg #[.int .i64 0,.slice none 0 0,.int .i64 0,.slice none 0 0,.int .i64 0,.slice none 0 0,.slice none 0 0,.int .i64 0,.slice none 0 0,.int .i64 0,.slice none 0 0,.slice none 0 0,.int .i64 0]) 13 216
abbrev avV:=uT Tryz.underlying246 (.agg #[.int .i64 0,.int .i64 0,.int .i64 0]) 3 24
abbrev avJ:=uT Tryz.underlying247 (.agg #[.int .i64 0,.int .i64 0,.int .i64 0]) 3 24
abbrev aFb:=uT Tryz.underlying251 (.slice none 0 0) 1 24
abbrev avQ:=uT Tryz.underlying252 (.agg #[.bool false,.bool false,.bool false]) 3 3
abbrev aFQ:=uT Tryz.underlying253 Value.nilFunc 1 8
abbrev aHq:=uT Tryz.underlying263 (.int .u32 0) 1 4
abbrev aGc:=uT Tryz.underlying265 (.int .u64 0) 1 8
abbrev as7:=uT Tryz.underlying277 (.agg #[.int .i64 0,.int .i64 0]) 2 16
abbrev auO:=uT Tryz.underlying278 (.agg #[.int .i64 0,.int .i64 0]) 2 16
abbrev aHb:=uT Tryz.underlying284 (.slice none 0 0) 1 24
abbrev aF8:=uT Tryz.underlying288 (.map none) 1 8
abbrev aGU:=uT Tryz.underlying294 (.map none) 1 8
abbrev aFo:=uT Tryz.underlying295 (.pointer none) 1 8
abbrev awO:=uT Tryz.underlying296 (.agg #[.slice none 0 0,.map none]) 2 32
abbrev ar0:=uT Tryz.underlying297 (.agg #[.slice none 0 0,.map none]) 2 32
abbrev aFe:=uT Tryz.underlying304 (.map none) 1 8
abbrev aGQ:=uT Tryz.underlying305 Value.nilFunc 1 8
abbrev aFE:=uT Tryz.underlying310 (.slice none 0 0) 1 24
theorem bS{f:Array Field}{s y:Nat}(h:UTZ T (.struct f) z s y)(pl:List (Nat×Nat))(e:z.cells=zs.toArray:=by rfl)(k:f.toList.mapM (λf=>(Tryz.prog.info? f.type).map λi=>(f.offset,i.size))=some pl:=by kernel_rfl):BI Tryz.prog T pl zs:=⟨.struct h.u h.t e k⟩
theorem bA{E:TypeId}{n:Nat}{ze:Value}{s y se ye:Nat}(h:UTZ T (.array n E) z s y)(g:UTZ E d ze se ye)(pl:List (Nat×Nat))(e:z.cells=zs.toArray:=by rfl)(k:(List.range n).map (λi=>(i*se,se))=pl:=by rfl):BI Tryz.prog T pl zs:=⟨k▸ .array h.u h.t e g.t⟩
abbrev aIK:=bS aBR [(0,1),(1,1),(2,1)]
abbrev aI0:=bS aAG [(0,1),(1,1),(2,1)]
abbrev aJf:=bS aAi [(0,1),(1,1)]
abbrev aJ2:=bS aCr [(0,1),(1,1)]
abbrev aIB:=bS aDa [(0,1),(1,1),(2,1)]
abbrev aIZ:=bS aD6 [(0,1),(1,1),(2,1)]
abbrev aJv:=bS aC4 [(0,1),(1,1)]
abbrev aJo:=bS aAs [(0,1),(1,1)]
abbrev aJT:=bS aBe [(0,1),(1,1),(2,1),(3,1)]
abbrev aI1:=bS aDP [(0,1),(1,1),(2,1),(3,1)]
abbrev aJ1:=bS aEM [(0,1),(1,4)]
abbrev aI7:=bS aAn [(0,1),(1,4)]
abbrev aIy:=bS aAo [(0,1),(1,1),(2,1)]
abbrev aIj:=bS aBj [(0,1),(1,1),(2,1)]
abbrev aJF:=bS aAV [(0,1),(1,1),(2,1),(3,1),(4,1)]
abbrev aJj:=bS aDi [(0,1),(1,1),(2,1),(3,1),(4,1)]
abbrev aKd:=bS aBX [(0,1),(1,1),(2,1)]
abbrev aJi:=bS aCN [(0,1),(1,1),(2,1)]
abbrev aI6:=bS aBs [(0,1),(1,1),(2,1),(3,1),(4,3),(7,1),(8,1),(9,1)]
abbrev aI8:=bS aBx [(0,1),(1,1),(2,1),(3,1),(4,3),(7,1),(8,1),(9,1)]
abbrev aJ8:=bS aBJ [(0,3),(3,1),(4,1),(5,1),(6,1)]
abbrev aIq:=bS aD8 [(0,3),(3,1),(4,1),(5,1),(6,1)]
abbrev aJM:=bS aDy [(0,1),(1,4),(5,1),(6,4)]
abbrev aIJ:=bS aEC [(0,1),(1,4),(5,1),(6,4)]
abbrev aGq:=bS avZ [(0,1),(1,1),(2,1)]
abbrev aFy:=bS avG [(0,1),(1,1),(2,1)]
abbrev aGD:=bS awJ [(0,3),(3,1),(4,1),(5,1),(6,1)]
abbrev aGG:=bS awE [(0,3),(3,1),(4,1),(5,1),(6,1)]
abbrev aGX:=bS auK [(0,1),(1,1),(2,1),(3,3)]
abbrev aFP:=bS au1 [(0,1),(1,1),(2,1),(3,3)]
abbrev aFd:=bS atP [(0,1),(1,1)]
abbrev aFG:=bS asS [(0,1),(1,1)]
abbrev aF2:=bS av8 [(0,1),(1,1),(2,1)]
abbrev aHa:=bS auD [(0,1),(1,1),(2,1)]
abbrev aGg:=bA ar3 aA3 [(0,1),(1,1),(2,1),(3,1)]
abbrev aFZ:=bS at3 [(0,1),(1,1)]
abbrev aGK:=bS atY [(0,1),(1,1)]
abbrev aEU:=bA auX ty3 [(0,1),(1,1),(2,1)]
abbrev aGF:=bA ar2 ty3 [(0,1),(1,1)]
abbrev aGL:=bS avA [(0,1),(1,1),(2,1),(3,1),(4,1)]
abbrev aGR:=bS atU [(0,1),(1,1),(2,1),(3,1),(4,1)]
abbrev aE1:=bS avM [(0,3),(3,10)]
abbrev aE0:=bS avD [(0,3),(3,10)]
abbrev aGI:=bS avV [(0,1),(1,1),(2,1)]
abbrev aE7:=bS avJ [(0,1),(1,1),(2,1)]
abbrev aFh:=bA avQ ty4 [(0,1),(1,1),(2,1)]
abbrev aFt:=bS as7 [(0,1),(1,1)]
abbrev aGb:=bS auO [(0,1),(1,1)]
abbrev aG9:=bS awO [(0,1),(1,1)]
abbrev aFS:=bS ar0 [(0,1),(1,1)]
attribute [instance] Tryz.mx ty3 ty4 ty5 ty9 aJb aIn aIr aBR aAG aJA aIA aA3 aAi aCr aDa aD6 aC4 aAs aIN aI3 aBe aDP aEM aAn aJd aAo aBj aJO aJU aAV aDi aJ3 aKe aIu aBX aCN aBs aBx aIU aBJ aD8 aJK aJW aDy aEC avZ avG aFa awJ awE auK au1 aFm atP asS av8 auD ar3 aHj aG7 aGv at3 atY aHi aHo aHh aG6 aFD aHe aFr aGE aHc auX aF7 aE5 ar2 aFT aHf aHm aG8 aF3 avA atU aG4 avM avD avV avJ aFb avQ aFQ aHq aGc as7 auO aHb aF8 aGU aFo awO ar0 aFe aGQ aFE aIK aI0 aJf aJ2 aIB aIZ aJv aJo aJT aI1 aJ1 aI7 aIy aIj aJF aJj aKd aJi aI6 aI8 aJ8 aIq aJM aIJ aGq aFy aGD aGG aGX aFP aFd aFG aF2 aHa aGg aFZ aGK aEU aGF aGL aGR aE1 aE0 aGI aE7 aFh aFt aGb aG9 aFS
end Go.Proofs.YtbchkopkgpfkgaaGreat
namespace Go.Proofs.YtbchkopkgpfkgaaGreat
open Classical Go.Vc
variable{F:Fl}{V:HV}{a x:Int}{inp:Bool}{k:Nat}{ks lv va:Value}{l:List St}{t:Tm}{vs:List Vr}
def TLC(k:Nat):Prop:=∀(V:HV) (t:Tm) (ks:Value) (x:Int),eJ V ks t.kids→-100≤x→x≤1000→t.sz<k→aP Tryz.prog 51 [.agg #[.int .i64 t.op,.int .i64 t.n,ks],.int .i64 x] V [] (λv _ _=>v= .int .i64 (qH t x))
theorem U3(IH:TLC k)(hT:eJ V ks t.kids)(hx:-100≤x)(hx2:x≤1000)(hk:t.sz<(k+1:Nat)):
  aP Tryz.prog 51 [.agg #[.int .i64 t.op,.int .i64 t.n,ks],vi x] V [] (λv _ _=>v=(.int .i64 (qH t x))):=by
 refine bI Tryz.func51 ?_;intro w0 D;obtain⟨kvs,hS,hK⟩:=hT;have hb:=aR.bound hS;refine aD ?_;refine bH λb1=> ?_;refine nK ?_;refine lc2 [0,2,4] (λ(i:Int) (y:Int)=> [(1,(vi y)),(5,(vi i))]) (λi y=>0≤i∧i≤t.kids.length∧-101≤y∧y≤1000∧D_ t.kids (x-1)=D_ (t.kids.drop i.toNat) y) (λi y=>(t.kids.length-i).toNat) 0 (x-1) ?_ ?_ ?_;exact⟨aL OD,rfl,i_⟩;exact⟨aB,aB,aB,aB,rfl⟩;rintro i y e1 ⟨i1,i2,y1,y2,hy⟩;refine aN ?_;refine oq (sU UL.out rfl hS) ?_;refine aD ?_;by_cases g1:i<(t.kids.length:Int);refine aJ ?_;refine aG ?_ ?_<;>intro c1;refine aI ?_;have eV:=mR (l:=t.kids) i1 a_;have hsk:=nT t;have hsn:=jA (t.kids.take i.toNat);have htl:=JC (tm t.kids i) y;refine aJ ?_;refine oq (zU UL.out SZ.out eQ hS rfl a_ a_) ?_;refine oq (DM AG.out rfl hS a_ a_ (DZ a_ a_)) ?_;refine aH ?_;refine oq (eH (IH _ _ _ _ (hK i i1 a_) a_ a_ a_) rfl rfl) ?_;refine aS ?_;exact qM (i+1) (qH (tm t.kids i) y) ⟨aL a_,aL a_,i_⟩ ⟨aB,aB,aB,aB,by rw[hy,ay4 i1 a_,af4,aK a_]⟩;refine b_ ?_;exact aW (aL aAS);refine nA ?_;exact aW (aL aAS)
theorem EH:∀k,TLC k
 |0=>λ_ t _ _ _ _ _ h=>bM h zQ
 |k+1=>λV t ks x hT hx hx2 hk=>U3 (EH k) hT hx hx2 hk
def SLC(k:Nat):Prop:=∀(V:HV) (l:List St) (lv:Value) (x:Int),eO V lv l→-2≤x→x≤1000→bN l<k→aP Tryz.prog 50 [lv,.int .i64 x] V [] (λv _ _=>v= .int .i64 (s6 l x))
theorem RU(IH:SLC k)(hL:eO V lv l)(hx:-2≤x)(hx2:x≤1000)(hk:bN l<(k+1:Nat)):
  aP Tryz.prog 50 [lv,vi x] V [] (λv _ _=>v=(.int .i64 (s6 l x))):=by
 refine bI Tryz.func50 ?_;intro w0 D;obtain⟨kvs,tvs,evs,gH,hS,hK,hth,hel,hbv⟩:=hL;have hb:=aR.bound hS;refine dS ?_;refine lc2 [0] (λ(i:Int) (y:Int)=> [(1,(vi y)),(5,(vi i))]) (λi y=>0≤i∧i≤l.length∧-2≤y∧y≤1000∧s6 l x=s6 (l.drop i.toNat) y) (λi y=>(l.length-i).toNat) 0 x ?_ ?_ ?_;exact⟨rfl,rfl,i_⟩;exact⟨aB,aB,aB,aB,rfl⟩;rintro i y e1 ⟨i1,i2,y1,y2,hy⟩;refine aF ?_;refine oq (sU UL.out rfl hS) ?_;refine aD ?_;by_cases g1:i<(l.length:Int);refine aJ ?_;refine aG ?_ ?_<;>intro c1;refine aJ ?_;have eV:=qO (l:=l) i1 a_;have hse:=mC (st l i);have hsp:=(st l i).tm.sz_pos;have hsn:=dK (l.take i.toNat);have hs1:=dK (st l i).thn;have hs2:=dK (st l i).els;have htl:=JC (st l i).tm (y-1);have hbb:=(hbv i i1 a_).bound;refine aI ?_;refine oq (zU UL.out SZ.out eQ hS rfl a_ a_) ?_;refine oq (OR FI.out rfl hS a_ a_) ?_;refine oq (JU (o:=4) AG.out rfl hS a_ a_ a_ (MR a_ a_ a_)) ?_;refine aD ?_;refine oq (eH (EH ((st l i).tm.sz.toNat+1) _ _ _ _ (hK i i1 a_) a_ a_ a_) rfl rfl) ?_;refine b_ ?_;refine oq (zU UL.out SZ.out eQ hS rfl a_ a_) ?_;refine oq (OR FI.out rfl hS a_ a_) ?_;refine oq (d_ PL.out rfl hS a_ a_ a_ (pJ (o:=9) a_ a_ a_ rfl)) ?_;refine oq (JQ UL.out rfl (hbv i a_ a_)) ?_;refine aD ?_;refine aG ?_ ?_<;>intro c2;refine aS ?_;exact aW (aL (by rw[hy,zG i1 a_,VG,aK a_,alX,aK a_];exact(acZ a_).symm));refine aH ?_;have ha:=DQ (st l i).thn (x:=qH (st l i).tm (y-1)-(st l i).bds.length) a_;have hsl:=asG (st l i) (x:=y) a_;refine aI ?_;refine afI ?_;refine qq (d_ PL.out rfl hS a_ a_ a_ (pJ (o:=8) a_ a_ a_ rfl)) ?_;refine aD ?_;refine afI ?_;refine qq (d_ PL.out rfl hS a_ a_ a_ (pJ (o:=7) a_ a_ a_ rfl)) ?_;refine aI ?_;refine afI ?_;refine qq (d_ PL.out rfl hS a_ a_ a_ (pJ (o:=9) a_ a_ a_ rfl)) ?_;refine qq (JQ UL.out rfl (hbv i a_ a_)) ?_;refine aH ?_;refine qq (eH (IH _ _ _ _ (hth i i1 a_) a_ a_ a_) rfl rfl) ?_;refine qq (eH (IH _ _ _ _ (hel i i1 a_) a_ a_ a_) rfl rfl) ?_;refine aS ?_;exact qM (i+1) (L6 (st l i) y) ⟨aL (by rw[alX,aC a_]),aL dB,i_⟩ ⟨aB,aB,aB,aB,by rw[hy,zG i1 a_,VG,aK a_]⟩;refine b_ ?_;exact aW (aL aBA);refine nA ?_;exact aW (aL aBA)
theorem KN:∀k,SLC k
 |0=>λ_ l _ _ _ _ _ h=>bM h CF
 |k+1=>λV l lv x hL hx hx2 hk=>RU (KN k) hL hx hx2 hk
theorem aFK{ha ba:Value}(hF:fV V va ha ba F){mv n:Int}(hv1:mv≤50)(hn0:-2≤n)(hn1:n≤1000):
  aP Tryz.prog 19 [.agg #[va,ha,ba],vi mv,vi n] V [] (λv _ _=>v=(.bool (decide (C9 F mv n)))):=by
 refine bI Tryz.func19 ?_;intro w0 D;obtain⟨hvs,hH⟩:=hF.h;obtain⟨xB,hB⟩:=hF.b.sl;have hbvv:=aR.bound hF.v;have hbh:=aR.bound hH.sl;have hbb:=aR.bound hB;refine aD ?_;refine bH λb1=> ?_;refine aS ?_;refine oq (sU UL.out rfl hF.v) ?_;refine aI ?_;by_cases g1:mv<(F.vs.length:Int);refine nA ?_;exact aW (jf (by exact λq=>bM q.1 (λz=>z aiC)));refine aD ?_;refine og (sU UL.out rfl hH.sl) cZ ?_;refine aJ ?_;refine aG ?_ ?_<;>intro c1;refine aF ?_;exact aW (jf (by exact λq=>bM q.1 (λz=>z aiC)));refine aN ?_;refine oq (eH (KN ((bN F.bd).toNat+1) _ _ _ _ hF.b hn0 hn1 WL) rfl rfl) ?_;refine aJ ?_;have hsb:=DQ F.bd (x:=n) hn0;refine aI ?_;refine oq (sU UL.out rfl hH.sl) ?_;refine aI ?_;refine lc2 [0,1,2,3,6,21,27,28] (λ(i:Int) (y:Int)=> [(7,(vi y)),(29,(vi i))]) (λi y=>0≤i∧i≤F.hs.length∧-2-i≤y∧y≤1000∧KR F.hs (s6 F.bd n)=KR (F.hs.drop i.toNat) y) (λi y=>(F.hs.length-i).toNat) 0 (s6 F.bd n) ?_ ?_ ?_;exact⟨aL OD,rfl,i_⟩;exact⟨aB,aB,aB,aB,rfl⟩;rintro i y e1 ⟨i1,i2,y1,y2,hy⟩;refine aF ?_;refine aG ?_ ?_<;>intro c2;refine aF ?_;refine oq (zU UL.out SZ.out eQ hH.sl rfl a_ a_) ?_;refine oq (DM AG.out rfl hH.sl a_ a_ (S6 a_ a_)) ?_;refine aQ λb2=> ?_;refine ah7 ?_;refine aH ?_;have htl:=JC (ht F.hs i).tm y;have hsp:=(ht F.hs i).tm.sz_pos;refine aJ ?_;refine oq (eH (EH ((ht F.hs i).tm.sz.toNat+1) _ _ _ _ (hH.hk i i1 a_) a_ a_ a_) rfl rfl) ?_;refine aD ?_;refine dP 1 ?_;refine aJ ?_;exact qM (i+1) (qH (ht F.hs i).tm y) ⟨aL a_,aL a_,i_⟩ ⟨aB,aB,aB,aB,by rw[hy,aw0 i1 a_];rfl⟩;refine eW ?_;exact aW (jb (by unfold C9;rw[hy,EP a_];exact⟨λq=>⟨aB,q⟩,λq=>q.2⟩))
theorem TQ{s:ByteArray}(hs:s.size≤9223372036854775807):
  aP Tryz.prog 54 [Value.string s] V [] (λv _ _=>v=(.bool (decide (jP s)))):=by
 refine bI Tryz.func54 ?_;intro w0 D;refine aN ?_;refine eE [0,2] [(14,(.bool (decide (((s.size:Int)<1)∨(40<(s.size:Int))))))] ?_ (λe1=> ?_);refine aD ?_;refine oq (wV UL.out rfl) ?_;refine aD ?_;by_cases g1:(s.size:Int)<1;refine aF ?_;exact bC ⟨jt (.inl g1),i_⟩;refine aH ?_;refine og (wV UL.out rfl) cZ ?_;refine aI ?_;exact bC ⟨jb (jo g1 Iff.rfl),i_⟩;refine aG ?_ ?_<;>intro c1;refine aF ?_;exact aW (jf aC0);refine aS ?_;refine g_ [0,14] (λ(i:Int)=> [(3,(vi i))]) (λi=>0≤i∧i≤s.size∧∀x:Int,0≤x→x<i→MB s x) (λi=>(s.size-i).toNat) 0 ?_ ?_ ?_;exact⟨rfl,i_⟩;exact⟨aB,aB,λx a b=>aB⟩;rintro i e2 ⟨i1,i2,hno⟩;refine aF ?_;refine oq (wV UL.out rfl) ?_;refine aD ?_;refine aG ?_ ?_<;>intro c2;refine aS ?_;refine oq (acC UL.out rfl rfl a_ a_) ?_;refine aI ?_;refine eE [0,3,4,14,18] [(5,(.bool (decide ((97≤(jH s i))∧((jH s i)≤122)))))] ?_ (λe3=> ?_);refine aJ ?_;by_cases g2:97≤(jH s i);refine aF ?_;exact bC ⟨jb (ja g2 Iff.rfl),i_⟩;refine aF ?_;exact bC ⟨jf (λz=>g2 z.1),i_⟩;refine aH ?_;refine eE [0,3,4,5,14,18] [(6,(.bool (decide ((((48≤(jH s i))∧((jH s i)≤57))∨((jH s i)=46))∨((jH s i)=95)))))] ?_ (λe4=> ?_);refine aJ ?_;by_cases g3:48≤(jH s i);refine aJ ?_;by_cases g4:(jH s i)≤57;refine eW ?_;exact bC ⟨jt (.inl (.inl ((ja g3 Iff.rfl).1 g4))),i_⟩;refine aJ ?_;by_cases g5:(jH s i)=46;refine aF ?_;exact bC ⟨jt (.inl ((jo (λz=>g4 ((ja g3 Iff.rfl).2 z)) Iff.rfl).1 g5)),i_⟩;refine aF ?_;exact bC ⟨jb (jo (λz=>g5 ((jo (λz=>g4 ((ja g3 Iff.rfl).2 z)) Iff.rfl).2 z)) Iff.rfl),i_⟩;refine b_ ?_;by_cases g6:(jH s i)=46;refine aF ?_;exact bC ⟨jt (.inl ((jo (λz=>g3 z.1) Iff.rfl).1 g6)),i_⟩;refine aF ?_;exact bC ⟨jb (jo (λz=>g6 ((jo (λz=>g3 z.1) Iff.rfl).2 z)) Iff.rfl),i_⟩;refine aH ?_;refine eE [0,3,4,5,6,14,18] [(53,(.bool (decide ((¬((97≤(jH s i))∧((jH s i)≤122)))∧((i=0)∨(¬((((48≤(jH s i))∧((jH s i)≤57))∨((jH s i)=46))∨((jH s i)=95))))))))] ?_ (λe5=> ?_);refine aJ ?_;by_cases g7:¬((97≤(jH s i))∧((jH s i)≤122));refine aI ?_;by_cases g8:i=0;refine aF ?_;exact bC ⟨jt ⟨g7,.inl g8⟩,i_⟩;refine aF ?_;exact bC ⟨jb (ja g7 (jo g8 Iff.rfl)),i_⟩;refine b_ ?_;exact bC ⟨jf (λz=>g7 z.1),i_⟩;refine aG ?_ ?_<;>intro c3;refine aS ?_;exact aW (jf aC0);refine aN ?_;exact dW (i+1) ⟨aL a_,i_⟩ ⟨aB,aB,eK hno (by unfold MB S8 YK;omega)⟩;refine aS ?_;exact aW (jt (by exact⟨by first|assumption|omega,λx a b=>hno x a a_⟩))
abbrev ah9:=λ(a:Int) (b:Int)=>[vi a,vi b]
theorem O1{b:Int}:
  aP Tryz.prog 55 (ah9 a b) V [] (λv _ _=>v=(.bool (decide (qU a b)))):=by
 refine bI Tryz.func55 ?_;intro w0 D;refine aF ?_;refine eE [] [(4,(.bool (decide (((a≤b)∧((-1048576)≤a))∧(b≤1048576)))))] ?_ (λe1=> ?_);refine aF ?_;by_cases g1:a≤b;refine aJ ?_;by_cases g2:(-1048576)≤a;refine aF ?_;exact bC ⟨jb (ja ((ja g1 Iff.rfl).1 g2) Iff.rfl),i_⟩;refine aF ?_;exact bC ⟨jf (λz=>(λz=>g2 ((ja g1 Iff.rfl).2 z)) z.1),i_⟩;refine eW ?_;exact bC ⟨jf (λz=>(λz=>g1 z.1) z.1),i_⟩;refine aH ?_;exact aW (jb (by unfold qU;omega))
theorem nD{b:Int}:
  aP Tryz.prog 59 (ah9 a b) V [] (λv _ _=>v=(.int .i64 (aX a b))):=by
 refine bI Tryz.func59 ?_;intro w0 D;refine iJ ?_;refine aG ?_ ?_<;>intro c1;refine aN ?_;exact aW (aL (by unfold aX;split<;>omega));refine aS ?_;exact aW (aL (by unfold aX;split<;>omega))
theorem lY{b:Int}:
  aP Tryz.prog 58 (ah9 a b) V [] (λv _ _=>v=(.int .i64 (bJ a b))):=by
 refine bI Tryz.func58 ?_;intro w0 D;refine iJ ?_;refine aG ?_ ?_<;>intro c1;refine aN ?_;exact aW (aL afD);refine aS ?_;exact aW (aL afD)
theorem abV(h1:-9223372036854775807≤a):
  aP Tryz.prog 225 [vi a] V [] (λv _ _=>v=(.int .i64 (bJ a (-a)))):=by
 refine bI Tryz.func225 ?_;intro w0 D;refine dS ?_;refine aG ?_ ?_<;>intro c1;refine aI ?_;refine oq (qL rfl a_) ?_;refine aI ?_;exact aW (aL afD);refine aS ?_;exact aW (aL afD)
theorem agC{b:Int}(h1:-1048576≤a)(h2:b≤1048576):
  aP Tryz.prog 226 (ah9 a b) V [] (λv _ _=>v= .tuple #[.int .i64 (if a<0 then aX 0 (a+1)else 0),.int .i64 (if 0<b then bJ 0 (b-1)else 0)]):=by
 refine bI Tryz.func226 ?_;intro w0 D;refine FJ ?_;refine aG ?_ ?_<;>intro c1;refine aI ?_;refine oq (cM nD) ?_;refine b_ ?_;refine aG ?_ ?_<;>intro c2;refine aI ?_;refine oq (cM lY) ?_;refine dS ?_;exact lE (aL I2) (aL I2);refine eW ?_;exact lE (aL I2) (aL I2);refine aS ?_;refine aG ?_ ?_<;>intro c3;refine aI ?_;refine oq (cM lY) ?_;refine dS ?_;exact lE (aL I2) (aL I2);refine eW ?_;exact lE (aL I2) (aL I2)
theorem MT{k:Int}(hv:k5 V va vs)(ho:∀v∈vs,v.lo≤v.hi∧-1048576≤v.lo∧v.hi≤1048576):
  aP Tryz.prog 114 [va,vi k] V [] (λv _ _=>v=(.int .i64 (rO vs k 1))):=by
 refine bI Tryz.func114 ?_;intro w0 D;have hb:=aR.bound hv;refine nK ?_;refine lc2 [0,1] (λ(i:Int) (n:Int)=> [(5,(vi n)),(6,(vi i))]) (λi n=>0≤i∧i≤vs.length∧1≤n∧n≤4096∧rO vs k 1=rO (vs.drop i.toNat) k n) (λi n=>(vs.length-i).toNat) 0 1 ?_ ?_ ?_;exact⟨rfl,rfl,i_⟩;exact⟨aB,aB,aB,aB,rfl⟩;rintro i n e1 ⟨i1,i2,n1,n2,hy⟩;refine aF ?_;refine oq (e_ hv) ?_;refine aD ?_;refine aG ?_ ?_<;>intro c1;refine aF ?_;have hm:=ho _ (pA (l:=vs) i1 a_);have hm1:=hm.1;have hm2:=hm.2.1;have hm3:=hm.2.2;refine aI ?_;refine at5 ?_;refine aG ?_ ?_<;>intro c2;refine aS ?_;exact qM (i+1) n ⟨rfl,aL a_,i_⟩ ⟨aB,aB,aB,aB,by rw[hy,JE i1 a_,rO];exact aK aO⟩;refine aD ?_;have hp:n*1≤n*((vr vs i).hi-(vr vs i).lo+1):=aqJ a_ a_;have hq:n*((vr vs i).hi-(vr vs i).lo+1)≤4096*((vr vs i).hi-(vr vs i).lo+1):=aa0 n2 a_;refine aJ ?_;refine OI ?_;refine qq (d_ PL.out rfl hv a_ a_ a_ (gU (o:=3) a_ a_ a_ rfl)) ?_;refine aD ?_;refine OI ?_;refine qq (d_ PL.out rfl hv a_ a_ a_ (gU (o:=2) a_ a_ a_ rfl)) ?_;refine dS ?_;refine aG ?_ ?_<;>intro c3;refine aS ?_;exact aW (aL (by rw[hy,JE i1 a_,rO,aC aO,aK aO]));refine aN ?_;exact qM (i+1) (n*((vr vs i).hi-(vr vs i).lo+1)) ⟨aL a_,aL a_,i_⟩ ⟨aB,aB,aB,aB,by rw[hy,JE i1 a_,rO];rw[aC aO,aC aO]⟩;refine b_ ?_;exact aW (aL (by rw[hy,EP a_];rfl))
theorem ZU(hv:k5 V va vs)(hn:∀v∈vs,v.nm.size≤9223372036854775807):
  aP Tryz.prog 53 [va] V [] (λv _ _=>v=(.int .i64 (G5 vs))):=by
 refine bI Tryz.func53 ?_;intro w0 D;have hb:=aR.bound hv;refine dS ?_;refine g_ [0] (λ(i:Int)=> [(3,(vi i))]) (λi=>0≤i∧i≤vs.length∧∀x:Int,0≤x→x<i→BB vs x=0) (λi=>(vs.length-i).toNat) 0 ?_ ?_ ?_;exact⟨rfl,i_⟩;exact⟨aB,aB,λx a b=>aB⟩;rintro i e1 ⟨i1,i2,hno⟩;refine aF ?_;refine oq (e_ hv) ?_;refine aD ?_;refine aG ?_ ?_<;>intro c1;refine aS ?_;refine VT ?_;refine aQ λb1=> ?_;refine aS ?_;refine oq (cM (TQ (hn _ (pA i1 a_)))) ?_;refine aD ?_;refine aG ?_ ?_<;>intro c2;refine aS ?_;exact aW (aL (by have z:=aCo (vs:=vs) (i:=i) aO;unfold G5;rw[qW hno a_ i1 a_,z];rfl));refine aI ?_;have hnm:=(nC.1 c2);refine aJ ?_;refine g_ [0,3,4,9,19] (λ(j:Int)=> [(5,(vi j))]) (λj=>0≤j∧j≤i∧∀x:Int,0≤x→x<j→¬(vr vs x).nm=(vr vs i).nm) (λj=>(i-j).toNat) 0 ?_ ?_ ?_;exact⟨rfl,i_⟩;exact⟨aB,aB,λx a b=>aB⟩;rintro j e2 ⟨j1,j2,hdu⟩;refine aS ?_;refine aG ?_ ?_<;>intro c3;refine aS ?_;refine OI ?_;refine qq (d_ PL.out rfl hv a_ a_ a_ (gU (o:=0) a_ a_ a_ rfl)) ?_;refine aD ?_;refine qq (A8 rfl rfl) ?_;refine aH ?_;refine aG ?_ ?_<;>intro c4;refine eW ?_;exact aW (aL (by have z:=aDj (vs:=vs) (i:=i) hnm (j:=j) j1 a_ aO;unfold G5;rw[qW hno a_ i1 a_,z];rfl));refine aN ?_;exact dW (j+1) ⟨aL a_,i_⟩ ⟨aB,aB,eK hdu aO⟩;refine aJ ?_;refine eE [0,3,4,5,9,19,22] [(50,(.bool (decide ((((((vr vs i).kd)≠0)∧(((vr vs i).kd)≠1))∧(((vr vs i).kd)≠2))∧(((vr vs i).kd)≠3)))))] ?_ (λe3=> ?_);refine aF ?_;by_cases g1:((vr vs i).kd)≠0;refine aF ?_;by_cases g2:((vr vs i).kd)≠1;refine aF ?_;by_cases g3:((vr vs i).kd)≠2;refine aF ?_;exact bC ⟨jb (ja ((ja ((ja g1 Iff.rfl).1 g2) Iff.rfl).1 g3) Iff.rfl),i_⟩;refine aF ?_;exact bC ⟨jf (λz=>(λz=>g3 ((ja ((ja g1 Iff.rfl).1 g2) Iff.rfl).2 z)) z.1),i_⟩;refine dS ?_;exact bC ⟨jf (λz=>(λz=>(λz=>g2 ((ja g1 Iff.rfl).2 z)) z.1) z.1),i_⟩;refine qQ ?_;exact bC ⟨jf (λz=>(λz=>(λz=>g1 z.1) z.1) z.1),i_⟩;refine aG ?_ ?_<;>intro c5;refine aS ?_;exact aW (aL (by have z:=aCE (vs:=vs) (i:=i) hnm (λx a b=>hdu x a a_) (by unfold tX;omega);unfold G5;rw[qW hno a_ i1 a_,z];rfl));refine b_ ?_;refine oq (cM O1) ?_;refine aD ?_;refine aG ?_ ?_<;>intro c6;refine aS ?_;exact aW (aL aCz);refine aD ?_;have hbd:=(nC.1 c6);refine eE [0,3,4,5,9,19,22,50,56] [(83,(.bool (decide (((((vr vs i).kd)=0)∧((((vr vs i).ini)<((vr vs i).lo))∨(((vr vs i).hi)<((vr vs i).ini))))∨((((vr vs i).kd)≠0)∧(((vr vs i).ini)≠0))))))] ?_ (λe4=> ?_);refine aF ?_;by_cases g4:((vr vs i).kd)=0;refine aN ?_;by_cases g5:((vr vs i).ini)<((vr vs i).lo);refine af5 ?_;exact bC ⟨jt (.inl ⟨g4,.inl g5⟩),i_⟩;refine b_ ?_;by_cases g6:((vr vs i).hi)<((vr vs i).ini);refine dS ?_;exact bC ⟨jt (.inl ((ja g4 (jo g5 Iff.rfl)).1 g6)),i_⟩;refine aJ ?_;by_cases g7:((vr vs i).kd)≠0;exact bM g4 g7;refine aN ?_;exact bC ⟨jf (λz=>z.elim (λz=>g6 ((ja g4 (jo g5 Iff.rfl)).2 z)) (λz=>g7 z.1)),i_⟩;refine af5 ?_;by_cases g8:((vr vs i).kd)≠0;refine aN ?_;exact bC ⟨jb (jo (λz=>g4 z.1) (ja g8 Iff.rfl)),i_⟩;exact bM g4 g8;refine aG ?_ ?_<;>intro c7;refine aS ?_;exact aW (aL aCz);refine aH ?_;refine dP 0 ?_;refine aF ?_;exact dW (i+1) ⟨aL a_,i_⟩ ⟨aB,aB,eK hno (apH.2 ⟨hnm,λx a b=>hdu x a a_,by unfold tX;omega,hbd,by unfold uH;omega⟩)⟩;refine aJ ?_;have hz:uV (BB vs) vs.length=0:=J3 λx a b=>hno x a a_;have hor:∀v∈vs,v.lo≤v.hi∧-1048576≤v.lo∧v.hi≤1048576:=λv q=>by obtain⟨x,a,b,rfl⟩:=YX q;exact(apH.1 (hno x a a_)).2.2.2.1
 refine eE [0,3,9] [(96,(.bool (decide (((4096<(rO vs 1 1))∨(4096<(rO vs 2 1)))∨(256<(rO vs 3 1))))))] ?_ (λe5=> ?_);refine aD ?_;refine oq (cM (MT hv hor)) ?_;refine aD ?_;by_cases g9:4096<(rO vs 1 1);refine dS ?_;exact bC ⟨jt (.inl (.inl g9)),i_⟩;refine aH ?_;refine og (cM (MT hv hor)) cZ ?_;refine aI ?_;by_cases g10:4096<(rO vs 2 1);refine aF ?_;exact bC ⟨jt (.inl ((jo g9 Iff.rfl).1 g10)),i_⟩;refine aH ?_;refine og (cM (MT hv hor)) cZ ?_;refine aI ?_;exact bC ⟨jb (jo (λz=>g10 ((jo g9 Iff.rfl).2 z)) Iff.rfl),i_⟩;refine aG ?_ ?_<;>intro c8;refine aF ?_;exact aW (aL (by unfold G5;rw[aC (λq=>q hz),aK a_]));refine aN ?_;exact aW (aL (by unfold G5;rw[aC (λq=>q hz),aC a_]))
theorem azM{o:Int}:
  aP Tryz.prog 177 [vi o] V [] (λv _ _=>v=(.int .i64 (jI o))):=by
 refine bI Tryz.func177 ?_;intro w0 D;refine FJ ?_;refine aG ?_ ?_<;>intro c1;refine aH ?_;refine nB c1 ?_;refine aN ?_;exact aW (aL rM);refine aJ ?_;refine aG ?_ ?_<;>intro c2;refine aN ?_;exact aW (aL rM);refine aN ?_;refine aG ?_ ?_<;>intro c3;refine aH ?_;refine nB c3 ?_;refine aN ?_;exact aW (aL rM);refine aJ ?_;refine aG ?_ ?_<;>intro c4;refine aN ?_;exact aW (aL rM);refine aN ?_;refine aG ?_ ?_<;>intro c5;refine aH ?_;refine nB c5 ?_;refine aN ?_;exact aW (aL rM);refine aF ?_;refine aG ?_ ?_<;>intro c6;refine aH ?_;refine nB c6 ?_;refine aN ?_;exact aW (aL rM);refine aF ?_;refine aG ?_ ?_<;>intro c7;refine aH ?_;refine nB c7 ?_;refine aN ?_;exact aW (aL rM);refine aF ?_;refine aG ?_ ?_<;>intro c8;refine aH ?_;refine nB c8 ?_;refine aN ?_;exact aW (aL rM);refine aF ?_;refine aG ?_ ?_<;>intro c9;refine aH ?_;refine nB c9 ?_;refine aN ?_;exact aW (aL rM);refine aF ?_;refine aG ?_ ?_<;>intro c10;refine aH ?_;refine nB c10 ?_;refine aN ?_;exact aW (aL rM);refine aF ?_;refine aG ?_ ?_<;>intro c11;refine aH ?_;refine nB c11 ?_;refine aN ?_;exact aW (aL rM);refine aF ?_;refine aG ?_ ?_<;>intro c12;refine aH ?_;refine nB c12 ?_;refine aN ?_;exact aW (aL rM);refine aF ?_;refine aG ?_ ?_<;>intro c13;refine aH ?_;refine nB c13 ?_;refine aN ?_;exact aW (aL rM);refine aF ?_;refine aG ?_ ?_<;>intro c14;refine aH ?_;refine nB c14 ?_;refine aN ?_;exact aW (aL rM);refine aF ?_;refine aG ?_ ?_<;>intro c15;refine aH ?_;refine nB c15 ?_;refine aN ?_;exact aW (aL rM);refine aF ?_;refine aG ?_ ?_<;>intro c16;refine aH ?_;refine nB c16 ?_;refine aN ?_;exact aW (aL rM);refine aF ?_;refine aG ?_ ?_<;>intro c17;refine aH ?_;refine nB c17 ?_;refine aN ?_;exact aW (aL rM);refine aF ?_;refine aG ?_ ?_<;>intro c18;refine aH ?_;refine nB c18 ?_;refine aN ?_;exact aW (aL rM);refine aJ ?_;refine aG ?_ ?_<;>intro c19;refine aN ?_;exact aW (aL rM);refine aF ?_;refine aG ?_ ?_<;>intro c20;refine aN ?_;exact aW (aL rM);refine aF ?_;refine aG ?_ ?_<;>intro c21;refine aN ?_;exact aW (aL rM);refine aN ?_;exact aW (aL rM)
def FMC(k:Nat):Prop:=∀(V:HV) (t:Tm) (ks va:Value) (vs:List Vr) (inp:Bool),eJ V ks t.kids→k5 V va vs→t.sz<k→aP Tryz.prog 115 [va,.agg #[.int .i64 t.op,.int .i64 t.n,ks],.bool (decide (inp=true))] V [] (λv _ _=>v= .bool (@decide (lO vs inp t) (Classical.propDecidable _)))
theorem aaD(IH:FMC k)(hT:eJ V ks t.kids)(hv:k5 V va vs)(hk:t.sz<(k+1:Nat)):
  aP Tryz.prog 115 [va,.agg #[.int .i64 t.op,.int .i64 t.n,ks],.bool (decide (inp=true))] V [] (λv _ _=>v=(.bool (decide (lO vs inp t)))):=by
 refine bI Tryz.func115 ?_;intro w0 D;obtain⟨kvs,hS,hK⟩:=hT;have hb:=aR.bound hS;have hb2:=aR.bound hv;have hsk:=nT t;refine aD ?_;refine bH λb1=> ?_;refine aN ?_;refine oq (cM azM) ?_;refine aJ ?_;refine eE [0,1,2,4,6] [(40,(.bool (decide ((((jI t.op)=(-1))∨((0≤(jI t.op))∧((t.kids.length:Int)≠(jI t.op))))∨(((jI t.op)=(-2))∧(((t.kids.length:Int)<2)∨(33<(t.kids.length:Int))))))))] ?_ (λe1=> ?_);refine aJ ?_;by_cases g1:(jI t.op)=(-1);refine aeL ?_;exact bC ⟨jt (.inl (.inl g1)),i_⟩;refine aI ?_;by_cases g2:0≤(jI t.op);refine AE ?_;refine aF ?_;by_cases g3:(t.kids.length:Int)≠(jI t.op);refine FJ ?_;exact bC ⟨jt (.inl ((jo g1 (ja g2 Iff.rfl)).1 g3)),i_⟩;refine aI ?_;by_cases g4:(jI t.op)=(-2);refine AE ?_;refine aD ?_;by_cases g5:(t.kids.length:Int)<2;refine b_ ?_;exact bC ⟨jt (.inr ⟨g4,.inl g5⟩),i_⟩;refine AE ?_;refine aF ?_;exact bC ⟨jb (jo (λz=>g3 ((jo g1 (ja g2 Iff.rfl)).2 z)) (ja g4 (jo g5 Iff.rfl))),i_⟩;refine nA ?_;exact bC ⟨jf (λz=>z.elim (λz=>g3 ((jo g1 (ja g2 Iff.rfl)).2 z)) (λz=>g4 z.1)),i_⟩;refine iJ ?_;by_cases g6:(jI t.op)=(-2);refine AE ?_;refine aD ?_;by_cases g7:(t.kids.length:Int)<2;refine b_ ?_;exact bC ⟨jt (.inr ⟨g6,.inl g7⟩),i_⟩;refine AE ?_;refine aF ?_;exact bC ⟨jb (jo (λz=>z.elim g1 (λz=>g2 z.1)) (ja g6 (jo g7 Iff.rfl))),i_⟩;refine nA ?_;exact bC ⟨jf (λz=>z.elim (λz=>z.elim g1 (λz=>g2 z.1)) (λz=>g6 z.1)),i_⟩;refine aG ?_ ?_<;>intro c1;refine aF ?_;exact aW (jf q7Z);refine aI ?_;have hkb:¬kF t.op t.kids.length:=by unfold kF;omega
 refine aF ?_;refine aG ?_ ?_<;>intro c2;refine aH ?_;refine eE [0,1,2,4,6,40,43] [(65,(.bool (decide (((t.n<0)∨((vs.length:Int)≤t.n))∨((inp=true)∧(((vr vs (t.n)).kd)=0))))))] ?_ (λe2=> ?_);refine aF ?_;by_cases g8:t.n<0;refine afE ?_;exact bC ⟨jt (.inl (.inl g8)),i_⟩;refine aI ?_;refine og (e_ hv) cZ ?_;refine aI ?_;by_cases g9:(vs.length:Int)≤t.n;refine dI ?_;exact bC ⟨jt (.inl ((jo g8 Iff.rfl).1 g9)),i_⟩;refine aD ?_;by_cases g10:inp=true;refine au_ ?_;exact bC ⟨jb (jo (λz=>g9 ((jo g8 Iff.rfl).2 z)) (ja g10 Iff.rfl)),i_⟩;refine dS ?_;exact bC ⟨jf (λz=>z.elim (λz=>g9 ((jo g8 Iff.rfl).2 z)) (λz=>g10 z.1)),i_⟩;refine aG ?_ ?_<;>intro c3;refine aF ?_;exact aW (jf q7Z);refine aI ?_;have hnb:¬H0 vs inp t.op t.n:=by intro q;rcases q with⟨q1,q2⟩|⟨q1,q2⟩<;>first|exact bM q2 aO|exact q1 aO|exact bM q1 aO
 refine aJ ?_;refine g_ [0,1,2,4,40,43,65] (λ(i:Int)=> [(8,(vi i))]) (λi=>0≤i∧i≤t.kids.length∧∀x:Int,0≤x→x<i→lO vs inp (tm t.kids x)) (λi=>(t.kids.length-i).toNat) 0 ?_ ?_ ?_;exact⟨rfl,i_⟩;exact⟨aB,aB,λx a b=>aB⟩;rintro i e3 ⟨i1,i2,hno⟩;refine aN ?_;refine C6 ?_;refine aG ?_ ?_<;>intro c4;refine aJ ?_;have eV:=mR (l:=t.kids) i1 a_;have hsn:=jA (t.kids.take i.toNat);refine CE ?_;refine aH ?_;refine oq (cM (IH _ _ _ _ _ _ (hK i i1 a_) hv a_)) ?_;refine aD ?_;refine aG ?_ ?_<;>intro c5;refine aS ?_;exact aW (jf q7Z);refine aN ?_;exact dW (i+1) ⟨aL a_,i_⟩ ⟨aB,aB,eK hno (pU.1 aO)⟩;refine aS ?_;exact aW (jt asE);refine aH ?_;refine eE [0,1,2,4,6,40,43] [(73,(.bool (decide ((t.op≠0)∧(t.n≠0)))))] ?_ (λe4=> ?_);refine aF ?_;by_cases g11:t.op≠0;refine aF ?_;exact bC ⟨jb (ja g11 Iff.rfl),i_⟩;refine aF ?_;exact bC ⟨jf (λz=>g11 z.1),i_⟩;refine aG ?_ ?_<;>intro c6;refine aF ?_;exact aW (jf q7Z);refine aI ?_;have hnb:¬H0 vs inp t.op t.n:=by intro q;rcases q with⟨q1,q2⟩|⟨q1,q2⟩<;>first|exact bM q2 aO|exact q1 aO|exact bM q1 aO
 refine aJ ?_;refine g_ [0,1,2,4,40,43,73] (λ(i:Int)=> [(8,(vi i))]) (λi=>0≤i∧i≤t.kids.length∧∀x:Int,0≤x→x<i→lO vs inp (tm t.kids x)) (λi=>(t.kids.length-i).toNat) 0 ?_ ?_ ?_;exact⟨rfl,i_⟩;exact⟨aB,aB,λx a b=>aB⟩;rintro i e5 ⟨i1,i2,hno⟩;refine aN ?_;refine C6 ?_;refine aG ?_ ?_<;>intro c7;refine aJ ?_;have eV:=mR (l:=t.kids) i1 a_;have hsn:=jA (t.kids.take i.toNat);refine CE ?_;refine aH ?_;refine oq (cM (IH _ _ _ _ _ _ (hK i i1 a_) hv a_)) ?_;refine aD ?_;refine aG ?_ ?_<;>intro c8;refine aS ?_;exact aW (jf q7Z);refine aN ?_;exact dW (i+1) ⟨aL a_,i_⟩ ⟨aB,aB,eK hno (pU.1 aO)⟩;refine aS ?_;exact aW (jt asE)
theorem SN:∀k,FMC k
 |0=>λ_ t _ _ _ _ _ _ h=>bM h zQ
 |k+1=>λV t ks va vs inp hT hv hk=>aaD (SN k) hT hv hk
def TNC(k:Nat):Prop:=∀(V:HV) (t:Tm) (ks:Value),eJ V ks t.kids→t.sz≤1000000→t.sz<k→aP Tryz.prog 110 [.agg #[.int .i64 t.op,.int .i64 t.n,ks]] V [] (λv _ _=>v= .int .i64 t.sz)
theorem QA(IH:TNC k)(hT:eJ V ks t.kids)(hz:t.sz≤1000000)(hk:t.sz<(k+1:Nat)):
  aP Tryz.prog 110 [.agg #[.int .i64 t.op,.int .i64 t.n,ks]] V [] (λv _ _=>v=(.int .i64 t.sz)):=by
 refine bI Tryz.func110 ?_;intro w0 D;obtain⟨kvs,hS,hK⟩:=hT;have hb:=aR.bound hS;have hsk:=nT t;refine aD ?_;refine bH λb1=> ?_;refine dI ?_;refine g_ [0,1,2] (λ(i:Int)=> [(3,(.int .i64 (1+oD (t.kids.take i.toNat)))),(4,(vi i))]) (λi=>0≤i∧i≤t.kids.length) (λi=>(t.kids.length-i).toNat) 0 ?_ ?_ ?_;exact⟨aL dB,rfl,i_⟩;exact⟨aB,aB⟩;rintro i e1 ⟨i1,i2⟩;refine aN ?_;refine C6 ?_;refine aG ?_ ?_<;>intro c1;refine aI ?_;have eV:=mR (l:=t.kids) i1 a_;have hsn:=jA (t.kids.take i.toNat);have htp:=(tm t.kids i).sz_pos;refine CE ?_;refine oq (cM (IH _ _ _ (hK i i1 a_) a_ a_)) ?_;refine b_ ?_;exact dW (i+1) ⟨aL (by rw[show(i+1).toNat=i.toNat+1 by omega,MF i1 a_];omega),aL dB,i_⟩ ⟨aB,aB⟩;refine b_ ?_;exact aW (aL (by rw[hsk,lJ a_]))
theorem C7:∀k,TNC k
 |0=>λ_ t _ _ _ h=>bM h zQ
 |k+1=>λV t ks hT hz hk=>QA (C7 k) hT hz hk
def TDC(k:Nat):Prop:=∀(V:HV) (t:Tm) (ks:Value),eJ V ks t.kids→t.sz≤1000000→t.sz<k→aP Tryz.prog 111 [.agg #[.int .i64 t.op,.int .i64 t.n,ks]] V [] (λv _ _=>v= .int .i64 t.dp)
theorem RN(IH:TDC k)(hT:eJ V ks t.kids)(hz:t.sz≤1000000)(hk:t.sz<(k+1:Nat)):
  aP Tryz.prog 111 [.agg #[.int .i64 t.op,.int .i64 t.n,ks]] V [] (λv _ _=>v=(.int .i64 t.dp)):=by
 refine bI Tryz.func111 ?_;intro w0 D;obtain⟨kvs,hS,hK⟩:=hT;have hb:=aR.bound hS;have hsk:=nT t;have hdk:=RX t;have hds:=auB t;refine aD ?_;refine bH λb1=> ?_;refine dI ?_;refine g_ [0,1,2] (λ(i:Int)=> [(3,(.int .i64 (lN (t.kids.take i.toNat)))),(4,(vi i))]) (λi=>0≤i∧i≤t.kids.length) (λi=>(t.kids.length-i).toNat) 0 ?_ ?_ ?_;exact⟨aL dB,rfl,i_⟩;exact⟨aB,aB⟩;rintro i e1 ⟨i1,i2⟩;refine aN ?_;refine C6 ?_;refine aG ?_ ?_<;>intro c1;refine aJ ?_;have eV:=mR (l:=t.kids) i1 a_;have hsn:=jA (t.kids.take i.toNat);refine aJ ?_;refine oq (cH hS) ?_;refine oq (eM rfl hS (DZ a_ a_)) ?_;refine oq (cM (IH _ _ _ (hK i i1 a_) a_ a_)) ?_;refine b_ ?_;refine aG ?_ ?_<;>intro c2;refine eW ?_;exact dW (i+1) ⟨aL aCj,aL dB,i_⟩ ⟨aB,aB⟩;refine aN ?_;exact dW (i+1) ⟨aL aCj,aL dB,i_⟩ ⟨aB,aB⟩;refine aI ?_;have hdn:=N_ (t.kids.take i.toNat);have L3:lN (t.kids.take i.toNat)=lN t.kids:=by rw[lJ a_]
 refine aN ?_;exact aW (aL a_)
theorem CN:∀k,TDC k
 |0=>λ_ t _ _ _ h=>bM h zQ
 |k+1=>λV t ks hT hz hk=>RN (CN k) hT hz hk
def NDC(k:Nat):Prop:=∀(V:HV) (l:List St) (lv:Value),eO V lv l→bN l≤1000000→bN l<k→aP Tryz.prog 109 [lv] V [] (λv _ _=>v= .int .i64 (bN l))
theorem aeR(IH:NDC k)(hL:eO V lv l)(hz:bN l≤1000000)(hk:bN l<(k+1:Nat)):
  aP Tryz.prog 109 [lv] V [] (λv _ _=>v=(.int .i64 (bN l))):=by
 refine bI Tryz.func109 ?_;intro w0 D;obtain⟨kvs,tvs,evs,gH,hS,hK,hth,hel,hbv⟩:=hL;have hb:=aR.bound hS;refine nK ?_;refine g_ [0,2] (λ(i:Int)=> [(3,(.int .i64 (bN (l.take i.toNat)))),(4,(vi i))]) (λi=>0≤i∧i≤l.length) (λi=>(l.length-i).toNat) 0 ?_ ?_ ?_;exact⟨aL dB,rfl,i_⟩;exact⟨aB,aB⟩;rintro i e1 ⟨i1,i2⟩;refine aF ?_;refine C6 ?_;refine aG ?_ ?_<;>intro c1;refine aI ?_;have eV:=qO (l:=l) i1 a_;have hse:=mC (st l i);have hsp:=(st l i).tm.sz_pos;have hsn:=dK (l.take i.toNat);have hs1:=dK (st l i).thn;have hs2:=dK (st l i).els;refine aF ?_;refine qq (cH hS) ?_;refine qq (fC hS) ?_;refine qq (JU (o:=4) AG.out rfl hS a_ a_ a_ (MR a_ a_ a_)) ?_;refine qq (cM (C7 ((st l i).tm.sz.toNat+1) _ _ _ (hK i i1 a_) a_ a_)) ?_;refine aI ?_;refine qq (cH hS) ?_;refine qq (fC hS) ?_;refine qq (d_ PL.out rfl hS a_ a_ a_ (pJ (o:=7) a_ a_ a_ rfl)) ?_;refine qq (cM (IH _ _ _ (hth i i1 a_) a_ a_)) ?_;refine aI ?_;refine qq (cH hS) ?_;refine qq (fC hS) ?_;refine qq (d_ PL.out rfl hS a_ a_ a_ (pJ (o:=8) a_ a_ a_ rfl)) ?_;refine qq (cM (IH _ _ _ (hel i i1 a_) a_ a_)) ?_;refine b_ ?_;exact dW (i+1) ⟨aL (by rw[show(i+1).toNat=i.toNat+1 by omega,MV i1 a_];omega),aL dB,i_⟩ ⟨aB,aB⟩;refine b_ ?_;exact aW (aL GK)
theorem abI:∀k,NDC k
 |0=>λ_ l _ _ _ h=>bM h CF
 |k+1=>λV l lv hL hz hk=>aeR (abI k) hL hz hk
def SDC(k:Nat):Prop:=∀(V:HV) (l:List St) (lv:Value),eO V lv l→bN l≤1000000→bN l<k→aP Tryz.prog 112 [lv] V [] (λv _ _=>v= .int .i64 (o6 l))
theorem QS(IH:SDC k)(hL:eO V lv l)(hz:bN l≤1000000)(hk:bN l<(k+1:Nat)):
  aP Tryz.prog 112 [lv] V [] (λv _ _=>v=(.int .i64 (o6 l))):=by
 refine bI Tryz.func112 ?_;intro w0 D;obtain⟨kvs,tvs,evs,gH,hS,hK,hth,hel,hbv⟩:=hL;have hb:=aR.bound hS;refine nK ?_;refine g_ [0,2] (λ(i:Int)=> [(3,(.int .i64 (o6 (l.take i.toNat)))),(4,(vi i))]) (λi=>0≤i∧i≤l.length) (λi=>(l.length-i).toNat) 0 ?_ ?_ ?_;exact⟨aL dB,rfl,i_⟩;exact⟨aB,aB⟩;rintro i e1 ⟨i1,i2⟩;refine aF ?_;refine C6 ?_;refine aG ?_ ?_<;>intro c1;refine aJ ?_;have eV:=qO (l:=l) i1 a_;have hse:=mC (st l i);have hsp:=(st l i).tm.sz_pos;have hsn:=dK (l.take i.toNat);have hs1:=dK (st l i).thn;have hs2:=dK (st l i).els;have hd1:=D7 (st l i).thn;have hd2:=D7 (st l i).els;have hd3:=E0 (st l i).thn;have hd4:=E0 (st l i).els;refine aI ?_;refine oq (cH hS) ?_;refine oq (fC hS) ?_;refine oq (d_ PL.out rfl hS a_ a_ a_ (pJ (o:=7) a_ a_ a_ rfl)) ?_;refine oq (cM (IH _ _ _ (hth i i1 a_) a_ a_)) ?_;refine aS ?_;refine oq (cH hS) ?_;refine oq (fC hS) ?_;refine oq (d_ PL.out rfl hS a_ a_ a_ (pJ (o:=8) a_ a_ a_ rfl)) ?_;refine oq (cM (IH _ _ _ (hel i i1 a_) a_ a_)) ?_;refine dS ?_;refine aG ?_ ?_<;>intro c2;refine dS ?_;refine aG ?_ ?_<;>intro c3;refine eW ?_;exact dW (i+1) ⟨aL agQ,aL dB,i_⟩ ⟨aB,aB⟩;refine aN ?_;exact dW (i+1) ⟨aL agQ,aL dB,i_⟩ ⟨aB,aB⟩;refine aS ?_;refine aG ?_ ?_<;>intro c4;refine eW ?_;exact dW (i+1) ⟨aL agQ,aL dB,i_⟩ ⟨aB,aB⟩;refine aN ?_;exact dW (i+1) ⟨aL agQ,aL dB,i_⟩ ⟨aB,aB⟩;refine b_ ?_;exact aW (aL GK)
theorem KW:∀k,SDC k
 |0=>λ_ l _ _ _ h=>bM h CF
 |k+1=>λV l lv hL hz hk=>QS (KW k) hL hz hk
def TPC(k:Nat):Prop:=∀(V:HV) (l:List St) (lv:Value),eO V lv l→bN l≤1000000→bN l<k→aP Tryz.prog 113 [lv] V [] (λv _ _=>v= .bool (decide (¬C1 l)))
theorem PP(IH:TPC k)(hL:eO V lv l)(hz:bN l≤1000000)(hk:bN l<(k+1:Nat)):
  aP Tryz.prog 113 [lv] V [] (λv _ _=>v=(.bool (decide (¬C1 l)))):=by
 refine bI Tryz.func113 ?_;intro w0 D;obtain⟨kvs,tvs,evs,gH,hS,hK,hth,hel,hbv⟩:=hL;have hb:=aR.bound hS;refine dS ?_;refine g_ [0] (λ(i:Int)=> [(3,(vi i))]) (λi=>0≤i∧i≤l.length∧∀x:Int,0≤x→x<i→(st l x).td) (λi=>(l.length-i).toNat) 0 ?_ ?_ ?_;exact⟨rfl,i_⟩;exact⟨aB,aB,λx a b=>aB⟩;rintro i e1 ⟨i1,i2,hno⟩;refine aF ?_;refine C6 ?_;refine aG ?_ ?_<;>intro c1;refine aJ ?_;have eV:=qO (l:=l) i1 a_;have hse:=mC (st l i);have hsp:=(st l i).tm.sz_pos;have hsn:=dK (l.take i.toNat);have hs1:=dK (st l i).thn;have hs2:=dK (st l i).els;refine aI ?_;refine oq (cH hS) ?_;refine oq (fC hS) ?_;refine oq (JU (o:=4) AG.out rfl hS a_ a_ a_ (MR a_ a_ a_)) ?_;refine oq (cM (CN ((st l i).tm.sz.toNat+1) _ _ _ (hK i i1 a_) a_ a_)) ?_;refine aD ?_;by_cases g1:12<((st l i).tm.dp);refine af9 ?_;exact aW (jt an2);refine aD ?_;refine og (cH hS) cZ ?_;refine og (fC hS) cZ ?_;refine og (d_ PL.out rfl hS a_ a_ a_ (pJ (o:=7) a_ a_ a_ rfl)) cZ ?_;refine og (cM (IH _ _ _ (hth i i1 a_) a_ a_)) cZ ?_;refine aD ?_;by_cases g2:¬C1 (st l i).thn;refine FJ ?_;exact aW (jt an2);refine aD ?_;refine og (cH hS) cZ ?_;refine og (fC hS) cZ ?_;refine og (d_ PL.out rfl hS a_ a_ a_ (pJ (o:=8) a_ a_ a_ rfl)) cZ ?_;refine og (cM (IH _ _ _ (hel i i1 a_) a_ a_)) cZ ?_;refine aD ?_;refine aG ?_ ?_<;>intro c2;refine aS ?_;exact aW (jt an2);refine aN ?_;exact dW (i+1) ⟨aL a_,i_⟩ ⟨aB,aB,eK hno ((ahK _).2 ⟨aB,pU.1 aO,pU.1 aO⟩)⟩;refine aS ?_;exact aW (jf (by exact λq=>q (Q4.2 λx a b=>hno x a a_)))
theorem KZ:∀k,TPC k
 |0=>λ_ l _ _ _ h=>bM h CF
 |k+1=>λV l lv hL hz hk=>PP (KZ k) hL hz hk
theorem aw2{ha ba:Value}(hF:fV V va ha ba F)(hz:bN F.bd+eV F.hs≤1000000):
  aP Tryz.prog 52 [.agg #[va,ha,ba]] V [] (λv _ _=>v=(.bool (decide (YA F)))):=by
 refine bI Tryz.func52 ?_;intro w0 D;obtain⟨hvs,hH⟩:=hF.h;obtain⟨xB,hB⟩:=hF.b.sl;have hbvv:=aR.bound hF.v;have hbh:=aR.bound hH.sl;have hbb:=aR.bound hB;have hn0:=dK F.bd;have wT:=CY F.hs;refine aD ?_;refine bH λb1=> ?_;refine aS ?_;refine oq (e_ hF.v) ?_;refine aD ?_;by_cases g1:64<(F.vs.length:Int);refine dI ?_;exact aW (jf q6Z);refine aD ?_;refine og (e_ hH.sl) cZ ?_;refine aI ?_;refine aG ?_ ?_<;>intro c1;refine aF ?_;exact aW (jf q6Z);refine aF ?_;refine oq (cM (abI ((bN F.bd).toNat+1) _ _ _ hF.b a_ a_)) ?_;refine b_ ?_;refine g_ [0,1,14] (λ(i:Int)=> [(3,(.int .i64 (bN F.bd+eV (F.hs.take i.toNat)))),(4,(vi i))]) (λi=>0≤i∧i≤F.hs.length∧∀x:Int,0≤x→x<i→¬12<(ht F.hs x).tm.dp) (λi=>(F.hs.length-i).toNat) 0 ?_ ?_ ?_;exact⟨aL (by exact(Int.add_zero _).symm),rfl,i_⟩;exact⟨aB,aB,λx a b=>aB⟩;rintro i e1 ⟨i1,i2,hno⟩;refine aN ?_;refine oq (e_ hH.sl) ?_;refine aD ?_;refine aG ?_ ?_<;>intro c2;refine aJ ?_;have hsa:=alK (l:=F.hs) i1 a_;have hsn:=CY (F.hs.take i.toNat);have htp:=(ht F.hs i).tm.sz_pos;refine aF ?_;refine auY ?_;refine oq (cM (C7 ((ht F.hs i).tm.sz.toNat+1) _ _ _ (hH.hk i i1 a_) a_ a_)) ?_;refine b_ ?_;refine auY ?_;refine oq (cM (CN ((ht F.hs i).tm.sz.toNat+1) _ _ _ (hH.hk i i1 a_) a_ a_)) ?_;refine aD ?_;refine aG ?_ ?_<;>intro c3;refine aS ?_;exact aW (jf q6Z);refine aN ?_;exact dW (i+1) ⟨aL (by rw[show(i+1).toNat=i.toNat+1 by omega,M3 i1 a_];omega),aL dB,i_⟩ ⟨aB,aB,eK hno a_⟩;refine aI ?_;have L3:eV (F.hs.take i.toNat)=eV F.hs:=by rw[lJ a_]
 refine aJ ?_;by_cases g2:(bN F.bd+eV (F.hs.take i.toNat))≤1024;refine aD ?_;refine og (cM (KW ((bN F.bd).toNat+1) _ _ _ hF.b a_ a_)) cZ ?_;refine aI ?_;by_cases g3:(o6 F.bd)≤12;refine aD ?_;refine og (cM (KZ ((bN F.bd).toNat+1) _ _ _ hF.b a_ a_)) cZ ?_;refine aF ?_;exact aW (jb (by exact⟨λq=>⟨aB,λx a b=>hno x a a_,aB,aB,pU.1 q⟩,λq=>pU.2 q.2.2.2.2⟩));refine b_ ?_;exact aW (jf q6Z);refine nK ?_;exact aW (jf q6Z)
theorem azI{lo hi:Value}{K:List gG}(hv:k5 V va vs)(hlo:aT .i64 V lo (K.map Prod.fst))(hhi:aT .i64 V hi (K.map Prod.snd))(hg:∀j:Int,SR (pg K j))(hkb:¬kF t.op K.length)(hnb:¬H0 vs inp t.op t.n)(hT:eJ V ks t.kids):
  aP Tryz.prog 178 [va,.agg #[.int .i64 t.op,.int .i64 t.n,ks],lo,hi] V [] (λv _ _=>v= .tuple #[.int .i64 ((pH vs t.op t.n K).1),.int .i64 ((pH vs t.op t.n K).2)]):=by
 refine bI Tryz.func178 ?_;intro w0 D;obtain⟨kvs,hS,hK⟩:=hT;have hb2:=aR.bound hv;have hb3:K.length≤9223372036854775807:=by have q:=hlo.bound;rwa[fT]at q
 have hl1:(K.map Prod.fst).length=K.length:=fT ..;have hl2:(K.map Prod.snd).length=K.length:=fT ..;refine aD ?_;refine bH λb1=> ?_;refine qQ ?_;refine aG ?_ ?_<;>intro c1;refine aD ?_;refine eE [0,1,2,3,5,8,9,19,20] [(29,(.bool (decide ((t.n<(-1048576))∨(1048576<t.n)))))] ?_ (λe1=> ?_);refine aF ?_;by_cases g1:t.n<(-1048576);refine aF ?_;exact bC ⟨jt (.inl g1),i_⟩;refine aF ?_;exact bC ⟨jb (jo g1 Iff.rfl),i_⟩;refine aG ?_ ?_<;>intro c2;refine aS ?_;exact lE (aL agE) (aL agE);refine dI ?_;exact lE (aL agE) (aL agE);refine aF ?_;refine aG ?_ ?_<;>intro c3;refine aH ?_;have hnv:0≤t.n∧t.n<(vs.length:Int):=kB λq=>hnb (.inl ⟨aO,.inl a_⟩);refine aJ ?_;refine OI ?_;refine qq (d_ PL.out rfl hv a_ a_ a_ (gU (o:=2) a_ a_ a_ rfl)) ?_;refine aI ?_;refine OI ?_;refine qq (d_ PL.out rfl hv a_ a_ a_ (gU (o:=3) a_ a_ a_ rfl)) ?_;refine aF ?_;exact lE (aL (by rw[c3];rfl)) (aL (by rw[c3];rfl));refine aF ?_;refine aG ?_ ?_<;>intro c4;refine aH ?_;have hln:=N9 hkb a_;have hg0:=hg 0;have hg1:=hg 1;obtain⟨ga1,ga2,ga3⟩:=hg0;obtain⟨gb1,gb2,gb3⟩:=hg1;have hp0:=jC (k:=K) (i:=0) a_ a_;refine aD ?_;refine uY ?_;refine qq (qL rfl a_) ?_;refine aH ?_;refine KJ ?_;refine qq (qL rfl a_) ?_;refine aF ?_;exact lE (aL (by rw[c4];simp only[hp0.1,hp0.2];rfl)) (aL (by rw[c4];simp only[hp0.1,hp0.2];rfl));refine aF ?_;refine aG ?_ ?_<;>intro c5;refine aH ?_;have hln:=AQ hkb a_;have hg0:=hg 0;have hg1:=hg 1;obtain⟨ga1,ga2,ga3⟩:=hg0;obtain⟨gb1,gb2,gb3⟩:=hg1;have hp0:=jC (k:=K) (i:=0) a_ a_;have hp1:=jC (k:=K) (i:=1) a_ a_;refine FM ?_;refine KJ ?_;refine aD ?_;refine uY ?_;refine aH ?_;refine uY ?_;refine aN ?_;exact lE (aL at8) (aL at8);refine aF ?_;refine aG ?_ ?_<;>intro c6;refine aH ?_;have hln:=AQ hkb a_;have hg0:=hg 0;have hg1:=hg 1;obtain⟨ga1,ga2,ga3⟩:=hg0;obtain⟨gb1,gb2,gb3⟩:=hg1;have hp0:=jC (k:=K) (i:=0) a_ a_;have hp1:=jC (k:=K) (i:=1) a_ a_;refine FM ?_;refine uY ?_;refine aD ?_;refine uY ?_;refine aH ?_;refine KJ ?_;refine aN ?_;exact lE (aL atA) (aL atA);refine aF ?_;refine aG ?_ ?_<;>intro c7;refine aH ?_;have hln:=AQ hkb a_;have hg0:=hg 0;have hg1:=hg 1;obtain⟨ga1,ga2,ga3⟩:=hg0;obtain⟨gb1,gb2,gb3⟩:=hg1;have hp0:=jC (k:=K) (i:=0) a_ a_;have hp1:=jC (k:=K) (i:=1) a_ a_;have m1:=wE (a:=gi (K.map Prod.fst) 0) (b:=gi (K.map Prod.fst) 1) a_ a_ a_ a_;have m2:=wE (a:=gi (K.map Prod.fst) 0) (b:=gi (K.map Prod.snd) 1) a_ a_ a_ a_;have m3:=wE (a:=gi (K.map Prod.snd) 0) (b:=gi (K.map Prod.fst) 1) a_ a_ a_ a_;have m4:=wE (a:=gi (K.map Prod.snd) 0) (b:=gi (K.map Prod.snd) 1) a_ a_ a_ a_;refine FM ?_;refine KJ ?_;refine FM ?_;refine uY ?_;refine aD ?_;refine uY ?_;refine aH ?_;refine KJ ?_;refine aD ?_;refine uY ?_;refine aH ?_;refine uY ?_;refine dS ?_;refine oq (eH nD rfl rfl) ?_;refine aD ?_;refine oq (eH nD rfl rfl) ?_;refine oq (eH nD rfl rfl) ?_;refine aD ?_;refine oq (eH lY rfl rfl) ?_;refine aD ?_;refine oq (eH lY rfl rfl) ?_;refine oq (eH lY rfl rfl) ?_;refine aF ?_;exact lE (aL asT) (aL asT);refine aF ?_;refine aG ?_ ?_<;>intro c8;refine aH ?_;have hln:=AQ hkb a_;have hg0:=hg 0;have hg1:=hg 1;obtain⟨ga1,ga2,ga3⟩:=hg0;obtain⟨gb1,gb2,gb3⟩:=hg1;have hp0:=jC (k:=K) (i:=0) a_ a_;have hp1:=jC (k:=K) (i:=1) a_ a_;refine aD ?_;refine KJ ?_;refine qq (eH (abV a_) rfl rfl) ?_;refine aH ?_;refine uY ?_;refine qq (eH (abV a_) rfl rfl) ?_;refine qq (eH lY rfl rfl) ?_;refine aJ ?_;refine eE [0,1,2,3,5,8,9,14,19,20,34,48,58,74,90,134] [(154,(.bool (decide ((0≤(gi (K.map Prod.fst) 0))∧(0≤(gi (K.map Prod.fst) 1))))))] ?_ (λe2=> ?_);refine aD ?_;refine oq (fZ (d9 hlo)) ?_;refine oq (fY (d9 hlo)) ?_;refine aD ?_;by_cases g2:0≤(gi (K.map Prod.fst) 0);refine aH ?_;refine og (fZ (d9 hlo)) cZ ?_;refine og (fY (d9 hlo)) cZ ?_;refine aI ?_;exact bC ⟨jb (ja g2 Iff.rfl),i_⟩;refine aN ?_;exact bC ⟨jf (λz=>g2 z.1),i_⟩;refine aG ?_ ?_<;>intro c9;refine b_ ?_;exact lE (aL (by rw[c8];first|rw[JZ (by rw[←hp0.1,←hp1.1];assumption)]|rw[J2 (by rw[←hp0.1,←hp1.1];assumption)])) (aL apK);refine aD ?_;have hmx:=aBh (a:=gi (K.map Prod.fst) 0) (b:=gi (K.map Prod.snd) 0) a_ a_ a_;refine aD ?_;refine oq (qL rfl a_) ?_;refine aN ?_;exact lE (aL apK) (aL apK);refine aF ?_;refine aG ?_ ?_<;>intro c10;refine aH ?_;have hln:=AQ hkb a_;have hg0:=hg 0;have hg1:=hg 1;obtain⟨ga1,ga2,ga3⟩:=hg0;obtain⟨gb1,gb2,gb3⟩:=hg1;have hp0:=jC (k:=K) (i:=0) a_ a_;have hp1:=jC (k:=K) (i:=1) a_ a_;refine FM ?_;refine uY ?_;refine qq (eH (agC a_ a_) rfl rfl) ?_;refine aS ?_;exact lE (aL (by rw[c10];simp only[hp1.1,hp1.2];rfl)) (aL (by rw[c10];simp only[hp1.1,hp1.2];rfl));refine aF ?_;refine aG ?_ ?_<;>intro c11;refine aH ?_;have hln:=AQ hkb a_;have hg0:=hg 0;have hg1:=hg 1;obtain⟨ga1,ga2,ga3⟩:=hg0;obtain⟨gb1,gb2,gb3⟩:=hg1;have hp0:=jC (k:=K) (i:=0) a_ a_;have hp1:=jC (k:=K) (i:=1) a_ a_;refine FM ?_;refine KJ ?_;refine qq (eH nD rfl rfl) ?_;refine aH ?_;refine uY ?_;refine aH ?_;refine uY ?_;refine qq (eH nD rfl rfl) ?_;refine aF ?_;exact lE (aL as0) (aL as0);refine aF ?_;refine aG ?_ ?_<;>intro c12;refine aH ?_;have hln:=AQ hkb a_;have hg0:=hg 0;have hg1:=hg 1;obtain⟨ga1,ga2,ga3⟩:=hg0;obtain⟨gb1,gb2,gb3⟩:=hg1;have hp0:=jC (k:=K) (i:=0) a_ a_;have hp1:=jC (k:=K) (i:=1) a_ a_;refine FM ?_;refine KJ ?_;refine qq (eH lY rfl rfl) ?_;refine aH ?_;refine uY ?_;refine aH ?_;refine uY ?_;refine qq (eH lY rfl rfl) ?_;refine aF ?_;exact lE (aL awK) (aL awK);refine aN ?_;refine aG ?_ ?_<;>intro c13;refine aH ?_;refine nB c13 ?_;refine aH ?_;have hln:2≤(K.length:Int):=by have:=L5 (op:=t.op) (k:=K.length);have:=KY (op:=t.op) (k:=K.length);first|(have:=L5 hkb aO;omega)|exact(KY hkb aO).1
 have hp1:=jC (k:=K) (i:=1) a_ a_;refine FM ?_;refine uY ?_;refine eW ?_;refine g_ [0,1,2,3,5,8,9,19,20,34,48,58,74,90,134,159,170,186,202] (λ(i:Int)=> [(15,(.int .i64 ((j5 (pg K 1) ((K.take i.toNat).drop 2)).1))),(16,(.int .i64 ((j5 (pg K 1) ((K.take i.toNat).drop 2)).2))),(17,(vi i))]) (λi=>2≤i∧i≤K.length) (λi=>(K.length-i).toNat) 2 ?_ ?_ ?_;exact⟨aL aB_,aL aCt,rfl,i_⟩;exact⟨aB,aB⟩;rintro i e3 ⟨i1,i2⟩;refine aF ?_;refine oq (fK hlo) ?_;refine aD ?_;refine aG ?_ ?_<;>intro c14;refine aI ?_;have hpi:=jC (k:=K) (i:=i) a_ a_;refine asU ?_;exact dW (i+1) ⟨aL avS,aL awA,aL dB,i_⟩ ⟨aB,aB⟩;refine iJ ?_;exact lE (aL aeE) (aL aeE);refine aJ ?_;refine aG ?_ ?_<;>intro c15;refine aH ?_;have hln:2≤(K.length:Int):=by have:=L5 (op:=t.op) (k:=K.length);have:=KY (op:=t.op) (k:=K.length);first|(have:=L5 hkb aO;omega)|exact(KY hkb aO).1
 have hp1:=jC (k:=K) (i:=1) a_ a_;refine FM ?_;refine uY ?_;refine eW ?_;refine g_ [0,1,2,3,5,8,9,19,20,34,48,58,74,90,134,159,170,186,202] (λ(i:Int)=> [(15,(.int .i64 ((j5 (pg K 1) ((K.take i.toNat).drop 2)).1))),(16,(.int .i64 ((j5 (pg K 1) ((K.take i.toNat).drop 2)).2))),(17,(vi i))]) (λi=>2≤i∧i≤K.length) (λi=>(K.length-i).toNat) 2 ?_ ?_ ?_;exact⟨aL aB_,aL aCt,rfl,i_⟩;exact⟨aB,aB⟩;rintro i e4 ⟨i1,i2⟩;refine aF ?_;refine oq (fK hlo) ?_;refine aD ?_;refine aG ?_ ?_<;>intro c16;refine aI ?_;have hpi:=jC (k:=K) (i:=i) a_ a_;refine asU ?_;exact dW (i+1) ⟨aL avS,aL awA,aL dB,i_⟩ ⟨aB,aB⟩;refine iJ ?_;exact lE (aL aeE) (aL aeE);refine aS ?_;exact lE (aL (by rw[J1 a_])) (aL (by rw[J1 a_]))
def BDC(k:Nat):Prop:=∀(V:HV) (F:Fl) (top:Prop) (l:List St) (lv:Value),eO V lv l→fJ F top l→bN l<k→aP Tryz.prog 21 [lv] V [] (λv _ _=>v= .tuple #[.int .i64 (aX (dX l) 4097),.int .i64 (aX (cJ l) 9),.int .i64 (aX (cG l) 67108865)])
theorem WP{top:Prop}(IH:BDC k)(hL:eO V lv l)(hO:fJ F top l)(hk:bN l<(k+1:Nat)):
  aP Tryz.prog 21 [lv] V [] (λv _ _=>v= .tuple #[.int .i64 (aX (dX l) 4097),.int .i64 (aX (cJ l) 9),.int .i64 (aX (cG l) 67108865)]):=by
 refine bI Tryz.func21 ?_;intro w0 D;obtain⟨kvs,tvs,evs,gH,hS,hK,hth,hel,hbv⟩:=hL;have hb:=aR.bound hS;have hN:=hO.nns;refine af5 ?_;refine g_ [0,2,3,4] (λ(i:Int)=> [(5,(.int .i64 (aX (dX (l.take i.toNat)) 4097))),(6,(.int .i64 (aX (cJ (l.take i.toNat)) 9))),(7,(.int .i64 (aX (cG (l.take i.toNat)) 67108865))),(8,(vi i))]) (λi=>0≤i∧i≤l.length) (λi=>(l.length-i).toNat) 0 ?_ ?_ ?_;exact⟨aL dB,aL dB,aL dB,rfl,i_⟩;exact⟨aB,aB⟩;rintro i e1 ⟨i1,i2⟩;refine aF ?_;refine C6 ?_;refine aG ?_ ?_<;>intro c1;refine aJ ?_;have eV:=qO (l:=l) i1 a_;have hse:=mC (st l i);have hsp:=(st l i).tm.sz_pos;have hsn:=dK (l.take i.toNat);have hs1:=dK (st l i).thn;have hs2:=dK (st l i).els;have hok:=vI hO i1 a_;have hnu:=hok.num;have hn:=hok.nn;have hne:=(lL _).1 hn;obtain⟨u1,u2,u3⟩:=eB _ hne.2.2.1;obtain⟨w1,w2,w3⟩:=eB _ hne.2.2.2;obtain⟨hx1,hx2,hx3⟩:=eB _ (ZG hN i.toNat);have p1:=fG (L:=4097) u1 a_;have q1:=fG (L:=4097) w1 a_;have r1:=rH p1 q1;have y1:=fG (L:=4097) hx1 a_;have p2:=fG (L:=9) u2 a_;have q2:=fG (L:=9) w2 a_;have r2:=rH p2 q2;have y2:=fG (L:=9) hx2 a_;have p3:=fG (L:=67108865) u3 a_;have q3:=fG (L:=67108865) w3 a_;have r3:=rH p3 q3;have y3:=fG (L:=67108865) hx3 a_;refine aI ?_;refine R9 ?_;refine aQ λb1=> ?_;refine g4Z ?_;refine aF ?_;refine oq (cM (IH _ _ _ _ _ (hth i i1 a_) (iM.1 hok).2.1 a_)) ?_;refine dI ?_;refine oq (cM (IH _ _ _ _ _ (hel i i1 a_) (iM.1 hok).2.2 a_)) ?_;refine dI ?_;refine qq (cM lY) ?_;refine aI ?_;refine qq (cM lY) ?_;refine aJ ?_;refine qq (cM lY) ?_;refine dI ?_;refine aG ?_ ?_<;>intro c2;have hn4:=hnu.2.2 a_;have m1:=RM (a:=(st l i).n) (b:=1+aX (dX (st l i).thn) 4097) (A:=4096) (B:=4098) a_ a_ a_ a_;have m2:=RM (a:=(st l i).n) (b:=aX (cJ (st l i).thn) 9) (A:=4096) (B:=9) a_ a_ a_ a_;have m3:=RM (a:=(st l i).n) (b:=(st l i).cost+aX (cG (st l i).thn) 67108865) (A:=4096) (B:=134217729) a_ a_ a_ a_;refine aKi ?_;refine aG ?_ ?_<;>intro c3;refine b_ ?_;refine aeW ?_;exact dW (i+1) ⟨aL aDM,aL aCu,aL aCH,aL dB,i_⟩ ⟨aB,aB⟩;refine aN ?_;refine aeW ?_;exact dW (i+1) ⟨aL aDM,aL (by rw[show(i+1).toNat=i.toNat+1 by omega,tB i1 a_];exact bO4 hn hx2 a_),aL aCH,aL dB,i_⟩ ⟨aB,aB⟩;refine b_ ?_;refine aG ?_ ?_<;>intro c4;refine b_ ?_;refine aeW ?_;exact dW (i+1) ⟨aL aDr,aL aCu,aL aDw,aL dB,i_⟩ ⟨aB,aB⟩;refine aN ?_;refine aeW ?_;exact dW (i+1) ⟨aL aDr,aL (by rw[show(i+1).toNat=i.toNat+1 by omega,tB i1 a_];exact bO0 hn hx2 a_ a_),aL aDw,aL dB,i_⟩ ⟨aB,aB⟩;refine dI ?_;exact rt3 (aL GK) (aL GK) (aL GK)
theorem GV:∀k,BDC k
 |0=>λ_ _ _ l _ _ _ h=>bM h CF
 |k+1=>λV F top l lv hL hO hk=>WP (GV k) hL hO hk
def RGC(k:Nat):Prop:=∀(V:HV) (t:Tm) (ks va:Value) (vs:List Vr) (inp:Bool),eJ V ks t.kids→k5 V va vs→dO vs→lO vs inp t→t.sz<k→aP Tryz.prog 116 [va,.agg #[.int .i64 t.op,.int .i64 t.n,ks]] V [] (λv _ _=>v= .tuple #[.int .i64 (@ite _ (tA vs t.kids) (Classical.propDecidable _) (rg vs t).1 0),.int .i64 (@ite _ (tA vs t.kids) (Classical.propDecidable _) (rg vs t).2 0),.bool (@decide (oI vs t) (Classical.propDecidable _))])
theorem abD(IH:RGC k)(hT:eJ V ks t.kids)(hv:k5 V va vs)(hV:dO vs)(hf:lO vs inp t)(hk:t.sz<(k+1:Nat)):
  aP Tryz.prog 116 [va,.agg #[.int .i64 t.op,.int .i64 t.n,ks]] V [] (λv _ _=>v= .tuple #[.int .i64 (if tA vs t.kids then(rg vs t).1 else 0),.int .i64 (if tA vs t.kids then(rg vs t).2 else 0),.bool (decide (oI vs t))]):=by
 refine bI Tryz.func116 ?_;intro w0 D;obtain⟨kvs,hS,hK⟩:=hT;have hT:eJ V ks t.kids:=.mk kvs hS hK;have hb:=aR.bound hS;have hb2:=aR.bound hv;have hsk:=nT t;have hff:=(u0 t).1 hf;have hfk:=oV.1 hff.2.2;have hln:=O5 hff.1;refine aD ?_;refine bH λb1=> ?_;refine aN ?_;refine cQ 0 1 [] (λb2=> ?_);refine tD (k:=1) (b:=b2) (n:=0) (cap:=0) (cs:= #[]) 1 [] rfl rfl (cV _) (kE _) rfl rfl ?_;refine aJ ?_;refine cQ 0 1 [] (λb3=> ?_);refine tD (k:=2) (b:=b3) (n:=0) (cap:=0) (cs:= #[]) 1 [] rfl rfl (cV _) (kE _) rfl rfl ?_;refine b_ ?_;refine lp3 [0,1,3] (λ(i:Int) (ul:Value) (uh:Value)=> [(7,ul),(8,uh),(9,(vi i))]) (λi ul uh=> [aM 74 b1 [.int .i64 t.op,.int .i64 t.n,ks],Gr 3 1 ul i.toNat (((nN vs (t.kids.take i.toNat)).map Prod.fst).map (Value.int .i64)),Gr 3 1 uh i.toNat (((nN vs (t.kids.take i.toNat)).map Prod.snd).map (Value.int .i64))]) (λi ul uh=>0≤i∧i≤t.kids.length∧∀x:Int,0≤x→x<i→oI vs (tm t.kids x)) (λi ul uh=>(t.kids.length-i).toNat) 0 (.slice (some ⟨b2,0,none⟩) 0 0) (.slice (some ⟨b3,0,none⟩) 0 0) ?_ ?_ ?_ ?_;exact⟨oW,oW,rfl,i_⟩
 (rfl)
 exact⟨aB,aB,λx a b=>aB⟩;rintro i ul uh e1 ⟨i1,i2,hno⟩;refine aN ?_;refine C6 ?_;refine aG ?_ ?_<;>intro c1;refine aJ ?_;have eV:=mR (l:=t.kids) i1 a_;have hsn:=jA (t.kids.take i.toNat);refine CE ?_;refine oq (cM (IH _ _ _ _ _ _ (hK i i1 a_) hv hV (hfk i i1 a_) a_)) ?_;refine nK ?_;refine aG ?_ ?_<;>intro c2;refine eW ?_;exact rt3 (aL at9) (aL at9) (jf (by exact λq=>bM (qG.1 ((pC t).1 q).1 i i1 a_) aO));refine aD ?_;have hro:oI vs (tm t.kids i):=pU.1 aO;have hq1:(if tA vs (tm t.kids i).kids then(rg vs (tm t.kids i)).1 else 0)=(rg vs (tm t.kids i)).1:=aK ((pC _).1 hro).1;have hq2:(if tA vs (tm t.kids i).kids then(rg vs (tm t.kids i)).2 else 0)=(rg vs (tm t.kids i)).2:=aK ((pC _).1 hro).1;refine aI ?_;refine cQ 1 1 [.int .i64 (if tA vs (tm t.kids i).kids then(rg vs (tm t.kids i)).1 else 0)] (λb4=> ?_);refine dV rfl rfl rfl fW a_ eZ λv1 hn1=> ?_;refine aF ?_;refine cQ 1 1 [.int .i64 (if tA vs (tm t.kids i).kids then(rg vs (tm t.kids i)).2 else 0)] (λb5=> ?_);refine dV rfl rfl rfl fW a_ eZ λv2 hn2=> ?_;refine aD ?_;refine tC ?_;refine aF ?_;exact le3 (i+1) v1 v2 ⟨rfl,rfl,aL a_,i_⟩ ⟨aB,aB,eK hno hro⟩ (hr:=by rw[show(i+1).toNat=i.toNat+1 by omega,aaN i1 a_];simp only[f_,lQ,y_,hq1,hq2]);refine aI ?_;refine pV 1 λVf1 hVf1 hc1=> ?_;have hT:=hT.mono hVf1;have hv:=hv.mono hVf1;refine pV 1 λVf2 hVf2 hc2=> ?_;have hT:=hT.mono hVf2;have hv:=hv.mono hVf2;have hc1:=hc1.mono hVf2;refine aF ?_;have hkk:tA vs t.kids:=qG.2 λx a b=>hno x a a_;have hlo:aT .i64 Vf2 ul ((nN vs t.kids).map Prod.fst):=by have q:=hc1;rw[lJ a_]at q;exact q
 have hhi:aT .i64 Vf2 uh ((nN vs t.kids).map Prod.snd):=by have q:=hc2;rw[lJ a_]at q;exact q
 refine oq (eH (by have h:=azI (inp:=inp) (K:=nN vs t.kids) hv hlo hhi (P1 hV t.kids hff.2.2 hkk) (by rw[JJ];exact hff.1) hff.2.1 hT;rw[←B9]at h;exact h) rfl rfl) ?_;refine nA ?_;by_cases g1:(-1048576)≤((rg vs t).1);refine b_ ?_;exact rt3 (aL UH) (aL UH) (jb (by exact⟨λq=>(pC t).2 ⟨hkk,aO,q⟩,λq=>((pC t).1 q).2.2⟩));refine b_ ?_;exact rt3 (aL UH) (aL UH) (jf (by exact λq=>bM ((pC t).1 q).2.1 aO))
theorem WH:∀k,RGC k
 |0=>λ_ t _ _ _ _ _ _ _ _ h=>bM h zQ
 |k+1=>λV t ks va vs inp hT hv hV hf hk=>abD (WH k) hT hv hV hf hk
theorem AV(hT:eJ V ks t.kids)(hv:k5 V va vs)(hV:dO vs):
  aP Tryz.prog 56 [va,.agg #[.int .i64 t.op,.int .i64 t.n,ks],.bool (decide (inp=true))] V [] (λv _ _=>v=(.int .i64 (E8 vs t inp))):=by
 refine bI Tryz.func56 ?_;intro w0 D;have hT0:=hT;obtain⟨kvs,hS,hK⟩:=hT;refine aD ?_;refine bH λb1=> ?_;refine b_ ?_;refine oq (cM (SN (t.sz.toNat+1) _ _ _ _ _ _ hT0 hv a_)) ?_;refine aD ?_;refine aG ?_ ?_<;>intro c1;refine aF ?_;exact aW (aL (by exact(aK aO).symm));refine aF ?_;refine oq (cM (WH (t.sz.toNat+1) _ _ _ _ _ inp hT0 hv hV (pU.1 aO) a_)) ?_;refine nK ?_;refine aG ?_ ?_<;>intro c2;refine aF ?_;exact aW (aL (by unfold E8;rw[aC aO,aK aO]));refine aN ?_;exact aW (aL (by unfold E8;rw[aC aO,aC aO]))
end Go.Proofs.YtbchkopkgpfkgaaGreat
end
