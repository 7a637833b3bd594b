import Derived.Test.YtbchkopkgpfkgaaGreatQBJ
import Derived.Test.YtbchkopkgpfkgaaGreatQAR
set_option linter.unusedVariables false
noncomputable section
namespace Go.Proofs.YtbchkopkgpfkgaaGreat
open Classical Go Go.Vc
variable{F:Fl}{i:Nat}{s:St}
def BL(bs:List Int)(t:Int)(k:Nat):Int:=(bs.drop (bs.length-k)).foldr (λb o=>if t≤b then b else o) t
section
variable {bs:List Int} {t:Int} {k:Nat}
theorem auZ:BL bs t 0=t:=by unfold BL;rw[Nat.sub_zero,List.drop_length];rfl
theorem aGH(hk:k<bs.length):(if decide (Dd.eG 7 (bs[bs.length-1-k]?.getD 0) t=0)=true then bs[bs.length-1-k]?.getD 0 else BL bs t k)=BL bs t (k+1):=by
 have hi:bs.length-1-k<bs.length:=aB;have e:bs.drop (bs.length-(k+1))=(bs[bs.length-1-k]?.getD 0)::bs.drop (bs.length-k):=by
  rw[show bs.length-(k+1)=bs.length-1-k by omega,List.drop_eq_getElem_cons hi,dT hi,show bs.length-1-k+1=bs.length-k by omega];rfl
 have h7:∀x:Int,(Dd.eG 7 x t=0)↔t≤x:=λx=>by
  show(if x<t then(1:Int)else 0)=0↔t≤x;split<;>simp<;>omega
 unfold BL;rw[e,List.foldr_cons];by_cases q:t≤bs[bs.length-1-k]?.getD 0;rw[aK (decide_eq_true ((h7 _).2 q)),aK q];rw[aC (by rw[decide_eq_true_eq];exact λz=>q ((h7 _).1 z)),aC q]
theorem aEh{x y:Int}:Dd.bF (Dd.eG 7 x y):=by
 show Dd.bF (if x<y then(1:Int)else 0);unfold Dd.bF;split<;>omega
theorem aFU(h:∀b∈bs,Dd.bF b){j:Nat}(hj:j<bs.length):Dd.bF (bs[j]?.getD 0):=by
 rw[dT hj];exact h _ (CP hj)
end
structure HN where
 (a0 a1 a2 a3 a4 a5:Value)
 (a6 a7 a8 a9:List Value)
def nU(σ:aV→Mc)(c:Int):aV→Mc:=λe=>⟨(σ e).vals,(σ e).outs,(σ e).time+c⟩
def G7(F:Fl)(H:aV→List Int)(l:List St)(σ:aV→Mc):aV→Mc:=λe=>fX F (H e) l (σ e)
def gP(F:Fl)(H:aV→List Int)(s:St)(σ:aV→Mc):aV→Mc:=λe=>f9 F (H e) s (σ e)
structure oC (F:Fl) (n:Int) (σ:aV→Mc) (a b:Int):Prop where
 dp:Dd.dR n σ
 rdy:∀e,i_ F (σ e) a b
section
variable {F:Fl} {n:Int} {σ τ:aV→Mc} {a b c:Int} {H:aV→List Int} {s:St} {l:List St}
theorem oC.stv(h:oC F n σ a b):StV F n σ:=⟨h.dp,λe=>(h.rdy e).len,λe=>(h.rdy e).inr⟩
theorem aDH(hH:Dd.dR n H)(h:Dd.dR n σ):Dd.dR n (G7 F H l σ):=λe e' q=>by show fX F (H e) l (σ e)=fX F (H e') l (σ e');rw[hH e e' q,h e e' q]
theorem H5(h:Dd.dR n σ):Dd.dR n (nU σ c):=λe e' q=>by show Mc.mk _ _ _=Mc.mk _ _ _;rw[h e e' q]
theorem aCR(hH:Dd.dR n H)(h:Dd.dR n σ):Dd.dR n (gP F H s σ):=λe e' q=>by show f9 F (H e) s (σ e)=f9 F (H e') s (σ e');rw[hH e e' q,h e e' q]
def gS(F:Fl)(H:aV→List Int)(s:St)(σ:aV→Mc):Nat→aV→Mc
 |0=>σ
 |i+1=>G7 F H s.thn (nU (gS F H s σ i) s.cost)
def hS(F:Fl)(H:aV→List Int)(s:St)(σ:aV→Mc)(i:Nat):aV→Mc:=nU (gS F H s σ i) s.cost
def sC(F:Fl)(H:aV→List Int)(s:St)(σ:aV→Mc)(i:Nat):aV→Bool:=λe=> !decide (vF (hS F H s σ i) s.tm e=0)
def pZ(F:Fl)(H:aV→List Int)(s:St)(σ fin:aV→Mc)(m:Nat):Nat→aV→Mc
 |0=>fin
 |k+1=>qP (sC F H s σ (m-1-k)) (pZ F H s σ fin m k) (hS F H s σ (m-1-k))
theorem auT(hH:Dd.dR n H)(h:Dd.dR n σ):∀i,Dd.dR n (gS F H s σ i)
 |0=>h
 |i+1=>aDH hH (H5 (auT hH h i))
theorem auH(hV:dO F.vs){last:Prop}(hs:o_ F last s)(hH:Dd.dR n H)(h:oC F n σ (s.n*cJ s.thn) (s.n*(s.cost+cG s.thn))):
  ∀i:Nat,(i:Int)≤s.n→oC F n (gS F H s σ i) ((s.n-i)*cJ s.thn) ((s.n-i)*(s.cost+cG s.thn))
 |0,_=>by rw[show s.n-((0:Nat):Int)=s.n by omega];exact h
 |i+1,hi=>by
  have ih:=auH hV hs hH h i aB;refine⟨auT hH h.dp _,λe=> ?_⟩;have:=(HR (H:=H e) hV hs (i:=i) aB aB (ih.rdy e)).2;rw[show((i+1:Nat):Int)=(i:Int)+1 by omega];exact this
theorem aE9(hV:dO F.vs){last:Prop}(hs:o_ F last s)(hH:Dd.dR n H){i:Nat}(hi:(i:Int)<s.n)(h:oC F n (gS F H s σ i) ((s.n-i)*cJ s.thn) ((s.n-i)*(s.cost+cG s.thn))):
 oC F n (hS F H s σ i) (cJ s.thn) (cG s.thn):=⟨H5 h.dp,λe=>(HR (H:=H e) hV hs (i:=i) aB aB (h.rdy e)).1⟩
theorem aIV{i:Nat}{e:aV}(h:sC F H s σ i e=true):¬val (hS F H s σ i e).vals s.tm=0:=λq=>by
 unfold sC vF at h;rw[decide_eq_true q]at h;cases h
theorem aJk{i:Nat}{e:aV}(h:¬sC F H s σ i e=true):val (hS F H s σ i e).vals s.tm=0:=kB λq=>h (by
 unfold sC vF;rw[decide_eq_false q];rfl)
theorem av7{fin:aV→Mc}{m N:Nat}(hN:s.n.toNat=N)(hm:m≤N)(hA:(m=N∧fin=gS F H s σ m)∨(0<m∧(∀e,¬sC F H s σ (m-1) e=true)∧fin=hS F H s σ (m-1))):
  ∀k:Nat,k≤m→(m=N∧fin=gS F H s σ m∨1≤k)→∀e,pZ F H s σ fin m k e=mJ (fX F (H e) s.thn) s.cost s.tm (N-(m-k)) (gS F H s σ (m-k) e)
 |0,_,hk,e=>by
  rcases hk with⟨rfl,rfl⟩|hk
  show gS F H s σ m e=mJ _ _ _ (m-(m-0)) (gS F H s σ (m-0) e);rw[Nat.sub_zero,ED];rfl;omega
 |k+1,hk,hq,e=>by
  have e1:m-(k+1)=m-1-k:=by omega
  have hp:0<N-(m-(k+1)):=aB;show(if sC F H s σ (m-1-k) e=true then pZ F H s σ fin m k e else hS F H s σ (m-1-k) e)=_;by_cases hg:sC F H s σ (m-1-k) e=true;rw[aK hg];have hv:=aIV hg;have ok:m=N∧fin=gS F H s σ m∨1≤k:=by
   rcases hA with hA|⟨_,h0,_⟩
   exact .inl hA;refine .inr (Nat.pos_of_ne_zero λq=> ?_);subst q;exact h0 e (by rw[Nat.sub_zero]at hg;exact hg)
  rw[av7 hN hm hA k aB ok e,e1,am2 (m:=gS F H s σ (m-1-k) e) aB hv,show N-(m-1-k)-1=N-(m-k) by omega,show m-k=m-1-k+1 by omega];rfl;rw[aC hg,e1,ajM (m:=gS F H s σ (m-1-k) e) aB (aJk hg)];rfl
theorem akG{fin:aV→Mc}{m:Nat}(hm:m≤s.n.toNat)(h4:s.dk=4)(hA:(m=s.n.toNat∧fin=gS F H s σ m)∨(0<m∧(∀e,¬sC F H s σ (m-1) e=true)∧fin=hS F H s σ (m-1))):
  pZ F H s σ fin m m=gP F H s σ:=by
 funext e;have:=av7 rfl hm hA m (cV _) (by
  rcases hA with h|⟨h,_⟩
  exact .inl h;exact .inr h) e
 rw[this,ED,Nat.sub_zero];show _=f9 F (H e) s (σ e);rw[ak4 h4];rfl
theorem aJX(h:s.dk=0):gP F H s σ=RP F (nU σ s.cost) s.var (vF (nU σ s.cost) s.tm):=by funext e;exact uK h
theorem aIw(h:s.dk=1):gP F H s σ=tW (nU σ s.cost) (vF (nU σ s.cost) s.tm):=by funext e;exact tP h
theorem aJP(h:s.dk=3):gP F H s σ=qP (λe=> !decide (vF (nU σ s.cost) s.tm e=0)) (G7 F H s.thn (nU σ s.cost)) (G7 F H s.els (nU σ s.cost)):=by
 funext e;show f9 F (H e) s (σ e)=if(!decide (val (σ e).vals s.tm=0))=true then _ else _
 by_cases q:val (σ e).vals s.tm=0;rw[rK h (λz=>z q),decide_eq_true q];rfl;rw[rD h q,decide_eq_false q];rfl
def tZ(H:aV→List Int)(i:Int):aV→Int:=λe=>gi (H e) i
theorem aJp(h:s.dk=5):gP F H s σ=RP F (nU σ s.cost) s.var (tZ H s.n):=by funext e;exact u4 h
theorem CJ(h:s.dk=6):gP F H s σ=λe=>⟨(σ e).vals,(σ e).outs,stl s.bds ((σ e).time+s.cost)⟩:=by funext e;exact uD h
theorem IW(h:¬(s.dk=4∨s.dk=0∨s.dk=1∨s.dk=3∨s.dk=5∨s.dk=6)):gP F H s σ=nU σ s.cost:=by funext e;exact uA h
section
variable {V:HV} {k:Nat} {vv cl cm ov ta tb l8 m8:Value} {ls ms os oms:List Value}
theorem Sy.time{τ':aV→Mc}(h:Sy V n k σ vv cl cm ov ta tb ls ms os oms)(h1:∀e,(τ' e).vals=(σ e).vals)(h2:∀e,(τ' e).outs=(σ e).outs)(h8:Dm V n l8 m8 (dY τ')):Sy V n k τ' vv cl cm ov l8 m8 ls ms os oms:=by
 have ev:iS τ'=iS σ:=by funext i e;show gi (τ' e).vals i=_;rw[h1 e];rfl
 have eo:fI τ'=fI σ:=by funext i e;show gi (τ' e).outs i=_;rw[h2 e];rfl
 have ec:dJ τ'=dJ σ:=by funext e;show((τ' e).outs.length:Int)=_;rw[h2 e];rfl
 exact⟨by rw[ev];exact h.v,by rw[ec];exact h.c,by rw[eo];exact h.o,h8⟩
end
theorem az6{top:Prop}{i:Int}(hO:fJ F top l)(i0:0≤i)(i1:i<l.length)(hr:oC F n σ (cJ (l.drop i.toNat)) (cG (l.drop i.toNat))):oC F n σ (st l i).uO (st l i).uT:=⟨hr.dp,λe=>aaW hO i0 i1 (hr.rdy e)⟩
theorem ayV{top:Prop}{i:Int}(hV:dO F.vs)(hH:Dd.dR n H)(hO:fJ F top l)(i0:0≤i)(i1:i<l.length)(hr:oC F n σ (cJ (l.drop i.toNat)) (cG (l.drop i.toNat))):
  G7 F H (l.drop i.toNat) σ=G7 F H (l.drop (i+1).toNat) (gP F H (st l i) σ)∧oC F n (gP F H (st l i) σ) (cJ (l.drop (i+1).toNat)) (cG (l.drop (i+1).toNat)):=
 ⟨funext λe=>(M8 (H:=H e) hV hO i0 i1 (hr.rdy e)).1,aCR hH hr.dp,λe=>(M8 (H:=H e) hV hO i0 i1 (hr.rdy e)).2⟩
theorem aFA(h:oC F n σ (cJ l) (cG l))(h1:0≤c)(h2:c≤67108864)(hn:0≤cG l)(e:aV):Dd.bF (Dd.eG 0 (dY σ e) c):=by
 have a:=(h.rdy e).t0;have b:=(h.rdy e).t1;show Dd.bF ((σ e).time+c);unfold Dd.bF;omega
theorem aGB{last:Prop}(hs:o_ F last s)(e:s.dk=3)(hr:oC F n σ s.uO s.uT):oC F n (nU σ s.cost) (cJ s.thn) (cG s.thn):=⟨H5 hr.dp,λx=>(P3 hs e (hr.rdy x)).1⟩
theorem aFN{last:Prop}(hs:o_ F last s)(e:s.dk=3)(hr:oC F n σ s.uO s.uT):oC F n (nU σ s.cost) (cJ s.els) (cG s.els):=⟨H5 hr.dp,λx=>(P3 hs e (hr.rdy x)).2⟩
theorem TH{t b0:Int}:∀(bs:List Int),(∀b∈bs,b0<b)→bs.foldl (sX t) (b0,true)=(b0,true)
 | [],_=>rfl
 |b::r,h=>by
  have hb:=h b (mZ ..);rw[List.foldl_cons,show sX t (b0,true) b=(b0,true) by unfold sX;rw[aC];rintro⟨_,q⟩;rcases q with q|q;exact q rfl;exact bM q (by show¬b<b0;omega)];exact TH r λx hx=>h x (uC _ hx)
theorem aaZ{t:Int}:∀(bs:List Int),bs.Pairwise (·<·)→(bs.foldl (sX t) (t,false)).1=bs.foldr (λb o=>if t≤b then b else o) t
 | [],_=>rfl
 |b::r,h=>by
  obtain⟨h1,h2⟩:=EW.1 h;rw[List.foldl_cons,List.foldr_cons];by_cases q:t≤b;rw[aK q,show sX t (t,false) b=(b,true) by unfold sX;rw[aK ⟨q,.inl bK⟩],TH r h1];rw[aC q,show sX t (t,false) b=(t,false) by unfold sX;rw[aC (λz=>q z.1)]];exact aaZ r h2
theorem aDT{bs:List Int}(h:PJ bs):bs.Pairwise (·<·):=by
 rw[AP];intro i j hi hj hij;have step:∀d:Nat,∀i:Nat,(hd:i+d+1<bs.length)→bs.getD i 0<bs.getD (i+d+1) 0:=λd=>by
  induction d with
  |zero=>
   intro i hd;have:=h ((i:Int)+1) aB aB;unfold gi at this;rw[show((i:Int)+1).toNat=i+1 by omega,show((i:Int)+1-1).toNat=i by omega]at this;show bs.getD i 0<bs.getD (i+1) 0;omega
  |succ d ih=>
   intro i hd;have a:=ih i aB;have:=h ((i:Int)+d+2) aB aB;unfold gi at this;rw[show((i:Int)+d+2).toNat=i+(d+1)+1 by omega,show((i:Int)+d+2-1).toNat=i+d+1 by omega]at this;omega
 have:=step (j-i-1) i aB;rw[show i+(j-i-1)+1=j by omega,bX,bX,dT hi,dT hj]at this;exact this
theorem ax_{bs:List Int}{t:Int}(h:PJ bs):BL bs t bs.length=stl bs t:=by
 unfold BL stl n_;rw[ED,List.drop_zero];exact(aaZ bs (aDT h)).symm
theorem ayM{s:St}(h:rsg s.bds)(hb:¬oZ s):∀b∈s.bds,Dd.bF b:=λb hm=>by
 have u:=alL h hb b hm;obtain⟨i,hi,e⟩:=List.mem_iff_getElem.1 hm;have a:=X7 h.2 i 0 aB aB;have e1:gi s.bds (i:Int)=b:=by unfold gi;rw[bX,iD,dT hi,←e];rfl
 rw[show(0:Int)+(i:Int)=(i:Int) by omega,e1]at a;have z:¬gi s.bds 0<0:=λq=>h.1 (.inr q);unfold Dd.bF;omega
structure ZY (V:HV) (lv:Value) (l:List St) (kv tv ev bv:List Value):Prop where
 s:aR 10 V lv l.length (FD kv tv ev bv l)
 k:∀i:Int,0≤i→i<l.length→eJ V (gv kv i) (st l i).tm.kids
 t:∀i:Int,0≤i→i<l.length→eO V (gv tv i) (st l i).thn
 e:∀i:Int,0≤i→i<l.length→eO V (gv ev i) (st l i).els
 b:∀i:Int,0≤i→i<l.length→aT .i64 V (gv bv i) (st l i).bds
theorem ZY.mono{V W:HV}{lv:Value}{kv tv ev bv:List Value}(h:ZY V lv l kv tv ev bv)(s:Vc.bR V W):ZY W lv l kv tv ev bv:=
 ⟨h.s.mono s,λi a b=>(h.k i a b).mono s,λi a b=>(h.t i a b).mono s,λi a b=>(h.e i a b).mono s,λi a b=>aT.mono (h.b i a b) s⟩
end
def dA(n:Int)(b:aV→Bool)(σ:aV→Mc)(mb vv cl cm ov ta tb:Value):List Value:=
 [.int .i64 n,mb,.int .i64 (Bg n b).r,vv,.int .i64 n,cl,cm,.int .i64 (Dg n (dJ σ)).r,ov,.int .i64 n,ta,tb,.int .i64 (Dg n (dY σ)).r]
def EnR(V:HV)(n:Int)(k:Nat)(b:aV→Bool)(σ:aV→Mc)(row:List Value):Prop:=
 ∃mb vv cl cm ov ta tb ls ms os oms,row=dA n b σ mb vv cl cm ov ta tb∧Bm V n mb b∧Sy V n k σ vv cl cm ov ta tb ls ms os oms
structure BN (V:HV) (n:Int) (k:Nat) (go:Nat→aV→Bool) (h:Nat→aV→Mc) (m:Nat) (ec:List Value):Prop where
 len:ec.length=m*13
 at_:∀i,i<m→EnR V n k (go i) (h i) ((ec.drop (i*13)).take 13)
section
variable {V W:HV} {n:Int} {k m:Nat} {b:aV→Bool} {σ:aV→Mc} {go:Nat→aV→Bool} {h:Nat→aV→Mc} {ec row:List Value}
theorem EnR.mono(q:EnR V n k b σ row)(s:Vc.bR V W):EnR W n k b σ row:=by
 obtain⟨mb,vv,cl,cm,ov,ta,tb,ls,ms,os,oms,e,h1,h2⟩:=q;exact⟨mb,vv,cl,cm,ov,ta,tb,ls,ms,os,oms,e,h1.mono s,h2.mono s⟩
theorem BN.mono(q:BN V n k go h m ec)(s:Vc.bR V W):BN W n k go h m ec:=⟨q.len,λi hi=>(q.at_ i hi).mono s⟩
theorem BN.nil:BN V n k go h 0 []:=⟨rfl,λi hi=>bM hi aB⟩
theorem BN.snoc(q:BN V n k go h m ec)(hr:EnR V n k (go m) (h m) row)(hl:row.length=13):BN V n k go h (m+1) (ec++row):=by
 have hq:=q.len;refine⟨by rw[dD,hq,hl];omega,λi hi=> ?_⟩;by_cases e:i=m;subst e;rw[S5 aB,EP aB,xR,lJ aB];exact hr;rw[S5 aB,N4 HY];exact q.at_ i aB
theorem BN.get(q:BN V n k go h m ec){i:Nat}(hi:i<m):∃mb vv cl cm ov ta tb ls ms os oms,(∀j:Nat,j<13→cE ec i j=(dA n (go i) (h i) mb vv cl cm ov ta tb)[j]?.getD undef)∧Bm V n mb (go i)∧Sy V n k (h i) vv cl cm ov ta tb ls ms os oms:=by
 obtain⟨mb,vv,cl,cm,ov,ta,tb,ls,ms,os,oms,e,h1,h2⟩:=q.at_ i hi;refine⟨mb,vv,cl,cm,ov,ta,tb,ls,ms,os,oms,λj hj=> ?_,h1,h2⟩;rw[←e];unfold cE;rw[iH,aK hj,kO]
end
theorem aJV{n:Int}(N:Nb n){b:aV→Bool}(h:Dd.Bd.dR n b)(hr:(Bg n b).r=0)(e:aV):¬b e=true:=by
 have:=ad3 N h e;rw[hr]at this;rw[←this];rw[Dd.Bd.fN aB];simp
theorem aAD{n:Int}{H:aV→List Int}{σ:aV→Mc}(h:Dd.dR n (hS F H s σ i)):Dd.Bd.dR n (sC F H s σ i):=λe e' q=>by
 unfold sC vF;rw[h e e' q]
theorem aIO{n:Int}{H:aV→List Int}{σ:aV→Mc}{a b:Int}(h:oC F n (hS F H s σ i) a b)(hb:0≤b)(e:aV):Dd.bF (Dd.eG 0 (dY (gS F H s σ i) e) s.cost):=by
 have x:=(h.rdy e).t0;have y:=(h.rdy e).t1;have z:Dd.eG 0 (dY (gS F H s σ i) e) s.cost=(hS F H s σ i e).time:=rfl;rw[z];unfold Dd.bF;omega
theorem aIH{n:Int}{σ:aV→Mc}(h4:s.dk=4)(hr:oC F n σ s.uO s.uT):oC F n σ (s.n*cJ s.thn) (s.n*(s.cost+cG s.thn)):=
 ⟨hr.dp,λe=>by have:=SM h4 (hr.rdy e);rw[show s.n-0=s.n by omega]at this;exact this⟩
theorem aw7{V:HV}{n:Int}{k:Nat}{b:aV→Bool}{σ:aV→Mc}{mb vv cl cm ov ta tb:Value}{ls ms os oms:List Value}(h1:Bm V n mb b)(h2:Sy V n k σ vv cl cm ov ta tb ls ms os oms):∀u∈dA n b σ mb vv cl cm ov ta tb,u.oneCell'=true:=λu hu=>by
 unfold dA at hu;simp only[uL,List.not_mem_nil,or_false]at hu;rcases hu with rfl|rfl|rfl|rfl|rfl|rfl|rfl|rfl|rfl|rfl|rfl|rfl|rfl
 rfl;exact aR.one h1.mt;rfl;exact aR.one h2.v.sl;rfl;exact Sl.one h2.c.mt.l;exact aR.one h2.c.mt.n;rfl;exact aR.one h2.o.sl;rfl;exact Sl.one h2.t.mt.l;exact aR.one h2.t.mt.n;rfl
end Go.Proofs.YtbchkopkgpfkgaaGreat
end
