import Derived.Test.YtbchkopkgpfkgaaGreatQEB
import Derived.Test.YtbchkopkgpfkgaaGreatQBV
set_option linter.unusedVariables false
set_option linter.unusedSimpArgs false
set_option maxRecDepth 100000
set_option maxHeartbeats 4000000
noncomputable section
namespace Go.Proofs.YtbchkopkgpfkgaaGreat
open Go Go.Vc
open Classical
theorem atT:∀(n m:Nat) (f:Nat→Nat),(∀i,i<n→f i<m)→(∀i j,i<n→j<n→f i=f j→i=j)→n≤m
 |0,m,_,_,_=>kE _
 |n+1,0,f,h,_=>bM (h 0 (by omega)) (by omega)
 |n+1,m+1,f,h,hi=>by
  have k:=atT n m (λi=>if f i=m then f n else f i) (λi hn=>by
   have a:=h i aB;have b:=h n aB;have c:f i=m→f n≠m:=λe e2=>bM (hi i n aB aB (e.trans e2.symm)) aB;show(if f i=m then f n else f i)<m;split;have:=c aO;omega;omega) (λi j hn hj e=>by
   have e:(if f i=m then f n else f i)=(if f j=m then f n else f j):=e;split at e;split at e;exact hi i j aB aB aB;exact bM (hi n j aB aB e) aB;split at e;exact bM (hi i n aB aB e) aB;exact hi i j aB aB e)
  omega
theorem aHF{n:Int}{vd:aV→Bool}{ob:aV→Ob}{lab:aV→Int}{R:List WO}(h:aeV n vd ob lab R){i j:Nat}(hi:i<R.length)(hj:j<R.length)(e:(wo R i).2=(wo R j).2):i=j:=by
 rcases Nat.lt_trichotomy i j with q|q|q
 have:=zZ h.ord (s:=i) (t:=j) aB aB aB;rw[e]at this;exact bM this acI;exact q;have:=zZ h.ord (s:=j) (t:=i) aB aB aB;rw[e]at this;exact bM this acI
theorem aId{n n':Int}{vd:aV→Bool}{ob ob' lab lab':aV→_}{R R':List WO}(h:aeV n vd ob lab R)(h':aeV n' vd ob' lab' R')
  (hq:∀e e',vd e=true→vd e'=true→ob' e=ob' e'→ob e=ob e'):R.length≤R'.length:=by
 have ex:∀i:Nat,i<R.length→∃e,vd e=true∧(wo R i).2=ob e:=λi hi=>h.src _ (D6 aB aB);have pick:∃g:Nat→aV,∀i,i<R.length→vd (g i)=true∧(wo R i).2=ob (g i):=
  ⟨λi=>if hi:i<R.length then(ex i hi).choose else λ_=>false,λi hi=>by dsimp only;rw[dif_pos hi];exact(ex i hi).choose_spec⟩
 obtain⟨g,hg⟩:=pick;refine atT R.length R'.length (λi=>(lab' (g i)).toNat) (λi hi=> ?_) (λi j hi hj e=> ?_);have:=h'.at_ _ (hg i hi).1;show(lab' (g i)).toNat<_;omega;have a:=h'.at_ _ (hg i hi).1;have b:=h'.at_ _ (hg j hj).1;have e:(lab' (g i)).toNat=(lab' (g j)).toNat:=e;have e1:lab' (g i)=lab' (g j):=aB;have e2:ob' (g i)=ob' (g j):=by rw[←a.2.2,←b.2.2,e1]
 have e3:=hq _ _ (hg i hi).1 (hg j hj).1 e2;rw[←(hg i hi).2,←(hg j hj).2]at e3;exact aHF h hi hj e3
theorem aH0{n n':Int}{vd:aV→Bool}{ob ob' lab lab':aV→_}{R R':List WO}(h:aeV n vd ob lab R)(h':aeV n' vd ob' lab' R')
  (hq:∀e e',ob' e=ob' e'↔ob e=ob e'):(R.length:Int)=R'.length:=by
 have a:=aId h h' λe e' _ _=>(hq e e').1;have b:=aId h' h λe e' _ _=>(hq e e').2;omega
theorem aLc{F:Fl}{B:List Int}{n n':Int}{lab lab':aV→Int}{R R':List WO}(hV:gI (TO F))(h:aeV n (iE (TO F)) (pY (TO F) B true) lab R)(h':aeV n' (iE (TO F)) (pY (TO F) B false) lab' R'):(R.length:Int)=R'.length:=
 aH0 h h' λe e'=>by
  have t:=aK4 hV (A:=BE (TO F).vs e) (B:=B) (C:=C3 (TO F).vs e) (A':=BE (TO F).vs e') (B':=B) (C':=C3 (TO F).vs e');unfold pY;rw[t];constructor;intro q;rw[(Prod.mk.inj q).1];intro q;rw[(Prod.mk.inj q).1]
theorem aLb{F:Fl}{B:List Int}{n n':Int}{lab lab':aV→Int}{R R':List WO}(h:aeV n (iE (TO F)) (pY (TO F) B false) lab R)(h':aeV n' (iE F) (pY F B false) lab' R'):(R.length:Int)=R'.length:=by
 have e:pY (TO F) B false=pY F B false:=funext λe=>by
  unfold pY;rw[aK8];rfl
 rw[e]at h;exact aH0 h h' λ_ _=>Iff.rfl
theorem aKX:∀f x:Nat,2^Lib.bitLenAux f x≤(x+1)*(x+1)
 |0,x=>by
  have:=Nat.mul_le_mul (show 1≤x+1 by omega) (show 1≤x+1 by omega);simpa[Lib.bitLenAux]using this
 |f+1,x=>by
  unfold Lib.bitLenAux;split;grind;have h:=aKX f (x/2);have m:=Nat.mul_le_mul (show 2*(x/2)+1≤x+1 by omega) (show 2*(x/2)+1≤x+1 by omega);rw[Nat.add_comm,qE];by_cases e:x/2=0;grind;generalize x/2=y at*;have q:=Nat.mul_le_mul (show 1≤y by omega) (show 1≤y by omega);grind
theorem aHz{vs:List Vr}{k:Int}(hV:dO vs):∀c:Nat,c≤(dZ vs k).length→((2^(gN vs ((dC vs k).take c)).toNat:Nat):Int)≤pB ((dZ vs k).take c)*pB ((dZ vs k).take c)
 |0,_=>by
  show((2^(0:Int).toNat:Nat):Int)≤1*1;decide
 |c+1,h=>by
  have ih:=aHz hV (k:=k) c aB;have hl:(dC vs k).length=(dZ vs k).length:=iU;have b:=sQ (vs:=vs) (l:=dC vs k) (c:=(c:Int)) aB aB;have p:=ET (l:=dZ vs k) (i:=(c:Int)) aB aB;have e:=DT (vs:=vs) (k:=k) (c:=(c:Int)) aB aB;rw[show((c:Int)+1).toNat=c+1 by omega,iD]at b p;have hm:=hV.fl k _ (pA (l:=dZ vs k) (i:=(c:Int)) aB aB);have nb:=(sD (vs:=vs) ((dC vs k).take c)).1;have nv:=xH vs (gi (dC vs k) c);have q:=aKX 64 ((vr (dZ vs k) c).hi-(vr (dZ vs k) c).lo).toNat;have ev':(gD vs (gi (dC vs k) c)).toNat=Lib.bitLenAux 64 ((vr (dZ vs k) c).hi-(vr (dZ vs k) c).lo).toNat:=by unfold gD Lib.bitLen;rw[e];omega
  rw[b,show(gN vs ((dC vs k).take c)+gD vs (gi (dC vs k) c)).toNat=(gN vs ((dC vs k).take c)).toNat+(gD vs (gi (dC vs k) c)).toNat by omega,Nat.pow_add,p,ev',Int.natCast_mul];generalize hs:((vr (dZ vs k) c).hi-(vr (dZ vs k) c).lo).toNat=x at*;have hx:(vr (dZ vs k) c).hi-(vr (dZ vs k) c).lo+1=(x:Int)+1:=aB;rw[hx];have q2:((2^Lib.bitLenAux 64 x:Nat):Int)≤((x:Int)+1)*((x:Int)+1):=by exact_mod_cast q
  have r:=Int.mul_le_mul ih q2 (Int.natCast_nonneg _) (by have:=ak5 (l:=dZ vs k) (λv h=>(hV.fl k v h).1) c;exact oN aB aB);grind
theorem aHL{vs:List Vr}{k m:Int}{n:Nat}(hV:dO vs)(hs:jR vs k≤m)(hm:m*m≤2^n):gN vs (dC vs k)≤n:=by
 have h:=aHz hV (k:=k) (dZ vs k).length (cV _);rw[List.take_length,lJ (by rw[iU];exact cV _),←zC]at h;have h1:1≤jR vs k:=by rw[zC];exact SE λv q=>(hV.fl k v q).1
 have h2:=Int.mul_le_mul hs hs aB aB;have h3:((2^(gN vs (dC vs k)).toNat:Nat):Int)≤((2^n:Nat):Int):=by grind
 have h4:=(Nat.pow_le_pow_iff_right (show 1<2 by omega)).1 (Int.ofNat_le.1 h3);omega
theorem aLV{vs:List Vr}(hV:dO vs)(h1:jR vs 1≤16)(h3:jR vs 3≤4):iW vs≤12:=by
 have a:=aHL (n:=8) hV h1 j_;have b:=aHL (n:=4) hV h3 j_;show gN vs (dC vs 1++dC vs 3)≤12;rw[ayL];omega
theorem aLg{L:List Vr}{Z:List Int}{i e:Int}(hz:Z.length=i.toNat)(h0:0≤i)(h:∀x:Int,0≤x→x<i→(vr L x).lo≤gi Z x∧gi Z x≤(vr L x).hi)(he:(vr L i).lo≤e∧e≤(vr L i).hi):∀x:Int,0≤x→x<i+1→(vr L x).lo≤gi (Z++ [e]) x∧gi (Z++ [e]) x≤(vr L x).hi:=λx a b=>by
 grind
theorem aLh{L:List Vr}{i:Int}(h:∀v∈L,v.lo≤v.hi)(h0:0≤i)(h1:i<L.length):pB (L.drop i.toNat)/((vr L i).hi-(vr L i).lo+1)=pB (L.drop (i+1).toNat)∧1≤pB (L.drop i.toNat)∧1≤pB (L.drop (i+1).toNat):=by
 have p:∀n:Nat,1≤pB (L.drop n):=λn=>SE λv q=>h v (List.mem_of_mem_drop q);have e:pB (L.drop i.toNat)=((vr L i).hi-(vr L i).lo+1)*pB (L.drop (i+1).toNat):=by rw[JE h0 h1];rfl
 grind[Int.mul_ediv_cancel_left]
theorem aMn{L:List Vr}(h:∀v∈L,v.lo≤v.hi)(n:Nat):pB (L.drop n)≤pB L:=by
 have a:=ayP (L.take n) (L.drop n);rw[GP]at a;have b:1≤pB (L.take n):=SE λv q=>h v (List.mem_of_mem_take q);have c:1≤pB (L.drop n):=SE λv q=>h v (List.mem_of_mem_drop q);have:=aa0 b (show 0≤pB (L.drop n) by omega);omega
section
variable {n:Int} {vd:aV→Bool} {ob:aV→Ob} {lab:aV→Int} {R:List WO}
theorem aMp(h:aeV n vd ob lab R){e:aV}(he:vd e=true)(hc:∀e',ob e'=ob e):(R.length:Int)=1:=by
 have a:=h.at_ e he;have b:=atT R.length 1 (λ_=>0) (λ_ _=>aB) λi j hi hj _=>by
  obtain⟨x,_,p⟩:=h.src _ (D6 (T:=R) (i:=i) aB aB);obtain⟨y,_,q⟩:=h.src _ (D6 (T:=R) (i:=j) aB aB);exact aHF h hi hj (by rw[p,q,hc,hc y])
 omega
theorem aMz(h:aeV n vd ob lab R){e f:aV}(he:vd e=true)(hf:vd f=true)(hne:ob e≠ob f)(hc:∀e',ob e'=ob e∨ob e'=ob f):(R.length:Int)=2:=by
 have a:=h.at_ e he;have b:=h.at_ f hf;have ne:lab e≠lab f:=λq=>hne (by rw[←a.2.2,←b.2.2,q]);have c:=atT R.length 2 (λi=>if(wo R i).2=ob e then 0 else 1) (λ_ _=>by show(if _ then 0 else 1)<2;split<;>omega) λi j hi hj q=>by
  have q:(if(wo R i).2=ob e then 0 else 1)=(if(wo R j).2=ob e then 0 else 1):=q;obtain⟨x,_,p⟩:=h.src _ (D6 (T:=R) (i:=i) aB aB);obtain⟨y,_,r⟩:=h.src _ (D6 (T:=R) (i:=j) aB aB);have p':=hc x;have r':=hc y;rw[←p]at p';rw[←r]at r';refine aHF h hi hj ?_;by_cases z:(wo R i).2=ob e;grind;grind
 omega
end
def wF2:St:=.mk 2 3 0 0 tm0 [] [] []
def sF2:St:=.mk 3 0 0 0 tF1 [wF2] [] []
def sG2:St:=.mk 3 0 0 0 tF1 [wF2] [wF2] []
def Fv2:Fl:=⟨[vF1],[],[sF2]⟩
theorem aL8:TO Fv2=⟨[vF1],[],[sG2]⟩:=rfl
theorem aL6{vs:List Vr}(h:vs=[vF1]):lO vs false tF1∧oI vs tF1:=by
 subst h;refine⟨⟨?_,?_,trivial⟩,trivial,?_⟩;unfold kF jI;decide;unfold H0;decide;unfold OL;decide
theorem aIh{F:Fl}:fJ F False [wF2]:=by
 refine⟨⟨⟨(aeN rfl).2 ⟨⟨⟨⟨⟨rfl,rfl⟩,rfl⟩,rfl⟩,rfl⟩,⟨rfl,rfl⟩,rfl⟩,?_,?_,aBv aB aB⟩,trivial,trivial⟩,trivial⟩;unfold mT LQ;decide;unfold oZ;decide
theorem aKU{F:Fl}{e:List St}(hF:F.vs=[vF1])(he:fJ F False e):fJ F True [.mk 3 0 0 0 tF1 [wF2] e []]:=by
 refine⟨⟨⟨(auF rfl).2 ⟨⟨rfl,rfl⟩,rfl⟩,?_,?_,aL6 hF⟩,aIh,he⟩,trivial⟩;show¬((((0:Int)<0∨(if(3:Int)=2 then(67108864:Int)else 10000)<0)∨(0:Int)<0)∨((3:Int)=4∧(4096:Int)<0));decide;exact λz=>bM z.1 (by show¬(0:Int)<((0:Nat):Int);omega)
theorem aKS{e:List St}(he:C1 e):C1 [.mk 3 0 0 0 tF1 [wF2] e []]:=⟨⟨j_,⟨⟨j_,trivial,trivial⟩,trivial⟩,he⟩,trivial⟩
theorem avX:gI Fv2:=⟨⟨j_,λi a b=>bM b F_,j_,j_,aKS trivial⟩,aFj,λi a b=>bM b F_,aKU rfl trivial,j_,j_,j_⟩
theorem aD5:gI (TO Fv2):=by
 rw[aL8];exact⟨⟨j_,λi a b=>bM b F_,j_,j_,aKS ⟨⟨j_,trivial,trivial⟩,trivial⟩⟩,aFj,λi a b=>bM b F_,aKU rfl aIh,j_,j_,j_⟩
theorem aK5{V:HV}{b1 b2 b3:Nat}(h1:Cells V b1 [.string ⟨#[120]⟩,.int .i64 1,.int .i64 0,.int .i64 1,.int .i64 0])(h2:Cells V b2 [.int .i64 2,.int .i64 3,.int .i64 0,.int .i64 0,.int .i64 0,.int .i64 0,t9,t9,t9,t9])
  (h3:Cells V b3 [.int .i64 3,.int .i64 0,.int .i64 0,.int .i64 0,.int .i64 24,.int .i64 0,t9,.slice (some ⟨b2,0,none⟩) 1 1,t9,t9]):fV V (.slice (some ⟨b1,0,none⟩) 1 1) t9 (.slice (some ⟨b3,0,none⟩) 1 1) Fv2 where
 v:=mP h1 rfl (cV _) aB
 h:=⟨[],aR.nil,λi a b=>bM b F_⟩
 b:=awX (p:=(sF2,⟨t9,.slice (some ⟨b2,0,none⟩) 1 1,t9,t9⟩)) h3 ⟨aHO,awX (p:=(wF2,⟨t9,t9,t9,t9⟩)) h2 ⟨aHO,avN,avN,aT.nil⟩ (cV _) j_,avN,aT.nil⟩ (cV _) j_
theorem aHX(e:aV):BE [vF1] e=[if e 0=true then 1 else 0]∧C3 [vF1] e=[]:=by
 refine⟨?_,rfl⟩;show [vS F1.vs e ((0:Nat):Int)]=_;rw[show((0:Nat):Int)=0 from rfl,aGt]
theorem alW(e:aV):pY Fv2 [] true e=([],if e 0=true then 3 else 0):=by
 unfold pY;rw[show Fv2.vs=[vF1]from rfl,(aHX e).1,(aHX e).2];by_cases h:e 0=true;rw[aK h,aK h];rfl;rw[aC h,aC h];rfl
theorem aKT(e:aV):pY (TO Fv2) [] true e=([],3):=by
 unfold pY;rw[show(TO Fv2).vs=[vF1]from rfl,(aHX e).1,(aHX e).2];by_cases h:e 0=true;rw[aK h];rfl;rw[aC h];rfl
theorem aLi{n:Int}{lab:aV→Int}{R:List WO}(h:aeV n (iE Fv2) (pY Fv2 [] true) lab R):(R.length:Int)=2:=
 aMz h (e:=λ_=>true) (f:=λ_=>false) (awH _) (awH _) (by rw[alW,alW];decide) λe=>by
  grind[alW]
theorem aMd{n:Int}{lab:aV→Int}{R:List WO}(h:aeV n (iE (TO Fv2)) (pY (TO Fv2) [] true) lab R):(R.length:Int)=1:=
 aMp h (e:=λ_=>true) (awH _) λe=>by rw[aKT,aKT]
theorem aj2{V:HV}{va ha ba:Value}{F:Fl}(hF:fV V va ha ba F){pv:Value}{B:List Int}{tm:Bool}{n:Int}(hn:n=iW F.vs)(N:Nb n)(hVa:gI F)(hP:aT .i64 V pv B)(hlB:B.length=(dZ F.vs 2).length)(hrB:bF (dZ F.vs 2) B):
  aP Tryz.prog 10 [.agg #[va,ha,ba],.agg #[pv,.bool (decide (tm=true))]] V [] (λv V' σ'=>σ'=[]∧∃(R:List WO) (lab:aV→Int),v= .tuple #[.int .i64 R.length,.int .i64 0]∧aeV n (iE F) (pY F B tm) lab R):=by
 refine bI Tryz.func10 ?_;intro w0 D;refine aD ?_;refine bH λb1=> ?_;refine bH λb2=> ?_;refine aS ?_;refine aZ [] (akY (tm:=tm) hF hn N hVa hP hlB hrB) ?_;rintro _ _ _ _ ⟨rfl,sv,l9,m9,R,lab,rfl,h9,hObs,hRO⟩;refine aI ?_;refine aQ λb3=> ?_;refine dM rfl rfl (aU (aR.one hObs.sl) (iO rfl h9.mt.l h9.mt.n rfl)) ?_;refine aN ?_;refine oq (e_ hObs.sl) ?_;refine aJ ?_;refine sF ?_;exact⟨rfl,R,lab,rfl,hRO⟩
theorem aH8{V:HV}{va:Value}{vs:List Vr}{k:Int}(hv:k5 V va vs)(h64:vs.length≤64)(hV:dO vs)(hk0:k=0∨k=1∨k=2∨k=3)(hs:jR vs k≤4096){r:Int}(hr0:0≤r)(hr1:r<jR vs k):
  aP Tryz.prog 9 [va,vi k,vi r] V [] (λv V' σ'=>σ'=[]∧∃(u:Value) (Z:List Int),v= .tuple #[u,.int .i64 0]∧aT .i64 V' u Z∧Z.length=(dZ vs k).length∧bF (dZ vs k) Z):=by
 refine bI Tryz.func9 ?_;intro w0 D;have hs0:=hs;have hb:=aR.bound hv;have hfl:=hV.fl k;have hpp:=ak5 (l:=dZ vs k) (λv q=>(hfl v q).1);rw[zC]at hs;have hln:=WA (vs:=vs) (k:=k);refine eW ?_;refine oq (cM (ap6 hv h64 hV hk0 hs0)) ?_;refine dI ?_;refine aG ?_ ?_<;>intro c1;omega;refine aS ?_;by_cases g1:r<0;omega;refine aF ?_;refine aG ?_ ?_<;>intro c2;omega;refine aF ?_;refine aZ [] (aFs hv h64) λr1 V1 sg1 hV1 hp1=> ?_;obtain⟨rfl,hL⟩:=hp1;obtain⟨lq,hlq⟩:∃x,x=r1:=⟨_,rfl⟩;subst hlq;refine aJ ?_;refine cQ 0 1 [] (λb1=> ?_);refine tD (k:=0) (b:=b1) (n:=0) (cap:=0) (cs:= #[]) 1 [] rfl rfl (cV _) (kE _) rfl rfl ?_;refine b_ ?_;refine lp3 [0,1,2,6,7,9,10,21,29] (λ(i:Int) (u:Value) (Z:List Int)=> [(8,(.int .i64 (pB ((dZ vs k).drop (i).toNat)))),(11,u),(12,(vi i))]) (λi u Z=> [Gr 3 1 u Z.length (Z.map (Value.int .i64))]) (λi u Z=>0≤i∧i≤(dZ vs k).length∧Z.length=i.toNat∧∀x:Int,0≤x→x<i→(vr (dZ vs k) x).lo≤gi Z x∧gi Z x≤(vr (dZ vs k) x).hi) (λi u Z=>((dZ vs k).length-i).toNat) 0 (.slice (some ⟨b1,0,none⟩) 0 0) ([]) ?_ ?_ ?_ ?_;exact⟨aL (by rw[zC];rfl),(by first|rfl|(rfl)),rfl,trivial⟩
 (rfl)
 exact⟨aB,aB,rfl,λx a b=>aB⟩;rintro i u Z e1 ⟨i1,i2,hz,hin⟩;refine aF ?_;refine oq (e_ hL) ?_;refine aD ?_;refine aG ?_ ?_<;>intro c3;refine aJ ?_;have hm:=hfl _ (pA (l:=(dZ vs k)) i1 a_);obtain⟨hm1,hm2,hm3⟩:=hm;have hpn:=aLh (L:=(dZ vs k)) (λv q=>(hfl v q).1) i1 a_;have hp4:=aMn (L:=(dZ vs k)) (λv q=>(hfl v q).1) i.toNat;have hrn:=Int.ediv_nonneg hr0 (show 0≤pB ((dZ vs k).drop (i).toNat)/((vr (dZ vs k) i).hi-(vr (dZ vs k) i).lo+1) by omega);have hm4:=Int.emod_nonneg (r/(pB ((dZ vs k).drop (i).toNat)/((vr (dZ vs k) i).hi-(vr (dZ vs k) i).lo+1))) (show((vr (dZ vs k) i).hi-(vr (dZ vs k) i).lo+1)≠0 by omega);have hm5:=Int.emod_lt_of_pos (r/(pB ((dZ vs k).drop (i).toNat)/((vr (dZ vs k) i).hi-(vr (dZ vs k) i).lo+1))) (show 0<((vr (dZ vs k) i).hi-(vr (dZ vs k) i).lo+1) by omega);refine aI ?_;refine atQ ?_;refine av5 ?_;refine b_ ?_;refine oq (D4 rfl rfl a_ a_) ?_;refine aD ?_;refine oL [qt 0,qt 1,qt 2,qt 3,qt 4,qt 5,qt 6,qt 7,qt 8,qt 9,qt 10,qt 11,ld 12,ld 13,qt 14] [1] ?_;refine aI ?_;refine rq rfl (cH hL) ?_;refine rq rfl (fC hL) ?_;refine rq rfl (d_ PL.out rfl hL a_ a_ a_ (gU (o:=2) a_ a_ a_ rfl)) ?_;refine aD ?_;refine rq rfl (D4 rfl rfl a_ a_) ?_;refine aH ?_;refine rq rfl (aC3 rfl rfl a_ a_) ?_;refine yQ ?_;refine cQ 1 1 [.int .i64 (((vr (dZ vs k) i).lo)+((r/((pB ((dZ vs k).drop (i).toNat))/((((vr (dZ vs k) i).hi)-((vr (dZ vs k) i).lo))+1)))%((((vr (dZ vs k) i).hi)-((vr (dZ vs k) i).lo))+1)))] (λb2=> ?_);refine gW [1] dL ?_;refine cW ?_;refine dV rfl rfl rfl fW a_ eZ λv1 hn1=> ?_;refine gW [1] dL ?_;refine aD ?_;refine dP 1 ?_;refine aF ?_;exact le3 (i+1) v1 (Z++ [(vr (dZ vs k) i).lo+(r/(pB ((dZ vs k).drop (i).toNat)/((vr (dZ vs k) i).hi-(vr (dZ vs k) i).lo+1)))%((vr (dZ vs k) i).hi-(vr (dZ vs k) i).lo+1)]) ⟨aL (by exact hpn.1),rfl,aL dB,trivial⟩ ⟨aB,aB,by simp;omega,aLg hz i1 hin a_⟩ (hr:=by rw[dD,f_];rfl);refine b_ ?_;refine pV 0 λVf1 hVf1 hc1=> ?_;refine aH ?_;refine T8 ?_;exact⟨rfl,u,Z,rfl,hc1,aB,λx a b=>hin x a a_⟩
abbrev aL4:=[Value.string (⟨#[120]⟩:ByteArray),vi 1,vi 0,vi 1,vi 0]
abbrev aMe:=[vi 2,vi 3,vi 0,vi 0,vi 0,vi 0,vn,vn,vn,vn]
abbrev aL3:=λb2=>[vi 3,vi 0,vi 0,vi 0,vi 24,vi 0,vn,Value.slice (some ⟨b2,0,none⟩) 1 1,vn,vn]
theorem aMv{V:HV}:
  aP Tryz.prog 5 [] V [] (λv _ _=>v=(Value.bool true)):=by
 refine bI Tryz.func5 ?_;intro w0 D;refine aN ?_;refine oq (bL (out:=aL4) BI.out [(0,[Value.string (⟨#[120]⟩:ByteArray)]),(1,[Value.int .i64 1]),(3,[Value.int .i64 1])] rfl rfl) ?_;refine cQ 1 5 aL4 (λb1=> ?_);refine oq (bL (out:=[Value.int .i64 24,Value.int .i64 0,Value.slice none 0 0]) BI.out [(0,[Value.int .i64 24])] rfl rfl) ?_;refine oq (bL (out:=aMe) BI.out [(0,[Value.int .i64 2]),(1,[Value.int .i64 3])] rfl rfl) ?_;refine cQ 1 10 aMe (λb2=> ?_);refine oq (bL (out:=(aL3 b2)) BI.out [(0,[Value.int .i64 3]),(4,[Value.int .i64 24,Value.int .i64 0,Value.slice none 0 0]),(5,[.slice (some ⟨b2,0,none⟩) 1 1])] rfl rfl) ?_;refine cQ 1 10 (aL3 b2) (λb3=> ?_);refine oq (bL (out:=[.slice (some ⟨b1,0,none⟩) 1 1,Value.slice none 0 0,.slice (some ⟨b3,0,none⟩) 1 1]) BI.out [(0,[.slice (some ⟨b1,0,none⟩) 1 1]),(2,[.slice (some ⟨b3,0,none⟩) 1 1])] rfl rfl) ?_;refine aQ λb4=> ?_;refine aI ?_;refine c_ 0 λVf1 hVf1 hc1=> ?_;refine c_ 0 λVf2 hVf2 hc2=> ?_;have hc1:=hc1.mono hVf2;refine c_ 0 λVf3 hVf3 hc3=> ?_;have hc1:=hc1.mono hVf3;have hc2:=hc2.mono hVf3;refine aH ?_;have hF:=aK5 hc1 hc2 hc3;refine aH ?_;refine oq (bL (out:=[Value.slice none 0 0,Value.bool true]) BI.out [(1,[Value.bool true])] rfl rfl) ?_;refine aZ [] (aj2 (F:=Fv2) (B:=[]) (tm:=true) (n:=1) hF aFI.symm ⟨aB,aB⟩ avX aT.nil rfl (λi a b=>bM b F_)) ?_;rintro _ _ _ hV1 ⟨rfl,R,lR,rfl,hR⟩;have qR:=aLi hR;have hF:=hF.mono hV1;refine eW ?_;refine aZ [] (aKu hF avX (c:=0) (λV va ha ba h=>rL h aD5)) ?_;rintro _ _ _ _ ⟨rfl,x1,x2,x3,rfl,h3⟩;refine aI ?_;refine aQ λb5=> ?_;refine dM rfl rfl (aU h3.a (aU h3.b (aU h3.d rfl))) ?_;refine aJ ?_;have hG:=h3.f rfl;refine aH ?_;refine oq (bL (out:=[Value.slice none 0 0,Value.bool true]) BI.out [(1,[Value.bool true])] rfl rfl) ?_;refine aZ [] (aj2 (F:=(TO Fv2)) (B:=[]) (tm:=true) (n:=1) hG aFI.symm ⟨aB,aB⟩ aD5 aT.nil rfl (λi a b=>bM b F_)) ?_;rintro _ _ _ _ ⟨rfl,T,lT,rfl,hT⟩;have qT:=aMd hT;refine iJ ?_;by_cases g1:(0:Int)=0;refine aJ ?_;by_cases g2:(R.length:Int)=2;refine aJ ?_;by_cases g3:(if(0:Int)=0 then 0 else 4)=0;refine dS ?_;exact aW (T6 a_);exact bM rfl g3;exact bM aO g2;exact bM rfl g1
theorem aIa{V:HV}{va ha ba:Value}{F:Fl}(hF:fV V va ha ba F)(hn:∀v∈F.vs,v.nm.size≤9223372036854775807)(hn2:∀i:Int,0≤i→i<F.hs.length→(ht F.hs i).nm.size≤9223372036854775807):
  aP Tryz.prog 3 [.agg #[va,ha,ba]] V [] (λv _ _=>v=(Value.bool true)):=by
 refine bI Tryz.func3 ?_;intro w0 D;refine aD ?_;refine bH λb1=> ?_;refine aF ?_;refine oq (cM aMv) ?_;refine b_ ?_;refine oq (cM (aGi hF hn hn2)) ?_;refine aD ?_;refine aG ?_ ?_<;>intro c1;refine aF ?_;exact aW rfl;refine aD ?_;have hft:afH F 16 4 4:=nC.1 c1;have hVa:=Y5 hft.2.1;have h64:F.vs.length≤64:=by have:=hVa.sz.1;omega
 have hb12:=aLV hVa.vs hft.2.2.1 hft.2.2.2.2.1;have hwk:=aMk hVa (aAJ hft.1 a_).2.2;have hs2:=hVa.vs.s2;refine aD ?_;refine aZ [] (aKu hF hVa (c:=wkC (TO F)) (λV va ha ba h=>aBy h hwk)) ?_;rintro _ _ _ hV1 ⟨rfl,x1,x2,x3,rfl,h3⟩;have hF:=hF.mono hV1;refine aI ?_;refine aQ λb2=> ?_;refine dM rfl rfl (aU h3.a (aU h3.b (aU h3.d rfl))) ?_;refine b_ ?_;refine aG ?_ ?_<;>intro c2;refine aS ?_;exact aW (T6 (by split at* <;>simp_all));refine aD ?_;have hw0:wkC (TO F)=0:=kB λz=>by simp_all
 have hVg:=aMy hwk hw0;have hG:=h3.f hw0;refine aI ?_;refine oq (cM (ap6 hF.v h64 hVa.vs a_ hs2)) ?_;refine nA ?_;refine oH [0,1,3,4,5,17,20,27,36] (λ(i:Int)=> [(37,(vi i))]) (λi=> [aM 26 b1 [va,ha,ba],aM 26 b2 [x1,x2,x3]]) (λi V'=>fV V' va ha ba F∧fV V' x1 x2 x3 (TO F)∧0≤i∧i≤jR F.vs 2) (λi=>(jR F.vs 2-i).toNat) 0 ?_ ?_ ?_ ?_;exact⟨rfl,trivial⟩;rfl;exact⟨hF,hG,aB,by have:=abL (k:=2) (λv q=>(hVa.vs.ord v q).1);omega⟩;rintro i e1 V0l ⟨hF,hG,i1,i2⟩;refine aF ?_;refine aG ?_ ?_<;>intro c3;refine nA ?_;refine aZ [] (aH8 (k:=2) (r:=i) hF.v h64 hVa.vs a_ hs2 i1 a_) ?_;rintro _ _ _ hV2 ⟨rfl,pv,B,rfl,hP,hlB,hrB⟩;have hF:=hF.mono hV2;have hG:=hG.mono hV2;refine dS ?_;refine oq (bL (out:=[pv,Value.bool true]) BI.out [(0,[pv]),(1,[Value.bool true])] (by show [(0,Value.cells pv),(1,Value.cells (Value.bool true))]=_;rw[Sl.cells hP];try rfl) rfl) ?_;refine aZ [] (aj2 (F:=(TO F)) (B:=B) (tm:=true) (n:=iW F.vs) hG rfl ⟨HS _,hb12⟩ hVg hP hlB hrB) ?_;rintro _ _ _ hV3 ⟨rfl,R1,lR1,rfl,hR1⟩;have hF:=hF.mono hV3;have hG:=hG.mono hV3;have hP:=hP.mono hV3;refine dS ?_;refine oq (bL (out:=[pv,Value.bool false]) BI.out [(0,[pv])] (by show [(0,Value.cells pv)]=_;rw[Sl.cells hP];try rfl) rfl) ?_;refine aZ [] (aj2 (F:=(TO F)) (B:=B) (tm:=false) (n:=iW F.vs) hG rfl ⟨HS _,hb12⟩ hVg hP hlB hrB) ?_;rintro _ _ _ hV4 ⟨rfl,R2,lR2,rfl,hR2⟩;have hF:=hF.mono hV4;have hG:=hG.mono hV4;have hP:=hP.mono hV4;refine dS ?_;refine oq (bL (out:=[pv,Value.bool false]) BI.out [(0,[pv])] (by show [(0,Value.cells pv)]=_;rw[Sl.cells hP];try rfl) rfl) ?_;refine aZ [] (aj2 (F:=F) (B:=B) (tm:=false) (n:=iW F.vs) hF rfl ⟨HS _,hb12⟩ hVa hP hlB hrB) ?_;rintro _ _ _ hV5 ⟨rfl,R3,lR3,rfl,hR3⟩;have hF:=hF.mono hV5;have hG:=hG.mono hV5;refine iJ ?_;by_cases g1:(0:Int)≠0;omega;refine nA ?_;by_cases g2:(R1.length:Int)≠(R2.length:Int);exact bM (aLc hVg hR1 hR2) g2;refine aF ?_;refine aG ?_ ?_<;>intro c4;exact bM (aLb hR2 hR3) c4;refine aF ?_;exact lw1 (i+1) ⟨aL a_,trivial⟩ ⟨hF,hG,aB,aB⟩;refine aS ?_;exact aW rfl
end Go.Proofs.YtbchkopkgpfkgaaGreat
end
