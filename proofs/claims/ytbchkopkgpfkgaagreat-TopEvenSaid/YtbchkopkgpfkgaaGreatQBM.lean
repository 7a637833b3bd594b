import Derived.Test.YtbchkopkgpfkgaaGreatQBC
import Derived.Test.YtbchkopkgpfkgaaGreatQBK
import Derived.Test.YtbchkopkgpfkgaaGreatQBD
set_option linter.unusedVariables false
set_option maxRecDepth 100000
set_option maxHeartbeats 4000000
noncomputable section
namespace Go.Proofs.YtbchkopkgpfkgaaGreat
open Classical Go Go.Vc
structure mO (n:Int) (S:List Dd.P2) (f g:aV→Int):Prop where
 at_:∀e,0≤Dd.iF S (f e) (g e)∧Dd.iF S (f e) (g e)<S.length∧Dd.p2 S (Dd.iF S (f e) (g e))=⟨f e,g e⟩
 hit:∀i:Int,0≤i→i<S.length→∃e,Dd.p2 S i=⟨f e,g e⟩
 len:S.length≤4096
def qS(S:List Dd.P2)(f g:aV→Int):aV→Int:=λe=>Dd.iF S (f e) (g e)
theorem aDf{n:Int}(N:Nb n){f g:aV→Int}(hf:Fd n f)(hg:Fd n g){S:List Dd.P2}(h:Dd.HD (Dg n f) (Dg n g) S):
  mO n S f g∧Fd n (qS S f g)∧Dd.T3 (Dg n f) (Dg n g) S=Dg n (qS S f g):=by
 have hk:=CG N hf;have hk2:=CG N hg;have at_:∀e,0≤Dd.iF S (f e) (g e)∧Dd.iF S (f e) (g e)<S.length∧Dd.p2 S (Dd.iF S (f e) (g e))=⟨f e,g e⟩:=λe=>by
  have:=Dd.alB h e;rw[rA N hf,rA N hg]at this;exact⟨this.1.1,this.1.2,this.2⟩
 have hl:S.length≤4096:=by
  have a:=Dd.X5 hk hk2 rfl h;have b:2^(Dg n f).v.toNat≤2^12:=oB aB (by have:=N.n12;show n.toNat≤12;omega);have c:(2:Nat)^12=4096:=j_;omega
 have dp:Dd.dR n (qS S f g):=λe e' he=>by show Dd.iF S (f e) (g e)=Dd.iF S (f e') (g e');rw[hf.dp e e' he,hg.dp e e' he]
 refine⟨⟨at_,λi a b=> ?_,hl⟩,⟨λe=>by have:=at_ e;unfold qS Dd.bF;omega,dp⟩,?_⟩;obtain⟨e,he⟩:=(h.mem (Dd.p2 S i)).1 (Dd.XC a b);rw[rA N hf,rA N hg]at he;exact⟨e,he⟩;rw[(Dd.aFR hk hk2 rfl N.n12 h).2];show Dd.dg n (Dd.dH n λe=>Dd.iF S (Dd.vl (Dg n f) e) (Dd.vl (Dg n g) e))=Dd.dg n (Dd.dH n (qS S f g));congr 2;funext e;rw[rA N hf,rA N hg];rfl
def obP(σ:aV→Mc)(i:Nat)(e:aV):Ob:=((σ e).outs.take i,(σ e).time)
structure ST (σ:aV→Mc) (i:Nat) (al:aV→Int) (T:List WO) (K:List Int):Prop where
 at_:∀e,0≤al e∧al e<T.length∧(wo T (al e)).2=obP σ i e∧gi K (al e)=dJ σ e
 lk:K.length=T.length
 len:T.length≤4096
section
variable {n:Int} {σ:aV→Mc} {S:List Dd.P2} {T:List WO} {K:List Int} {al:aV→Int} {i:Nat}
def H1(S:List Dd.P2)(j:Nat):List WO:=(S.take j).map λp=>(.slice none 0 0,([],p.b))
def TW(S:List Dd.P2)(j:Nat):List Int:=(S.take j).map λp=>p.a
theorem aFf{j:Int}(h0:0≤j)(h1:j<S.length):H1 S (j+1).toNat=H1 S j.toNat++ [(.slice none 0 0,([],(Dd.p2 S j).b))]:=by
 unfold H1;rw[show(j+1).toNat=j.toNat+1 by omega,t7,dT aB,f_,Dd.P_ h0 h1];rfl
theorem aHp{j:Int}(h0:0≤j)(h1:j<S.length):TW S (j+1).toNat=TW S j.toNat++ [(Dd.p2 S j).a]:=by
 unfold TW;rw[show(j+1).toNat=j.toNat+1 by omega,t7,dT aB,f_,Dd.P_ h0 h1];rfl
theorem aDJ{V:HV}{j:Nat}:mS V (H1 S j):=λp hp=>by
 obtain⟨q,_,rfl⟩:=HW.1 hp;exact⟨none,0,rfl,cV _,kE _,λh=>bM rfl h⟩
theorem aIG(h:mO n S (dJ σ) (dY σ)):ST σ 0 (qS S (dJ σ) (dY σ)) (H1 S S.length) (TW S S.length):=by
 have e1:H1 S S.length=S.map λp=>(.slice none 0 0,([],p.b)):=by unfold H1;rw[List.take_length]
 have e2:TW S S.length=S.map λp=>p.a:=by unfold TW;rw[List.take_length]
 rw[e1,e2];refine⟨λe=> ?_,by rw[fT,fT],by rw[fT];exact h.len⟩;obtain⟨a,b,c⟩:0≤qS S (dJ σ) (dY σ) e∧qS S (dJ σ) (dY σ) e<S.length∧Dd.p2 S (qS S (dJ σ) (dY σ) e)=⟨dJ σ e,dY σ e⟩:=h.at_ e;rw[fT];refine⟨a,b,?_,?_⟩;rw[tU a (by rw[fT];exact b),List.getElem_map,←Dd.P_ a b,c];rfl;have:gi (S.map λp=>p.a) (qS S (dJ σ) (dY σ) e)=(Dd.p2 S (qS S (dJ σ) (dY σ) e)).a:=by
  unfold gi;rw[bX,iZ,dT aB,Dd.P_ a b];rfl
 rw[this,c]
def O4(T:List WO)(K:List Int)(i:Nat)(p:Dd.P2):Ob:=if(i:Int)<gi K p.a then((wo T p.a).2.1++ [p.b],(wo T p.a).2.2)else(wo T p.a).2
structure O7 (S:List Dd.P2) (T:List WO) (K:List Int) (i:Nat) (j:Nat) (T2:List WO) (K2:List Int):Prop where
 l1:T2.length=j
 l2:K2.length=j
 at_:∀x:Int,0≤x→x<j→(wo T2 x).2=O4 T K i (Dd.p2 S x)∧gi K2 x=gi K (Dd.p2 S x).a
theorem O7.nil:O7 S T K i 0 [] []:=⟨rfl,rfl,λx a b=>aB⟩
theorem O7.snoc{j:Int}{T2:List WO}{K2:List Int}{w:Value}{q:Ob}(h:O7 S T K i j.toNat T2 K2)(j0:0≤j)(hq:q=O4 T K i (Dd.p2 S j)):O7 S T K i (j+1).toNat (T2++ [(w,q)]) (K2++ [gi K (Dd.p2 S j).a]):=by
 have h1:=h.l1;have h2:=h.l2;refine⟨by rw[dD,sS];omega,by rw[dD,sS];omega,λx a b=> ?_⟩;by_cases e:x=j;subst e;rw[aJI aB];refine⟨hq,?_⟩;unfold gi;rw[bX,qN aB,show x.toNat-K2.length=0 by omega];rfl;have:=h.at_ x a aB;rw[aJH a aB];refine⟨this.1,?_⟩;rw[←this.2];unfold gi;rw[bX,oR aB,←bX]
theorem anY{l:List Int}{i:Nat}(h:i<l.length):l.take (i+1)=l.take i++ [gi l i]:=by
 have:=mK (d:=(0:Int)) (l:=l) (i:=(i:Int)) aB aB;rw[iD]at this;exact this
theorem aI4{T2:List WO}{K2:List Int}(h:ST σ i al T K)(hp:mO n S al (fI σ i))(hm:O7 S T K i S.length T2 K2):ST σ (i+1) (qS S al (fI σ i)) T2 K2:=by
 refine⟨λe=> ?_,by rw[hm.l1,hm.l2],by rw[hm.l1];exact hp.len⟩;obtain⟨a,b,c⟩:=hp.at_ e;obtain⟨q1,q2,q3,q4⟩:=h.at_ e;obtain⟨m1,m2⟩:=hm.at_ (qS S al (fI σ i) e) a b;have hc:Dd.p2 S (qS S al (fI σ i) e)=⟨al e,fI σ i e⟩:=c;rw[hc]at m1 m2;refine⟨a,by rw[hm.l1];exact b,?_,by rw[m2];exact q4⟩;rw[m1];unfold O4;show(if(i:Int)<gi K (al e)then((wo T (al e)).2.1++ [fI σ i e],(wo T (al e)).2.2)else(wo T (al e)).2)=_;rw[q4,q3];unfold obP dJ;by_cases q:(i:Int)<((σ e).outs.length:Int);rw[aK q,anY aB];rfl;rw[aC q,lJ aB,lJ aB]
theorem aGk(h:ST σ i al T K){f:aV→Int}(hp:mO n S al f){j:Int}(j0:0≤j)(j1:j<S.length):0≤(Dd.p2 S j).a∧(Dd.p2 S j).a<T.length∧((wo T (Dd.p2 S j).a).2.1.length≤i)∧0≤gi K (Dd.p2 S j).a:=by
 obtain⟨e,he⟩:=hp.hit j j0 j1;obtain⟨q1,q2,q3,q4⟩:=h.at_ e;rw[he];refine⟨q1,q2,?_,?_⟩;show(wo T (al e)).2.1.length≤i;rw[q3];unfold obP;rw[jL];omega;show 0≤gi K (al e);rw[q4];exact at1 e
theorem aA6(h:ST σ 8 al T K)(h8:∀e,(σ e).outs.length≤8)(e:aV):0≤al e∧al e<T.length∧(wo T (al e)).2=((σ e).outs,(σ e).time):=by
 obtain⟨q1,q2,q3,_⟩:=h.at_ e;exact⟨q1,q2,by rw[q3];unfold obP;rw[lJ (h8 e)]⟩
end
section
variable {n:Int} {T R:List WO} {al:aV→Int} {vd:aV→Bool} {ob:aV→Ob} {i:Nat}
structure HU (n:Int) (T:List WO) (al:aV→Int) (vd:aV→Bool) (i:Int) (R:List WO):Prop where
 src:∀p∈R,∃k:Int,0≤k∧k<i∧vd (Dd.i9 n k)=true∧p=wo T (al (Dd.i9 n k))
 cov:∀k:Int,0≤k→k<i→vd (Dd.i9 n k)=true→wo T (al (Dd.i9 n k))∈R
 len:(R.length:Int)≤i
theorem HU.nil:HU n T al vd 0 []:=⟨λ_ h=>(by cases h),λk a b=>aB,eL _⟩
theorem HU.yes{i:Int}(h:HU n T al vd i R)(i0:0≤i)(hv:vd (Dd.i9 n i)=true):HU n T al vd (i+1) (R++ [wo T (al (Dd.i9 n i))]):=by
 refine⟨λp hp=> ?_,λk a b c=> ?_,by have:=h.len;rw[dD,sS];omega⟩;rcases jW.1 hp with q|q
 obtain⟨k,a,b,c⟩:=h.src p q;exact⟨k,a,aB,c⟩;exact⟨i,i0,aB,hv,gY.1 q⟩;by_cases e:k=i;subst e;exact jW.2 (.inr (gY.2 rfl));exact jW.2 (.inl (h.cov k a aB c))
theorem HU.no{i:Int}(h:HU n T al vd i R)(hv:¬vd (Dd.i9 n i)=true):HU n T al vd (i+1) R:=
 ⟨λp hp=>by obtain⟨k,a,b,c⟩:=h.src p hp;exact⟨k,a,aB,c⟩,λk a b c=>by
  by_cases e:k=i;subst e;exact bM c hv;exact h.cov k a aB c,by have:=h.len;omega⟩
structure SeF (n:Int) (vd:aV→Bool) (ob:aV→Ob) (R:List WO):Prop where
 ord:R.Pairwise λx y=>oF x.2 y.2
 src:∀p∈R,∃e,vd e=true∧p.2=ob e
 cov:∀k:Int,0≤k→k<2^n.toNat→vd (Dd.i9 n k)=true→∃p∈R,p.2=ob (Dd.i9 n k)
 len:R.length≤4096
theorem aAT{R1 R2 R3:List WO}(N:Nb n)(h:HU n T al vd (2^n.toNat) R1)(hl:∀e,(wo T (al e)).2=ob e)(hp:R2.Perm R1)(ha:ag6 R2)(hc:CoF R2 R3):SeF n vd ob R3:=by
 refine⟨hc.ord ha,λp hq=> ?_,λk a b c=> ?_,?_⟩;obtain⟨k,a,b,c,d⟩:=h.src p (hp.mem_iff.1 (hc.src p hq));exact⟨_,c,by rw[d,hl]⟩;obtain⟨z,hz,q⟩:=hc.cov _ (hp.mem_iff.2 (h.cov k a b c));exact⟨z,hz,by rw[q,hl]⟩;have a:=hc.len;have b:=hp.length_eq;have c:=h.len;have d:=K_ N.n12;omega
def x_(R:List WO)(q:Ob):Int:=if h:∃t:Int,0≤t∧t<R.length∧(wo R t).2=q then h.choose else 0
theorem aEk(R:List WO)(q:Ob):0≤x_ R q∧x_ R q≤R.length:=by
 unfold x_;split;rename_i h;have:=h.choose_spec;omega;omega
theorem X6{q:Ob}(h:∃p∈R,p.2=q):0≤x_ R q∧x_ R q<R.length∧(wo R (x_ R q)).2=q:=by
 obtain⟨p,hp,e⟩:=h;obtain⟨t,a,b,c⟩:=Z8 hp;have h:∃t:Int,0≤t∧t<R.length∧(wo R t).2=q:=⟨t,a,b,by rw[c];exact e⟩;unfold x_;rw[dif_pos h];exact h.choose_spec
theorem zZ(h:R.Pairwise λx y=>oF x.2 y.2){s t:Int}(s0:0≤s)(st:s<t)(t1:t<R.length):oF (wo R s).2 (wo R t).2:=by
 rw[tU s0 aB,tU aB t1];exact AP.1 h s.toNat t.toNat aB aB aB
theorem aGs(h:R.Pairwise λx y=>oF x.2 y.2){q:Ob}{t i:Int}(t0:0≤t)(t1:t<R.length)(e:(wo R t).2=q)(i0:0≤i)(_i1:i≤R.length)(ha:∀k:Int,0≤k→k<i→j9 (wo R k).2 q<0)(hb:∀k:Int,i≤k→k<R.length→¬j9 (wo R k).2 q<0):i=t:=by
 by_cases c:t<i;have:=ha t t0 c;rw[e,AC]at this;omega;by_cases d:i<t;have:=zZ h i0 d t1;unfold oF at this;rw[e]at this;exact bM this (hb i (eL _) aB);omega
theorem aEG(h:R.Pairwise λx y=>oF x.2 y.2){q:Ob}{i:Int}(hq:∃p∈R,p.2=q)(i0:0≤i)(i1:i≤R.length)(ha:∀k:Int,0≤k→k<i→j9 (wo R k).2 q<0)(hb:∀k:Int,i≤k→k<R.length→¬j9 (wo R k).2 q<0):i=x_ R q:=by
 obtain⟨a,b,c⟩:=X6 hq;exact aGs h a b c i0 i1 ha hb
def nE(R:List WO)(vd:aV→Bool)(ob:aV→Ob):aV→Int:=λe=>if vd e=true then x_ R (ob e)else-1
theorem aAZ(hl:R.length≤4096)(hv:Dd.Bd.dR n vd)(ho:Dd.dR n ob):Fd n (nE R vd ob):=
 ⟨λe=>by
  show Dd.bF (if vd e=true then x_ R (ob e)else-1);have:=aEk R (ob e);unfold Dd.bF;split<;>omega,λe e' he=>by
  show(if vd e=true then x_ R (ob e)else-1)=(if vd e'=true then x_ R (ob e')else-1);rw[hv e e' he,ho e e' he]⟩
theorem aDY(N:Nb n)(h:SeF n vd ob R)(hv:Dd.Bd.dR n vd)(ho:Dd.dR n ob){e:aV}(he:vd e=true):0≤nE R vd ob e∧nE R vd ob e<R.length∧(wo R (nE R vd ob e)).2=ob e:=by
 have d:Dd.dR n (λe=>(vd e,ob e)):=λe e' q=>by show(vd e,ob e)=(vd e',ob e');rw[hv e e' q,ho e e' q]
 have hm:(vd e,ob e)∈Dd.dH n (λe=>(vd e,ob e)):=(Dd.jB N.n0 d).2 ⟨e,rfl⟩;rw[Dd.lW N.n0]at hm;obtain⟨k,hk,hq⟩:=HW.1 hm;have hk:=CM.1 hk;have e1:vd (Dd.i9 n k)=vd e:=congrArg Prod.fst hq;have e2:ob (Dd.i9 n k)=ob e:=congrArg Prod.snd hq;have hk2:(k:Int)<2^n.toNat:=by
  have:((2^n.toNat:Nat):Int)=2^n.toNat:=bK;omega
 have:=X6 (h.cov k aB hk2 (by rw[e1];exact he));rw[e2]at this;unfold nE;rw[aK he];exact this
structure SV (R R':List WO):Prop where
 len:R'.length=R.length
 at_:∀j:Int,0≤j→j<R.length→(wo R' j).2=(wo R j).2
theorem SV.refl:SV R R:=⟨rfl,λ_ _ _=>rfl⟩
theorem SV.put{R':List WO}{i:Int}{w:Value}(h:SV R R')(i0:0≤i)(i1:i<R.length):SV R (R'.set i.toNat (w,(wo R' i).2)):=by
 have hl:=h.len;refine⟨by rw[uM];exact hl,λj a b=> ?_⟩;rw[am9 i0 aB a];by_cases e:i=j;subst e;rw[aK rfl];exact h.at_ i a b;rw[aC e];exact h.at_ j a b
structure aeV (n:Int) (vd:aV→Bool) (ob:aV→Ob) (lab:aV→Int) (R:List WO):Prop where
 at_:∀e,vd e=true→0≤lab e∧lab e<R.length∧(wo R (lab e)).2=ob e
 no:∀e,¬vd e=true→lab e= -1
 ord:R.Pairwise λx y=>oF x.2 y.2
 src:∀p∈R,∃e,vd e=true∧p.2=ob e
theorem aGz{R':List WO}(N:Nb n)(h:SeF n vd ob R)(hv:Dd.Bd.dR n vd)(ho:Dd.dR n ob)(hs:SV R R'):aeV n vd ob (nE R vd ob) R':=by
 have hl:=hs.len;refine⟨λe he=> ?_,λe he=>aC he,?_,λp hp=> ?_⟩;obtain⟨a,b,c⟩:=aDY N h hv ho he;exact⟨a,aB,by rw[hs.at_ _ a b];exact c⟩;refine AP.2 λi j hi hj hij=> ?_;have a:=hs.at_ (i:Int) aB aB;have b:=hs.at_ (j:Int) aB aB;have c:=zZ h.ord (s:=(i:Int)) (t:=(j:Int)) aB aB aB;rw[←a,←b,tU aB aB,tU aB aB]at c;exact c;obtain⟨j,a,b,c⟩:=Z8 hp;obtain⟨e,h1,h2⟩:=h.src _ (D6 (T:=R) a aB);exact⟨e,h1,by rw[←c,hs.at_ j a aB];exact h2⟩
end
end Go.Proofs.YtbchkopkgpfkgaaGreat
namespace Go.Proofs.YtbchkopkgpfkgaaGreat
open Classical Go.Vc
variable{R:List WO}{V:HV}{h:Int}{q:Ob}
theorem alD{av bv:Value}{a b:List Int×Int}(ha:aT .i64 V av a.1)(hb:aT .i64 V bv b.1):
  aP Tryz.prog 39 [.agg #[av,.int .i64 a.2],.agg #[bv,.int .i64 b.2]] V [] (λv _ _=>v=(.bool (decide (j9 a b=0)))):=by
 refine bI Tryz.func39 ?_;intro w0 D;refine aD ?_;refine bH λb1=> ?_;refine bH λb2=> ?_;refine aN ?_;refine oq (cM (PE ha hb)) ?_;refine aJ ?_;exact aW (jb dB)
theorem ad6{v:Value}{X:List WO}(hw:mS V X)(hX:X.length≤1000000):
  aP Tryz.prog 38 [v,Value.func (.func 39) #[] #[]] V [Gr 45 2 v X.length (eN X)] (λu V' σ'=>V'=V∧∃R:List WO,CoF X R∧σ'=[Gr 45 2 u R.length (eN R)]):=by
 refine bI Tryz.func38 ?_;intro w0 D;refine b_ ?_;refine oq (nG (k:=0) UL.out rfl rfl) ?_;refine aD ?_;refine aG ?_ ?_<;>intro c1;refine aN ?_;refine zJ ?_;exact⟨rfl,X,ai1 a_,rfl⟩;refine aI ?_;refine aqX (k:=0) a_ rfl (λb cap cs0 hv hcap hmax hcl hct=> ?_);subst hv;obtain⟨rs,rfl⟩:=ajY rfl hct;refine aJ ?_;refine g_ [0,1,10] (λ(k:Int)=> [(5,(vi k))]) (λk=>1≤k∧k≤X.length∧G0 X k (X.take k.toNat)) (λk=>(X.length-k).toNat) 1 ?_ ?_ ?_;exact⟨rfl,Go.i_⟩;exact⟨aB,aB,aGj a_⟩;rintro k e1 ⟨i1,i2,hC⟩;refine aF ?_;refine JK ?_;refine aD ?_;refine aG ?_ ?_<;>intro c2;refine b_ ?_;refine qq (DB (i:=k) (o:=(k).toNat*2) UL.out SZ.out rfl rfl a_ a_ a_) ?_;refine qq (xG (vs:=[(wo X k).1,.int .i64 ((wo X k).2.2)]) AG.out rfl (p_ (k:=0) rfl) (IU a_ a_) rfl) ?_;refine aI ?_;refine qq (DB (i:=k-1) (o:=(k-1).toNat*2) UL.out SZ.out rfl rfl a_ a_ a_) ?_;refine qq (xG (vs:=[(wo X (k-1)).1,.int .i64 ((wo X (k-1)).2.2)]) AG.out rfl (p_ (k:=0) rfl) (IU a_ a_) rfl) ?_;refine qq (eH (alD (a:=(wo X k).2) (b:=(wo X (k-1)).2) (hw.at_ (i:=k) a_ a_) (hw.at_ (i:=k-1) a_ a_)) rfl rfl) ?_;refine aH ?_;refine aG ?_ ?_<;>intro c3;refine aJ ?_;refine oq (KX UL.out SZ.out rfl rfl a_ a_ a_) ?_;refine b_ ?_;refine lp3 [0,1,6,10,15,28] (λ(k2:Int) (kk:Int) (Y:List WO)=> [(5,(vi kk)),(7,(vi k2))]) (λk2 kk Y=> [aM 45 b (eN Y++rs)]) (λk2 kk Y=>1≤k2∧k+k2≤X.length∧k≤kk∧kk≤k+k2-1∧Y.length=X.length∧TT X Y kk (k+k2)) (λk2 kk Y=>(X.length-(k+k2)).toNat) 1 k X ?_ ?_ ?_ ?_;exact⟨rfl,rfl,Go.i_⟩
 (rfl)
 exact⟨aB,aB,aB,aB,rfl,aFH hC a_ (CW.1 c3)⟩;rintro k2 kk Y e2 ⟨i3,i4,i5,i6,hYl,hP⟩;refine aF ?_;refine JK ?_;refine aD ?_;refine aG ?_ ?_<;>intro c4;refine b_ ?_;refine qq (DB (i:=k2) (o:=(k+k2).toNat*2) UL.out SZ.out rfl rfl a_ a_ a_) ?_;refine qq (xG (vs:=[(wo Y (k+k2)).1,.int .i64 ((wo Y (k+k2)).2.2)]) AG.out rfl (p_ (k:=0) rfl) (IU a_ a_) rfl) ?_;refine aI ?_;refine qq (DB (i:=k2-1) (o:=(k+(k2-1)).toNat*2) UL.out SZ.out rfl rfl a_ a_ a_) ?_;refine qq (xG (vs:=[(wo Y (k+(k2-1))).1,.int .i64 ((wo Y (k+(k2-1))).2.2)]) AG.out rfl (p_ (k:=0) rfl) (IU a_ a_) rfl) ?_;refine qq (eH (alD (a:=(wo Y (k+k2)).2) (b:=(wo Y (k+(k2-1))).2) ((hw.sub hP.mem).at_ (i:=k+k2) a_ a_) ((hw.sub hP.mem).at_ (i:=k+(k2-1)) a_ a_)) rfl rfl) ?_;refine aD ?_;refine aG ?_ ?_<;>intro c5;refine aN ?_;refine oq (DB (i:=k2) (o:=(k+k2).toNat*2) UL.out SZ.out rfl rfl a_ a_ a_) ?_;refine oq (xG (vs:=[(wo Y (k+k2)).1,.int .i64 ((wo Y (k+k2)).2.2)]) AG.out rfl (p_ (k:=0) rfl) (IU a_ a_) rfl) ?_;refine oq (DB (i:=kk) (o:=(kk).toNat*2) UL.out SZ.out rfl rfl a_ a_ a_) ?_;refine kX (k:=0) (off:=(kk).toNat*2) (v:=(.agg #[(wo Y (k+k2)).1,.int .i64 ((wo Y (k+k2)).2.2)])) (vs:=[(wo Y (k+k2)).1,.int .i64 ((wo Y (k+k2)).2.2)]) (cs:=(eN Y++rs)) (cs':=(eN (Y.set (kk).toNat (wo Y (k+k2)))++rs)) SZ.out rfl rfl rfl rfl (aU (Sl.one ((hw.sub hP.mem).at_ (i:=k+k2) a_ a_)) (aU rfl rfl)) rfl (aDG a_ a_) (adP (w:=(wo Y (k+k2)).1) (q:=(wo Y (k+k2)).2) a_ a_) ?_;refine iJ ?_;exact le3 (k2+1) (kk+1) (Y.set kk.toNat (wo Y (k+k2))) ⟨aL a_,aL a_,Go.i_⟩ ⟨aB,aB,aB,aB,by rw[uM];exact hYl,by have q:=hP.new a_ a_ a_ a_ (λe=>c5 (CW.2 (by rw[show k+(k2-1)=k+k2-1 by omega];exact e)));rw[show k+k2+1=k+(k2+1) by omega]at q;exact q⟩ (hr:=dB);refine aN ?_;exact le3 (k2+1) kk Y ⟨rfl,aL a_,Go.i_⟩ ⟨aB,aB,aB,aB,hYl,by have q:=hP.keep a_ a_ (by rw[show k+k2-1=k+(k2-1) by omega];exact CW.1 (nC.1 c5));rw[show k+k2+1=k+(k2+1) by omega]at q;exact q⟩ (hr:=dB);refine aN ?_;refine oq (KX UL.out SZ.out rfl rfl a_ a_ a_) ?_;refine ajN (k:=0) (off:=(kk).toNat*2) (cs:=(eN Y++rs)) UL.out TZ.out rfl rfl rfl a_ rfl (by rw[dD,lU];omega) (λnw1 hnw1=> ?_);refine aD ?_;refine zR (k:=0) (n:=(kk).toNat) (cap:=cap) 2 (eN (Y.take (kk).toNat)) rfl (by rw[lU,jL];omega) a_ hmax (by rw[A_,anM (by rw[dD,lU];omega) aO,ayR hYl];exact hcl) (al7 a_) ?_;refine aI ?_;refine oq (aa3 UL.out SZ.out rfl rfl a_ a_) ?_;refine aF ?_;refine zJ ?_;refine⟨rfl,Y.take (kk).toNat,?_,?_⟩;have q:=hP.ci;rw[show k+k2=X.length by omega]at q;exact anE q W1;rw[jL,QJ a_];refine aN ?_;exact dW (k+1) ⟨aL a_,Go.i_⟩ ⟨aB,aB,ay6 hC a_ a_ (λe=>c3 (CW.2 e))⟩;refine aI ?_;refine zR (k:=0) (n:=X.length) (cap:=cap) 2 (eN X) rfl (lU _) a_ hmax hcl hct ?_;refine aF ?_;refine zJ ?_;refine⟨rfl,X,anE (by have q:=hC;rw[show k=X.length by omega,iD,List.take_length]at q;exact q) (cV _),rfl⟩
theorem aEW(ho:R.Pairwise λx y=>oF x.2 y.2)(h1:h<R.length)(hc:j9 (wo R h).2 q<0):∀k:Int,0≤k→k<h+1→j9 (wo R k).2 q<0:=λk a b=>by
 by_cases e:k=h;rw[e];exact hc;exact IG (zZ ho a (show k<h by omega) h1) hc
theorem aHt(ho:R.Pairwise λx y=>oF x.2 y.2)(h0:0≤h)(hc:¬j9 (wo R h).2 q<0):∀k:Int,h≤k→k<R.length→¬j9 (wo R k).2 q<0:=λk a b z=>by
 by_cases e:k=h;rw[e]at z;exact hc z;exact hc (IG (zZ ho h0 (show h<k by omega) b) z)
theorem aDI{xv tv:Value}(hx:aR 2 V xv R.length (eN R))(hw:mS V R)(ht:aT .i64 V tv q.1)(hR:R.length≤1000000)(ho:R.Pairwise λx y=>oF x.2 y.2)(hq:∃p∈R,p.2=q):
  aP Tryz.prog 40 [xv,.agg #[tv,.int .i64 q.2],Value.func (.func 37) #[] #[]] V [] (λv _ _=>v= .tuple #[.int .i64 (x_ R q),Value.bool true]):=by
 refine bI Tryz.func40 ?_;intro w0 D;refine aD ?_;refine bH λb1=> ?_;refine aN ?_;refine oq (e_ hx) ?_;refine dS ?_;refine lc2 [0,1,2,4,6,7,8] (λ(i:Int) (j:Int)=> [(9,(vi i)),(10,(vi j))]) (λi j=>0≤i∧i≤j∧j≤R.length∧(∀k:Int,0≤k→k<i→j9 (wo R k).2 q<0)∧∀k:Int,j≤k→k<R.length→¬j9 (wo R k).2 q<0) (λi j=>(j-i).toNat) 0 (R.length) ?_ ?_ ?_;exact⟨rfl,aL OD,Go.i_⟩;exact⟨aB,aB,aB,λk a b=>aB,λk a b=>aB⟩;rintro i j e1 ⟨i0,ij,jn,hlo,hhi⟩;refine aS ?_;refine aG ?_ ?_<;>intro c1;refine aS ?_;refine oq (MC UL.out UL.out rfl (ajE a_ a_)) ?_;refine oq (aw3 rfl rfl 2 a_ a_ j_) ?_;refine oq (MC UL.out UL.out rfl (IntWalk.i64_in _ a_)) ?_;refine aS ?_;refine qq (cH hx) ?_;refine qq (eM rfl hx (AU a_ a_)) ?_;refine aH ?_;refine qq (eH (PE (a:=(wo R ((i+j)/2)).2) (b:=q) (hw.at_ (i:=((i+j)/2)) a_ a_) ht) rfl rfl) ?_;refine aD ?_;refine aG ?_ ?_<;>intro c2;refine aF ?_;exact qM (((i+j)/2)+1) j ⟨aL a_,rfl,Go.i_⟩ ⟨aB,aB,aB,aEW ho a_ c2,hhi⟩;refine aJ ?_;exact qM i ((i+j)/2) ⟨rfl,aL a_,Go.i_⟩ ⟨aB,aB,aB,hlo,aHt ho a_ c2⟩;refine aI ?_;have hii:i=x_ R q:=aEG ho hq i0 a_ hlo (λk a b=>hhi k a_ b);have hat:=X6 hq;have hcz:j9 (wo R i).2 q=0:=by rw[hii];exact CW.2 hat.2.2
 refine eE [0,1,2,4,8,9,10,17] [(6,(vi i)),(7,(.bool (decide ((i<(R.length:Int))∧((j9 (wo R i).2 q)=0)))))] ?_ (λe2=> ?_);refine aN ?_;by_cases g1:i<(R.length:Int);refine aI ?_;refine qg (cH hx) cZ ?_;refine qg (eM rfl hx (AU a_ a_)) cZ ?_;refine aH ?_;refine qg (eH (PE (a:=(wo R i).2) (b:=q) (hw.at_ (i:=i) a_ a_) ht) rfl rfl) cZ ?_;refine aF ?_;exact bC ⟨rfl,jb (ja g1 Iff.rfl),Go.i_⟩;refine dI ?_;exact bC ⟨rfl,jf (λz=>g1 z.1),Go.i_⟩;refine aH ?_;exact lE (aL (by first|omega|(simp;omega)|exact⟨aB,hcz⟩)) (T6 (by first|omega|(simp;omega)|exact⟨aB,hcz⟩))
end Go.Proofs.YtbchkopkgpfkgaaGreat
end
