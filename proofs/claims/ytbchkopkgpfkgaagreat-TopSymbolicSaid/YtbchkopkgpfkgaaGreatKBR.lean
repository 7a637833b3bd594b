import Derived.Test.YtbchkopkgpfkgaaGreatKBM
import Derived.Test.YtbchkopkgpfkgaaGreatKBO
set_option linter.unusedVariables false
set_option linter.unusedSimpArgs false
noncomputable section
namespace Go.Proofs.YtbchkopkgpfkgaaGreat
open Classical Go Go.Vc
variable{H:HV}{R:List WO}
def tF1:Tm:=.mk 24 0 []
def vF1:Vr:=⟨⟨#[120]⟩,1,0,1,0⟩
def sF1:St:=.mk 1 3 0 0 tF1 [] [] []
def F1:Fl:=⟨[vF1],[],[sF1]⟩
theorem aHs{i:Int}(a:0≤i)(b:i<([vF1].length:Nat)):i=0:=by simp at b;omega
theorem aFj:dO F1.vs where
 each i a b:=by
  obtain rfl:=aHs a b;refine⟨⟨j_,λi a b=> ?_⟩,λj a b=>aB,by show¬((1:Int)≠0∧(1:Int)≠1∧(1:Int)≠2∧(1:Int)≠3);omega,by show(0:Int)≤1∧-1048576≤(0:Int)∧(1:Int)≤1048576;omega,by show¬(((1:Int)=0∧((0:Int)<0∨(1:Int)<0))∨((1:Int)≠0∧(0:Int)≠0));omega⟩;have:i=0:=by have:i<((1:Nat):Int):=b;omega
  subst this;exact .inl (by unfold S8;decide)
 s1:=j_
 s2:=j_
 s3:=j_
theorem aGd:C1 F1.bd:=by
 simp[F1,sF1,C1,St.td,tF1];decide
theorem aq2:gI F1 where
 sz:=⟨j_,λi a b=>bM b F_,j_,j_,aGd⟩
 vs:=aFj
 hs i a b:=bM b F_
 bd:=by
  refine⟨⟨⟨?_,?_,?_,?_⟩,trivial,Go.i_⟩,Go.i_⟩;unfold iT;rw[aC j_,aK j_];exact⟨⟨⟨⟨rfl,rfl⟩,rfl⟩,rfl⟩,rfl⟩;unfold mT LQ;decide;unfold oZ;decide;refine⟨⟨?_,?_,Go.i_⟩,trivial,?_⟩;unfold kF jI;decide;unfold H0;decide;unfold OL;decide
 uS:=j_
 uO:=j_
 uT:=j_
abbrev A9:Value:=.slice none 0 0
theorem eJ.none:eJ H A9 []:=.mk [] aR.nil λi a b=>bM b F_
theorem eO.none:eO H A9 []:=.mk [] [] [] [] aR.nil (λi a b=>bM b F_) (λi a b=>bM b F_) (λi a b=>bM b F_) (λi a b=>bM b F_)
theorem aCG{V:HV}{b1 b3:Nat}(h1:Cells V b1 [.string ⟨#[120]⟩,.int .i64 1,.int .i64 0,.int .i64 1,.int .i64 0])
  (h3:Cells V b3 [.int .i64 1,.int .i64 3,.int .i64 0,.int .i64 0,.int .i64 24,.int .i64 0,A9,A9,A9,A9]):fV V (.slice (some ⟨b1,0,none⟩) 1 1) A9 (.slice (some ⟨b3,0,none⟩) 1 1) F1 where
 v:=mP h1 rfl (cV _) aB
 h:=⟨[],aR.nil,λi a b=>bM b F_⟩
 b:=by
  have one:∀i:Int,0≤i→i<([sF1].length:Nat)→i=0:=λi a b=>by simp at b;omega
  refine .mk [A9] [A9] [A9] [A9] (mP h3 rfl (cV _) aB) (λi a b=> ?_) (λi a b=> ?_) (λi a b=> ?_) (λi a b=> ?_);obtain rfl:=one i a b;exact eJ.none;obtain rfl:=one i a b;exact eO.none;obtain rfl:=one i a b;exact eO.none;obtain rfl:=one i a b;exact aT.nil
def pY(F:Fl)(B:List Int)(tm:Bool):aV→Ob:=λe=>((qC F (BE F.vs e) B (C3 F.vs e)).outs,yM tm (qC F (BE F.vs e) B (C3 F.vs e)).time)
def iE(F:Fl):aV→Bool:=λe=>uW F.vs (d8 F.vs) e (d8 F.vs).length
theorem aFI:iW F1.vs=1:=rfl
theorem asR:Dd.fk (d8 F1.vs) 0=⟨0,0,1⟩:=rfl
theorem ajI(e:aV):oG (d8 F1.vs) e 0=if e 0=true then 1 else 0:=by
 unfold oG;rw[asR];show(0:Int)+(if e (0+((0:Nat):Int))=true then 2^((1:Int)-1-((0:Nat):Int)).toNat else 0)=_;simp
theorem aGt(e:aV):vS F1.vs e 0=if e 0=true then 1 else 0:=by
 unfold vS;rw[ajI,Dd.op0 rfl,Dd.op5 rfl];show(if(1:Int)-0<(if e 0=true then 1 else 0)then(1:Int)-0 else(if e 0=true then 1 else 0))+0=_;split<;>(split<;>omega)
theorem aeD(e:aV):pY F1 [] true e=([if e 0=true then 1 else 0],3):=by
 have h1:BE F1.vs e=[if e 0=true then 1 else 0]:=by
  show [vS F1.vs e ((0:Nat):Int)]=_;rw[show((0:Nat):Int)=0 from rfl,aGt]
 have h2:C3 F1.vs e=[]:=rfl;unfold pY;rw[h1,h2];rfl
theorem awH(e:aV):iE F1 e=true:=by
 refine(RJ _).2 λc a b=> ?_;have b:c<((1:Nat):Int):=b;obtain rfl:c=0:=aB;rw[ajI,asR];show(if e 0=true then(1:Int)else 0)<1-0+1;split<;>omega
theorem aAj{n:Int}{lab:aV→Int}(h:aeV n (iE F1) (pY F1 [] true) lab R){e:aV}(he:e 0=true):lab e=1∧(R.length:Int)=2∧(wo R 1).2=([1],3):=by
 obtain⟨a1,a2,a3⟩:=h.at_ e (awH e);obtain⟨b1,b2,b3⟩:=h.at_ (λ_=>false) (awH _);rw[aeD,aK he]at a3;rw[aeD,aC bK]at b3;have lt:j9 (([0],3):Ob) ([1],3)= -1:=rfl;have gt:j9 (([1],3):Ob) ([0],3)=1:=rfl;generalize lab e=t at*;generalize lab (λ_=>false)=s at*;have hst:s<t:=by
  rcases Int.lt_trichotomy s t with q|q|q
  exact q;rw[q,a3]at b3;exact bM (congrArg (λx=>j9 x (([0],3):Ob)) b3) (by rw[gt,AC];omega);have:=zZ h.ord a1 q b2;unfold oF at this;rw[a3,b3,gt]at this;omega
 have uniq:∀i j:Int,0≤i→i<R.length→0≤j→j<R.length→(wo R i).2=(wo R j).2→i=j:=λi j i0 i1 j0 j1 q=>by
  rcases Int.lt_trichotomy i j with z|z|z
  have:=zZ h.ord i0 z j1;rw[q]at this;exact bM this acI;exact z;have:=zZ h.ord j0 z i1;rw[q]at this;exact bM this acI
 have two:∀j:Int,0≤j→j<R.length→j=s∨j=t:=λj j0 j1=>by
  obtain⟨e',_,q⟩:=h.src _ (D6 j0 j1);rw[aeD]at q;by_cases z:e' 0=true;rw[aK z]at q;exact .inr (uniq _ _ j0 j1 a1 a2 (by rw[q,a3]));rw[aC z]at q;exact .inl (uniq _ _ j0 j1 b1 b2 (by rw[q,b3]))
 have hl:(R.length:Int)=2:=by
  rcases Int.lt_trichotomy (R.length:Int) 2 with q|q|q
  omega;exact q;have t0:=two 0 aB aB;have t1:=two 1 aB aB;have t2:=two 2 aB aB;omega
 have ht:t=1:=by
  have t0:=two 0 aB aB;omega
 exact⟨ht,hl,by rw[ht]at a3;exact a3⟩
theorem azG{F:Fl}{A B C:List Int}{tm:Bool}{n:Int}{lab:aV→Int}{e:aV}(hV:gI F)(hI:rW F.vs A B C)(h:aeV n (iE F) (pY F B tm) lab R)(he:∀p:Int,0≤p→p<iW F.vs→e p=gb (iI F.vs (A++C) (bP F.vs).length) p):
  0≤lab e∧lab e<R.length∧(wo R (lab e)).2=((qC F A B C).outs,yM tm (qC F A B C).time):=by
 obtain⟨a,b,c⟩:=h.at_ e (aDS hV.vs hI he);obtain⟨d1,d2⟩:=aBB hV.vs hI he;refine⟨a,b,c.trans ?_⟩;unfold pY;rw[d1,d2]
end Go.Proofs.YtbchkopkgpfkgaaGreat
end
