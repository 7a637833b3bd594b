import Derived.Deep.Quiet
import Derived.StillTail
import Derived.Deep.LoopGhost
import Derived.Below
import Derived.KernelRfl
import Derived.IntWalk
import Derived.Laws.AppendOwn
import Derived.Laws.MakeOwn
import Derived.Laws.StructEq
import Derived.Laws.CopyRow
import Derived.Laws.Cells
import Derived.Laws.Tables
set_option linter.unusedVariables false
set_option linter.unusedSimpArgs false
namespace Go
abbrev bX:=@List.getD_eq_getElem?_getD
abbrev aC:=@if_neg
abbrev dT:=@List.getElem?_eq_getElem
abbrev aK:=@if_pos
abbrev dD:=@List.length_append
abbrev cV:=@Nat.le_refl
abbrev kB:=@Classical.byContradiction
abbrev gY:=@List.mem_singleton
abbrev lJ:=@List.take_of_length_le
abbrev bM:=@absurd
abbrev f_:=@List.map_append
abbrev fT:=@List.length_map
abbrev iH:=@List.getElem?_take
abbrev iD:=@Int.toNat_natCast
abbrev eL:=@Int.le_refl
abbrev iZ:=@List.getElem?_map
abbrev oR:=@List.getElem?_append_left
abbrev rS:=@List.eq_nil_of_length_eq_zero
abbrev qN:=@List.getElem?_append_right
abbrev jL:=@List.length_take
abbrev kO:=@List.getElem?_drop
abbrev oB:=@Nat.pow_le_pow_right
abbrev mZ:=@List.mem_cons_self
abbrev mX:=@List.length_drop
abbrev jW:=@List.mem_append
abbrev l4:=@List.length_cons
abbrev nC:=@Decidable.not_not
abbrev kN:=@List.append_nil
abbrev wC:=@Array.getElem?_eq_getElem
abbrev sS:=@List.length_singleton
abbrev pU:=@Classical.not_not
abbrev t5:=@List.mem_append_left
abbrev EP:=@List.drop_eq_nil_of_le
abbrev AP:=@List.pairwise_iff_getElem
abbrev sV:=@List.flatMap_append
abbrev uC:=@List.mem_cons_of_mem
abbrev vG:=@Nat.mul_le_mul_right
abbrev lQ:=@List.map_cons
abbrev t7:=@List.take_add_one
abbrev oN:=@Int.mul_nonneg
abbrev uM:=@List.length_set
abbrev xZ:=@List.pairwise_append
abbrev kE:=@Nat.zero_le
abbrev EG:=@List.getElem?_eq_some_iff
abbrev N4:=@List.take_append_of_le_length
abbrev sP:=@List.range_succ
abbrev CD:=@List.getElem?_eq_none
abbrev N1:=@Array.getElem?_setIfInBounds
abbrev FU:=@List.mem_append_right
abbrev o5:=@Nat.add_mul
abbrev GA:=@List.pairwise_singleton
abbrev S5:=@List.drop_append_of_le_length
abbrev A_:=@List.size_toArray
abbrev qE:=@Nat.pow_succ
abbrev xR:=@List.nil_append
abbrev EF:=@List.getElem?_range
abbrev xP:=@List.length_nil
abbrev GP:=@List.take_append_drop
abbrev uL:=@List.mem_cons
abbrev aa0:=@Int.mul_le_mul_of_nonneg_right
abbrev EW:=@List.pairwise_cons
abbrev ML:=@List.getElem?_set_self
abbrev CP:=@List.getElem_mem
abbrev H2:=@List.getElem_of_mem
abbrev LH:=@Array.getElem?_toList
abbrev EJ:=@List.append_assoc
abbrev u6:=@Int.mul_comm
abbrev CM:=@List.mem_range
abbrev y_:=@List.map_nil
abbrev adX:=@Array.getElem_setIfInBounds_ne
abbrev ZA:=@Option.isSome_iff_exists
abbrev GO:=@List.cons_append
abbrev XU:=@Array.replicate_succ
abbrev YS:=@Array.replicate_zero
abbrev Z4:=@Array.getElem_modify
abbrev ED:=@Nat.sub_self
abbrev EU:=@Nat.le_trans
abbrev C_:=@Nat.mul_one
abbrev CK:=@Nat.one_mul
abbrev HI:=@Nat.add_assoc
abbrev YH:=@List.map_congr_left
abbrev XQ:=@List.append_toArray
abbrev R5:=@List.ext_getElem
abbrev aqJ:=@Int.mul_le_mul_of_nonneg_left
abbrev HW:=@List.mem_map
abbrev I0:=@List.map_set
abbrev QJ:=@Nat.min_eq_left
abbrev X_:=@List.push_toArray
abbrev ahX:=@List.getElem?_modify
abbrev ad9:=@List.getElem?_set_ne
abbrev X8:=@Option.getD_some
abbrev WU:=@List.flatMap_def
abbrev ahL:=@Array.length_toList
abbrev afZ:=@Int.toNat_of_nonneg
abbrev LK:=@Int.one_mul
abbrev LS:=@Int.zero_add
structure Hz(q:Prop):Prop where out:q
theorem i_:True:=trivial
variable{p q:Prop}
theorem aB(h:p:=by omega):p:=h
theorem yD(h:p:=by exact λq=>by first|(have:=q.1.rt;omega)|(have h:=(amZ hl hloc).2 q;first|exact bM h.1 (by assumption)|exact bM h.2.1 (by assumption)|exact bM h.2.2.1 (by assumption))|(have h:=q.1.lf i a_ a_;first|exact bM h.1 (by assumption)|(have:=h.2 a_;omega))|(obtain⟨h1,h2,h3,⟨k1,k2,k3⟩,⟨d1,d2,d3⟩⟩:=q.1.nd j a_ a_;first|omega|exact h2 (by assumption)|(obtain⟨k,a,b,c,e⟩:=BK.1 (by assumption);exact h3 k a a_ e))):p:=h
theorem aO(h:p:=by assumption):p:=h
theorem SK(h:p:=by exact λq=>by first|(have:=q.2.1;omega)|(have hn:=Z1 q.1 (j:=i) a_ a_;have h1:=hn.1;have h2:=hn.2.1;have h3:=hn.2.2.1;omega)|(have hn:=Z1 q.1 (j:=i) a_ a_;obtain⟨k,a,b,c,e⟩:=BK.1 aO;exact hn.2.2.2.1 k a a_ e)|(obtain⟨h1,h2,h3⟩:=aC7 q.1 (i:=i) (x:=x) a_ a_ a_ a_;omega)):p:=h
theorem TR(h:p:=by rw[c9];first|(show _=(if(pg K 1).1<0 then aX 0 ((pg K 1).1+1)else 0);unfold aX;(repeat' split)<;>first|rfl|omega)|(show _=(if 0<(pg K 1).2 then bJ 0 ((pg K 1).2-1)else 0);unfold bJ;(repeat' split)<;>first|rfl|omega)):p:=h
theorem q6Z(h:p:=by skip;first|exact λq=>q.1 (by first|exact .inl aO|exact .inr aO)|exact λq=>q.2.1 i i1 a_ aO|(intro q;have q1:=q.2.2.1;have q2:=q.2.2.2.1;first|omega|exact bM q.2.2.2.2 aO)):p:=h
theorem q7Z(h:p:=by intro q;have z:=(u0 t).1 q;first|exact bM (oV.1 z.2.2 i i1 a_) aO|exact z.2.1 (.inl ⟨aO,aO⟩)|exact z.2.1 (.inr ⟨aO,aO⟩)|exact z.1 (by unfold kF;omega)):p:=h
theorem rM(h:p:=by unfold jI;(repeat' split)<;>omega):p:=h
theorem mM(h:p:=by unfold Dd.bF;omega):p:=h
theorem xW(h:p:=by (first|unfold Y9 jI|unfold kdh jI);(repeat' split)<;>omega):p:=h
theorem eD(h:p:=by kernel_rfl):p:=h
theorem afP(h:p:=by first|(rw[show t.op=23 by assumption,lJ (by rw[mX];omega)];rfl)|(rw[show t.op=25 by assumption,lJ (by rw[mX];omega)];rfl)):p:=h
theorem oW(h:p:=by first|rfl|(first|omega|simp)):p:=h
theorem QD(h:p:=by exact QW i1 a_ hy (by rw[aqB hsh hnm hbb];(repeat' split)<;>first|rfl|(exfalso;omega)) a_):p:=h
theorem bK(h:p:=by simp):p:=h
theorem ad1(h:p:=by exact QW i1 a_ hy (apB (pU.1 aO) (by first|(left;unfold mT LQ;(repeat' split)<;>omega)|(right;unfold oZ;omega))) a_):p:=h
theorem aeE(h:p:=by first|(rw[show t.op=23 by assumption,lJ a_];rfl)|(rw[show t.op=25 by assumption,lJ a_];rfl)):p:=h
theorem GZ(h:p:=by first|with_reducible rfl|rw[ajJ hne01]):p:=h
theorem I2(h:p:=by first|(rw[aK a_])|(rw[aC a_])):p:=h
theorem k6(h:p:=by simp;omega):p:=h
theorem apK(h:p:=by rw[c8];simp only[hp0.1,hp0.2];first|rw[JZ (by rw[←hp0.1,←hp1.1];assumption)]|rw[J2 (by rw[←hp0.1,←hp1.1];assumption)]):p:=h
theorem agQ(h:p:=by rw[show(i+1).toNat=i.toNat+1 by omega,anJ i1 a_,avB,bJ];(repeat' split)<;>omega):p:=h
theorem an2(h:p:=by exact λq=>by have z:=(ahK _).1 (Q4.1 q i i1 a_);first|exact bM z.1 a_|exact bM z.2.1 aO|exact bM z.2.2 aO):p:=h
theorem HY(h:p:=by rw[mX];omega):p:=h
theorem agD(h:p:=by first|exact aK aO|exact aC aO|exact(aK aO).symm|exact(aC aO).symm):p:=h
theorem aJn(h:p:=by unfold Dd.bF;have:=K_ (b:=bi-1-b) a_;have:=Dd.kI (bi-1-b).toNat;omega):p:=h
theorem xS(h:p:=by constructor<;>omega):p:=h
theorem ao_(h:p:=by rw[VN a_ a_ (λq=>by first|exact bM q.2.2.1 aO|(have:=q.2.2.2.2;omega)|exact bM q.2.2.2.1 aO)]):p:=h
theorem ad7(h:p:=by have:=aCS (vs:=vs) (k:=k) (i:=i);first|omega|(simp only[maxLen];omega)):p:=h
theorem aqF(h:p:=by first|exact(avU aO).symm|exact(avY aO aO).symm|exact(auM aO (And.left aO) (And.right aO)).symm):p:=h
theorem dB(h:p:=by rfl):p:=h
theorem GK(h:p:=by rw[lJ a_]):p:=h
theorem zQ(h:p:=by have:=t.sz_pos;omega):p:=h
theorem aEn(h:p:=by have h:=FQ (vars:=cv) (L:=L2) (M:=M) (fa:=gE L2) (fb:=gR M) (root:=gi S cr) (u:=u2) (w:=w) (bb:=bb) (ba:=ba) (bi:=bi) (V:=V0l) hok.1.1 d.ok hrf a_ a_;rw[hfe,hbd,JS]at h;exact h):p:=h
theorem aCz(h:p:=by have z:=aCp (vs:=vs) (i:=i) hnm (λx a b=>hdu x a a_) (by unfold tX;omega) (by first|exact .inl aO|exact .inr (by unfold uH;omega));unfold G5;rw[qW hno a_ i1 a_,z];rfl):p:=h
theorem CF(h:p:=by have:=dK l;omega):p:=h
theorem vB(h:p:=by simpa using h):p:=h
theorem W1(h:p:=by rw[jL];omega):p:=h
theorem aBU(h:p:=by first|exact(aK aO).symm|(unfold rY;rw[aC (λz=>z eV),aC a_,aC (λz=>z hhz),aC a_];(repeat' split)<;>first|rfl|(exfalso;omega))):p:=h
theorem QZ(h:p:=by show(0:Int)<((1:Nat):Int);omega):p:=h
theorem aq7(h:p:=by first|(rw[aeT aO];done)|(rw[UJ hlv aO];done)|(rw[UC hlv aO];done)):p:=h
theorem aqS(h:p:=by first|(rw[af3 aO];done)|(rw[agZ hlv aO];rfl)|(rw[aiD hlv aO];rfl)):p:=h
theorem aoQ(h:p:=by intro u hu;simp at hu;rcases hu with rfl|rfl<;>first|exact Sl.one hcv2|rfl):p:=h
theorem j_(h:p:=by decide):p:=h
theorem aCV(h:p:=by rw[c13];first|(show _=aX _ _;unfold aX;(repeat' split)<;>first|rfl|omega)|(show _=bJ _ _;unfold bJ;(repeat' split)<;>first|rfl|omega)):p:=h
theorem aBQ(h:p:=by rw[c14];first|(show _=aX _ _;unfold aX;(repeat' split)<;>first|rfl|omega)|(show _=bJ _ _;unfold bJ;(repeat' split)<;>first|rfl|omega)):p:=h
theorem aDc(h:p:=by have z:=JZ (vs:=vs) (n:=t.n) (k:=K) xS;first|(rw[c7,z];done)|(rw[c7,z];dsimp only;unfold bJ;(repeat' split)<;>first|rfl|omega)):p:=h
theorem aBq(h:p:=by have z:=J2 (vs:=vs) (n:=t.n) (k:=K) a_;first|(rw[c7,z];done)|(rw[c7,z];dsimp only;unfold bJ;(repeat' split)<;>first|rfl|omega)):p:=h
theorem EK(h:p:=by show 1≤2;omega):p:=h
theorem arH(h:p:=by first|exact .inl aO|exact .inr (.inl aO)|exact .inr (.inr aO)):p:=h
theorem agE(h:p:=by rw[c1];first|rw[aj4 a_]|rw[WR a_]):p:=h
theorem Z2(h:p:=by show(1:Int)<((2:Nat):Int);omega):p:=h
theorem arB(h:p:=by unfold j9;rw[aC aO];unfold uI;(repeat' split)<;>omega):p:=h
theorem ahB(h:p:=by show(bV L N).mu _≤(bV L N).mu _;omega):p:=h
theorem aDx(h:p:=by rw[show [a*d,b*c,b*d].take i.toNat=[a*d,b*c,b*d]from lJ (by show 3≤i.toNat;omega),aEo]):p:=h
theorem aCj(h:p:=by rw[show(i+1).toNat=i.toNat+1 by omega,apF i1 a_];first|exact(aK aO).symm|exact(aC aO).symm):p:=h
theorem aiC(h:p:=by first|exact .inl aO|exact .inr aO):p:=h
theorem aeF(h:p:=by show 1≤1;omega):p:=h
theorem ahS(h:p:=by show(1:Int)<((3:Nat):Int);omega):p:=h
theorem afL(h:p:=by show(2:Int)<((3:Nat):Int);omega):p:=h
theorem aC0(h:p:=by first|(intro q;exact q.1 a_)|(intro q;have z:=q.2 i i1 a_;unfold MB S8 YK at z;omega)):p:=h
theorem WL(h:p:=by have:=dK F.bd;omega):p:=h
theorem W5(h:p:=by rw[hn.out];exact hk.out):p:=h
theorem aAS(h:p:=by rw[aBT t x,hy];first|exact(aAb a_).symm|(rw[EP a_];rfl)):p:=h
theorem MY(h:p:=by simpa using h1):p:=h
theorem aB_(h:p:=by rw[hp1.1,show(K.take (2:Int).toNat).drop 2=[]from EP W1];rfl):p:=h
theorem aCt(h:p:=by rw[hp1.2,show(K.take (2:Int).toNat).drop 2=[]from EP W1];rfl):p:=h
theorem aCL(h:p:=by (first|unfold aX|unfold bJ);(repeat' split)<;>first|rfl|(exfalso;omega)|omega):p:=h
theorem aAr(h:p:=by have h:=H3 (hs.inr (λ_=>false)) hf hr;rw[UB a_]at h;exact UI h):p:=h
theorem aDM(h:p:=by rw[show(i+1).toNat=i.toNat+1 by omega,vH i1 a_];exact bS4 hn hx1 a_):p:=h
theorem aCH(h:p:=by rw[show(i+1).toNat=i.toNat+1 by omega,wD i1 a_];exact bT4 hn hx3 a_):p:=h
theorem aDr(h:p:=by rw[show(i+1).toNat=i.toNat+1 by omega,vH i1 a_];exact bS0 hn hx1 a_):p:=h
theorem aDw(h:p:=by rw[show(i+1).toNat=i.toNat+1 by omega,wD i1 a_];exact bT0 hn hx3 a_):p:=h
theorem aBr(h:p:=by rw[c1,WR (aiG (n:=t.n) (vs:=vs) (K:=K) (by rw[c1]at hwi;exact hwi))]):p:=h
theorem aBA(h:p:=by rw[hy];first|exact(acZ a_).symm|(rw[EP a_];rfl)):p:=h
theorem aDV(h:p:=by rw[asX a_ (λq=>by first|exact bM q.1 aO|exact bM q.2 aO)]):p:=h
theorem aBd(h:p:=by rw[aEs rfl (λq=>by first|exact bM q.1 aO|exact bM q.2 aO)]):p:=h
theorem afD(h:p:=by unfold bJ;split<;>omega):p:=h
theorem aCu(h:p:=by rw[show(i+1).toNat=i.toNat+1 by omega,tB i1 a_];exact bO1 hx2 a_):p:=h
theorem QI(h:p:=by simpa using hn):p:=h
theorem PZ(h:p:=by simpa using hl):p:=h
theorem aoW(h:p:=by first|exact .inr aO|exact .inl a_):p:=h
theorem aB8(h:p:=by rw[aqB hsh hnm hbb];(repeat' split)<;>first|rfl|(exfalso;omega)|omega):p:=h
theorem agH(h:p:=by intro hx;subst hx;omega):p:=h
theorem aEv(h:p:=by first|exact(ab_ aO a_ aO).symm|exact(abM aO a_ aO).symm):p:=h
theorem arD(h:p:=by unfold uI;(repeat' split)<;>omega):p:=h
theorem aJS(h:p:=by have:=K_ (b:=bi-1-b) a_;have:=Dd.kI (bi-1-b).toNat;omega):p:=h
theorem au6(h:p:=by first|omega|(simp only[gH,fT,uM];omega)):p:=h
theorem UH(h:p:=by exact(aK hkk).symm):p:=h
theorem asE(h:p:=by exact(u0 t).2 ⟨hkb,hnb,oV.2 λx a b=>hno x a a_⟩):p:=h
theorem JX(h:p:=by exfalso;omega):p:=h
theorem OD(h:p:=by first|omega|simp):p:=h
theorem atD(h:p:=by intro hx;subst hx;first|omega|exact bM ⟨rfl,rfl,rfl⟩ aO):p:=h
theorem ahN(h:p:=by show(0:Int)<((2:Nat):Int);omega):p:=h
theorem atB(h:p:=by rw[uo.2.2];first|exact(aK a_).symm|exact(aC a_).symm):p:=h
theorem at9(h:p:=by exact(aC (λq=>bM (qG.1 q i i1 a_) aO)).symm):p:=h
theorem VL(h:p:=by have:=aeP x2;omega):p:=h
theorem atF(h:p:=by rw[show(i+1).toNat=i.toNat+1 by omega];exact hka.snoc a_ h9):p:=h
theorem avS(h:p:=by rw[show(i+1).toNat=i.toNat+1 by omega,aaK i1 a_,hpi.1]):p:=h
theorem awA(h:p:=by rw[show(i+1).toNat=i.toNat+1 by omega,aaK i1 a_,hpi.2]):p:=h
theorem awQ(h:p:=by rw[hy,aAK a_ a_];first|rw[aK a_]|rw[aC a_]):p:=h
theorem atN(h:p:=by first|assumption|(intro q;apply bM q.symm;assumption)):p:=h
theorem awB(h:p:=by exact(QX λq=>bM (BM (q i a_ a_)) aO).symm):p:=h
theorem asM(h:p:=by first|rfl|(first|omega|(exfalso;split at hn1<;>omega))):p:=h
theorem UA(h:p:=by rw[hlv];exact d5.1):p:=h
theorem UU(h:p:=by show 0+_≤_;omega):p:=h
theorem auQ(h:p:=by first|(rw[iK a_];done)|(rw[l5 a_];rfl)):p:=h
theorem au4(h:p:=by show(if gb=gb then some _ else none)=_;rw[aK rfl]):p:=h
theorem awP(h:p:=by unfold dE at hw;rw[hw];exact Bool.false_ne_true):p:=h
theorem asB(h:p:=by exact(ad2 hV λq=>bM (q j a_ a_) aO).symm):p:=h
theorem awF(h:p:=by first|exact(aK aO).symm|exact(aC aO).symm):p:=h
theorem af8(h:p:=by rw[fT];omega):p:=h
theorem asF(h:p:=by intro q;first|exact q.1 aO|exact q.2 i i1 a_ aO):p:=h
theorem UZ(h:p:=by show 1≤3;omega):p:=h
theorem atH(h:p:=by simp only[fT,uM];omega):p:=h
theorem NX(h:p:=by simp[one,hc]):p:=h
theorem as0(h:p:=by rw[c11];simp only[hp0.1,hp0.2,hp1.1,hp1.2];rfl):p:=h
theorem awK(h:p:=by rw[c12];simp only[hp0.1,hp0.2,hp1.1,hp1.2];rfl):p:=h
theorem arY(h:p:=by unfold DG;first|rw[aK aO]|rw[aC aO]):p:=h
theorem JR(h:p:=by simp[one]):p:=h
theorem at8(h:p:=by rw[c5];simp only[hp0.1,hp0.2,hp1.1,hp1.2];rfl):p:=h
theorem atA(h:p:=by rw[c6];simp only[hp0.1,hp0.2,hp1.1,hp1.2];rfl):p:=h
theorem asT(h:p:=by rw[c7];simp only[hp0.1,hp0.2,hp1.1,hp1.2];rfl):p:=h
theorem awV(h:p:=by first|(rw[FK a_];done)|(rw[FN a_];done)):p:=h
theorem DD(h:q)(f:Hz q→p:=by intro Zz;refine dM rfl rfl (iO rfl h9.mt.l h9.mt.n rfl) ?_;exact Zz.1):p:=f ⟨h⟩
theorem fR(h:q)(f:Hz q→p:=by intro Zz;refine apV ?_;refine jG ?_;exact Zz.1):p:=f ⟨h⟩
theorem g2Z(h:q)(f:Hz q→p:=by intro Zz;refine jG ?_;refine rq rfl (cH hkv) ?_;refine rq rfl (fC hkv) ?_;refine rq rfl (d_ PL.out rfl hkv a_ a_ a_ (w_ (o:=0) a_ a_ a_ rfl)) ?_;exact Zz.1):p:=f ⟨h⟩
theorem AF(h:q)(f:Hz q→p:=by intro Zz;refine dM rfl rfl (aU rfl (aU (aR.one k9.mt) (aU rfl rfl))) ?_;exact Zz.1):p:=f ⟨h⟩
theorem g4Z(h:q)(f:Hz q→p:=by intro Zz;refine dM rfl rfl (aU rfl (aU rfl (aU rfl (aU rfl (aU rfl (aU rfl (aU (eJ.one (hK i a_ a_)) (aU (eO.one (hth i a_ a_)) (aU (eO.one (hel i a_ a_)) (aU (Sl.one (hbv i a_ a_)) rfl)))))))))) ?_;exact Zz.1):p:=f ⟨h⟩
theorem g5Z(h:q)(f:Hz q→p:=by intro Zz;refine rq rfl (cH hkv) ?_;refine rq rfl (fC hkv) ?_;refine rq rfl (d_ PL.out rfl hkv a_ a_ a_ (w_ (o:=1) a_ a_ a_ rfl)) ?_;exact Zz.1):p:=f ⟨h⟩
theorem uY(h:q)(f:Hz q→p:=by intro Zz;refine qq (fZ (d9 hhi)) ?_;refine qq (fY (d9 hhi)) ?_;exact Zz.1):p:=f ⟨h⟩
theorem KJ(h:q)(f:Hz q→p:=by intro Zz;refine qq (fZ (d9 hlo)) ?_;refine qq (fY (d9 hlo)) ?_;exact Zz.1):p:=f ⟨h⟩
theorem g8Z(h:q)(f:Hz q→p:=by intro Zz;refine yI (k:=8) (key:=p0) (v:=0) UL.out (fL.int Tryz.underlying3) rfl rfl rfl rfl ?_;refine cC [1,1,1,1,1,0,0,0,1] dL ?_;exact Zz.1):p:=f ⟨h⟩
theorem g9Z(h:q)(f:Hz q→p:=by intro Zz;refine yI (k:=8) (key:=p1) (v:=1) UL.out (fL.int Tryz.underlying3) rfl rfl rfl rfl ?_;refine cC [1,1,1,1,1,0,0,0,1] dL ?_;exact Zz.1):p:=f ⟨h⟩
theorem an4(h:q)(f:Hz q→p:=by intro Zz;refine rq rfl (cH hkk.sl) ?_;refine rq rfl (eM rfl hkk.sl (mQ a_ a_)) ?_;refine jG ?_;refine rq rfl (cH hkk.sl) ?_;refine rq rfl (eM rfl hkk.sl (mQ a_ a_)) ?_;exact Zz.1):p:=f ⟨h⟩
theorem af6(h:q)(f:Hz q→p:=by intro Zz;refine jS ?_;refine dM rfl rfl (aU (aR.one hx.v.sl) (aU rfl (aU (Sl.one hx.c.mt.l) (aU (aR.one hx.c.mt.n) (aU rfl (aU (aR.one hx.o.sl) (iO rfl hx.t.mt.l hx.t.mt.n rfl))))))) ?_;refine qT ?_;refine jG ?_;refine dP 2 ?_;refine s_4 ?_;exact Zz.1):p:=f ⟨h⟩
theorem t6(h:q)(f:Hz q→p:=by intro Zz;refine jG ?_;refine dP 6 ?_;refine dP 5 ?_;refine s_4 ?_;exact Zz.1):p:=f ⟨h⟩
theorem aD(h:q)(f:Hz q→p:=by intro Zz;refine s_2 ?_;exact Zz.1):p:=f ⟨h⟩
theorem CE(h:q)(f:Hz q→p:=by intro Zz;refine s_5 ?_;refine oq (cH hS) ?_;refine oq (eM rfl hS (DZ a_ a_)) ?_;exact Zz.1):p:=f ⟨h⟩
theorem aH(h:q)(f:Hz q→p:=by intro Zz;refine jG ?_;exact Zz.1):p:=f ⟨h⟩
theorem S0(h:q)(f:Hz q→p:=by intro Zz;refine s8 _ (eC AG.out rfl (d7 hc1) rfl rfl) ?_;exact Zz.1):p:=f ⟨h⟩
theorem aF(h:q)(f:Hz q→p:=by intro Zz;refine s_5 ?_;exact Zz.1):p:=f ⟨h⟩
theorem aI(h:q)(f:Hz q→p:=by intro Zz;refine s_3 ?_;exact Zz.1):p:=f ⟨h⟩
theorem Q6(h:q)(f:Hz q→p:=by intro Zz;refine cY 8 ?_;refine cY 9 ?_;refine cY 10 ?_;refine bW 12 ?_;refine AF ?_;refine cC [0,0,0,1] dL ?_;refine cY 13 ?_;exact Zz.1):p:=f ⟨h⟩
theorem FV(h:q)(f:Hz q→p:=by intro Zz;refine oq (GC (i:=0) (off:=0) UL.out SZ.out rfl rfl a_ a_ rT) ?_;exact Zz.1):p:=f ⟨h⟩
theorem adY(h:q)(f:Hz q→p:=by intro Zz;refine dM rfl rfl (aU (aR.one h.v.sl) (aU rfl (aU (Sl.one h.c.mt.l) (aU (aR.one h.c.mt.n) (aU rfl (aU (aR.one h.o.sl) (iO rfl h.t.mt.l h.t.mt.n rfl))))))) ?_;exact Zz.1):p:=f ⟨h⟩
theorem aJ(h:q)(f:Hz q→p:=by intro Zz;refine s_4 ?_;exact Zz.1):p:=f ⟨h⟩
theorem uE(h:q)(f:Hz q→p:=by intro Zz;refine oq gZ ?_;refine aI ?_;exact Zz.1):p:=f ⟨h⟩
theorem I6(h:q)(f:Hz q→p:=by intro Zz;refine cY 0 ?_;refine cY 1 ?_;refine cY 2 ?_;exact Zz.1):p:=f ⟨h⟩
theorem Q_(h:q)(f:Hz q→p:=by intro Zz;refine oq (f7 (v:=lv) PL.out rfl (d7 hE.cl) rfl) ?_;refine oq (e_ hE.bl.sl) ?_;refine aI ?_;exact Zz.1):p:=f ⟨h⟩
theorem aeW(h:q)(f:Hz q→p:=by intro Zz;refine oq (cM nD) ?_;refine s_7 ?_;refine oq (cM nD) ?_;refine s_6 ?_;refine oq (cM nD) ?_;refine aD ?_;refine dP 0 ?_;refine aF ?_;exact Zz.1):p:=f ⟨h⟩
theorem aeO(h:q)(f:Hz q→p:=by intro Zz;refine oq (QE rfl rfl a_ a_) ?_;refine oq (PO rfl rfl (Int.ediv_nonneg a_ (Int.le_of_lt (Int.pow_pos a_)))) ?_;refine aJ ?_;refine zJ ?_;exact Zz.1):p:=f ⟨h⟩
theorem LN(h:q)(f:Hz q→p:=by intro Zz;refine jS ?_;refine aH ?_;refine qT ?_;refine aI ?_;refine s8 _ (YV rfl) ?_;exact Zz.1):p:=f ⟨h⟩
theorem R8(h:q)(f:Hz q→p:=by intro Zz;refine rq rfl (u7 (i:=q) (off:=0) UL.out SZ.out rfl rfl a_ a_) ?_;exact Zz.1):p:=f ⟨h⟩
theorem MH(h:q)(f:Hz q→p:=by intro Zz;refine dM rfl rfl (aU rfl (aU rfl (aU (eJ.one (hK i a_ a_)) rfl))) ?_;exact Zz.1):p:=f ⟨h⟩
theorem aq_(h:q)(f:Hz q→p:=by intro Zz;refine kV [qt 0,qt 1,qt 2,qt 3,qt 4,qt 5,qt 6,qt 7,qt 8,qt 9,qt 10,qt 11,qt 12,qt 13,qt 14,qt 15,qt 16,qt 17,qt 18,ld 19] ?_;refine g2Z ?_;refine g2Z ?_;refine aD ?_;refine g5Z ?_;refine aH ?_;refine g5Z ?_;refine aH ?_;exact Zz.1):p:=f ⟨h⟩
theorem yB(h:q)(f:Hz q→p:=by intro Zz;refine dM rfl rfl (iO rfl hMt.l hMt.n rfl) ?_;exact Zz.1):p:=f ⟨h⟩
theorem LV(h:q)(f:Hz q→p:=by intro Zz;refine oq (f7 (v:=(Value.map (some bd))) PL.out rfl (d7 hE.cd) rfl) ?_;exact Zz.1):p:=f ⟨h⟩
theorem MI(h:q)(f:Hz q→p:=by intro Zz;refine cY 9 ?_;refine cY 10 ?_;exact Zz.1):p:=f ⟨h⟩
theorem ae3(h:q)(f:Hz q→p:=by intro Zz;refine oq (cH hkv) ?_;refine oq (fC hkv) ?_;refine oq (d_ PL.out rfl hkv a_ a_ a_ (w_ (o:=1) a_ a_ a_ rfl)) ?_;exact Zz.1):p:=f ⟨h⟩
theorem anL(h:q)(f:Hz q→p:=by intro Zz;refine dM rfl rfl (aU (aR.one hwq.v.sl) (aU rfl (aU (Sl.one hwq.c.mt.l) (aU (aR.one hwq.c.mt.n) (aU rfl (aU (aR.one hwq.o.sl) (iO rfl hwq.t.mt.l hwq.t.mt.n rfl))))))) ?_;exact Zz.1):p:=f ⟨h⟩
theorem oQ(h:q)(f:Hz q→p:=by intro Zz;refine cC [0,0,0,0,1] dL ?_;exact Zz.1):p:=f ⟨h⟩
theorem lP(h:q)(f:Hz q→p:=by intro Zz;refine DD ?_;refine aH ?_;exact Zz.1):p:=f ⟨h⟩
theorem M7(h:q)(f:Hz q→p:=by intro Zz;refine cY 5 ?_;refine cY 6 ?_;refine cY 7 ?_;exact Zz.1):p:=f ⟨h⟩
theorem ah7(h:q)(f:Hz q→p:=by intro Zz;refine dM rfl rfl (aU rfl (aU rfl (aU rfl (aU rfl (aU rfl (aU (eJ.one (hH.hk i a_ a_)) rfl)))))) ?_;exact Zz.1):p:=f ⟨h⟩
theorem ZM(h:q)(f:Hz q→p:=by intro Zz;refine oq (cH hkk.sl) ?_;refine oq (eM rfl hkk.sl (mQ a_ a_)) ?_;exact Zz.1):p:=f ⟨h⟩
theorem QK(h:q)(f:Hz q→p:=by intro Zz;refine oq (cH hH.sl) ?_;refine oq (eM rfl hH.sl (S6 a_ a_)) ?_;exact Zz.1):p:=f ⟨h⟩
theorem WD(h:q)(f:Hz q→p:=by intro Zz;refine cY 0 ?_;refine cY 1 ?_;refine jZ 2 rfl gZ ?_;refine cY 3 ?_;refine cY 5 ?_;exact Zz.1):p:=f ⟨h⟩
theorem W0(h:q)(f:Hz q→p:=by intro Zz;refine oq (GC (i:=1) (off:=0) UL.out SZ.out rfl rfl a_ a_ rT) ?_;exact Zz.1):p:=f ⟨h⟩
theorem mW(h:q)(f:Hz q→p:=by intro Zz;refine cC [0,0,0,1] dL ?_;exact Zz.1):p:=f ⟨h⟩
theorem ap0(h:q)(f:Hz q→p:=by intro Zz;refine I9 ?_;refine aZ [] (XG ((st l i).tm.sz.toNat+1) _ _ _ _ _ _ _ _ _ _ _ _ _ _ _ _ _ _ _ _ _ _ _ _ N hX (hE.k i i1 a_) h.v hstv hct.1 hct.2 a_) ?_;exact Zz.1):p:=f ⟨h⟩
theorem PQ(h:q)(f:Hz q→p:=by intro Zz;refine jE _ (vi 3) (eC AG.out rfl (d7 hc3) rfl rfl) (fA rfl) ?_;exact Zz.1):p:=f ⟨h⟩
theorem GX(h:q)(f:Hz q→p:=by intro Zz;refine dM rfl rfl (iO rfl h8.mt.l h8.mt.n rfl) ?_;exact Zz.1):p:=f ⟨h⟩
theorem R9(h:q)(f:Hz q→p:=by intro Zz;refine oq (cH hS) ?_;refine oq (eM rfl hS (SD a_ a_)) ?_;exact Zz.1):p:=f ⟨h⟩
theorem o9(h:q)(f:Hz q→p:=by intro Zz;refine cC [1,0,1] dL ?_;exact Zz.1):p:=f ⟨h⟩
theorem rR(h:q)(f:Hz q→p:=by intro Zz;refine oq gZ ?_;refine aH ?_;exact Zz.1):p:=f ⟨h⟩
theorem AE(h:q)(f:Hz q→p:=by intro Zz;refine aD ?_;refine og (e_ hS) cZ ?_;exact Zz.1):p:=f ⟨h⟩
theorem oM(h:q)(f:Hz q→p:=by intro Zz;refine apV ?_;refine aD ?_;exact Zz.1):p:=f ⟨h⟩
theorem RO(h:q)(f:Hz q→p:=by intro Zz;refine oq (bL (out:=aDK) BI.out [] rfl rfl) ?_;refine aI ?_;exact Zz.1):p:=f ⟨h⟩
theorem aN(h:q)(f:Hz q→p:=by intro Zz;refine s_6 ?_;exact Zz.1):p:=f ⟨h⟩
theorem oA(h:q)(f:Hz q→p:=by intro Zz;refine aH ?_;refine zJ ?_;exact Zz.1):p:=f ⟨h⟩
theorem tC(h:q)(f:Hz q→p:=by intro Zz;refine dP 4 ?_;refine dP 3 ?_;exact Zz.1):p:=f ⟨h⟩
theorem pW(h:q)(f:Hz q→p:=by intro Zz;refine j8 rfl eQ ho1 ?_;exact Zz.1):p:=f ⟨h⟩
theorem anZ(h:q)(f:Hz q→p:=by intro Zz;refine rq rfl (cH hkk.sl) ?_;refine rq rfl (eM rfl hkk.sl (mQ a_ a_)) ?_;refine I9 ?_;exact Zz.1):p:=f ⟨h⟩
theorem xO(h:q)(f:Hz q→p:=by intro Zz;refine oq (e_ hS) ?_;refine aI ?_;exact Zz.1):p:=f ⟨h⟩
theorem apN(h:q)(f:Hz q→p:=by intro Zz;refine oq (zS PL.out rfl (qD (k:=7) rfl) a_ a_) ?_;refine cC [1,1,1,0,0,1,1,1] dL ?_;exact Zz.1):p:=f ⟨h⟩
theorem aS(h:q)(f:Hz q→p:=by intro Zz;refine s_7 ?_;exact Zz.1):p:=f ⟨h⟩
theorem YF(h:q)(f:Hz q→p:=by intro Zz;refine oq (cH hF.v) ?_;refine oq (eM rfl hF.v (E6 a_ a_)) ?_;exact Zz.1):p:=f ⟨h⟩
theorem aDO(h:q)(f:Hz q→p:=by intro Zz;refine dM rfl rfl (aU rfl (aU (aR.one hmb.mt) (aU rfl (aU (aR.one hsy.v.sl) (aU rfl (aU (Sl.one hsy.c.mt.l) (aU (aR.one hsy.c.mt.n) (aU rfl (aU (aR.one hsy.o.sl) (iO rfl hsy.t.mt.l hsy.t.mt.n rfl)))))))))) ?_;refine aH ?_;exact Zz.1):p:=f ⟨h⟩
theorem anV(h:q)(f:Hz q→p:=by intro Zz;refine oq (cH hkv) ?_;refine oq (fC hkv) ?_;refine oq (d_ PL.out rfl hkv a_ a_ a_ (w_ (o:=0) a_ a_ a_ rfl)) ?_;exact Zz.1):p:=f ⟨h⟩
theorem ZL(h:q)(f:Hz q→p:=by intro Zz;refine jE _ (vi 3) (eC AG.out rfl (d7 hc1) rfl rfl) (fA rfl) ?_;exact Zz.1):p:=f ⟨h⟩
theorem WE(h:q)(f:Hz q→p:=by intro Zz;refine jE _ (vi 3) (eC AG.out rfl (d7 hc2) rfl rfl) (fA rfl) ?_;exact Zz.1):p:=f ⟨h⟩
theorem anW(h:q)(f:Hz q→p:=by intro Zz;refine aJ ?_;refine oq (cM (IH _ _ _ _ _ _ (hK i i1 a_) hv (hfk i i1 a_) a_)) ?_;refine aJ ?_;refine dP 1 ?_;refine aJ ?_;exact Zz.1):p:=f ⟨h⟩
theorem vU(h:q)(f:Hz q→p:=by intro Zz;refine cC [0,0,0,0,0,1] dL ?_;exact Zz.1):p:=f ⟨h⟩
theorem rQ(h:q)(f:Hz q→p:=by intro Zz;refine ao9 ?_;refine aH ?_;exact Zz.1):p:=f ⟨h⟩
theorem R4(h:q)(f:Hz q→p:=by intro Zz;refine jZ 8 rfl gZ ?_;refine cY 9 ?_;refine bW 10 ?_;exact Zz.1):p:=f ⟨h⟩
theorem EQ(h:q)(f:Hz q→p:=by intro Zz;refine aD ?_;refine og (fK hbv) cZ ?_;exact Zz.1):p:=f ⟨h⟩
theorem sY(h:q)(f:Hz q→p:=by intro Zz;refine dP 2 ?_;refine aJ ?_;exact Zz.1):p:=f ⟨h⟩
theorem aBb(h:q)(f:Hz q→p:=by intro Zz;refine aF ?_;refine oq (cH hv.sl) ?_;refine oq (eM rfl hv.sl (mQ a_ a_)) ?_;refine dM rfl rfl (aU rfl (aU (Sl.one (hv.at_ (t.n) a_ a_).mt.l) (aU (aR.one (hv.at_ (t.n) a_ a_).mt.n) (aU rfl rfl)))) ?_;refine aH ?_;exact Zz.1):p:=f ⟨h⟩
theorem VT(h:q)(f:Hz q→p:=by intro Zz;refine oq (cH hv) ?_;refine oq (eM rfl hv (E6 a_ a_)) ?_;exact Zz.1):p:=f ⟨h⟩
theorem EM(h:q)(f:Hz q→p:=by intro Zz;refine oq (cM Q2) ?_;refine aJ ?_;exact Zz.1):p:=f ⟨h⟩
theorem t8(h:q)(f:Hz q→p:=by intro Zz;refine apV ?_;refine aI ?_;exact Zz.1):p:=f ⟨h⟩
theorem AO(h:q)(f:Hz q→p:=by intro Zz;refine cC [0,0,0,0,0,1,1] dL ?_;exact Zz.1):p:=f ⟨h⟩
theorem QB(h:q)(f:Hz q→p:=by intro Zz;refine jS ?_;refine DD ?_;refine qT ?_;refine aH ?_;exact Zz.1):p:=f ⟨h⟩
theorem FM(h:q)(f:Hz q→p:=by intro Zz;refine aD ?_;refine KJ ?_;refine aH ?_;exact Zz.1):p:=f ⟨h⟩
theorem C6(h:q)(f:Hz q→p:=by intro Zz;refine oq (e_ hS) ?_;refine aD ?_;exact Zz.1):p:=f ⟨h⟩
theorem QH(h:q)(f:Hz q→p:=by intro Zz;refine s8 _ (eC AG.out rfl (d7 hc3) rfl rfl) ?_;exact Zz.1):p:=f ⟨h⟩
theorem sZ(h:q)(f:Hz q→p:=by intro Zz;refine s8 _ (YV rfl) ?_;exact Zz.1):p:=f ⟨h⟩
theorem WZ(h:q)(f:Hz q→p:=by intro Zz;refine bW 6 ?_;refine g9Z ?_;refine cY 7 ?_;refine cY 8 ?_;exact Zz.1):p:=f ⟨h⟩
theorem aDB(h:q)(f:Hz q→p:=by intro Zz;refine oq (f7 (v:=lv) PL.out rfl (d7 hE.cl) rfl) ?_;refine oq (cH hE.bl.sl) ?_;refine oq (fC hE.bl.sl) ?_;refine oq (d_ PL.out rfl hE.bl.sl a_ a_ a_ (PY (o:=0) a_ a_ a_ rfl)) ?_;exact Zz.1):p:=f ⟨h⟩
theorem aCB(h:q)(f:Hz q→p:=by intro Zz;refine dM rfl rfl (aU rfl (aU (Sl.one (hkk.at_ (1+((t.kids.length:Int)-2)) a_ a_).mt.l) (aU (aR.one (hkk.at_ (1+((t.kids.length:Int)-2)) a_ a_).mt.n) (aU rfl rfl)))) ?_;refine s_8 ?_;exact Zz.1):p:=f ⟨h⟩
theorem Y0(h:q)(f:Hz q→p:=by intro Zz;refine aZ [0,0,0,0,0] (Q8 (u:=u1) (w:=w) a_ e1) ?_;exact Zz.1):p:=f ⟨h⟩
theorem aeQ(h:q)(f:Hz q→p:=by intro Zz;refine aD ?_;refine oq (eH (nM (i:=0) IH hT hx hl hin hf hr hk a_ a_ hc1 hc2) rfl rfl) ?_;exact Zz.1):p:=f ⟨h⟩
theorem US(h:q)(f:Hz q→p:=by intro Zz;refine jE _ (vi 3) (eC AG.out rfl (d7 hc4) rfl rfl) (fA rfl) ?_;exact Zz.1):p:=f ⟨h⟩
theorem afI(h:q)(f:Hz q→p:=by intro Zz;refine qq (zU UL.out SZ.out eQ hS rfl a_ a_) ?_;refine qq (OR FI.out rfl hS a_ a_) ?_;exact Zz.1):p:=f ⟨h⟩
theorem ahT(h:q)(f:Hz q→p:=by intro Zz;refine aZ [] (kR N hX (c:=(vr F.vs (Dd.fk L i).v).hi-(vr F.vs (Dd.fk L i).v).lo+1) mM) ?_;exact Zz.1):p:=f ⟨h⟩
theorem wN(h:q)(f:Hz q→p:=by intro Zz;refine dP 2 ?_;refine dP 1 ?_;exact Zz.1):p:=f ⟨h⟩
theorem ahE(h:q)(f:Hz q→p:=by intro Zz;refine fR ?_;refine jE _ (.int .i64 (vE [A])) (eC AG.out rfl (d7 hc2) rfl rfl) (fA rfl) ?_;exact Zz.1):p:=f ⟨h⟩
theorem cW(h:q)(f:Hz q→p:=by intro Zz;refine I9 ?_;exact Zz.1):p:=f ⟨h⟩
theorem at7(h:q)(f:Hz q→p:=by intro Zz;refine aD ?_;refine oq (e_ hkk.sl) ?_;refine aN ?_;refine ZM ?_;refine aH ?_;refine aZ [] (DH N (hkk.at_ 0 a_ a_) (lo:=0) (hi:=(t.kids.length:Int)-2) a_ mM mM) ?_;exact Zz.1):p:=f ⟨h⟩
theorem cI(h:q)(f:Hz q→p:=by intro Zz;refine ao9 ?_;exact Zz.1):p:=f ⟨h⟩
theorem UK(h:q)(f:Hz q→p:=by intro Zz;refine aZ [] (aAI N k9 (p:=0) (q:=2^(bi-1-b).toNat) mM aJn) ?_;exact Zz.1):p:=f ⟨h⟩
theorem uF(h:q)(f:Hz q→p:=by intro Zz;refine dP 3 ?_;refine aJ ?_;exact Zz.1):p:=f ⟨h⟩
theorem P4(h:q)(f:Hz q→p:=by intro Zz;refine I6 ?_;refine cY 3 ?_;refine cY 4 ?_;exact Zz.1):p:=f ⟨h⟩
theorem aiB(h:q)(f:Hz q→p:=by intro Zz;refine aD ?_;refine oq (cH hE.bl.sl) ?_;refine oq (eM rfl hE.bl.sl (D0 a_ a_)) ?_;exact Zz.1):p:=f ⟨h⟩
theorem atC(h:q)(f:Hz q→p:=by intro Zz;refine aJ ?_;refine og (fK (hbv i a_ a_)) cZ ?_;refine aH ?_;refine og (fZ (d9 (hbv i a_ a_))) cZ ?_;refine og (fY (d9 (hbv i a_ a_))) cZ ?_;refine aI ?_;exact Zz.1):p:=f ⟨h⟩
theorem VK(h:q)(f:Hz q→p:=by intro Zz;refine oq (cM (BP (pD.one hc1 hA) aeF)) ?_;refine aS ?_;exact Zz.1):p:=f ⟨h⟩
theorem IZ(h:q)(f:Hz q→p:=by intro Zz;refine fF 3 1 ?_;refine fF 247 3 ?_;exact Zz.1):p:=f ⟨h⟩
theorem sF(h:q)(f:Hz q→p:=by intro Zz;refine fR ?_;refine T8 ?_;exact Zz.1):p:=f ⟨h⟩
theorem wM(h:q)(f:Hz q→p:=by intro Zz;refine MI ?_;refine cY 11 ?_;exact Zz.1):p:=f ⟨h⟩
theorem au_(h:q)(f:Hz q→p:=by intro Zz;refine aI ?_;refine og (cH hv) cZ ?_;refine og (fC hv) cZ ?_;refine og (d_ PL.out rfl hv a_ a_ a_ (gU (o:=1) a_ a_ a_ rfl)) cZ ?_;refine aJ ?_;exact Zz.1):p:=f ⟨h⟩
theorem avW(h:q)(f:Hz q→p:=by intro Zz;refine R8 ?_;refine rq rfl (f7 (v:=(.int .i64 (gi [k.1,k.2.1,k.2.2] q))) PL.out rfl (p_ (k:=4) rfl) (DK (ys:=[k.1,k.2.1,k.2.2]) a_ k6)) ?_;refine aH ?_;exact Zz.1):p:=f ⟨h⟩
theorem atK(h:q)(f:Hz q→p:=by intro Zz;refine R8 ?_;refine rq rfl (f7 (v:=(.int .i64 (gi [k.1,k.2.1,k.2.2] q))) PL.out rfl (p_ (k:=7) rfl) (DK (ys:=[k.1,k.2.1,k.2.2]) a_ k6)) ?_;refine aH ?_;exact Zz.1):p:=f ⟨h⟩
theorem tR(h:q)(f:Hz q→p:=by intro Zz;refine j8 rfl eQ ho2 ?_;exact Zz.1):p:=f ⟨h⟩
theorem atO(h:q)(f:Hz q→p:=by intro Zz;refine dM rfl rfl (aU ho3 (aU rfl (aU (Sl.one h.c.mt.l) (aU (aR.one h.c.mt.n) (aU rfl (aU ho4 (iO rfl h.t.mt.l h.t.mt.n rfl))))))) ?_;refine aH ?_;exact Zz.1):p:=f ⟨h⟩
theorem PA(h:q)(f:Hz q→p:=by intro Zz;refine oq (cM (rL hF0 hVa)) ?_;refine aS ?_;exact Zz.1):p:=f ⟨h⟩
theorem ag1(h:q)(f:Hz q→p:=by intro Zz;refine cI ?_;refine g9Z ?_;refine bW 3 ?_;refine g8Z ?_;refine cY 7 ?_;refine cY 8 ?_;exact Zz.1):p:=f ⟨h⟩
theorem B8(h:q)(f:Hz q→p:=by intro Zz;refine cC [0,0,0,1,0,0,1] dL ?_;exact Zz.1):p:=f ⟨h⟩
theorem avP(h:q)(f:Hz q→p:=by intro Zz;refine apN ?_;refine bW 14 ?_;refine aZ [0,4,4,0,0] (IE (L:=L2) (M:=M) (v:=(fk cN j).v) (l:=gi S (fk cN j).l) (h:=gi S (fk cN j).h) (u:=u2) (w:=w) a_) ?_;exact Zz.1):p:=f ⟨h⟩
theorem b_(h:q)(f:Hz q→p:=by intro Zz;refine s_8 ?_;exact Zz.1):p:=f ⟨h⟩
theorem atZ(h:q)(f:Hz q→p:=by intro Zz;refine aJ ?_;refine og (cH hF.v) cZ ?_;refine og (fC hF.v) cZ ?_;refine og (d_ PL.out rfl hF.v a_ a_ a_ (gU (o:=1) a_ a_ a_ rfl)) cZ ?_;exact Zz.1):p:=f ⟨h⟩
theorem K5(h:q)(f:Hz q→p:=by intro Zz;refine aH ?_;refine dP 0 ?_;refine aJ ?_;exact Zz.1):p:=f ⟨h⟩
theorem agF(h:q)(f:Hz q→p:=by intro Zz;refine bW 14 ?_;refine DD ?_;refine cC [0,0,0,1,0,0,0,0,1] dL ?_;refine cY 15 ?_;exact Zz.1):p:=f ⟨h⟩
theorem UE(h:q)(f:Hz q→p:=by intro Zz;refine aH ?_;refine og (cM B7) cZ ?_;refine aI ?_;exact Zz.1):p:=f ⟨h⟩
theorem ahV(h:q)(f:Hz q→p:=by intro Zz;refine oq (bL (out:=[vi vars,vn,vi 0]) BI.out [(0,[vi vars])] rfl rfl) ?_;exact Zz.1):p:=f ⟨h⟩
theorem atE(h:q)(f:Hz q→p:=by intro Zz;refine qq (fZ (d9 ha)) ?_;refine qq (fY (d9 ha)) ?_;refine aD ?_;refine qq (fZ (d9 hb)) ?_;refine qq (fY (d9 hb)) ?_;refine aD ?_;exact Zz.1):p:=f ⟨h⟩
theorem ar_(h:q)(f:Hz q→p:=by intro Zz;refine aI ?_;refine qq (cH hF.v) ?_;refine qq (fC hF.v) ?_;refine qq (d_ PL.out rfl hF.v a_ a_ a_ (gU (o:=2) a_ a_ a_ rfl)) ?_;exact Zz.1):p:=f ⟨h⟩
theorem OI(h:q)(f:Hz q→p:=by intro Zz;refine qq (cH hv) ?_;refine qq (fC hv) ?_;exact Zz.1):p:=f ⟨h⟩
theorem u5(h:q)(f:Hz q→p:=by intro Zz;refine fR ?_;refine S0 ?_;exact Zz.1):p:=f ⟨h⟩
theorem asI(h:q)(f:Hz q→p:=by intro Zz;refine kV [qt 0,qt 1,qt 2,qt 3,qt 4,qt 6,qt 7,qt 8,qt 9,qt 10,qt 11,ld 5,ld 12,ld 13] ?_;refine aI ?_;refine an4 ?_;refine aH ?_;refine anZ ?_;exact Zz.1):p:=f ⟨h⟩
theorem at5(h:q)(f:Hz q→p:=by intro Zz;refine oq (cH hv) ?_;refine oq (fC hv) ?_;refine oq (d_ PL.out rfl hv a_ a_ a_ (gU (o:=1) a_ a_ a_ rfl)) ?_;refine aI ?_;exact Zz.1):p:=f ⟨h⟩
theorem auN(h:q)(f:Hz q→p:=by intro Zz;refine b_ ?_;refine kV [qt 0,qt 1,qt 2,qt 3,qt 4,qt 5,qt 6,qt 7,qt 8,qt 9,qt 10,qt 11,qt 12,qt 13,qt 14,ld 15,qt 16,ld 17] ?_;refine b_ ?_;exact Zz.1):p:=f ⟨h⟩
theorem atQ(h:q)(f:Hz q→p:=by intro Zz;refine qq (cH hL) ?_;refine qq (fC hL) ?_;refine qq (d_ PL.out rfl hL a_ a_ a_ (gU (o:=3) a_ a_ a_ rfl)) ?_;refine aD ?_;exact Zz.1):p:=f ⟨h⟩
theorem wL(h:q)(f:Hz q→p:=by intro Zz;refine aI ?_;refine zJ ?_;exact Zz.1):p:=f ⟨h⟩
theorem au9(h:q)(f:Hz q→p:=by intro Zz;refine aJ ?_;refine og (fK hbv) cZ ?_;refine aH ?_;refine og (fZ (d9 hbv)) cZ ?_;refine og (fY (d9 hbv)) cZ ?_;refine aJ ?_;exact Zz.1):p:=f ⟨h⟩
theorem UD(h:q)(f:Hz q→p:=by intro Zz;refine oq (bL (out:=aJL) BI.out [] rfl rfl) ?_;exact Zz.1):p:=f ⟨h⟩
theorem UM(h:q)(f:Hz q→p:=by intro Zz;refine bW 13 ?_;refine DD ?_;refine I_ [0,0,0,1] ?_;exact Zz.1):p:=f ⟨h⟩
theorem asU(h:q)(f:Hz q→p:=by intro Zz;refine aJ ?_;refine KJ ?_;refine qq (eH nD rfl rfl) ?_;refine aI ?_;refine uY ?_;refine qq (eH lY rfl rfl) ?_;refine b_ ?_;exact Zz.1):p:=f ⟨h⟩
theorem ahP(h:q)(f:Hz q→p:=by intro Zz;refine oq (cH hB.sl) ?_;refine oq (eM rfl hB.sl (JT a_ a_)) ?_;exact Zz.1):p:=f ⟨h⟩
theorem auY(h:q)(f:Hz q→p:=by intro Zz;refine oq (cH hH.sl) ?_;refine oq (fC hH.sl) ?_;refine oq (JU (o:=3) AG.out rfl hH.sl a_ a_ a_ (apA a_ a_ a_)) ?_;exact Zz.1):p:=f ⟨h⟩
theorem av9(h:q)(f:Hz q→p:=by intro Zz;refine rE 14 [] ?_;refine P4 ?_;refine cY 5 ?_;refine jZ 6 rfl (Dd.UQ (by rw[LK]) (Dd.KD rfl rfl a_ a_ aJS)) ?_;exact Zz.1):p:=f ⟨h⟩
theorem UT(h:q)(f:Hz q→p:=by intro Zz;refine s8 _ (eC AG.out rfl (d7 hc2) rfl rfl) ?_;exact Zz.1):p:=f ⟨h⟩
theorem VM(h:q)(f:Hz q→p:=by intro Zz;refine s8 _ (eC AG.out rfl (d7 hc4) rfl rfl) ?_;exact Zz.1):p:=f ⟨h⟩
theorem U5(h:q)(f:Hz q→p:=by intro Zz;refine s8 _ (eC AG.out rfl (d7 hc5) rfl rfl) ?_;exact Zz.1):p:=f ⟨h⟩
theorem U9(h:q)(f:Hz q→p:=by intro Zz;refine s8 _ (eC AG.out rfl (d7 hc8) rfl rfl) ?_;exact Zz.1):p:=f ⟨h⟩
theorem JK(h:q)(f:Hz q→p:=by intro Zz;refine oq (AB UL.out rfl rfl) ?_;exact Zz.1):p:=f ⟨h⟩
theorem yN(h:q)(f:Hz q→p:=by intro Zz;refine aH ?_;refine jS ?_;exact Zz.1):p:=f ⟨h⟩
theorem agX(h:q)(f:Hz q→p:=by intro Zz;refine oq (fK ha) ?_;refine aH ?_;refine oq (fK hb) ?_;refine aD ?_;exact Zz.1):p:=f ⟨h⟩
theorem ag9(h:q)(f:Hz q→p:=by intro Zz;refine oq (cH hsl) ?_;refine oq (eM rfl hsl (Dd.nX a_ a_)) ?_;exact Zz.1):p:=f ⟨h⟩
theorem ag8(h:q)(f:Hz q→p:=by intro Zz;refine kV [qt 0,qt 1,qt 2,qt 3,qt 4,qt 5,qt 6,qt 7,qt 8,ld 9,ld 10] ?_;exact Zz.1):p:=f ⟨h⟩
theorem awI(h:q)(f:Hz q→p:=by intro Zz;refine I6 ?_;refine cY 3 ?_;refine M7 ?_;refine jZ 8 rfl (cH hkk.sl) ?_;refine jZ 9 rfl (eM rfl hkk.sl (mQ a_ a_)) ?_;exact Zz.1):p:=f ⟨h⟩
theorem rJ(h:q)(f:Hz q→p:=by intro Zz;refine rq rfl gZ ?_;exact Zz.1):p:=f ⟨h⟩
theorem au3(h:q)(f:Hz q→p:=by intro Zz;refine aZ [] (XG (s.tm.sz.toNat+1) _ _ _ _ _ _ _ _ _ _ _ _ _ _ _ _ _ _ _ _ _ _ _ _ N hX hT h.v hhr.stv hct.1 hct.2 a_) ?_;exact Zz.1):p:=f ⟨h⟩
theorem dI(h:q)(f:Hz q→p:=by intro Zz;refine aID ?_;exact Zz.1):p:=f ⟨h⟩
theorem EE(h:q)(f:Hz q→p:=by intro Zz;refine dP 8 ?_;refine dP 7 ?_;exact Zz.1):p:=f ⟨h⟩
theorem av5(h:q)(f:Hz q→p:=by intro Zz;refine qq (cH hL) ?_;refine qq (fC hL) ?_;refine qq (d_ PL.out rfl hL a_ a_ a_ (gU (o:=2) a_ a_ a_ rfl)) ?_;exact Zz.1):p:=f ⟨h⟩
theorem auG(h:q)(f:Hz q→p:=by intro Zz;refine M7 ?_;refine bW 8 ?_;refine dM rfl rfl (aU rfl (aU (aR.one k7.mt) (aU rfl rfl))) ?_;refine cC [0,1] dL ?_;exact Zz.1):p:=f ⟨h⟩
theorem UN(h:q)(f:Hz q→p:=by intro Zz;refine aZ [] (VI N k7 k8 (op:=14) a_ a_) ?_;exact Zz.1):p:=f ⟨h⟩
theorem UF(h:q)(f:Hz q→p:=by intro Zz;refine aZ [] (VI N k7 k8 (op:=8) a_ a_) ?_;exact Zz.1):p:=f ⟨h⟩
theorem agL(h:q)(f:Hz q→p:=by intro Zz;refine oq (bL (out:=aIC) BI.out [] rfl rfl) ?_;refine aI ?_;exact Zz.1):p:=f ⟨h⟩
theorem atI(h:q)(f:Hz q→p:=by intro Zz;refine rE 15 [] ?_;refine cY 0 ?_;refine jZ 1 rfl gZ ?_;refine cY 2 ?_;refine cY 3 ?_;refine cY 4 ?_;refine M7 ?_;exact Zz.1):p:=f ⟨h⟩
theorem agM(h:q)(f:Hz q→p:=by intro Zz;refine oq (bL (out:=aJN) BI.out [] rfl rfl) ?_;refine aI ?_;exact Zz.1):p:=f ⟨h⟩
theorem afC(h:q)(f:Hz q→p:=by intro Zz;refine oq (bL (out:=aJh) BI.out [] rfl rfl) ?_;refine aI ?_;exact Zz.1):p:=f ⟨h⟩
theorem agJ(h:q)(f:Hz q→p:=by intro Zz;refine dM rfl rfl (iO rfl hq.mt.l hq.mt.n rfl) ?_;refine aH ?_;exact Zz.1):p:=f ⟨h⟩
theorem U7(h:q)(f:Hz q→p:=by intro Zz;refine bW 6 ?_;refine aZ [] (rC N hg) ?_;exact Zz.1):p:=f ⟨h⟩
theorem yQ(h:q)(f:Hz q→p:=by intro Zz;refine aH ?_;refine cW ?_;exact Zz.1):p:=f ⟨h⟩
theorem dS(h:q)(f:Hz q→p:=by intro Zz;refine aAY ?_;exact Zz.1):p:=f ⟨h⟩
theorem yR(h:q)(f:Hz q→p:=by intro Zz;refine aI ?_;refine cW ?_;exact Zz.1):p:=f ⟨h⟩
theorem NR(h:q)(f:Hz q→p:=by intro Zz;refine oq (e_ hB.sl) ?_;refine aI ?_;exact Zz.1):p:=f ⟨h⟩
theorem NY(h:q)(f:Hz q→p:=by intro Zz;refine DD ?_;refine aF ?_;refine lP ?_;exact Zz.1):p:=f ⟨h⟩
theorem ON(h:q)(f:Hz q→p:=by intro Zz;refine oq (e_ hH.sl) ?_;refine aI ?_;exact Zz.1):p:=f ⟨h⟩
theorem VP(h:q)(f:Hz q→p:=by intro Zz;refine bW 14 ?_;refine DD ?_;refine I_ [] ?_;exact Zz.1):p:=f ⟨h⟩
theorem ar1(h:q)(f:Hz q→p:=by intro Zz;refine aN ?_;refine oq (cM (IH _ _ _ _ _ _ _ False instDecidableFalse hF0 hV (hth i i1 a_) a_)) ?_;refine b_ ?_;exact Zz.1):p:=f ⟨h⟩
theorem asC(h:q)(f:Hz q→p:=by intro Zz;refine aN ?_;refine oq (cM (IH _ _ _ _ _ _ _ False instDecidableFalse hF0 hV (hel i i1 a_) a_)) ?_;refine aS ?_;exact Zz.1):p:=f ⟨h⟩
theorem VE(h:q)(f:Hz q→p:=by intro Zz;refine cY 8 ?_;refine MI ?_;refine bW 11 ?_;exact Zz.1):p:=f ⟨h⟩
theorem av6(h:q)(f:Hz q→p:=by intro Zz;refine aN ?_;refine oq (rZ UL.out SZ.out eQ hkv rfl a_ a_) ?_;refine oq (e_ hkd) ?_;refine aI ?_;exact Zz.1):p:=f ⟨h⟩
theorem auU(h:q)(f:Hz q→p:=by intro Zz;refine kV [qt 0,qt 1,qt 2,qt 3,qt 4,qt 5,qt 6,qt 7,qt 8,qt 9,qt 10,qt 11,ld 12] ?_;refine aH ?_;refine rJ ?_;exact Zz.1):p:=f ⟨h⟩
theorem EY(h:q)(f:Hz q→p:=by intro Zz;refine bW 4 ?_;refine aH ?_;exact Zz.1):p:=f ⟨h⟩
theorem U_(h:q)(f:Hz q→p:=by intro Zz;refine aZ [] (aFV N (i:=fi+b) a_ a_) ?_;exact Zz.1):p:=f ⟨h⟩
theorem JL(h:q)(f:Hz q→p:=by intro Zz;refine gW [0,0,0,1,0,1] dL ?_;exact Zz.1):p:=f ⟨h⟩
end Go
