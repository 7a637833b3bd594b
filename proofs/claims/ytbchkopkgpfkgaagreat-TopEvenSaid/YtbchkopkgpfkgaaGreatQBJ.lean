import Derived.Test.YtbchkopkgpfkgaaGreatQBF
import Derived.Test.YtbchkopkgpfkgaaGreatQAI
set_option linter.unusedVariables false
set_option linter.unusedSimpArgs false
noncomputable section
namespace Go.Proofs.YtbchkopkgpfkgaaGreat
open Classical Go Go.Vc
variable{F:Fl}{L:List Dd.Fk}{V:HV}{b bi fi i:Int}{k:Nat}{ls ms:List Value}{t:Tm}{u v:Value}{vs:List Vr}
abbrev sm(x:Int):Prop:=-1048576≤x∧x≤1048576
theorem UI{x:Int}(h:sm x):Dd.bF x:=by unfold Dd.bF;omega
theorem aCb{a:Int}(ha:sm a)(hb:sm b):¬Dd.ov a b:=by
 rintro⟨h0,h⟩;unfold Dd.mx at h;have h1:1≤(if a< -a then-a else a)∧(if a< -a then-a else a)≤1048576:=by split<;>omega
 have h2:(if b< -b then-b else b)≤1048576:=by split<;>omega
 have h3:(1048576:Int)≤1099511627776/(if a< -a then-a else a):=(Int.le_ediv_iff_mul_le aB).2 aB;omega
theorem aAF{a:Int}(ha:sm a)(hb:sm b):-1099511627776≤a*b∧a*b≤1099511627776:=by
 have h1:(a*b).natAbs≤1048576*1048576:=by
  rw[Int.natAbs_mul];exact Nat.mul_le_mul aB aB
 omega
theorem gM{op a:Int}(h0:0≤op)(h8:op≤8)(ha:sm a)(hb:sm b):Dd.bF (Dd.eG op a b):=by
 have hm:=aAF ha hb;have hd:=atG ha hb;have hd3:-1048576≤Dd.wO a b∧Dd.wO a b≤1048576:=hd.1;have hd4:=hd.2;have hd5:-1099511627776≤b*Dd.wO a b∧b*Dd.wO a b≤1099511627776:=hd4;have hq:op=4→¬b=0→Dd.bF (a-b*Dd.wO a b):=λ_ hz=>by
  have e:a-b*Dd.wO a b=DG a b:=(aC hz).symm;rw[e];have:=ai_ (x:=a) (y:=b);unfold Dd.bF;rcases(show b<0∨0<b by omega)with q|q
  ·have:=this.2.2 q;omega
  ·have:=this.2.1 q;omega
 unfold Dd.eG;rw[aC (aCb ha hb)];repeat' split
 all_goals first|(apply UI;constructor<;>omega)|(unfold Dd.bF;omega)|(exact hq aO aO)|skip
section
variable {o a b:Int}
theorem aEV(h:o=8):Dd.eG 0 a b=fP o a b:=by subst h;rfl
theorem aGZ(h:o=9):Dd.eG 1 a b=fP o a b:=by subst h;rfl
theorem aBC(ha:sm a)(hb:sm b)(h:o=10):Dd.eG 2 a b=fP o a b:=by subst h;rw[Dd.aEs rfl (aCb ha hb)];rfl
theorem aDs(h:o=11):Dd.eG 3 a b=fP o a b:=by subst h;rfl
theorem aCT(h:o=12):Dd.eG 4 a b=fP o a b:=by subst h;rfl
theorem aCk(h:o=13):Dd.eG 8 a b=fP o a b:=by
 subst h;show(if a=b then(1:Int)else 0)=if a=b then 1 else 0
 by_cases q:a=b<;>simp[q]
theorem aCX(h:o=14):(if decide (Dd.eG 8 a b=0)=true then(1:Int)else 0)=fP o a b:=by
 subst h;show _=if a≠b then(1:Int)else 0
 by_cases q:a=b;rw[Dd.aJm rfl q,aC bK,aC (λh=>h q)];rw[Dd.aJY rfl q,aK bK,aK q]
theorem aAC(h:o=15):Dd.eG 7 a b=fP o a b:=by
 subst h;show _=if a<b then(1:Int)else 0
 by_cases q:a<b;rw[Dd.WV rfl q,aK q];rw[Dd.ZB rfl q,aC q]
theorem aEB(h:o=18):(if decide (Dd.eG 7 a b=0)=true then(1:Int)else 0)=fP o a b:=by
 subst h;show _=if b≤a then(1:Int)else 0
 by_cases q:a<b;rw[Dd.WV rfl q,aC bK,aC aB];rw[Dd.ZB rfl q,aK bK,aK aB]
theorem aDm(h:o=17):Dd.eG 7 b a=fP o a b:=by
 subst h;show _=if b<a then(1:Int)else 0
 by_cases q:b<a;rw[Dd.WV rfl q,aK q];rw[Dd.ZB rfl q,aC q]
theorem aAA(h:o=16):(if decide (Dd.eG 7 b a=0)=true then(1:Int)else 0)=fP o a b:=by
 subst h;show _=if a≤b then(1:Int)else 0
 by_cases q:b<a;rw[Dd.WV rfl q,aC bK,aC aB];rw[Dd.ZB rfl q,aK bK,aK aB]
theorem aC5(h:o=21):Dd.eG 5 a b=fP o a b:=by
 subst h;show(if b<a then b else a)=aX a b;unfold aX;(repeat' split)<;>omega
theorem aCq(h:o=22):Dd.eG 6 a b=fP o a b:=by
 subst h;show(if a<b then b else a)=bJ a b;unfold bJ;(repeat' split)<;>omega
theorem aCn(h:o=19):(if Dd.Bd.mE 8 (!decide (a=0)) (!decide (b=0)) false=true then(1:Int)else 0)=fP o a b:=by
 subst h;show _=if a≠0∧b≠0 then(1:Int)else 0
 by_cases q:a=0<;>by_cases r:b=0<;>simp[q,r,Dd.Bd.mE]
theorem aAu(h:o=20):(if Dd.Bd.mE 14 (!decide (a=0)) (!decide (b=0)) false=true then(1:Int)else 0)=fP o a b:=by
 subst h;show _=if a≠0∨b≠0 then(1:Int)else 0
 by_cases q:a=0<;>by_cases r:b=0<;>simp[q,r,Dd.Bd.mE]
end
theorem eP{σ:aY}{n:Int}{f g:aV→Int}(h:∀e,f e=g e)(q:σ=[]∧∃l m,v= .agg #[.int .i64 n,l,m,.int .i64 (Dg n f).r]∧Dm V n l m f):
  σ=[]∧∃l m,v= .agg #[.int .i64 n,l,m,.int .i64 (Dg n g).r]∧Dm V n l m g:=by
 have e:f=g:=funext h;subst e;exact q
def mN(fi bi:Int)(e:aV):Nat→Int
 |0=>0
 |k+1=>mN fi bi e k+if e (fi+k)=true then 2^(bi-1-k).toNat else 0
theorem XF(fi bi:Int)(e:aV):∀k:Nat,(k:Int)≤bi→0≤mN fi bi e k∧mN fi bi e k+2^(bi-k).toNat≤2^bi.toNat
 |0,_=>⟨eL _,by simp[mN]⟩
 |k+1,h=>by
  have ih:=XF fi bi e k aB;have e1:(2:Int)^(bi-k).toNat=2^(bi-1-k).toNat+2^(bi-1-k).toNat:=by
   rw[show(bi-k).toNat=(bi-1-k).toNat+1 by omega,Int.pow_succ];omega
  have e2:(0:Int)<2^(bi-1-k).toNat:=Dd.kI _;rw[show bi-(k+1:Nat)=bi-1-k by omega];simp only[mN];split<;>omega
theorem K_(h:b≤12):(2:Int)^b.toNat≤4096:=by
 have:(2:Int)^b.toNat≤2^12:=by
  have:=oB (n:=2) aB (show b.toNat≤12 by omega)
  exact_mod_cast this
 omega
theorem alO(h:bi≤12)(e:aV)(hk:(k:Int)≤bi):0≤mN fi bi e k∧mN fi bi e k≤4096:=by
 have a:=XF fi bi e k hk;have b:=K_ h;have c:(0:Int)<2^(bi-k).toNat:=Dd.kI _;omega
theorem E9{e:aV}(h0:0≤b):Dd.eG 0 (mN fi bi e b.toNat) (if e (fi+b)=true then 2^(bi-1-b).toNat else 0)=mN fi bi e (b+1).toNat:=by
 rw[show(b+1).toNat=b.toNat+1 by omega];show mN fi bi e b.toNat+_=mN fi bi e b.toNat+_;rw[show((b.toNat:Nat):Int)=b by omega]
def oG(L:List Dd.Fk)(e:aV)(i:Int):Int:=mN (Dd.fk L i).l (Dd.fk L i).h e (Dd.fk L i).h.toNat
structure RG (vs:List Vr) (n:Int) (L:List Dd.Fk):Prop where
 v0:∀i:Int,0≤i→i<L.length→0≤(Dd.fk L i).v∧(Dd.fk L i).v<vs.length
 b0:∀i:Int,0≤i→i<L.length→0≤(Dd.fk L i).l∧0≤(Dd.fk L i).h∧(Dd.fk L i).l+(Dd.fk L i).h≤n
 hl:∀i:Int,0≤i→i<L.length→0≤(vr vs (Dd.fk L i).v).hi-(vr vs (Dd.fk L i).v).lo∧(vr vs (Dd.fk L i).v).hi-(vr vs (Dd.fk L i).v).lo<4096
def uW(vs:List Vr)(L:List Dd.Fk)(e:aV):Nat→Bool
 |0=>true
 |k+1=>Dd.Bd.mE 8 (uW vs L e k) (decide (Dd.eG 7 (oG L e k) ((vr vs (Dd.fk L k).v).hi-(vr vs (Dd.fk L k).v).lo+1)=1)) false
theorem RS{n:Int}(h0:0≤fi)(h1:fi+bi≤n):∀k:Nat,(k:Int)≤bi→Dd.dR n (λe=>mN fi bi e k)
 |0,_=>λ_ _ _=>rfl
 |k+1,h=>λe e' he=>by
  have ih:=RS h0 h1 k aB e e' he;have ih:mN fi bi e k=mN fi bi e' k:=ih;show mN fi bi e k+_=mN fi bi e' k+_;rw[ih,he (fi+k) aB aB]
theorem am0{n:Int}(h0:0≤fi)(hb:bi≤12)(h1:fi+bi≤n)(h:(k:Int)≤bi):Fd n (λe=>mN fi bi e k):=
 ⟨λe=>by have:=alO (fi:=fi) hb e h;unfold Dd.bF;omega,RS h0 h1 k h⟩
theorem U8{σ:aY}{n:Int}{b c:aV→Bool}(h:∀e,b e=c e)(q:σ=[]∧∃m,v= .agg #[.int .i64 n,m,.int .i64 (Bg n b).r]∧Bm V n m b):
  σ=[]∧∃m,v= .agg #[.int .i64 n,m,.int .i64 (Bg n c).r]∧Bm V n m c:=by
 have e:b=c:=funext h;subst e;exact q
theorem aj_{σ:aY}{n:Int}{b c:aV→Bool}(h:∀e,b e=c e)(q:σ=[]∧∃m,v= .tuple #[.agg #[.int .i64 n,m,.int .i64 (Bg n b).r],.int .i64 0]∧Bm V n m b):
  σ=[]∧∃m,v= .tuple #[.agg #[.int .i64 n,m,.int .i64 (Bg n c).r],.int .i64 0]∧Bm V n m c:=by
 have e:b=c:=funext h;subst e;exact q
theorem ZK{σ:aY}{n:Int}{f g:aV→Int}(h:∀e,f e=g e)(q:σ=[]∧∃l m,v= .tuple #[.agg #[.int .i64 n,l,m,.int .i64 (Dg n f).r],.int .i64 0]∧Dm V n l m f):
  σ=[]∧∃l m,v= .tuple #[.agg #[.int .i64 n,l,m,.int .i64 (Dg n g).r],.int .i64 0]∧Dm V n l m g:=by
 have e:f=g:=funext h;subst e;exact q
def dm1(vs:List Vr)(L:List Dd.Fk)(e:aV)(i:Int):Int:=Dd.eG 7 (oG L e i) ((vr vs (Dd.fk L i).v).hi-(vr vs (Dd.fk L i).v).lo+1)
theorem YM{e:aV}(h0:0≤i):Dd.Bd.mE 8 (uW vs L e i.toNat) (decide (dm1 vs L e i=1)) false=uW vs L e (i+1).toNat:=by
 rw[show(i+1).toNat=i.toNat+1 by omega];show _=Dd.Bd.mE 8 (uW vs L e i.toNat) (decide (Dd.eG 7 (oG L e ((i.toNat:Nat):Int)) _=1)) false;rw[show((i.toNat:Nat):Int)=i by omega];rfl
theorem aDD{n:Int}(N:Nb n)(h:RG vs n L)(h0:0≤i)(h1:i<L.length)(e:aV):0≤oG L e i∧oG L e i≤4096:=by
 have:=h.b0 i h0 h1;have:=N.n12;exact alO aB e aB
theorem BJ{n:Int}(N:Nb n)(h:RG vs n L)(h0:0≤i)(h1:i<L.length)(e:aV):sm (oG L e i):=by
 have:=aDD N h h0 h1 e;constructor<;>omega
theorem BT{l x:List Value}(h0:0≤i)(h1:i<l.length):gv (l++x) i=gv l i:=by
 simp only[gv];rw[bX,bX,oR aB]
theorem C4{l:List Value}(h:i=l.length):gv (l++ [u]) i=u:=by
 subst h;simp only[gv,iD];rw[bX,qN (cV _)];simp
def TV(ls ms:List Value)(n:Int)(G:Int→aV→Int)(i:Nat):List Value:=[.int .i64 n,gv ls i,gv ms i,.int .i64 (Dg n (G i)).r]
def gB(ls ms:List Value)(n:Int)(G:Int→aV→Int)(k:Nat):List Value:=(List.range k).flatMap (TV ls ms n G)
structure Dk (V:HV) (ls ms:List Value) (n:Int) (k:Nat) (G:Int→aV→Int):Prop where
 at_:∀i:Int,0≤i→i<k→Dm V n (gv ls i) (gv ms i) (G i)
 ll:ls.length=k
 lm:ms.length=k
theorem Dk.mono{W:HV}{n:Int}{G:Int→aV→Int}(h:Dk V ls ms n k G)(s:Vc.bR V W):Dk W ls ms n k G:=⟨λi a b=>(h.at_ i a b).mono s,h.ll,h.lm⟩
structure Dl (V:HV) (v:Value) (ls ms:List Value) (n:Int) (k:Nat) (G:Int→aV→Int):Prop extends Dk V ls ms n k G where
 sl:aR 4 V v k (gB ls ms n G k)
theorem Dl.mono{W:HV}{n:Int}{G:Int→aV→Int}(h:Dl V v ls ms n k G)(s:Vc.bR V W):Dl W v ls ms n k G:=⟨h.toDk.mono s,h.sl.mono s⟩
section
variable {ls ms:List Value} {n:Int} {G:Int→aV→Int} {k:Nat}
theorem ac4:(gB ls ms n G k).length=k*4:=DX (f:=TV ls ms n G) (λ_=>rfl) k
theorem mQ{i:Int}(h0:0≤i)(h1:i<k):((gB ls ms n G k).drop (i.toNat*4)).take 4=[.int .i64 n,gv ls i,gv ms i,.int .i64 (Dg n (G i)).r]:=by
 have:=N7 (s:=4) (f:=TV ls ms n G) (λ_=>rfl) (n:=k) (i:=i.toNat) aB;rw[gB,this,TV,show((i.toNat:Nat):Int)=i by omega]
theorem xK{ls' ms':List Value}{G':Int→aV→Int}(h:∀i:Nat,i<k→gv ls i=gv ls' i∧gv ms i=gv ms' i∧∀e,G i e=G' i e):gB ls ms n G k=gB ls' ms' n G' k:=by
 unfold gB;have:∀m:Nat,m≤k→(List.range m).flatMap (TV ls ms n G)=(List.range m).flatMap (TV ls' ms' n G'):=λm=>by
  induction m with
  |zero=>intro _;rfl
  |succ m ih=>
   intro hm;rw[sP,sV,sV,ih aB];obtain⟨a,b,c⟩:=h m aB;simp only[List.flatMap_cons,List.flatMap_nil,kN,TV];rw[a,b,t_ c]
 exact this k (cV _)
theorem vX{l m:Value}{f:aV→Int}(hl:ls.length=k)(hm:ms.length=k)(hf:∀e,f e=G k e):
  gB ls ms n G k++ [.int .i64 n,l,m,.int .i64 (Dg n f).r]=gB (ls++ [l]) (ms++ [m]) n G (k+1):=by
 have e1:gB ls ms n G k=gB (ls++ [l]) (ms++ [m]) n G k:=xK λi hi=>⟨(BT aB aB).symm,(BT aB aB).symm,λ_=>rfl⟩;have e2:gv (ls++ [l]) (k:Int)=l:=C4 aB;have e3:gv (ms++ [m]) (k:Int)=m:=C4 aB;rw[e1];unfold gB;rw[sP,sV];simp only[List.flatMap_cons,List.flatMap_nil,kN,TV];rw[e2,e3,t_ hf]
end
theorem Dm.cast{n:Int}{l m:Value}{f g:aV→Int}(h:Dm V n l m f)(e:∀x,f x=g x):Dm V n l m g:=by
 have e:f=g:=funext e;subst e;exact h
theorem SS{a:Int}{l m:Value}(h1:l.oneCell'=true)(h2:m.oneCell'=true):∀x∈ [Value.int .i64 a,l,m,.int .i64 b],x.oneCell'=true:=λx hx=>by
 simp only[uL,List.not_mem_nil,or_false]at hx;rcases hx with rfl|rfl|rfl|rfl
 rfl;exact h1;exact h2;rfl
theorem alR{op k:Int}(h:¬kF op k)(e:¬(op=0∨op=24∨op=6∨op=7∨op=23∨op=25)):8≤op∧op≤22:=by
 unfold kF jI at h;rw[aC aB,aC aB]at h;by_cases q:8≤op∧op≤22;exact q;rw[aC q,aC aB,aC aB]at h;omega
def vF(σ:aV→Mc)(t:Tm):aV→Int:=λe=>val (σ e).vals t
def iS(σ:aV→Mc)(i:Int):aV→Int:=λe=>gi (σ e).vals i
def fI(σ:aV→Mc)(i:Int):aV→Int:=λe=>gi (σ e).outs i
def dJ(σ:aV→Mc):aV→Int:=λe=>((σ e).outs.length:Int)
def dY(σ:aV→Mc):aV→Int:=λe=>(σ e).time
structure StV (F:Fl) (n:Int) (σ:aV→Mc):Prop where
 dp:Dd.dR n σ
 len:∀e,(σ e).vals.length=F.vs.length
 inr:∀e,bF F.vs (σ e).vals
theorem DN(lo hi x:Int):Dd.oJ lo hi x=lM x lo hi:=by
 unfold Dd.oJ lM aX bJ
 (repeat' split)<;>omega
def sR(σ:aV→Mc)(t:Tm)(i:Int):aV→Int:=λe=>
 if lM (val (σ e).vals (tm t.kids 0)) 0 ((t.kids.length:Int)-2)<i then val (σ e).vals (tm t.kids (1+lM (val (σ e).vals (tm t.kids 0)) 0 ((t.kids.length:Int)-2)))else val (σ e).vals (tm t.kids (1+((t.kids.length:Int)-2)))
theorem UR{σ:aV→Mc}(h:2≤(t.kids.length:Int))(e:aV):sR σ t 0 e=vF σ (tm t.kids (1+((t.kids.length:Int)-2))) e:=by
 have:=NN (n:=val (σ e).vals (tm t.kids 0)) (show 0≤(t.kids.length:Int)-2 by omega);unfold sR;rw[aC aB];rfl
theorem EN{σ:aV→Mc}(e:aV):
  (if decide (Dd.oJ 0 ((t.kids.length:Int)-2) (vF σ (tm t.kids 0) e)=i)=true then vF σ (tm t.kids (1+i)) e else sR σ t i e)=sR σ t (i+1) e:=by
 rw[DN];unfold sR vF;by_cases q:lM (val (σ e).vals (tm t.kids 0)) 0 ((t.kids.length:Int)-2)=i;rw[aK (by simpa using q),q,aK aB];rw[aC (by simpa using q)];by_cases r:lM (val (σ e).vals (tm t.kids 0)) 0 ((t.kids.length:Int)-2)<i;rw[aK r,aK aB];rw[aC r,aC aB]
theorem adV{σ:aV→Mc}(ho:t.op=25)(h:2≤(t.kids.length:Int))(e:aV):sR σ t ((t.kids.length:Int)-2) e=vF σ t e:=by
 have b:=NN (n:=val (σ e).vals (tm t.kids 0)) (show 0≤(t.kids.length:Int)-2 by omega);unfold sR vF;rw[akT ho h];by_cases r:lM (val (σ e).vals (tm t.kids 0)) 0 ((t.kids.length:Int)-2)<(t.kids.length:Int)-2;rw[aK r];rw[aC r,show lM (val (σ e).vals (tm t.kids 0)) 0 ((t.kids.length:Int)-2)=(t.kids.length:Int)-2 by omega]
theorem amU{xs:List Int}(ho:t.op=23)(hk:3≤(t.kids.length:Int)):
  (if(!decide (val xs (tm t.kids 0)=0))=true then val xs (tm t.kids 1)else val xs (tm t.kids 2))=val xs t:=by
 by_cases q:val xs (tm t.kids 0)=0;rw[abM ho hk (λr=>r q),decide_eq_true q];rfl;rw[ab_ ho hk q,decide_eq_false q];rfl
section
variable {ls ms:List Value} {n:Int} {G G':Int→aV→Int} {k:Nat} {l m:Value} {f:aV→Int} {i:Int}
theorem aaX{q r:Nat}(h:q<k)(hr:r<4):(gB ls ms n G k)[q*4+r]? =[Value.int .i64 n,gv ls q,gv ms q,.int .i64 (Dg n (G q)).r][r]? :=by
 have e:=mQ (ls:=ls) (ms:=ms) (n:=n) (G:=G) (k:=k) (i:=(q:Int)) aB aB;rw[iD]at e;rw[←e,iH,aK hr,kO]
theorem DA(h0:0≤i)(h1:i<k)(hl:ls.length=k)(hm:ms.length=k)(hf:∀e,f e=G' i e)(hG:∀j:Nat,j<k→(j:Int)≠i→∀e,G j e=G' j e):
  (gB ls ms n G k).take (i.toNat*4)++ [.int .i64 n,l,m,.int .i64 (Dg n f).r]++(gB ls ms n G k).drop (i.toNat*4+4)=gB (ls.set i.toNat l) (ms.set i.toNat m) n G' k:=by
 apply List.ext_getElem?;intro p;have hlen:=ac4 (ls:=ls) (ms:=ms) (n:=n) (G:=G) (k:=k);have hlen2:=ac4 (ls:=ls.set i.toNat l) (ms:=ms.set i.toNat m) (n:=n) (G:=G') (k:=k);have a1:min (i.toNat*4) (k*4)=i.toNat*4:=aB;simp only[List.getElem?_append,dD,jL,iH,kO,hlen,a1,l4,xP];by_cases hp:p<k*4;have hq:p=p/4*4+p%4:=aB;have hr:p%4<4:=aB;have hqk:p/4<k:=aB;have R:=aaX (ls:=ls.set i.toNat l) (ms:=ms.set i.toNat m) (n:=n) (G:=G') hqk hr;rw[←hq]at R;rw[R];rcases(show((p/4:Nat):Int)=i∨((p/4:Nat):Int)≠i by omega)with e|e
 rw[aK aB,aC aB,e,wF h0 aB,wF h0 aB,t_ hf,show p-i.toNat*4=p%4 by omega];have L:=aaX (ls:=ls) (ms:=ms) (n:=n) (G:=G) hqk hr;rw[←hq]at L;rw[uQ h0 aB (λh=>e h.symm),uQ h0 aB (λh=>e h.symm),←t_ (hG _ hqk e),←L];rcases(show p<i.toNat*4∨i.toNat*4+4≤p by omega)with c|c
 rw[aK aB,aK c,aK c];rw[aC aB,show i.toNat*4+4+(p-(i.toNat*4+(0+1+1+1+1)))=p by omega];rw[CD (l:=gB (ls.set i.toNat l) (ms.set i.toNat m) n G' k) (by rw[hlen2];omega),aC aB];exact CD (by rw[hlen];omega)
end
theorem adN{n:Int}{G:Int→aV→Int}(h:Dl V v ls ms n k G):∀u∈gB ls ms n G k,u.oneCell'=true:=λu hu=>by
 unfold gB at hu;obtain⟨j,hj,hu⟩:=List.mem_flatMap.1 hu;have hj:j<k:=CM.1 hj;have d:=h.at_ j aB aB;exact SS (a:=n) (b:=(Dg n (G j)).r) (Sl.one d.mt.l) (aR.one d.mt.n) u hu
def jJ(A B:Int→aV→Int)(i:Int):Int→aV→Int:=λj=>if j<i then A j else B j
structure Sy (V:HV) (n:Int) (k:Nat) (σ:aV→Mc) (vv cl cm ov ta tb:Value) (ls ms os oms:List Value):Prop where
 v:Dl V vv ls ms n k (iS σ)
 c:Dm V n cl cm (dJ σ)
 o:Dl V ov os oms n 8 (fI σ)
 t:Dm V n ta tb (dY σ)
theorem Sy.mono{W:HV}{n:Int}{σ:aV→Mc}{vv cl cm ov ta tb:Value}{os oms:List Value}(h:Sy V n k σ vv cl cm ov ta tb ls ms os oms)(s:Vc.bR V W):Sy W n k σ vv cl cm ov ta tb ls ms os oms:=⟨h.v.mono s,h.c.mono s,h.o.mono s,h.t.mono s⟩
def G3(V:HV)(n:Int)(k:Nat)(σ:aV→Mc)(v:Value):Prop:=∃vv cl cm ov ta tb ls ms os oms,
 v= .agg #[vv,.int .i64 n,cl,cm,.int .i64 (Dg n (dJ σ)).r,ov,.int .i64 n,ta,tb,.int .i64 (Dg n (dY σ)).r]∧Sy V n k σ vv cl cm ov ta tb ls ms os oms
theorem Dk.put{n:Int}{G G':Int→aV→Int}(h:Dk V ls ms n k G){l m:Value}{f:aV→Int}(h0:0≤i)(h1:i<k)(hd:Dm V n l m f)(hf:∀e,f e=G' i e)
  (hG:∀j:Int,0≤j→j<k→j≠i→∀e,G j e=G' j e):Dk V (ls.set i.toNat l) (ms.set i.toNat m) n k G' where
 at_:=λj a b=>by
  by_cases q:j=i;subst q;rw[wF a (by rw[h.ll];exact b),wF a (by rw[h.lm];exact b)];exact hd.cast hf;rw[uQ h0 a (λe=>q e.symm),uQ h0 a (λe=>q e.symm)];exact(h.at_ j a b).cast (hG j a b q)
 ll:=by rw[uM];exact h.ll
 lm:=by rw[uM];exact h.lm
def RP(F:Fl)(σ:aV→Mc)(v:Int)(d:aV→Int):aV→Mc:=λe=>⟨xN F (σ e).vals v (d e),(σ e).outs,(σ e).time⟩
theorem SU{σ:aV→Mc}{v:Int}{d:aV→Int}{e:aV}(h0:0≤v)(h1:v<((σ e).vals.length:Int)):iS (RP F σ v d) v e=Dd.oJ (vr F.vs v).lo (vr F.vs v).hi (d e):=by
 rw[DN];show gi ((σ e).vals.set v.toNat _) v=_;exact aa4 h0 h1
theorem OE{σ:aV→Mc}{v j:Int}{d:aV→Int}{e:aV}(h0:0≤v)(hj:0≤j)(h:j≠v):iS (RP F σ v d) j e=iS σ j e:=WT h0 hj (λq=>h q.symm)
theorem aA_(h:dO vs){v:Int}(h0:0≤v)(h1:v<vs.length):(vr vs v).lo≤(vr vs v).hi∧sm (vr vs v).lo∧sm (vr vs v).hi:=by
 have:=h.ord _ (pA h0 h1);exact⟨this.1,⟨this.2.1,aB⟩,⟨aB,this.2.2⟩⟩
section
variable {A B:Int→aV→Int} {i j:Int} {e:aV}
theorem DV:jJ A B (i+1) i e=A i e:=by unfold jJ;rw[aK aB]
theorem D9(h:j≠i):jJ A B i j e=jJ A B (i+1) j e:=by
 unfold jJ;by_cases q:j<i;rw[aK q,aK aB];rw[aC q,aC aB]
theorem VD(h:0≤j):jJ A B 0 j e=B j e:=by unfold jJ;rw[aC aB]
theorem avL(h:j<i):jJ A B i j e=A j e:=by unfold jJ;rw[aK h]
end
theorem Dk.congr{n:Int}{G G':Int→aV→Int}(h:Dk V ls ms n k G)(hG:∀j:Int,0≤j→j<k→∀e,G j e=G' j e):Dk V ls ms n k G':=⟨λj a b=>(h.at_ j a b).cast (hG j a b),h.ll,h.lm⟩
theorem Dl.of_mix{n:Int}{A B:Int→aV→Int}(hd:Dk V ls ms n k (jJ A B i))(hs:aR 4 V u k (gB ls ms n (jJ A B i) k))(hi:(k:Int)≤i):Dl V u ls ms n k A:=by
 refine⟨hd.congr λj a b e=>avL aB,?_⟩;rw[←xK (ls:=ls) (ms:=ms) (n:=n) (G:=jJ A B i) (G':=A) (k:=k) (ls':=ls) (ms':=ms) (λj hj=>⟨rfl,rfl,λe=>avL aB⟩)];exact hs
theorem MZ{n:Int}{A B:Int→aV→Int}:gB ls ms n (jJ A B 0) k=gB ls ms n B k:=xK λj _=>⟨rfl,rfl,λ_=>VD aB⟩
def qP(c:aV→Bool)(σ τ:aV→Mc):aV→Mc:=λe=>if c e=true then σ e else τ e
section
variable {c:aV→Bool} {σ τ:aV→Mc} {j:Int} {e:aV}
theorem asW:(if c e=true then iS σ j e else iS τ j e)=iS (qP c σ τ) j e:=by unfold iS qP;split<;>rfl
theorem auP:(if c e=true then fI σ j e else fI τ j e)=fI (qP c σ τ) j e:=by unfold fI qP;split<;>rfl
theorem aFg:(if c e=true then dJ σ e else dJ τ e)=dJ (qP c σ τ) e:=by unfold dJ qP;split<;>rfl
theorem aHl:(if c e=true then dY σ e else dY τ e)=dY (qP c σ τ) e:=by unfold dY qP;split<;>rfl
end
def tW(σ:aV→Mc)(d:aV→Int):aV→Mc:=λe=>⟨(σ e).vals,(σ e).outs++ [d e],(σ e).time⟩
section
variable {σ:aV→Mc} {d:aV→Int} {i:Int} {e:aV}
theorem at1(e:aV):0≤dJ σ e:=Int.natCast_nonneg _
theorem aAR:Dd.eG 0 (dJ σ e) 1=dJ (tW σ d) e:=by
 show dJ σ e+1=(((σ e).outs++ [d e]).length:Int);rw[dD];show((σ e).outs.length:Int)+1=(((σ e).outs.length+1:Nat):Int);omega
theorem aCK(h0:0≤i):(if decide (dJ σ e=i)=true then d e else jJ (fI (tW σ d)) (fI σ) i i e)=fI (tW σ d) i e:=by
 have hm:jJ (fI (tW σ d)) (fI σ) i i e=fI σ i e:=by unfold jJ;rw[aC aB]
 rw[hm];show _=gi ((σ e).outs++ [d e]) i;have hc:dJ σ e=((σ e).outs.length:Int):=rfl;by_cases q:dJ σ e=i;rw[aK (by simpa using q)];unfold gi;rw[bX,show i.toNat=(σ e).outs.length by omega,qN (cV _)];simp;rw[aC (by simpa using q)];show gi (σ e).outs i=_;unfold gi;rw[bX,bX];by_cases r:i<dJ σ e;rw[oR aB];rw[CD aB,CD (by rw[dD];simp;omega)]
end
end Go.Proofs.YtbchkopkgpfkgaaGreat
end
