import Derived.Lib.BitFns
import Derived.Test.YtbchkopkgpfkgaaGreatQBJ
set_option linter.unusedVariables false
set_option linter.unusedSimpArgs false
namespace Go.Proofs.YtbchkopkgpfkgaaGreat
open Classical Go Go.Vc
variable{c i:Int}{l:List Int}{vs:List Vr}
def gL(vs:List Vr)(k:Int):Nat→List Int
 |0=> []
 |i+1=>gL vs k i++if(vr vs i).kd=k then [(i:Int)]else []
abbrev dC(vs:List Vr)(k:Int):List Int:=gL vs k vs.length
section
variable {vs:List Vr} {k:Int}
theorem auL{i:Int}(h0:0≤i)(h:(vr vs i).kd=k):gL vs k (i+1).toNat=gL vs k i.toNat++ [i]:=by
 rw[show(i+1).toNat=i.toNat+1 by omega];show _++(if(vr vs ((i.toNat:Nat):Int)).kd=k then [((i.toNat:Nat):Int)]else [])=_;rw[show((i.toNat:Nat):Int)=i by omega,aK h]
theorem av4{i:Int}(h0:0≤i)(h:¬(vr vs i).kd=k):gL vs k (i+1).toNat=gL vs k i.toNat:=by
 rw[show(i+1).toNat=i.toNat+1 by omega];show _++(if(vr vs ((i.toNat:Nat):Int)).kd=k then [((i.toNat:Nat):Int)]else [])=_;rw[show((i.toNat:Nat):Int)=i by omega,aC h,kN]
theorem J9{x:Int}:∀{n:Nat},x∈gL vs k n↔0≤x∧x<n∧(vr vs x).kd=k
 |0=>⟨λh=>(by cases h),λh=>aB⟩
 |n+1=>by
  show x∈gL vs k n++_↔_;rw[jW,J9 (n:=n)];by_cases h:(vr vs n).kd=k;rw[aK h,gY];constructor;rintro(⟨a,b,c⟩|rfl);exact⟨a,aB,c⟩;exact⟨aB,aB,h⟩;rintro⟨a,b,c⟩;by_cases e:x=n;exact .inr e;exact .inl ⟨a,aB,c⟩;rw[aC h];constructor;rintro(⟨a,b,c⟩|q);exact⟨a,aB,c⟩;cases q;rintro⟨a,b,c⟩;by_cases e:x=n;subst e;exact bM c h;exact .inl ⟨a,aB,c⟩
theorem AY{n:Nat}:(gL vs k n).length≤n:=by
 induction n with
 |zero=>exact cV _
 |succ n ih=>show(gL vs k n++_).length≤_;rw[dD];split<;>(simp;omega)
theorem NV{n:Nat}(h:n≤vs.length):(gL vs k n).length=cn vs k n:=by
 induction n with
 |zero=>rfl
 |succ n ih=>
  show(gL vs k n++_).length=_;rw[dD,ih aB,show((n+1:Nat):Int)=(n:Int)+1 by omega];by_cases q:(vr vs n).kd=k;rw[aK q,ae2 aB aB q];rfl;rw[aC q,HX aB aB q];rfl
theorem awZ{i j:Int}(h:i≤j):cn vs k i≤cn vs k j:=by
 unfold cn dZ;have e:vs.take i.toNat=(vs.take j.toNat).take i.toNat:=by rw[List.take_take,QJ aB]
 rw[e];exact((List.take_sublist _ _).filter _).length_le
theorem iU:(dC vs k).length=(dZ vs k).length:=by rw[NV (cV _),H9 aB]
theorem al3{i:Int}(h0:0≤i)(h1:i<vs.length)(h:(vr vs i).kd=k):gi (dC vs k) (cn vs k i)=i:=by
 have go:∀n:Nat,n≤vs.length→i<n→gi (gL vs k n) (cn vs k i)=i:=λn=>by
  induction n with
  |zero=>intro _ a;omega
  |succ n ih=>
   intro a b;show gi (gL vs k n++_) _=_;have hl:=NV (vs:=vs) (k:=k) (n:=n) aB;by_cases e:i=n;have h2:(vr vs (n:Int)).kd=k:=by rw[←e];exact h
   rw[aK h2,e,←hl];unfold gi;rw[bX,iD,qN (cV _)];simp;have q:=ih aB aB;have hm:cn vs k i<(gL vs k n).length:=by
    rw[hl];have:=awZ (vs:=vs) (k:=k) (i:=i+1) (j:=n) aB;rw[ae2 h0 h1 h]at this;omega
   unfold gi at*;rw[bX,oR aB,←bX];exact q
 exact go vs.length (cV _) h1
theorem IL{c:Int}(h0:0≤c)(h1:c<(dC vs k).length):0≤gi (dC vs k) c∧gi (dC vs k) c<vs.length∧(vr vs (gi (dC vs k) c)).kd=k:=by
 have:gi (dC vs k) c∈dC vs k:=by unfold gi;rw[bX,dT aB];exact CP _
 exact J9.1 this
theorem DT{c:Int}(h0:0≤c)(h1:c<(dC vs k).length):vr vs (gi (dC vs k) c)=vr (dZ vs k) c:=by
 have go:∀n:Nat,n≤vs.length→∀c:Int,0≤c→c<(gL vs k n).length→vr vs (gi (gL vs k n) c)=vr (dZ vs k) c:=λn=>by
  induction n with
  |zero=>intro _ c a b;simp[gL]at b;omega
  |succ n ih=>
   intro a c c0 c1;have hl:=NV (vs:=vs) (k:=k) (n:=n) aB;by_cases e:c<(gL vs k n).length;have q:=ih aB c c0 e;have:gi (gL vs k (n+1)) c=gi (gL vs k n) c:=by
    show gi (gL vs k n++_) c=_;unfold gi;rw[bX,oR aB,←bX]
   rw[this];exact q;by_cases h:(vr vs n).kd=k;have e1:gL vs k (n+1)=gL vs k n++ [(n:Int)]:=by show _++_=_;rw[aK h]
   rw[e1,dD,sS]at c1;have ec:c=((gL vs k n).length:Int):=aB;have:gi (gL vs k (n+1)) c=n:=by
    rw[e1,ec];unfold gi;rw[bX,iD,qN (cV _)];simp
   rw[this,ec,hl,avI aB aB h];have e1:gL vs k (n+1)=gL vs k n:=by show _++_=_;rw[aC h,kN]
   rw[e1]at c1;omega
 exact go vs.length (cV _) c h0 h1
end
theorem akS:∀(f x:Nat),x<2^f→x<2^Lib.bitLenAux f x
 |0,x,h=>by simpa[Lib.bitLenAux]using h
 |f+1,x,h=>by
  unfold Lib.bitLenAux;by_cases e:x=0;rw[aK e,e];exact Nat.one_pos;rw[aC e];have:=akS f (x/2) (by rw[qE]at h;omega);rw[Nat.add_comm,qE];omega
theorem akM:∀(f x:Nat),Lib.bitLenAux f x≤f
 |0,_=>cV _
 |f+1,x=>by
  unfold Lib.bitLenAux;split;omega;have:=akM f (x/2);omega
def gD(vs:List Vr)(i:Int):Int:=(Lib.bitLen ((vr vs i).hi-(vr vs i).lo).toNat:Int)
theorem xH(vs:List Vr)(i:Int):0≤gD vs i∧gD vs i≤64:=⟨Int.natCast_nonneg _,by have:=akM 64 ((vr vs i).hi-(vr vs i).lo).toNat;unfold gD Lib.bitLen;omega⟩
theorem aiO(h0:(vr vs i).lo≤(vr vs i).hi)(h1:(vr vs i).hi-(vr vs i).lo<18446744073709551616):(vr vs i).hi-(vr vs i).lo<2^(gD vs i).toNat:=by
 have a:=akS 64 ((vr vs i).hi-(vr vs i).lo).toNat (by
  have:(2:Nat)^64=18446744073709551616:=j_;omega)
 have e:(gD vs i).toNat=Lib.bitLenAux 64 ((vr vs i).hi-(vr vs i).lo).toNat:=by unfold gD Lib.bitLen;omega
 rw[e];have c:((2^Lib.bitLenAux 64 ((vr vs i).hi-(vr vs i).lo).toNat:Nat):Int)=2^Lib.bitLenAux 64 ((vr vs i).hi-(vr vs i).lo).toNat:=bK;omega
def gN(vs:List Vr)(l:List Int):Int:=(l.map (gD vs)).sum
theorem W8(l:List Int)(i:Int):gN vs (l++ [i])=gN vs l+gD vs i:=by simp[gN]
theorem ayL(l m:List Int):gN vs (l++m)=gN vs l+gN vs m:=by simp[gN]
theorem sD{vs:List Vr}:∀l:List Int,0≤gN vs l∧gN vs l≤64*l.length
 | []=>⟨eL _,eL _⟩
 |i::r=>by
  have a:=sD (vs:=vs) r;have b:=xH vs i;have e:gN vs (i::r)=gD vs i+gN vs r:=by simp[gN]
  rw[e,l4];omega
theorem sQ(h0:0≤c)(h1:c<l.length):gN vs (l.take (c+1).toNat)=gN vs (l.take c.toNat)+gD vs (gi l c):=by
 rw[show(c+1).toNat=c.toNat+1 by omega,mK (d:=(0:Int)) h0 h1,W8]
theorem DL(c:Nat):gN vs (l.take c)≤gN vs l:=by
 have h:=ayL (vs:=vs) (l.take c) (l.drop c);rw[GP]at h;have:=(sD (vs:=vs) (l.drop c)).1;omega
def BG(vs:List Vr)(l:List Int):List Dd.Fk:=(List.range l.length).map λc:Nat=>⟨gi l c,gN vs (l.take c),gD vs (gi l c)⟩
theorem pN(l:List Int):(BG vs l).length=l.length:=by simp[BG]
theorem qR(h0:0≤c)(h1:c<l.length):Dd.fk (BG vs l) c=⟨gi l c,gN vs (l.take c.toNat),gD vs (gi l c)⟩:=by
 unfold Dd.fk BG;rw[bX,iZ,EF aB];show(⟨gi l ((c.toNat:Nat):Int),_,gD vs (gi l ((c.toNat:Nat):Int))⟩:Dd.Fk)=_;rw[show((c.toNat:Nat):Int)=c by omega]
theorem an1(l:List Int)(i:Int):BG vs (l++ [i])=BG vs l++ [⟨i,gN vs l,gD vs i⟩]:=by
 unfold BG;rw[dD,sS,sP,f_];congr 1;refine YH λc hc=> ?_;have:=CM.1 hc;have e:gi (l++ [i]) (c:Int)=gi l c:=by unfold gi;rw[bX,oR aB,←bX]
 show(⟨gi (l++ [i]) (c:Int),gN vs ((l++ [i]).take c),gD vs (gi (l++ [i]) (c:Int))⟩:Dd.Fk)=⟨gi l c,gN vs (l.take c),gD vs (gi l c)⟩;rw[e,N4 aB];have e:gi (l++ [i]) (l.length:Int)=i:=by unfold gi;rw[bX,iD,qN (cV _)];simp
 show [(⟨gi (l++ [i]) (l.length:Int),gN vs ((l++ [i]).take l.length),gD vs (gi (l++ [i]) (l.length:Int))⟩:Dd.Fk)]=_;rw[e,List.take_left' rfl]
def bP(vs:List Vr):List Int:=dC vs 1++dC vs 3
abbrev d8(vs:List Vr):List Dd.Fk:=BG vs (bP vs)
abbrev iW(vs:List Vr):Int:=gN vs (bP vs)
theorem DI{x:Int}:x∈bP vs↔0≤x∧x<vs.length∧((vr vs x).kd=1∨(vr vs x).kd=3):=by
 unfold bP;rw[jW,J9,J9];constructor;rintro(⟨a,b,c⟩|⟨a,b,c⟩);exact⟨a,b,.inl c⟩;exact⟨a,b,.inr c⟩;rintro⟨a,b,c|c⟩;exact .inl ⟨a,b,c⟩;exact .inr ⟨a,b,c⟩
theorem qB(h0:0≤c)(h1:c<l.length):gi l c∈l:=by unfold gi;rw[bX,dT aB];exact CP _
theorem O9:(bP vs).length≤2*vs.length:=by
 have a:(dC vs 1).length≤vs.length:=AY;have b:(dC vs 3).length≤vs.length:=AY;unfold bP;rw[dD];omega
theorem HS(vs:List Vr):0≤iW vs:=(sD _).1
theorem aDE(h:iW vs≤12)(hi:i∈bP vs):gD vs i≤12:=by
 obtain⟨c,hc,e⟩:=H2 hi;have a:=DL (vs:=vs) (l:=bP vs) (c+1);have b:=sQ (vs:=vs) (l:=bP vs) (c:=(c:Int)) aB aB;have d:=(sD (vs:=vs) ((bP vs).take c)).1;have h:gN vs (bP vs)≤12:=h;have e2:gi (bP vs) (c:Int)=i:=by unfold gi;rw[bX,iD,dT hc,e];rfl
 rw[e2,show((c:Int)+1).toNat=c+1 by omega,iD]at b;omega
theorem amY(hV:dO vs)(h:iW vs≤12):RG vs (iW vs) (d8 vs):=by
 have go:∀i:Int,0≤i→i<(d8 vs).length→0≤gi (bP vs) i∧gi (bP vs) i<vs.length∧gD vs (gi (bP vs) i)≤12:=λi a b=>by
  rw[pN]at b;have m:=qB a b;exact⟨(DI.1 m).1,(DI.1 m).2.1,aDE h m⟩
 refine⟨λi a b=> ?_,λi a b=> ?_,λi a b=> ?_⟩;have g:=go i a b;rw[pN]at b;rw[qR a b];exact⟨g.1,g.2.1⟩;rw[pN]at b;rw[qR a b];have n:=xH vs (gi (bP vs) i);have t:=sQ (vs:=vs) a b;have l:=DL (vs:=vs) (l:=bP vs) (i+1).toNat;exact⟨(sD _).1,n.1,by show gN vs ((bP vs).take i.toNat)+gD vs (gi (bP vs) i)≤gN vs (bP vs);omega⟩;have g:=go i a b;rw[pN]at b;rw[qR a b];have o:=hV.ord _ (pA g.1 g.2.1);have l:=aiO (vs:=vs) (i:=gi (bP vs) i) o.1 aB;have p:=K_ g.2.2;exact⟨by show 0≤(vr vs (gi (bP vs) i)).hi-(vr vs (gi (bP vs) i)).lo;omega,by show(vr vs (gi (bP vs) i)).hi-(vr vs (gi (bP vs) i)).lo<4096;omega⟩
def rP(vs:List Vr)(x:Int):List Int:=if x≤0 then []else if x≤1 then dC vs 1 else bP vs
def u_(vs:List Vr)(x:Int):Int:=if x≤0 then 0 else gN vs (dC vs 1)
section
variable {vs:List Vr} {x:Int}
theorem aKf(h:2≤x):rP vs x=bP vs:=by unfold rP;rw[aC aB,aC aB]
theorem KM(h0:0≤x)(h1:x<2):(x=0∧gi [1,3] x=1)∨(x=1∧gi [1,3] x=3):=by
 have:x=0∨x=1:=aB;rcases this with rfl|rfl
 exact .inl ⟨rfl,rfl⟩;exact .inr ⟨rfl,rfl⟩
theorem aIY(h0:0≤x)(h1:x<2):rP vs (x+1)=rP vs x++dC vs (gi [1,3] x):=by
 rcases KM h0 h1 with⟨rfl,e⟩|⟨rfl,e⟩<;>rw[e]<;>rfl
theorem aJl(h0:0≤x)(h1:x<2)(h:gi [1,3] x=1):gN vs (rP vs (x+1))=u_ vs (x+1):=by
 rcases KM h0 h1 with⟨rfl,e⟩|⟨rfl,e⟩
 rfl;rw[e]at h;omega
theorem aJa(h0:0≤x)(h1:x<2)(h:¬gi [1,3] x=1):u_ vs x=u_ vs (x+1):=by
 rcases KM h0 h1 with⟨rfl,e⟩|⟨rfl,e⟩
 exact bM e h;rfl
theorem aFL:(rP vs x).length≤2*vs.length:=by
 unfold rP;split;simp;split;have:(dC vs 1).length≤vs.length:=AY;omega;exact O9
theorem amK{l m:List Int}{y:Int}(y0:0≤y)(y1:y<m.length):BG vs (l++m.take (y+1).toNat)=BG vs (l++m.take y.toNat)++ [⟨gi m y,gN vs (l++m.take y.toNat),gD vs (gi m y)⟩]∧gN vs (l++m.take (y+1).toNat)=gN vs (l++m.take y.toNat)+gD vs (gi m y):=by
 have e:l++m.take (y+1).toNat=(l++m.take y.toNat)++ [gi m y]:=by
  rw[show(y+1).toNat=y.toNat+1 by omega,mK (d:=(0:Int)) y0 y1,EJ]
 rw[e,an1,W8];exact⟨rfl,rfl⟩
end
end Go.Proofs.YtbchkopkgpfkgaaGreat
