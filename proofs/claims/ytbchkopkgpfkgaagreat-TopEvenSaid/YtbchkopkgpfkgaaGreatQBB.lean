import Derived.Test.YtbchkopkgpfkgaaGreatQAM
import Derived.Test.YtbchkopkgpfkgaaGreatQAY
set_option linter.unusedVariables false
set_option maxRecDepth 100000
set_option maxHeartbeats 4000000
namespace Go.Proofs.YtbchkopkgpfkgaaGreat
open Classical Go.Vc
variable{V:HV}{xs:List Int}
theorem ahZ{cap:Nat}:
  aP Tryz.prog 42 [Value.slice none 0 cap] V [] (λv V' σ'=>V'=V∧σ'=[Gr 3 1 v 0 []]):=by
 refine bI Tryz.func42 ?_;intro w0 D;refine dI ?_;refine fF 3 1 ?_;refine aJ ?_;refine zJ ?_;exact⟨rfl,rfl⟩
theorem abG{ad:Addr}{m c:Nat}(hl:xs.length=m)(hb:m≤1000000)(hn:∀w,Vc.bR V (hv w)→∀(j:Nat) (u:Value),(xs.map (Value.int .i64))[j]? =some u→w.cell? (ad.add j)=some u):
  aP Tryz.prog 42 [.slice (some ad) m c] V [] (λv V' σ'=>V'=V∧σ'=[Gr 3 1 v m (xs.map (Value.int .i64))]):=by
 refine bI Tryz.func42 ?_;intro w0 D;refine nK ?_;refine cQ 0 1 [] (λb1=> ?_);refine aH ?_;refine tD (k:=0) (b:=b1) (n:=0) (cap:=0) (cs:= #[]) 1 [] rfl rfl (cV _) (kE _) rfl rfl ?_;refine yJ (k:=0) (n:=0) (s:=1) (m:=m) (v:=(.slice (some ⟨b1,0,none⟩) 0 0)) (xs:=[]) (news:=(xs.map (Value.int .i64))) UL.out TZ.out rfl (nW rfl) rfl rfl rfl af8 (λw hm=>hn w hm.view) fW a_ eZ (λv1 hn1=> ?_);refine wL ?_;refine⟨rfl,?_⟩;show [_]=[_];simp
theorem JA{x:Value}(hs:aT .i64 V x xs)(hb:xs.length≤1000000):aP Tryz.prog 42 [x] V [] (λv V' σ'=>V'=V∧σ'=[Gr 3 1 v xs.length (xs.map (Value.int .i64))]):=by
 have hs0:Sl V x (xs.map (Value.int .i64)):=hs;rcases hs0.cases with⟨cap,rfl,e⟩|⟨ad,cap,rfl,hn⟩
 have e:xs=[]:=by simpa using e
 subst e;exact ahZ;have:=abG (V:=V) (ad:=ad) (c:=cap) (xs:=xs) rfl hb hn;rw[fT];exact this
theorem ab3{x:Int}:
  aP Tryz.prog 220 [vi x] V [] (λv _ _=>v=(Value.bool false)):=by
 refine bI Tryz.func220 ?_;intro w0 D;refine dI ?_;exact aW (T5 (by exact λz=>z rfl))
theorem aBN{x y:Int}:
  aP Tryz.prog 174 [vi x,vi y] V [] (λv _ _=>v=(.int .i64 (uI x y))):=by
 refine bI Tryz.func174 ?_;intro w0 D;refine aS ?_;refine oq (cM ab3) ?_;refine aF ?_;refine oq (cM ab3) ?_;refine ao8 ?_;refine aG ?_ ?_<;>intro c1;refine aF ?_;exact aW (aL arD);refine b_ ?_;refine aG ?_ ?_<;>intro c2;refine aF ?_;exact aW (aL arD);refine aN ?_;exact aW (aL arD)
theorem aB0{av bv:Value}{A B:List Int}(ha:aT .i64 V av A)(hb:aT .i64 V bv B):
  aP Tryz.prog 99 [av,bv] V [] (λv _ _=>v=(.int .i64 (k_ A B))):=by
 refine bI Tryz.func99 ?_;intro w0 D;have hba:=ha.bound;have hbb:=hb.bound;refine b_ ?_;refine oq (fK ha) ?_;refine aI ?_;refine g_ [0,1,9,10] (λ(i:Int)=> [(11,(vi i))]) (λi=>0≤i∧i≤A.length∧i≤B.length∧k_ A B=k_ (A.drop i.toNat) (B.drop i.toNat)) (λi=>(A.length-i).toNat) 0 ?_ ?_ ?_;exact⟨rfl,Go.i_⟩;exact⟨aB,aB,aB,rfl⟩;rintro i e1 ⟨i1,i2,i3,hy⟩;refine aF ?_;refine aG ?_ ?_<;>intro c1;refine aN ?_;refine oq (fZ (d9 ha)) ?_;refine oq (fY (d9 ha)) ?_;refine b_ ?_;refine oq (fK hb) ?_;refine aD ?_;refine aG ?_ ?_<;>intro c2;refine aS ?_;exact aW (aL (by rw[hy];exact(aD1 i1 a_ a_).symm));refine aF ?_;refine oq (fZ (d9 hb)) ?_;refine oq (fY (d9 hb)) ?_;refine aN ?_;refine oq (cM aBN) ?_;refine aS ?_;refine aG ?_ ?_<;>intro c3;refine b_ ?_;exact aW (aL (by rw[hy];exact(aCM i1 a_ a_ aO).symm));refine aF ?_;exact dW (i+1) ⟨aL a_,Go.i_⟩ ⟨aB,aB,aB,by rw[hy];exact aE_ i1 a_ a_ aO⟩;refine aN ?_;refine agX ?_;refine aG ?_ ?_<;>intro c4;refine aF ?_;exact aW (aL awQ);refine aN ?_;exact aW (aL awQ)
theorem PE{av bv:Value}{a b:List Int×Int}(ha:aT .i64 V av a.1)(hb:aT .i64 V bv b.1):
  aP Tryz.prog 37 [.agg #[av,.int .i64 a.2],.agg #[bv,.int .i64 b.2]] V [] (λv _ _=>v=(.int .i64 (j9 a b))):=by
 refine bI Tryz.func37 ?_;intro w0 D;refine aD ?_;refine bH λb1=> ?_;refine bH λb2=> ?_;refine eW ?_;refine oq (cM (aB0 ha hb)) ?_;refine aS ?_;refine aG ?_ ?_<;>intro c1;refine aN ?_;exact aW (aL (by exact(aK aO).symm));refine dI ?_;refine aG ?_ ?_<;>intro c2;refine aN ?_;exact aW (aL arB);refine eW ?_;refine aG ?_ ?_<;>intro c3;refine aN ?_;exact aW (aL arB);refine aN ?_;exact aW (aL arB)
end Go.Proofs.YtbchkopkgpfkgaaGreat
