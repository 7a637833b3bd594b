import Derived.Test.YtbchkopkgpfkgaaGreatQATb
import Derived.Test.YtbchkopkgpfkgaaGreatQAZ
set_option linter.unusedVariables false
set_option maxRecDepth 100000
set_option maxHeartbeats 0
noncomputable section
namespace Go.Proofs.YtbchkopkgpfkgaaGreat.Dd
open Classical Go.Vc
variable{A:Mg}{V:HV}{x y:Int}
abbrev S4:=λ(pl:Nat)=>Value.pointer (some ⟨pl,0,none⟩)
theorem ap2{z low high:Int}{pl ph:Nat}(hl:Cells V pl [.int .i64 low])(hh:Cells V ph [.int .i64 high]):
  aP Tryz.prog 141 [.agg #[vi x,vi y,vi z],S4 pl,S4 ph] V [] (λv _ _=>v=(.int .i64 (oJ low high x))):=by
 refine bI Tryz.func141 ?_;intro w0 D;refine aD ?_;refine bH λb1=> ?_;refine aJ ?_;refine FV ?_;refine b_ ?_;exact aW (aL (by first|rfl|(unfold oJ;rfl)|(unfold oJ;omega)))
abbrev aJL:=[vi 0,vn,vn,vi 0]
theorem azQ{la na:Value}(hA:Mt V la na A){low high:Int}:
  aP Tryz.prog 82 [.agg #[.int .i64 A.v,la,na,.int .i64 A.r],vi low,vi high] V [] (λv V' σ'=>σ'=[]∧jY V' v (I5 A low high) (uG A low high)):=by
 refine bI Tryz.func82 ?_;intro w0 D;have hbl:=aT.bound hA.l;have hbn:=aR.bound hA.n;refine aD ?_;refine bH λb1=> ?_;refine bH λb2=> ?_;refine bH λb3=> ?_;refine aQ λb4=> ?_;refine aN ?_;refine cQ 1 4 [.int .i64 A.v,la,na,.int .i64 A.r] (λb5=> ?_);refine lD 4 λVf1 hVf1 hc1=> ?_;have hA:=hA.mono hVf1;refine VK ?_;refine aG ?_ ?_<;>intro c1;refine aD ?_;refine UD ?_;refine aJ ?_;refine c_ 3 λVf2 hVf2 hc2=> ?_;refine ahE ?_;obtain⟨hn,e1⟩:=UO (A:=A) a_;have e:=aJw (low:=low) (high:=high) hn;rw[e.1,e.2,e1];exact⟨rfl,jY.zero⟩;refine aI ?_;have hz:vE [A]=0:=aB;have hok:=NJ.1 hz;refine aF ?_;by_cases g1:high<low;refine nA ?_;refine UD ?_;refine aI ?_;refine c_ 3 λVf3 hVf3 hc3=> ?_;refine fR ?_;refine PQ ?_;have e:=afW (A:=A) (low:=low) (high:=high) hok arH;rw[e.1,e.2];exact⟨rfl,jY.zero⟩;refine UE ?_;by_cases g2:¬(bF low);refine b_ ?_;refine UD ?_;refine aI ?_;refine c_ 3 λVf4 hVf4 hc4=> ?_;refine fR ?_;refine US ?_;have e:=afW (A:=A) (low:=low) (high:=high) hok arH;rw[e.1,e.2];exact⟨rfl,jY.zero⟩;refine UE ?_;refine aG ?_ ?_<;>intro c2;refine aD ?_;refine UD ?_;refine aI ?_;refine c_ 3 λVf5 hVf5 hc5=> ?_;refine fR ?_;refine jE _ (vi 3) (eC AG.out rfl (d7 hc5) rfl rfl) (fA rfl) ?_;have e:=afW (A:=A) (low:=low) (high:=high) hok arH;rw[e.1,e.2];exact⟨rfl,jY.zero⟩;refine aD ?_;refine c_ 1 λVf6 hVf6 hc6=> ?_;have hA:=hA.mono hVf6;refine c_ 1 λVf7 hVf7 hc7=> ?_;have hA:=hA.mono hVf7;have hc6:=hc6.mono hVf7;refine aH ?_;skip;refine oq (iA (cs:=[S4 b2,S4 b3]) rfl) ?_;refine aH ?_;refine cQ 1 4 [.int .i64 A.v,la,na,.int .i64 A.r] (λb6=> ?_);refine lD 2 λVf8 hVf8 hc8=> ?_;have hA:=hA.mono hVf8;have hc6:=hc6.mono hVf8;have hc7:=hc7.mono hVf8;refine aZ [] (by have h:=H7 (Ds:=[A]) (vars:=A.v) (F:=(λx _ _=>oJ low high x)) (fid:=141) (fcaps:=[S4 b2,S4 b3]) (pD.one hc8 hA) (xD hok.1 hok.loc).1 (xD hok.1 hok.loc).2.1 (xD hok.1 hok.loc).2.2.1 (cV 1) (xD hok.1 hok.loc).2.2.2 (λW q x y z _ _ _=>ap2 (hc6.mono q) (hc7.mono q));rw[cT1]at h;exact h) ?_;rintro _ _ _ _ ⟨rfl,oH,nv1,rfl,hMt⟩;refine aD ?_;refine yB ?_;refine aD ?_;refine c_ 1 λVf9 hVf9 hc9=> ?_;have hMt:=hMt.mono hVf9;refine fR ?_;refine jE _ (.int .i64 (j6 A.v (WB A low high))) (eC AG.out rfl (d7 hc9) rfl rfl) (fA rfl) ?_;have e:=apS (A:=A) (low:=low) (high:=high) hok (aBH aO aO aO);rw[e.1,e.2];exact⟨rfl,oH,nv1,rfl,hMt⟩
theorem ac1(hx:bF x)(hy:bF y):
  aP Tryz.prog 233 [vi x,vi y] V [] (λv _ _=>v=(.int .i64 (wO x y))):=by
 refine bI Tryz.func233 ?_;intro w0 D;have hb:=aw8 (y:=y) hx;refine dS ?_;refine aG ?_ ?_<;>intro c1;refine aF ?_;exact aW (aL (by rw[as3 a_]));refine aF ?_;refine oq (RK (r:=x.tdiv y) rfl rfl a_ (IntWalk.i64_in _ a_)) ?_;refine aS ?_;refine oq (S_ (r:=x.tmod y) rfl rfl a_ rfl) ?_;refine aD ?_;by_cases g1:(x.tmod y)≠0;refine aJ ?_;refine og (YE UL.out rfl rfl) cZ ?_;refine aD ?_;refine aG ?_ ?_<;>intro c2;refine iJ ?_;exact aW (aL (by rw[as2 a_ aO aO]));refine aS ?_;exact aW (aL aDV);refine qQ ?_;exact aW (aL aDV)
abbrev IC:=λ(x:Int) (y:Int)=>[vi x,vi y]
theorem aJB(hx:bF x)(hy:bF y):
  aP Tryz.prog 232 (IC x y) V [] (λv _ _=>v=(.int .i64 (eG 2 x y))):=by
 refine bI Tryz.func232 ?_;intro w0 D;have hx1:=hx.1;have hx2:=hx.2;have hy1:=hy.1;have hy2:=hy.2;have hfm:=tH hx hy;refine dS ?_;by_cases g1:x≠0;refine aD ?_;refine og (qL rfl a_) cZ ?_;refine aI ?_;refine og (qL rfl a_) cZ ?_;refine aH ?_;refine og (D4 rfl rfl a_ a_) cZ ?_;refine aI ?_;refine aG ?_ ?_<;>intro c1;refine aF ?_;exact aW (aL (by rw[aJ_ rfl ⟨g1,c1⟩]));refine aD ?_;have hmb:=aiP (x:=x) (y:=y) (λq=>by first|exact bM q.1 aO|exact bM q.2 aO);refine aS ?_;exact aW (aL aBd);refine qQ ?_;have hmb:=aiP (x:=x) (y:=y) (λq=>by first|exact bM q.1 aO|exact bM q.2 aO);refine aS ?_;exact aW (aL aBd)
theorem GQ{p:Prop}[Decidable p]:
  aP Tryz.prog 213 [.bool (decide p)] V [] (λv _ _=>v=(.int .i64 (if p then 1 else 0))):=by
 refine bI Tryz.func213 ?_;intro w0 D;refine eW ?_;refine aG ?_ ?_<;>intro c1;refine aF ?_;exact aW (aL (by rw[aK aO]));refine aN ?_;exact aW (aL (by rw[aC aO]))
theorem aIS(hx:bF x)(hy:bF y):
  aP Tryz.prog 230 (IC x y) V [] (λv _ _=>v=(.int .i64 (eG 0 x y))):=by
 refine bI Tryz.func230 ?_;intro w0 D;have hx1:=hx.1;have hx2:=hx.2;have hy1:=hy.1;have hy2:=hy.2;have hfm:=tH hx hy;refine dI ?_;exact aW (aL dB)
theorem aJ6(hx:bF x)(hy:bF y):
  aP Tryz.prog 231 (IC x y) V [] (λv _ _=>v=(.int .i64 (eG 1 x y))):=by
 refine bI Tryz.func231 ?_;intro w0 D;have hx1:=hx.1;have hx2:=hx.2;have hy1:=hy.1;have hy2:=hy.2;have hfm:=tH hx hy;refine dI ?_;exact aW (aL dB)
theorem aIQ(hx:bF x)(hy:bF y):
  aP Tryz.prog 234 (IC x y) V [] (λv _ _=>v=(.int .i64 (eG 4 x y))):=by
 refine bI Tryz.func234 ?_;intro w0 D;have hx1:=hx.1;have hx2:=hx.2;have hy1:=hy.1;have hy2:=hy.2;have hfm:=tH hx hy;refine b_ ?_;refine oq (cM GQ) ?_;refine aJ ?_;refine oq (cM (ac1 hx hy)) ?_;refine aD ?_;refine oq (ai2 rfl rfl (by by_cases q:y≠0<;>first|(rw[aK q];omega)|(rw[aC q];omega))) ?_;refine aI ?_;exact aW (aL (by by_cases q:y=0<;>first|(rw[aJe rfl q,aC a_];omega)|(rw[aIT rfl q,aK q];omega)))
theorem aIF(hx:bF x)(hy:bF y):
  aP Tryz.prog 235 (IC x y) V [] (λv _ _=>v=(.int .i64 (eG 5 x y))):=by
 refine bI Tryz.func235 ?_;intro w0 D;have hx1:=hx.1;have hx2:=hx.2;have hy1:=hy.1;have hy2:=hy.2;have hfm:=tH hx hy;refine dI ?_;exact aW (aL dB)
theorem aJu(hx:bF x)(hy:bF y):
  aP Tryz.prog 236 (IC x y) V [] (λv _ _=>v=(.int .i64 (eG 6 x y))):=by
 refine bI Tryz.func236 ?_;intro w0 D;have hx1:=hx.1;have hx2:=hx.2;have hy1:=hy.1;have hy2:=hy.2;have hfm:=tH hx hy;refine dI ?_;exact aW (aL dB)
theorem aI9(hx:bF x)(hy:bF y):
  aP Tryz.prog 237 (IC x y) V [] (λv _ _=>v=(.int .i64 (eG 7 x y))):=by
 refine bI Tryz.func237 ?_;intro w0 D;have hx1:=hx.1;have hx2:=hx.2;have hy1:=hy.1;have hy2:=hy.2;have hfm:=tH hx hy;refine eW ?_;refine oq (cM GQ) ?_;refine aI ?_;exact aW (aL dB)
theorem aJ9(hx:bF x)(hy:bF y):
  aP Tryz.prog 238 (IC x y) V [] (λv _ _=>v=(.int .i64 (eG 8 x y))):=by
 refine bI Tryz.func238 ?_;intro w0 D;have hx1:=hx.1;have hx2:=hx.2;have hy1:=hy.1;have hy2:=hy.2;have hfm:=tH hx hy;refine eW ?_;refine oq (cM GQ) ?_;refine aI ?_;exact aW (aL dB)
def UX(op:Int):Nat:=if op=0 then 230 else if op=1 then 231 else if op=2 then 232 else if op=3 then 233 else if op=4 then 234 else if op=5 then 235 else if op=6 then 236 else if op=7 then 237 else 238
def aAh:List Value:=[.func (.func 230) #[] #[],.func (.func 231) #[] #[],.func (.func 232) #[] #[],.func (.func 233) #[] #[],.func (.func 234) #[] #[],.func (.func 235) #[] #[],.func (.func 236) #[] #[],.func (.func 237) #[] #[],.func (.func 238) #[] #[]]
theorem aG2{op:Int}(h0:0≤op)(h8:op≤8):gv aAh op= .func (.func (UX op)) #[] #[]:=by
 rcases(by omega:op=0∨op=1∨op=2∨op=3∨op=4∨op=5∨op=6∨op=7∨op=8)with rfl|rfl|rfl|rfl|rfl|rfl|rfl|rfl|rfl<;>rfl
theorem aJr{op:Int}(h0:0≤op)(h8:op≤8)(hx:bF x)(hy:bF y):aP Tryz.prog (UX op) [.int .i64 x,.int .i64 y] V [] (λv _ _=>v= .int .i64 (eG op x y)):=by
 rcases(by omega:op=0∨op=1∨op=2∨op=3∨op=4∨op=5∨op=6∨op=7∨op=8)with rfl|rfl|rfl|rfl|rfl|rfl|rfl|rfl|rfl
 exact aIS hx hy;exact aJ6 hx hy;exact aJB hx hy;exact ac1 hx hy;exact aIQ hx hy;exact aIF hx hy;exact aJu hx hy;exact aI9 hx hy;exact aJ9 hx hy
theorem YT:
  aP Tryz.prog 195 [] V [] (λv _ σ'=>∃b,v= .slice (some ⟨b,0,none⟩) 9 9∧σ'=[aM 131 b aAh]):=by
 refine bI Tryz.func195 ?_;intro w0 D;refine aN ?_;refine cQ 9 1 [Value.func (.func 230) #[] #[],Value.func (.func 231) #[] #[],Value.func (.func 232) #[] #[],Value.func (.func 233) #[] #[],Value.func (.func 234) #[] #[],Value.func (.func 235) #[] #[],Value.func (.func 236) #[] #[],Value.func (.func 237) #[] #[],Value.func (.func 238) #[] #[]] (λb1=> ?_);refine wL ?_;exact⟨b1,rfl,rfl⟩
theorem MO{op z:Int}{pf:Nat}(h0:0≤op)(h8:op≤8)(hx:bF x)(hy:bF y)(hf:Cells V pf [Value.func (.func (UX op)) #[] #[]]):
  aP Tryz.prog 196 [.agg #[vi x,vi y,vi z],vp pf] V [] (λv _ _=>v=(.int .i64 (eG op x y))):=by
 refine bI Tryz.func196 ?_;intro w0 D;refine aD ?_;refine bH λb1=> ?_;refine aF ?_;refine FV ?_;refine aH ?_;refine W0 ?_;refine aH ?_;refine oq (cM (aJr h0 h8 hx hy)) ?_;refine aI ?_;exact aW rfl
abbrev aoF:=[vi 0,vn,vn,vi 0]
theorem RT{la na:Value}(hA:Mt V la na A){lb nb:Value}{B:Mg}(hB:Mt V lb nb B){op:Int}:
  aP Tryz.prog 136 [vi op,.agg #[.int .i64 A.v,la,na,.int .i64 A.r],.agg #[.int .i64 B.v,lb,nb,.int .i64 B.r]] V [] (λv V' σ'=>σ'=[]∧jY V' v (yE op A B) (q7 op A B)):=by
 refine bI Tryz.func136 ?_;intro w0 D;have hbl:=aT.bound hA.l;have hbn:=aR.bound hA.n;refine aD ?_;refine bH λb1=> ?_;refine bH λb2=> ?_;refine aQ λb3=> ?_;refine aS ?_;refine cQ 2 4 [.int .i64 A.v,la,na,.int .i64 A.r,.int .i64 B.v,lb,nb,.int .i64 B.r] (λb4=> ?_);refine lD 3 λVf1 hVf1 hc1=> ?_;have hA:=hA.mono hVf1;have hB:=hB.mono hVf1;refine oq (cM (BP (pD.two hc1 hA hB) EK)) ?_;refine aS ?_;refine aG ?_ ?_<;>intro c1;refine aD ?_;refine oq (bL (out:=aoF) BI.out [] rfl rfl) ?_;refine aJ ?_;refine c_ 2 λVf2 hVf2 hc2=> ?_;refine fR ?_;refine jE _ (.int .i64 (vE [A,B])) (eC AG.out rfl (d7 hc2) rfl rfl) (fA rfl) ?_;have e:=aI5 (A:=A) (B:=B) (op:=op) a_;rw[e.1,e.2];exact⟨rfl,jY.zero⟩;refine aI ?_;have hz:vE [A,B]=0:=aB;have hcm:SW [A,B]:=CZ (rF.1 hz).1 (rF.1 hz).2 EK (by show 2≤3;omega);refine aJ ?_;by_cases g1:op<0;refine aS ?_;refine oq (bL (out:=aoF) BI.out [] rfl rfl) ?_;refine aI ?_;refine c_ 2 λVf3 hVf3 hc3=> ?_;refine fR ?_;refine PQ ?_;have e:=aCJ (A:=A) (B:=B) (op:=op) hz a_;rw[e.1,e.2];exact⟨rfl,jY.zero⟩;refine aJ ?_;refine aG ?_ ?_<;>intro c2;refine aD ?_;refine oq (bL (out:=aoF) BI.out [] rfl rfl) ?_;refine aI ?_;refine c_ 2 λVf4 hVf4 hc4=> ?_;refine fR ?_;refine US ?_;have e:=aCJ (A:=A) (B:=B) (op:=op) hz a_;rw[e.1,e.2];exact⟨rfl,jY.zero⟩;refine aD ?_;have h0:0≤op:=aB;have h8:op≤8:=aB;refine aH ?_;refine aZ [] YT ?_;rintro _ _ _ hV1 ⟨bo,rfl,rfl⟩;have hA:=hA.mono hV1;have hB:=hB.mono hV1;refine aH ?_;refine oq (EL (v:=(.slice (some ⟨bo,0,none⟩) 9 9)) UL.out SZ.out rfl (inO (k:=0) rfl rfl (cV _) a_) rfl a_ (by show op<9;omega)) ?_;refine oq (aEi (u:=(Value.func (.func (UX op)) #[] #[])) (v:=(.slice (some ⟨bo,0,none⟩) 9 9)) (i:=op) PL.out rfl (inO (k:=0) rfl rfl (cV _) a_) a_ (by show op<9;omega) (aG2 a_ a_)) ?_;refine aQ λb5=> ?_;refine aI ?_;refine c_ 4 λVf5 hVf5 hc5=> ?_;have hA:=hA.mono hVf5;have hB:=hB.mono hVf5;refine aH ?_;skip;refine oq (iA (cs:=[vp b5]) rfl) ?_;refine aD ?_;refine cQ 2 4 [.int .i64 A.v,la,na,.int .i64 A.r,.int .i64 B.v,lb,nb,.int .i64 B.r] (λb6=> ?_);refine lD 4 λVf6 hVf6 hc6=> ?_;have hA:=hA.mono hVf6;have hB:=hB.mono hVf6;have hc5:=hc5.mono hVf6;refine aZ [] (by have h:=H7 (Ds:=[A,B]) (vars:=A.v) (F:=λx y _=>eG op x y) (fid:=196) (fcaps:=[vp b5]) (pD.two hc6 hA hB) hcm.ok hcm.sv hcm.rg EK hcm.rt (λW q x y z hx hy _=>MO h0 h8 hx hy (hc5.mono q));rw[cT2]at h;exact h) ?_;rintro _ _ _ _ ⟨rfl,oH,nv1,rfl,hMt⟩;refine aD ?_;refine yB ?_;refine aD ?_;refine c_ 3 λVf7 hVf7 hc7=> ?_;have hMt:=hMt.mono hVf7;refine fR ?_;refine jE _ (.int .i64 (j6 A.v (dH A.v λe=>eG op (vl A e) (vl B e)))) (eC AG.out rfl (d7 hc7) rfl rfl) (fA rfl) ?_;have e:=aBG (A:=A) (B:=B) (op:=op) hz a_;rw[e.1,e.2];exact⟨rfl,oH,nv1,rfl,hMt⟩
end Go.Proofs.YtbchkopkgpfkgaaGreat.Dd
end
