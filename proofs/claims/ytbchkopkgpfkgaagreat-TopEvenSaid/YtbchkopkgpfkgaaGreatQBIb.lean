import Derived.Test.YtbchkopkgpfkgaaGreatQBG
import Derived.Test.YtbchkopkgpfkgaaGreatQBI
set_option linter.unusedVariables false
set_option maxRecDepth 100000
set_option maxHeartbeats 0
noncomputable section
namespace Go.Proofs.YtbchkopkgpfkgaaGreat.Dd
open Classical Go.Vc
variable{V:HV}{cN:List Fk}{nc:Value}
theorem ai4{x y z:Int}:
  aP Tryz.prog 239 [.agg #[vi x,vi y,vi z]] V [] (λv _ _=>v=(.int .i64 (if x=1 then y else z))):=by
 refine bI Tryz.func239 ?_;intro w0 D;refine aD ?_;refine bH λb1=> ?_;refine aF ?_;refine FV ?_;refine aI ?_;refine aG ?_ ?_<;>intro c1;refine aD ?_;refine W0 ?_;refine aJ ?_;exact aW (aL agD);refine aI ?_;refine oq (GC (i:=2) (off:=0) UL.out SZ.out rfl rfl a_ a_ rT) ?_;refine aJ ?_;exact aW (aL agD)
abbrev aEj:=[vi 0,vn,vn,vi 0]
theorem aq6{cv cr:Int}(hC:eS V nc cN){la na:Value}{A:Mg}(hA:Mt V la na A){lb nb:Value}{B:Mg}(hB:Mt V lb nb B)(h12:Bd.Ok cv cN cr→cv≤12):
  aP Tryz.prog 200 [.agg #[vi cv,nc,vi cr],.agg #[.int .i64 A.v,la,na,.int .i64 A.r],.agg #[.int .i64 B.v,lb,nb,.int .i64 B.r]] V [] (λv V' σ'=>σ'=[]∧jY V' v (chD cv cN cr A B) (KO cv cN cr A B)):=by
 refine bI Tryz.func200 ?_;intro w0 D;have hbl:=aT.bound hA.l;have hbn:=aR.bound hA.n;have hbc:=aR.bound hC;refine aD ?_;refine bH λb1=> ?_;refine bH λb2=> ?_;refine bH λb3=> ?_;refine aQ λb4=> ?_;refine aN ?_;refine oq (cM (Bd.rL hC)) ?_;refine aD ?_;refine aG ?_ ?_<;>intro c1;refine aD ?_;refine oq (bL (out:=aEj) BI.out [] rfl rfl) ?_;refine aI ?_;refine c_ 3 λVf1 hVf1 hc1=> ?_;refine fR ?_;refine jE _ (vi 1) (eC AG.out rfl (d7 hc1) rfl rfl) (fA rfl) ?_;have e:=aJR (A:=A) (B:=B) (λq=>bM (Bd.BM q) aO);rw[e.1,e.2];exact⟨rfl,jY.zero⟩;refine aD ?_;have hbok:Bd.Ok cv cN cr:=Bd.qF.1 a_;have hcv:=h12 hbok;refine aD ?_;refine aZ [] (WF hC hbok) ?_;rintro _ _ _ hV1 ⟨rfl,lvd,nvd,rfl,hMd⟩;have hA:=hA.mono hV1;have hB:=hB.mono hV1;refine aQ λb5=> ?_;refine dM rfl rfl (iO rfl hMd.l hMd.n rfl) ?_;refine aS ?_;refine cQ 3 4 [.int .i64 ((kJ cv cN cr).v),lvd,nvd,.int .i64 ((kJ cv cN cr).r),.int .i64 A.v,la,na,.int .i64 A.r,.int .i64 B.v,lb,nb,.int .i64 B.r] (λb6=> ?_);refine lD 5 λVf2 hVf2 hc2=> ?_;have hA:=hA.mono hVf2;have hB:=hB.mono hVf2;have hMd:=hMd.mono hVf2;refine oq (cM (BP (pD.three hc2 hMd hA hB) UZ)) ?_;refine aS ?_;refine aG ?_ ?_<;>intro c2;refine aD ?_;refine oq (bL (out:=aEj) BI.out [] rfl rfl) ?_;refine aJ ?_;refine c_ 3 λVf3 hVf3 hc3=> ?_;refine fR ?_;refine jE _ (.int .i64 (vE [kJ cv cN cr,A,B])) (eC AG.out rfl (d7 hc3) rfl rfl) (fA rfl) ?_;have e:=aJc (A:=A) (B:=B) hbok aO;rw[e.1,e.2];exact⟨rfl,jY.zero⟩;refine aD ?_;have hz:vE [kJ cv cN cr,A,B]=0:=aB;have hcm:SW [kJ cv cN cr,A,B]:=CZ (rF.1 hz).1 (rF.1 hz).2 UZ (by show 3≤3;omega);refine aJ ?_;refine cQ 3 4 [.int .i64 ((kJ cv cN cr).v),lvd,nvd,.int .i64 ((kJ cv cN cr).r),.int .i64 A.v,la,na,.int .i64 A.r,.int .i64 B.v,lb,nb,.int .i64 B.r] (λb7=> ?_);refine lD 5 λVf4 hVf4 hc4=> ?_;have hA:=hA.mono hVf4;have hB:=hB.mono hVf4;have hMd:=hMd.mono hVf4;refine aZ [] (by have h:=H7 (Ds:=[kJ cv cN cr,A,B]) (vars:=cv) (F:=λx y z=>if x=1 then y else z) (fid:=239) (fcaps:=[]) (pD.three hc4 hMd hA hB) hcm.ok hcm.sv hcm.rg UZ hcm.rt (λW q x y z _ _ _=>ai4);rw[cT3]at h;exact h) ?_;rintro _ _ _ _ ⟨rfl,oH,nv1,rfl,hMt⟩;refine aD ?_;refine yB ?_;refine aD ?_;refine c_ 3 λVf5 hVf5 hc5=> ?_;have hMt:=hMt.mono hVf5;refine fR ?_;refine jE _ (.int .i64 (j6 cv (NS cv cN cr A B))) (eC AG.out rfl (d7 hc5) rfl rfl) (fA rfl) ?_;obtain⟨e1,e2,e3,_⟩:=aBY (A:=A) (B:=B) hbok hcv hz;rw[e1,e2,e3];exact⟨rfl,oH,nv1,rfl,hMt⟩
abbrev QC:=λ(py:Nat)=>Value.pointer (some ⟨py,0,none⟩)
theorem aHg{x y z no yes:Int}{py pn:Nat}(hy:Cells V py [.int .i64 yes])(hn:Cells V pn [.int .i64 no]):
  aP Tryz.prog 197 [.agg #[vi x,vi y,vi z],QC py,QC pn] V [] (λv _ _=>v=(.int .i64 (if x=1 then yes else no))):=by
 refine bI Tryz.func197 ?_;intro w0 D;refine aD ?_;refine bH λb1=> ?_;refine aF ?_;refine FV ?_;refine aI ?_;refine aG ?_ ?_<;>intro c1;refine aN ?_;exact aW (aL agD);refine aS ?_;exact aW (aL agD)
abbrev aJh:=[vi 0,vn,vn,vi 0]
theorem aJZ{cv cr:Int}(hC:eS V nc cN){no yes:Int}(h12:Bd.Ok cv cN cr→cv≤12):
  aP Tryz.prog 138 [.agg #[vi cv,nc,vi cr],vi no,vi yes] V [] (λv V' σ'=>σ'=[]∧jY V' v (ofD cv cN cr no yes) (GI cv cN cr no yes)):=by
 refine bI Tryz.func138 ?_;intro w0 D;have hbc:=aR.bound hC;refine aD ?_;refine bH λb1=> ?_;refine bH λb2=> ?_;refine bH λb3=> ?_;refine aQ λb4=> ?_;refine aN ?_;refine oq (cM (Bd.rL hC)) ?_;refine aD ?_;refine aG ?_ ?_<;>intro c1;refine aD ?_;refine afC ?_;refine c_ 3 λVf1 hVf1 hc1=> ?_;refine fR ?_;refine jE _ (vi 1) (eC AG.out rfl (d7 hc1) rfl rfl) (fA rfl) ?_;have e:=aJx (no:=no) (yes:=yes) (λq=>bM (Bd.BM q) aO);rw[e.1,e.2];exact⟨rfl,jY.zero⟩;refine aI ?_;have hbok:Bd.Ok cv cN cr:=Bd.qF.1 a_;have hcv:=h12 hbok;have hlf:=PF hbok hcv;refine aD ?_;refine oq (cM B7) ?_;refine aD ?_;by_cases g1:¬(bF no);refine b_ ?_;refine afC ?_;refine c_ 3 λVf2 hVf2 hc2=> ?_;refine fR ?_;refine WE ?_;have e:=aEt (no:=no) (yes:=yes) hbok aiC;rw[e.1,e.2];exact⟨rfl,jY.zero⟩;refine UE ?_;refine aG ?_ ?_<;>intro c2;refine aD ?_;refine afC ?_;refine c_ 3 λVf3 hVf3 hc3=> ?_;refine fR ?_;refine PQ ?_;have e:=aEt (no:=no) (yes:=yes) hbok aiC;rw[e.1,e.2];exact⟨rfl,jY.zero⟩;refine aD ?_;refine c_ 1 λVf4 hVf4 hc4=> ?_;have hC:=hC.mono hVf4;refine c_ 1 λVf5 hVf5 hc5=> ?_;have hC:=hC.mono hVf5;have hc4:=hc4.mono hVf5;refine aH ?_;skip;refine oq (iA (cs:=[QC b3,QC b2]) rfl) ?_;refine aH ?_;refine aZ [] (WF hC hbok) ?_;rintro _ _ _ hV1 ⟨rfl,lvd,nvd,rfl,hMd⟩;have hc4:=hc4.mono hV1;have hc5:=hc5.mono hV1;refine cQ 1 4 [.int .i64 ((kJ cv cN cr).v),lvd,nvd,.int .i64 ((kJ cv cN cr).r)] (λb5=> ?_);refine lD 2 λVf6 hVf6 hc6=> ?_;have hc4:=hc4.mono hVf6;have hc5:=hc5.mono hVf6;have hMd:=hMd.mono hVf6;refine aZ [] (by have h:=H7 (Ds:=[kJ cv cN cr]) (vars:=cv) (F:=λx _ _=>if x=1 then yes else no) (fid:=197) (fcaps:=[QC b3,QC b2]) (pD.one hc6 hMd) (xD hlf.1.1 hlf.1.loc).1 (xD hlf.1.1 hlf.1.loc).2.1 (xD hlf.1.1 hlf.1.loc).2.2.1 (cV 1) (xD hlf.1.1 hlf.1.loc).2.2.2 (λW q x y z _ _ _=>aHg (hc5.mono q) (hc4.mono q));rw[cT1,aF1 hbok hcv]at h;exact h) ?_;rintro _ _ _ _ ⟨rfl,oH,nv1,rfl,hMt⟩;refine aD ?_;refine yB ?_;refine aD ?_;refine c_ 1 λVf7 hVf7 hc7=> ?_;have hMt:=hMt.mono hVf7;refine fR ?_;refine jE _ (.int .i64 (j6 cv (HB cv cN cr no yes))) (eC AG.out rfl (d7 hc7) rfl rfl) (fA rfl) ?_;have e:=aAU hbok (show bF no from(by first|assumption|exact pU.1 aO)) (show bF yes from(by first|assumption|exact pU.1 aO));have m:=aE3 hbok hcv (show bF no from(by first|assumption|exact pU.1 aO)) (show bF yes from(by first|assumption|exact pU.1 aO));rw[e.1,e.2,←m.2,m.1];exact⟨rfl,oH,nv1,rfl,hMt⟩
end Go.Proofs.YtbchkopkgpfkgaaGreat.Dd
namespace Go.Proofs.YtbchkopkgpfkgaaGreat
open Classical Go.Vc
variable{V:HV}{ba ha hx lf lg mb mg va xq:Value}{bx:Nat}{c sec x:Int}
theorem acJ{n:Int}(N:Nb n)(hc:Dd.bF c):
  aP Tryz.prog 135 [.int .i64 n,.int .i64 c] V [] (λv V' σ'=>σ'=[]∧∃l m,v= .tuple #[.agg #[.int .i64 n,l,m,.int .i64 (Dg n (λ_=>c)).r],.int .i64 0]∧Dm V' n l m (λ_=>c)):=
 Dd.agS.mono λ_ _ _ _ ⟨a,h⟩=>⟨a,KE h (aoR hc) (acX N hc).1 (acX N hc).2⟩
theorem ax7{n:Int}(N:Nb n){mf:Value}{f:aV→Int}(hf:Dm V n lf mf f){g:aV→Int}(hg:Dm V n lg mg g){op:Int}(h0:0≤op)(h8:op≤8)(hr:∀e,Dd.bF (Dd.eG op (f e) (g e))):
  aP Tryz.prog 136 [.int .i64 op,.agg #[.int .i64 n,lf,mf,.int .i64 (Dg n f).r],.agg #[.int .i64 n,lg,mg,.int .i64 (Dg n g).r]] V [] (λv V' σ'=>σ'=[]∧∃l m,v= .tuple #[.agg #[.int .i64 n,l,m,.int .i64 (Dg n (λe=>Dd.eG op (f e) (g e))).r],.int .i64 0]∧Dm V' n l m (λe=>Dd.eG op (f e) (g e))):=
 (Dd.RT (op:=op) hf.mt hg.mt).mono λ_ _ _ _ ⟨a,h⟩=>have k:=axM N hf.fn hg.fn h0 h8 hr;⟨a,KE h k.1 k.2.1 k.2.2⟩
theorem DH{n:Int}(N:Nb n){mf:Value}{f:aV→Int}(hf:Dm V n lf mf f){lo hi:Int}(h:lo≤hi)(h1:Dd.bF lo)(h2:Dd.bF hi):
  aP Tryz.prog 82 [.agg #[.int .i64 n,lf,mf,.int .i64 (Dg n f).r],.int .i64 lo,.int .i64 hi] V [] (λv V' σ'=>σ'=[]∧∃l m,v= .tuple #[.agg #[.int .i64 n,l,m,.int .i64 (Dg n (λe=>Dd.oJ lo hi (f e))).r],.int .i64 0]∧Dm V' n l m (λe=>Dd.oJ lo hi (f e))):=
 (Dd.azQ hf.mt).mono λ_ _ _ _ ⟨a,q⟩=>have k:=azH N hf.fn h h1 h2;⟨a,KE q k.1 k.2.1 k.2.2⟩
theorem aoY{n:Int}(N:Nb n){b:aV→Bool}(hb:Bm V n mb b){mf:Value}{f:aV→Int}(hf:Dm V n lf mf f){g:aV→Int}(hg:Dm V n lg mg g):
  aP Tryz.prog 200 [.agg #[.int .i64 n,mb,.int .i64 (Bg n b).r],.agg #[.int .i64 n,lf,mf,.int .i64 (Dg n f).r],.agg #[.int .i64 n,lg,mg,.int .i64 (Dg n g).r]] V [] (λv V' σ'=>σ'=[]∧∃l m,v= .tuple #[.agg #[.int .i64 n,l,m,.int .i64 (Dg n (λe=>if b e=true then f e else g e)).r],.int .i64 0]∧Dm V' n l m (λe=>if b e=true then f e else g e)):=
 (Dd.aq6 hb.mt hf.mt hg.mt (λ_=>N.n12)).mono λ_ _ _ _ ⟨a,h⟩=>have k:=arA N hb.dp hf.fn hg.fn;⟨a,KE h k.1 k.2.1 k.2.2⟩
theorem aw1{n:Int}(N:Nb n){mf:Value}{f:aV→Int}(hf:Dm V n lf mf f):
  aP Tryz.prog 163 [.agg #[.int .i64 n,lf,mf,.int .i64 (Dg n f).r],.int .i64 x] V [] (λv V' σ'=>σ'=[]∧∃m,v= .tuple #[.agg #[.int .i64 n,m,.int .i64 (Bg n (λe=>decide (f e=x))).r],.int .i64 0]∧Bm V' n m (λe=>decide (f e=x))):=
 (Dd.azL hf.mt).mono λ_ _ _ _ ⟨a,m,e,h⟩=>by
  have k:=azY N (x:=x) hf.fn;rw[k.2.1,k.2.2]at e;rw[k.2.2]at h;exact⟨a,m,e,h,k.1⟩
theorem aAI{n:Int}(N:Nb n){b:aV→Bool}(hb:Bm V n mb b){p q:Int}(h1:Dd.bF p)(h2:Dd.bF q):
  aP Tryz.prog 138 [.agg #[.int .i64 n,mb,.int .i64 (Bg n b).r],.int .i64 p,.int .i64 q] V [] (λv V' σ'=>σ'=[]∧∃l m,v= .tuple #[.agg #[.int .i64 n,l,m,.int .i64 (Dg n (λe=>if b e=true then q else p)).r],.int .i64 0]∧Dm V' n l m (λe=>if b e=true then q else p)):=
 (Dd.aJZ hb.mt (λ_=>N.n12)).mono λ_ _ _ _ ⟨a,h⟩=>have k:=aJs N hb.dp h1 h2;⟨a,KE h k.1 k.2.1 k.2.2⟩
theorem aGO{n:Int}(N:Nb n){b:aV→Bool}(hb:Bm V n mb b):
  aP Tryz.prog 153 [.agg #[.int .i64 n,mb,.int .i64 (Bg n b).r]] V [] (λv V' σ'=>σ'=[]∧∃m,v= .tuple #[.agg #[.int .i64 n,m,.int .i64 (Bg n (λe=> !b e)).r],.int .i64 0]∧Bm V' n m (λe=> !b e)):=
 (Dd.Bd.aGp (A:=Bg n b) hb.mt N.n12).mono λ_ _ _ _ h=>have k:=aFl N hb.dp;aeU h k.1 k.2.1 k.2.2
theorem VI{n:Int}(N:Nb n){b:aV→Bool}(hb:Bm V n mb b){mc:Value}{c:aV→Bool}(hc:Bm V n mc c){op:Int}(h0:0≤op)(h1:op≤15):
  aP Tryz.prog 95 [.int .i64 op,.agg #[.int .i64 n,mb,.int .i64 (Bg n b).r],.agg #[.int .i64 n,mc,.int .i64 (Bg n c).r]] V [] (λv V' σ'=>σ'=[]∧∃m,v= .tuple #[.agg #[.int .i64 n,m,.int .i64 (Bg n (λe=>Dd.Bd.mE op (b e) (c e) false)).r],.int .i64 0]∧Bm V' n m (λe=>Dd.Bd.mE op (b e) (c e) false)):=
 (Dd.Bd.RT (A:=Bg n b) (B:=Bg n c) hb.mt hc.mt N.n12).mono λ_ _ _ _ h=>have k:=aFq N hb.dp hc.dp h0 h1;aeU h k.1 k.2.1 k.2.2
theorem aAq{n:Int}(N:Nb n):
  aP Tryz.prog 94 [.int .i64 n,.bool true] V [] (λv V' σ'=>σ'=[]∧∃m,v= .tuple #[.agg #[.int .i64 n,m,.int .i64 (Bg n (λ_=>true)).r],.int .i64 0]∧Bm V' n m (λ_=>true)):=
 by
 have h:=Dd.Bd.ax5 (V:=V) (vars:=n) (p:=True);rw[show decide True=true from decide_eq_true trivial]at h;exact h.mono λ_ _ _ _ h=>have k:=aBp N;aeU h k.1 k.2.1 k.2.2
theorem aFV{n:Int}(N:Nb n){i:Int}(h0:0≤i)(h1:i<n):
  aP Tryz.prog 137 [.int .i64 n,.int .i64 i] V [] (λv V' σ'=>σ'=[]∧∃m,v= .tuple #[.agg #[.int .i64 n,m,.int .i64 (Bg n (λe=>e i)).r],.int .i64 0]∧Bm V' n m (λe=>e i)):=
 Dd.Bd.ae6.mono λ_ _ _ _ h=>have k:=aGe N h0 h1;aeU h k.1 k.2.1 k.2.2
abbrev LL:=λ(bx:Nat)=>Value.pointer (some ⟨bx,0,none⟩)
theorem kR{n:Int}(N:Nb n){sl:Value}(hX:Cells V bx [va,ha,ba,.int .i64 n,.int .i64 sec,sl,hx])(hc:Dd.bF c):
  aP Tryz.prog 79 [LL bx,vi c] V [] (λv V' σ'=>σ'=[]∧∃l m,v= .agg #[.int .i64 n,l,m,.int .i64 (Dg n (λ_=>c)).r]∧Dm V' n l m (λ_=>c)):=by
 refine bI Tryz.func79 ?_;intro w0 D;refine aD ?_;refine aQ λb1=> ?_;refine aJ ?_;refine uE ?_;refine aZ [] (acJ N hc) ?_;rintro _ _ _ _ ⟨rfl,l9,m9,rfl,h9⟩;refine aI ?_;refine aQ λb2=> ?_;refine NY ?_;refine c_ 0 λVf1 hVf1 hc1=> ?_;have h9:=h9.mono hVf1;refine u5 ?_;exact⟨rfl,l9,m9,rfl,h9⟩
abbrev tY:=λ(n:Int) (lf:Value) (mf:Value) f=>Value.agg #[vi n,lf,mf,vi ((Dg n f).r)]
theorem gJ{n:Int}(N:Nb n){mf:Value}{f:aV→Int}(hf:Dm V n lf mf f){g:aV→Int}(hg:Dm V n lg mg g){op:Int}(h0:0≤op)(h8:op≤8)(hr:∀e,Dd.bF (Dd.eG op (f e) (g e))):
  aP Tryz.prog 80 [xq,vi op,tY n lf mf f,tY n lg mg g] V [] (λv V' σ'=>σ'=[]∧∃l m,v= .agg #[.int .i64 n,l,m,.int .i64 (Dg n (λe=>Dd.eG op (f e) (g e))).r]∧Dm V' n l m (λe=>Dd.eG op (f e) (g e))):=by
 refine bI Tryz.func80 ?_;intro w0 D;refine aD ?_;refine bH λb1=> ?_;refine bH λb2=> ?_;refine aQ λb3=> ?_;refine aN ?_;refine aZ [] (ax7 N hf hg h0 h8 hr) ?_;rintro _ _ _ _ ⟨rfl,l9,m9,rfl,h9⟩;refine aI ?_;refine aQ λb4=> ?_;refine NY ?_;refine c_ 2 λVf1 hVf1 hc1=> ?_;have h9:=h9.mono hVf1;refine u5 ?_;exact⟨rfl,l9,m9,rfl,h9⟩
theorem pP{n:Int}(N:Nb n){sl:Value}(hX:Cells V bx [va,ha,ba,.int .i64 n,.int .i64 sec,sl,hx]){mf:Value}{f:aV→Int}(hf:Dm V n lf mf f){g:aV→Int}(hg:Dm V n lg mg g){op:Int}(h0:0≤op)(h8:op≤8)(hr:∀e,Dd.bF (Dd.eG op (f e) (g e))):
  aP Tryz.prog 80 [LL bx,vi op,tY n lf mf f,tY n lg mg g] V [] (λv V' σ'=>σ'=[]∧∃l m,v= .agg #[.int .i64 n,l,m,.int .i64 (Dg n (λe=>Dd.eG op (f e) (g e))).r]∧Dm V' n l m (λe=>Dd.eG op (f e) (g e))):=
 gJ N hf hg h0 h8 hr
abbrev ah1:=λ(n:Int) (mb:Value) b=>Value.agg #[vi n,mb,vi ((Bg n b).r)]
theorem EB{n:Int}(N:Nb n){b:aV→Bool}(hb:Bm V n mb b){mf:Value}{f:aV→Int}(hf:Dm V n lf mf f){g:aV→Int}(hg:Dm V n lg mg g):
  aP Tryz.prog 143 [xq,ah1 n mb b,tY n lf mf f,tY n lg mg g] V [] (λv V' σ'=>σ'=[]∧∃l m,v= .agg #[.int .i64 n,l,m,.int .i64 (Dg n (λe=>if b e=true then f e else g e)).r]∧Dm V' n l m (λe=>if b e=true then f e else g e)):=by
 refine bI Tryz.func143 ?_;intro w0 D;refine aD ?_;refine bH λb1=> ?_;refine bH λb2=> ?_;refine bH λb3=> ?_;refine aQ λb4=> ?_;refine aN ?_;refine aZ [] (aoY N hb hf hg) ?_;rintro _ _ _ _ ⟨rfl,l9,m9,rfl,h9⟩;refine aI ?_;refine aQ λb5=> ?_;refine NY ?_;refine c_ 3 λVf1 hVf1 hc1=> ?_;have h9:=h9.mono hVf1;refine u5 ?_;exact⟨rfl,l9,m9,rfl,h9⟩
theorem oU{n:Int}(N:Nb n){sl:Value}(hX:Cells V bx [va,ha,ba,.int .i64 n,.int .i64 sec,sl,hx]){b:aV→Bool}(hb:Bm V n mb b){mf:Value}{f:aV→Int}(hf:Dm V n lf mf f){g:aV→Int}(hg:Dm V n lg mg g):
  aP Tryz.prog 143 [LL bx,ah1 n mb b,tY n lf mf f,tY n lg mg g] V [] (λv V' σ'=>σ'=[]∧∃l m,v= .agg #[.int .i64 n,l,m,.int .i64 (Dg n (λe=>if b e=true then f e else g e)).r]∧Dm V' n l m (λe=>if b e=true then f e else g e)):=
 EB N hb hf hg
theorem DO{n:Int}(N:Nb n){mf:Value}{f:aV→Int}(hf:Dm V n lf mf f):
  aP Tryz.prog 96 [xq,tY n lf mf f,vi x] V [] (λv V' σ'=>σ'=[]∧∃m,v= .agg #[.int .i64 n,m,.int .i64 (Bg n (λe=>decide (f e=x))).r]∧Bm V' n m (λe=>decide (f e=x))):=by
 refine bI Tryz.func96 ?_;intro w0 D;refine aD ?_;refine bH λb1=> ?_;refine aQ λb2=> ?_;refine aF ?_;refine aZ [] (aw1 N hf) ?_;rintro _ _ _ _ ⟨rfl,n9,rfl,k9⟩;refine aI ?_;refine aQ λb3=> ?_;refine AF ?_;refine aF ?_;refine AF ?_;refine aH ?_;refine c_ 1 λVf1 hVf1 hc1=> ?_;have k9:=k9.mono hVf1;refine u5 ?_;exact⟨rfl,n9,rfl,k9⟩
theorem pL{n:Int}(N:Nb n){sl:Value}(hX:Cells V bx [va,ha,ba,.int .i64 n,.int .i64 sec,sl,hx]){mf:Value}{f:aV→Int}(hf:Dm V n lf mf f):
  aP Tryz.prog 96 [LL bx,tY n lf mf f,vi x] V [] (λv V' σ'=>σ'=[]∧∃m,v= .agg #[.int .i64 n,m,.int .i64 (Bg n (λe=>decide (f e=x))).r]∧Bm V' n m (λe=>decide (f e=x))):=
 DO N hf
theorem NA{n:Int}(N:Nb n){b:aV→Bool}(hb:Bm V n mb b):
  aP Tryz.prog 199 [xq,ah1 n mb b] V [] (λv V' σ'=>σ'=[]∧∃l m,v= .agg #[.int .i64 n,l,m,.int .i64 (Dg n (λe=>if b e=true then 1 else 0)).r]∧Dm V' n l m (λe=>if b e=true then 1 else 0)):=by
 refine bI Tryz.func199 ?_;intro w0 D;refine aD ?_;refine bH λb1=> ?_;refine aQ λb2=> ?_;refine aJ ?_;refine aZ [] (aAI N hb (p:=0) (q:=1) mM mM) ?_;rintro _ _ _ _ ⟨rfl,l9,m9,rfl,h9⟩;refine aI ?_;refine aQ λb3=> ?_;refine NY ?_;refine c_ 1 λVf1 hVf1 hc1=> ?_;have h9:=h9.mono hVf1;refine u5 ?_;exact⟨rfl,l9,m9,rfl,h9⟩
theorem GQ{n:Int}(N:Nb n){sl:Value}(hX:Cells V bx [va,ha,ba,.int .i64 n,.int .i64 sec,sl,hx]){b:aV→Bool}(hb:Bm V n mb b):
  aP Tryz.prog 199 [LL bx,ah1 n mb b] V [] (λv V' σ'=>σ'=[]∧∃l m,v= .agg #[.int .i64 n,l,m,.int .i64 (Dg n (λe=>if b e=true then 1 else 0)).r]∧Dm V' n l m (λe=>if b e=true then 1 else 0)):=
 NA N hb
theorem rC{n:Int}(N:Nb n){mf:Value}{f:aV→Int}(hf:Dm V n lf mf f):
  aP Tryz.prog 89 [xq,tY n lf mf f] V [] (λv V' σ'=>σ'=[]∧∃m,v= .agg #[.int .i64 n,m,.int .i64 (Bg n (λe=> !decide (f e=0))).r]∧Bm V' n m (λe=> !decide (f e=0))):=by
 refine bI Tryz.func89 ?_;intro w0 D;refine aD ?_;refine bH λb1=> ?_;refine aQ λb2=> ?_;refine aF ?_;refine aZ [] (DO N hf (x:=0)) ?_;rintro _ _ _ _ ⟨rfl,n8,rfl,k8⟩;refine aZ [] (aGO N k8) ?_;rintro _ _ _ _ ⟨rfl,n9,rfl,k9⟩;refine aI ?_;refine aQ λb3=> ?_;refine AF ?_;refine aF ?_;refine AF ?_;refine aH ?_;refine c_ 1 λVf1 hVf1 hc1=> ?_;have k9:=k9.mono hVf1;refine u5 ?_;exact⟨rfl,n9,rfl,k9⟩
theorem DR{n:Int}(N:Nb n){sl:Value}(hX:Cells V bx [va,ha,ba,.int .i64 n,.int .i64 sec,sl,hx]){mf:Value}{f:aV→Int}(hf:Dm V n lf mf f):
  aP Tryz.prog 89 [LL bx,tY n lf mf f] V [] (λv V' σ'=>σ'=[]∧∃m,v= .agg #[.int .i64 n,m,.int .i64 (Bg n (λe=> !decide (f e=0))).r]∧Bm V' n m (λe=> !decide (f e=0))):=
 rC N hf
theorem OP{n:Int}(N:Nb n){mf:Value}{f:aV→Int}(hf:Dm V n lf mf f):
  aP Tryz.prog 142 [xq,tY n lf mf f] V [] (λv V' σ'=>σ'=[]∧∃l m,v= .agg #[.int .i64 n,l,m,.int .i64 (Dg n (λe=>if decide (f e=0)=true then 1 else 0)).r]∧Dm V' n l m (λe=>if decide (f e=0)=true then 1 else 0)):=by
 refine bI Tryz.func142 ?_;intro w0 D;refine aD ?_;refine bH λb1=> ?_;refine aQ λb2=> ?_;refine aN ?_;refine aZ [] (DO N hf (x:=0)) ?_;rintro _ _ _ _ ⟨rfl,n9,rfl,k9⟩;refine aZ [] (NA N k9) ?_;rintro _ _ _ _ ⟨rfl,l9,m9,rfl,h9⟩;refine lP ?_;refine c_ 1 λVf1 hVf1 hc1=> ?_;have h9:=h9.mono hVf1;refine u5 ?_;exact⟨rfl,l9,m9,rfl,h9⟩
theorem aFY{n:Int}(N:Nb n){sl:Value}(hX:Cells V bx [va,ha,ba,.int .i64 n,.int .i64 sec,sl,hx]){mf:Value}{f:aV→Int}(hf:Dm V n lf mf f):
  aP Tryz.prog 142 [LL bx,tY n lf mf f] V [] (λv V' σ'=>σ'=[]∧∃l m,v= .agg #[.int .i64 n,l,m,.int .i64 (Dg n (λe=>if decide (f e=0)=true then 1 else 0)).r]∧Dm V' n l m (λe=>if decide (f e=0)=true then 1 else 0)):=
 OP N hf
end Go.Proofs.YtbchkopkgpfkgaaGreat
end
