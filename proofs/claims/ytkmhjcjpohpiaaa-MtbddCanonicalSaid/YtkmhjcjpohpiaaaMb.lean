import Derived.Test.YtkmhjcjpohpiaaaMa
import Derived.Test.YtkmhjcjpohpiaaaWm
import Derived.Test.YtkmhjcjpohpiaaaWo
/- Walks of mtbdd: what each function returns. Printed by a program out of notes. -/
namespace Go.Proofs.Ytkmhjcjpohpiaaa
open Go.Vc
open Classical
theorem k3_key:KeyT Try.prog 97 kv:=KeyT.arr Try.underlying97 Try.underlying3 Try.ti3 kl (fun _=>rfl) fun a b h=>by
  simp [kl] at h
  exact Prod.ext h.1 (Prod.ext h.2.1 h.2.2)
/-- What holds of the functions that go on from one state holds of those that go on from a later one. -/
def Nx {γ:Type} (Ag:γ→(Int→Int→Int→Int)→Prop) (s s':γ):Prop:=∀ F,Ag s' F→Ag s F
/-- What a combination reads and never changes. -/
structure CEnv (V:HV) (vars:Int) (Ds:List Mg) {γ:Type} (S:γ→Asrt) (Ag:γ→(Int→Int→Int→Int)→Prop) (sz:γ→Nat) (Iv:γ→List Int→Prop) (lv:Value) (lvs nvs:List Value) (fid:Nat) (fcaps:List Value) (pd pl pf pr pm bb bd:Nat):Prop where
  bl:Mdl V lv lvs nvs Ds
  ok:DsOk vars Ds
  sv:SameV vars Ds
  rg:Rng Ds
  h1:1≤Ds.length
  cd:Cells V pd [.map (some bd)]
  cl:Cells V pl [lv]
  cm:Cells V pm [.pointer (some ⟨bb,0,none⟩)]
  cf:Cells V pf [.func (.func fid) #[] fcaps.toArray]
  cr:Cells V pr [.func (.func 102) #[] #[pt pd,pt pl,pt pm,pt pf,pt pr]]
  f:∀ W,Vc.Sub V W→∀ (s:γ) (x y z:Int),inR x→inR y→inR z→sz s+1≤2199023255552→FnC Try.prog fid (.agg #[.int .i64 x,.int .i64 y,.int .i64 z] :: fcaps) W [S s] (fun v _ σ'=>∃ s' t,v=.int .i64 t∧σ' = [S s']∧sz s'≤sz s+1∧Nx Ag s s'∧(∀ L,Iv s L→Iv s' (lfR L t).1)∧∀ F,Ag s' F→F x y z=t)
  ne:∀ s,∃ F,Ag s F
theorem CEnv.mono {V V':HV} {vars:Int} {Ds:List Mg} {γ:Type} {S:γ→Asrt} {Ag:γ→(Int→Int→Int→Int)→Prop} {sz:γ→Nat} {Iv:γ→List Int→Prop} {lv:Value} {lvs nvs:List Value} {fid:Nat} {fcaps:List Value} {pd pl pf pr pm bb bd:Nat} (h:CEnv V vars Ds S Ag sz Iv lv lvs nvs fid fcaps pd pl pf pr pm bb bd) (s:Vc.Sub V V'):CEnv V' vars Ds S Ag sz Iv lv lvs nvs fid fcaps pd pl pf pr pm bb bd :=
  ⟨h.bl.mono s,h.ok,h.sv,h.rg,h.h1,h.cd.mono s,h.cl.mono s,h.cm.mono s,h.cf.mono s,h.cr.mono s,fun W q=>h.f W (s.trans q),h.ne⟩
/-- What the walk does, for keys less than n levels above the leaves. -/
def CmbC (vars:Int) (Ds:List Mg) {γ:Type} (S:γ→Asrt) (Ag:γ→(Int→Int→Int→Int)→Prop) (sz:γ→Nat) (Iv:γ→List Int→Prop) (lv:Value) (lvs nvs:List Value) (fid:Nat) (fcaps:List Value) (pd pl pf pr pm bb bd ba bi:Nat) (n:Nat):Prop :=
  ∀ (V:HV) (k:K3r) (L:List Int) (M:List Fk) (Dn:K3r→Option Int) (u w:Value) (s:γ),CEnv V vars Ds S Ag sz Iv lv lvs nvs fid fcaps pd pl pf pr pm bb bd→Iv s L→KOk Ds k→(vars - mlv vars Ds k).toNat < n→(∀ F,Ag s F→CInv vars Ds F L M Dn)→M.length+2 ^ (vars - mlv vars Ds k).toNat≤2199023255552→L.length+2 ^ (vars - mlv vars Ds k).toNat≤2199023255552→sz s+2 ^ (vars - mlv vars Ds k).toNat≤2199023255552 →
  FnC Try.prog 102 [kv k,pt pd,pt pl,pt pm,pt pf,pt pr] V [Arr 113 bb [u,w,.map (some ba),.map (some bi),.bool (decide (wd L))],Gr 3 1 u L.length (L.map (Value.int .i64)),Gr 80 3 w M.length (fks M),Mf ba (Value.int .i64) (Value.int .i64) (lfF L),Mf bi fkv (Value.int .i64) (idF M),Mf bd kv (Value.int .i64) Dn,S s] (fun v _ σ'=>∃ L' M' Dn' p u' w' s',v=.int .i64 p∧σ' = [Arr 113 bb [u',w',.map (some ba),.map (some bi),.bool (decide (wd L'))],Gr 3 1 u' L'.length (L'.map (Value.int .i64)),Gr 80 3 w' M'.length (fks M'),Mf ba (Value.int .i64) (Value.int .i64) (lfF L'),Mf bi fkv (Value.int .i64) (idF M'),Mf bd kv (Value.int .i64) Dn',S s']∧sz s'≤sz s+2 ^ (vars - mlv vars Ds k).toNat∧Iv s' L'∧Nx Ag s s'∧∀ F,Ag s' F→COk vars Ds F k L L' M M' Dn' p)
set_option maxRecDepth 100000
set_option maxHeartbeats 4000000
theorem comb_step {V:HV} {vars:Int} {Ds:List Mg} {γ:Type} {S:γ→Asrt} {Ag:γ→(Int→Int→Int→Int)→Prop} {sz:γ→Nat} {Iv:γ→List Int→Prop} {lv:Value} {lvs nvs:List Value} {fid:Nat} {fcaps:List Value} {pd pl pf pr pm bb bd:Nat} {ba bi n:Nat} (IH:CmbC vars Ds S Ag sz Iv lv lvs nvs fid fcaps pd pl pf pr pm bb bd ba bi n) {k:K3r} {L:List Int} {M:List Fk} {Dn:K3r→Option Int} {u w:Value} {s:γ} (hE:CEnv V vars Ds S Ag sz Iv lv lvs nvs fid fcaps pd pl pf pr pm bb bd) (hIv:Iv s L) (hK:KOk Ds k) (hn:(vars - mlv vars Ds k).toNat < n+1) (hI:∀ F,Ag s F→CInv vars Ds F L M Dn) (hMb:M.length+2 ^ (vars - mlv vars Ds k).toNat≤2199023255552) (hLb:L.length+2 ^ (vars - mlv vars Ds k).toNat≤2199023255552) (hSb:sz s+2 ^ (vars - mlv vars Ds k).toNat≤2199023255552) :
    FnC Try.prog 102 [(.agg #[(.int .i64 k.1),(.int .i64 k.2.1),(.int .i64 k.2.2)]),(Value.pointer (some ⟨pd,0,none⟩)),(Value.pointer (some ⟨pl,0,none⟩)),(Value.pointer (some ⟨pm,0,none⟩)),(Value.pointer (some ⟨pf,0,none⟩)),(Value.pointer (some ⟨pr,0,none⟩))] V [(Arr 113 bb [u,w,(Value.map (some ba)),(Value.map (some bi)),(.bool (decide (wd L)))]),(Gr 3 1 u L.length ((L.map (Value.int .i64)))),(Gr 80 3 w M.length ((fks M))),(Mf ba (Value.int .i64) (Value.int .i64) (lfF L)),(Mf bi fkv (Value.int .i64) (idF M)),(Mf bd kv (Value.int .i64) Dn),(S s)] (fun v _ σ'=>∃ L' M' Dn' p u' w' s',v=.int .i64 p∧σ' = [Arr 113 bb [u',w',.map (some ba),.map (some bi),.bool (decide (wd L'))],Gr 3 1 u' L'.length (L'.map (Value.int .i64)),Gr 80 3 w' M'.length (fks M'),Mf ba (Value.int .i64) (Value.int .i64) (lfF L'),Mf bi fkv (Value.int .i64) (idF M'),Mf bd kv (Value.int .i64) Dn',S s']∧sz s'≤sz s+2 ^ (vars - mlv vars Ds k).toNat∧Iv s' L'∧Nx Ag s s'∧∀ F,Ag s' F→COk vars Ds F k L L' M M' Dn' p):=by
 refine fn_intro (N:=115) Try.func102 (by kernel_rfl) rfl rfl rfl (Nat.le_of_ble_eq_true rfl) ?_
 intro w0 D
 have hb:=SlS.bound hE.bl.sl
 have hd:=hE.ok
 have hle:=hd.le
 have hv0:=hd.v0
 have hv1:=hd.v1
 have hmb:=mlv_bd hd hK
 have hd1:=hE.h1
 have hsv0:=hE.sv 0 (by omega) (by omega)
 refine vc_seq ?_
 let ζ1:Asrt:=Arr 113 bb [u,w,(Value.map (some ba)),(Value.map (some bi)),(.bool (decide (wd L)))]
 let ζ5:Asrt:=Mf ba (Value.int .i64) (Value.int .i64) (lfF L)
 let ζ7:Asrt:=Gr 3 1 u L.length ((L.map (Value.int .i64)))
 let ζ8:Asrt:=Mf bi fkv (Value.int .i64) (idF M)
 let ζ9:Asrt:=Gr 80 3 w M.length ((fks M))
 let ζ11:Asrt:=Mf bd kv (Value.int .i64) Dn
 refine vc_res (σ':=[ζ1,ζ7,ζ9,ζ5,ζ8,ζ11,(S s)]) rfl ?_
 refine vc_region ?_
 let ζ29:Value:=.agg #[(.int .i64 k.1),(.int .i64 k.2.1),(.int .i64 k.2.2)]
 refine ops_box (v:=ζ29) (cs:=[(.int .i64 k.1),(.int .i64 k.2.1),(.int .i64 k.2.2)]) rfl rfl (fun b1=>?_)
 refine oq (qv_as (Value.int .i64 0) rfl) ?_
 refine ops_nil ?_
 refine vc_seq ?_
 refine vc_seq ?_
 let ζ2:Asrt:=Arr 97 b1 [(.int .i64 k.1),(.int .i64 k.2.1),(.int .i64 k.2.2)]
 refine vc_res (σ':=[ζ1,ζ7,ζ9,ζ5,ζ8,ζ11,(S s),ζ2]) rfl ?_
 refine vc_region ?_
 refine oq (qv_ldp (v:=(Value.map (some bd))) Try.plain137 rfl (inVc hE.cd) rfl) ?_
 refine oq (qv_ldm (vs:=[(.int .i64 k.1),(.int .i64 k.2.1),(.int .i64 k.2.2)]) Try.agg97 rfl (inOc (k:=7) rfl) rfl rfl) ?_
 refine oq (qv_look (a0:=0) (key:=k) (k:=5) Try.underlying137 k3_key Try.ti3 rfl rfl rfl) ?_
 let ζ21:Value:=.bool (decide ((Dn k).isSome=true))
 refine oq (qv_mv (.tuple #[(.int .i64 ((Dn k).getD 0)),ζ21]) rfl) ?_
 refine oq (qv_ext (.int .i64 ((Dn k).getD 0)) rfl rfl) ?_
 refine oq (qv_ext ζ21 rfl rfl) ?_
 refine oq (qv_as (.int .i64 ((Dn k).getD 0)) rfl) ?_
 refine oq (qv_as ζ21 rfl) ?_
 refine ops_nil ?_
 refine vc_seq ?_
 refine vc_region ?_
 refine oq (qv_mv ζ21 rfl) ?_
 refine ops_nil ?_
 refine vc_if rfl (fun c1=>?_) (fun c1=>?_)
 refine vc_seq ?_
 refine vc_region ?_
 refine oq (qv_mv (.int .i64 ((Dn k).getD 0)) rfl) ?_
 refine oq (qv_as (.int .i64 ((Dn k).getD 0)) rfl) ?_
 refine ops_nil ?_
 refine vc_drop [(Arr 113 bb [u,w,(Value.map (some ba)),(Value.map (some bi)),(Value.bool (decide (wd L)))]),ζ7,ζ9,ζ5,ζ8,ζ11,(S s)] [(Arr 97 b1 [(Value.int .i64 (k.1)),(Value.int .i64 (k.2.1)),(Value.int .i64 (k.2.2))])] ((List.perm_middle (l₁:=[(Arr 113 bb [u,w,(Value.map (some ba)),(Value.map (some bi)),(Value.bool (decide (wd L)))]),ζ7,ζ9,ζ5,ζ8,ζ11,(S s)]) (l₂:=[])).trans (List.perm_append_comm (l₁:=[(Arr 97 b1 [(Value.int .i64 (k.1)),(Value.int .i64 (k.2.1)),(Value.int .i64 (k.2.2))])]))) ?_
 refine vc_ret ?_
 refine rq1 (.int .i64 ((Dn k).getD 0)) rfl ?_
 obtain ⟨p,hp⟩:=Option.isSome_iff_exists.1 c1
 subst ζ1 ζ5 ζ7 ζ8 ζ9 ζ11 ζ29 ζ2 ζ21
 exact ⟨L,M,Dn,p,u,w,s,by rw [hp]; rfl,rfl,Nat.le_add_right _ _,hIv,fun _ h=>h,fun F hF=>comb_hit (hI F hF) hK hp⟩
 refine vc_skip ?_
 refine vc_seq ?_
 refine vc_region ?_
 refine oq (qv_ldp (v:=lv) Try.plain102 rfl (inVc hE.cl) rfl) ?_
 refine oq (qv_ias (v:=lv) (i:=0) Try.underlying102 Try.size25 rfl hE.bl.sl rfl (by omega) (by omega)) ?_
 refine oq (qv_fas Try.field25_0 rfl hE.bl.sl (by omega) (by omega)) ?_
 refine oq (qv_ldf (u:=(.int .i64 ((dm Ds (0)).v))) (v:=lv) (i:=0) Try.plain3 rfl hE.bl.sl (by omega) (by omega) (by omega) (mdls_el (o:=0) (by omega) (by omega) (by omega) rfl)) ?_
 refine oq (qv_as (.int .i64 ((dm Ds (0)).v)) rfl) ?_
 refine ops_nil ?_
 refine vc_seq ?_
 refine vc_seq ?_
 refine vc_region ?_
 refine oq (qv_ldp (v:=lv) Try.plain102 rfl (inVc hE.cl) rfl) ?_
 refine oq (qv_lenSS Try.underlying102 rfl hE.bl.sl) ?_
 refine oq (qv_mv (Value.int .i64 0) rfl) ?_
 refine ops_nil ?_
 refine vc_block ?_
 let ζ33:Value:=Value.pointer (some ⟨pd,0,none⟩)
 let ζ34:Value:=Value.pointer (some ⟨pl,0,none⟩)
 let ζ35:Value:=Value.pointer (some ⟨pm,0,none⟩)
 let ζ36:Value:=Value.pointer (some ⟨pf,0,none⟩)
 let ζ37:Value:=Value.pointer (some ⟨pr,0,none⟩)
 let ζ41:Value:=Value.pointer (some ⟨b1,0,none⟩)
 refine vc_loop (α:=Int) (fun (xx:Int)=>[(0,ζ29),(1,ζ33),(2,ζ34),(3,ζ35),(4,ζ36),(5,ζ37),(6,ζ41),(7,(Value.int .i64 0)),(8,(.int .i64 ((Dn k).getD 0))),(9,ζ21),(28,ζ21),(34,lv),(35,(.int .i64 ((Ds.length:Int)))),(10,(.int .i64 (tpN vars Ds k xx.toNat))),(36,(Value.int .i64 xx))]) (fun (xx:Int) V' σ'=>V=V'∧[ζ1,ζ7,ζ9,ζ5,ζ8,ζ11,(S s),ζ2]=σ'∧0≤xx∧xx≤Ds.length) (fun (xx:Int)=>(Ds.length - xx).toNat) (0) ?_ ?_ ?_
 exact ⟨rfl,rfl,rfl,rfl,rfl,rfl,rfl,rfl,rfl,rfl,rfl,rfl,rfl,(congrArg (Value.int .i64) (show ((dm Ds (0)).v)=(tpN vars Ds k (0:Int).toNat) from by exact hsv0)),rfl,trivial⟩
 exact ⟨rfl,rfl,by omega,by omega⟩
 rintro i e1 V0l σ0l hI0
 obtain ⟨rfl,rfl,i1,i2⟩:V=V0l∧[ζ1,ζ7,ζ9,ζ5,ζ8,ζ11,(S s),ζ2]=σ0l∧0≤i∧i≤Ds.length:=hI0
 refine vc_seq ?_
 refine vc_region ?_
 refine oq (qv_lss rfl rfl) ?_
 refine ops_nil ?_
 refine vc_seq ?_
 refine vc_if rfl (fun c2=>?_) (fun c2=>?_)
 refine vc_skip ?_
 refine vc_seq ?_
 refine vc_block ?_
 refine vc_seq ?_
 have hki:=hK i (by omega) (by omega)
 have hvi:=hE.sv i (by omega) (by omega)
 have hkr:=hki.1.1
 have hkr2:=hki.1.2
 have hlv:tp (dm Ds (i)) (gi [k.1,k.2.1,k.2.2] (i))=lev vars (mG (dm Ds i)) (kg k i):=tp_lev hvi
 refine vc_region ?_
 refine oq (qv_mv (Value.int .i64 i) rfl) ?_
 refine oq (qv_ias (v:=lv) (i:=i) Try.underlying102 Try.size25 rfl hE.bl.sl rfl (by omega) (by omega)) ?_
 refine oq (qv_lds (v:=lv) (i:=i) (vs:=[(.int .i64 ((dm Ds (i)).v)),(gv lvs (i)),(gv nvs (i)),(.int .i64 ((dm Ds (i)).r))]) Try.agg25 rfl hE.bl.sl (by omega) (by omega) (mdls_at (by omega) (by omega))) ?_
 refine ops_alloc Try.ti25 rfl (fun b2=>?_)
 refine oq (qv_as (Value.int .i64 i) rfl) ?_
 refine ops_stw (k:=8) (vs:=[(.int .i64 ((dm Ds (i)).v)),(gv lvs (i)),(gv nvs (i)),(.int .i64 ((dm Ds (i)).r))]) Try.size25 rfl rfl rfl (allc rfl (allc (Sl.one (hE.bl.at_ (i) (by omega) (by omega)).l) (allc (SlS.one (hE.bl.at_ (i) (by omega) (by omega)).n) (allc rfl rfl)))) rfl rfl ?_
 refine ops_nil ?_
 refine vc_res (σ':=[ζ1,ζ7,ζ9,ζ5,ζ8,ζ11,(S s),ζ2,(Arr 25 b2 [(.int .i64 ((dm Ds (i)).v)),(gv lvs (i)),(gv nvs (i)),(.int .i64 ((dm Ds (i)).r))])]) rfl ?_
 refine vc_region_any Try.mixed (by kernel_rfl) ?_
 refine qq (qv_mv (.int .i64 (tpN vars Ds k i.toNat)) rfl) ?_
 refine qq (qv_ldm (vs:=[(.int .i64 ((dm Ds (i)).v)),(gv lvs (i)),(gv nvs (i)),(.int .i64 ((dm Ds (i)).r))]) Try.agg25 rfl (inOc (k:=8) rfl) rfl rfl) ?_
 refine qq (qv_mv (Value.int .i64 i) rfl) ?_
 refine qq (qv_iav (i:=i) (off:=0) Try.underlying97 Try.size3 rfl rfl (by omega) (by omega)) ?_
 subst ζ1 ζ5 ζ7 ζ8 ζ9 ζ11 ζ29 ζ2 ζ21 ζ33 ζ34 ζ35 ζ36 ζ37 ζ41
 refine qq (qv_ldp (v:=(.int .i64 (gi [k.1,k.2.1,k.2.2] (i)))) Try.plain3 rfl (inOc (k:=7) rfl) (arr_at (ys:=[k.1,k.2.1,k.2.2]) (by omega) (by simp; omega))) ?_
 refine qq (qv_call (v:=(.int .i64 (tp (dm Ds (i)) (gi [k.1,k.2.1,k.2.2] (i))))) (top_c (hE.bl.at_ (i) (by omega) (by omega)) (r:=gi [k.1,k.2.1,k.2.2] (i)) (by omega) (by omega)) rfl rfl) ?_
 refine qq (qv_min rfl rfl) ?_
 refine qq (qv_as (.int .i64 (if (tp (dm Ds (i)) (gi [k.1,k.2.1,k.2.2] (i))) < (tpN vars Ds k i.toNat) then tp (dm Ds (i)) (gi [k.1,k.2.1,k.2.2] (i)) else tpN vars Ds k i.toNat)) rfl) ?_
 refine qops_nil ?_
 refine vc_drop [(Arr 113 bb [u,w,(Value.map (some ba)),(Value.map (some bi)),(Value.bool (decide (wd L)))]),(Gr 3 1 u L.length ((L.map (Value.int .i64)))),(Gr 80 3 w M.length ((fks M))),(Mf ba (Value.int .i64) (Value.int .i64) (lfF L)),(Mf bi fkv (Value.int .i64) (idF M)),(Mf bd kv (Value.int .i64) Dn),(S s),(Arr 97 b1 [(Value.int .i64 (k.1)),(Value.int .i64 (k.2.1)),(Value.int .i64 (k.2.2))])] [(Arr 25 b2 [(Value.int .i64 ((dm Ds (i)).v)),(gv lvs (i)),(gv nvs (i)),(Value.int .i64 ((dm Ds (i)).r))])] ((List.perm_middle (l₁:=[(Arr 113 bb [u,w,(Value.map (some ba)),(Value.map (some bi)),(Value.bool (decide (wd L)))]),(Gr 3 1 u L.length ((L.map (Value.int .i64)))),(Gr 80 3 w M.length ((fks M))),(Mf ba (Value.int .i64) (Value.int .i64) (lfF L)),(Mf bi fkv (Value.int .i64) (idF M)),(Mf bd kv (Value.int .i64) Dn),(S s),(Arr 97 b1 [(Value.int .i64 (k.1)),(Value.int .i64 (k.2.1)),(Value.int .i64 (k.2.2))])]) (l₂:=[])).trans (List.perm_append_comm (l₁:=[(Arr 25 b2 [(Value.int .i64 ((dm Ds (i)).v)),(gv lvs (i)),(gv nvs (i)),(Value.int .i64 ((dm Ds (i)).r))])]))) ?_
 refine vc_region ?_
 refine oq (qv_add rfl rfl (by omega)) ?_
 refine oq (qv_mv (.int .i64 (i+1)) rfl) ?_
 refine ops_nil ?_
 refine ⟨(i+1),⟨rfl,rfl,rfl,rfl,rfl,rfl,rfl,rfl,rfl,rfl,rfl,rfl,rfl,(congrArg (Value.int .i64) (show (if (tp (dm Ds (i)) (gi [k.1,k.2.1,k.2.2] (i))) < (tpN vars Ds k i.toNat) then tp (dm Ds (i)) (gi [k.1,k.2.1,k.2.2] (i)) else tpN vars Ds k i.toNat)=(tpN vars Ds k (i+1:Int).toNat) from by rw [hlv]; exact (tpN_step (by omega)).symm)),(congrArg (Value.int .i64) (show (i+1)=((i+1)) from by rfl)),trivial⟩,⟨rfl,rfl,by omega,by omega⟩,by omega⟩
 refine vc_exit ?_
 refine blockQ_hit ?_
 refine vc_seq ?_
 have htp:tpN vars Ds k i.toNat=mlv vars Ds k:=tpN_all hK (by omega) (by omega)
 refine vc_region ?_
 refine oq (qv_as (Value.int .i64 0) rfl) ?_
 refine ops_nil ?_
 refine vc_seq ?_
 refine vc_seq ?_
 refine vc_region ?_
 refine oq (qv_mv (.int .i64 (tpN vars Ds k i.toNat)) rfl) ?_
 refine oq (qv_ldp (v:=lv) Try.plain102 rfl (inVc hE.cl) rfl) ?_
 refine oq (qv_ias (v:=lv) (i:=0) Try.underlying102 Try.size25 rfl hE.bl.sl rfl (by omega) (by omega)) ?_
 refine oq (qv_fas Try.field25_0 rfl hE.bl.sl (by omega) (by omega)) ?_
 refine oq (qv_ldf (u:=(.int .i64 ((dm Ds (0)).v))) (v:=lv) (i:=0) Try.plain3 rfl hE.bl.sl (by omega) (by omega) (by omega) (mdls_el (o:=0) (by omega) (by omega) (by omega) rfl)) ?_
 refine oq (qv_eql rfl rfl) ?_
 refine ops_nil ?_
 refine vc_if rfl (fun c3=>?_) (fun c3=>?_)
 refine vc_seq ?_
 have ht:mlv vars Ds k=vars:=by omega
 have hp1:=one_le_two_pow' (vars - mlv vars Ds k).toNat
 refine vc_region ?_
 refine ops_alloc Try.ti97 rfl (fun b3=>?_)
 refine ops_nil ?_
 refine vc_seq ?_
 refine vc_seq ?_
 refine vc_res (σ':=[ζ1,ζ7,ζ9,ζ5,ζ8,ζ11,(S s),ζ2,(Arr 97 b3 [(Value.int .i64 0),(Value.int .i64 0),(Value.int .i64 0)])]) rfl ?_
 refine vc_region ?_
 refine oq (qv_ldp (v:=lv) Try.plain102 rfl (inVc hE.cl) rfl) ?_
 refine oq (qv_lenSS Try.underlying102 rfl hE.bl.sl) ?_
 refine oq (qv_mv (Value.int .i64 0) rfl) ?_
 refine ops_nil ?_
 refine vc_block ?_
 refine vc_loop (α:=Int) (fun (xx:Int)=>[(0,ζ29),(1,ζ33),(2,ζ34),(3,ζ35),(4,ζ36),(5,ζ37),(6,ζ41),(7,(Value.int .i64 0)),(8,(.int .i64 ((Dn k).getD 0))),(9,ζ21),(10,(.int .i64 (tpN vars Ds k i.toNat))),(13,(Value.int .i64 0)),(14,(Value.pointer (some ⟨b3,0,none⟩))),(28,ζ21),(34,lv),(35,(.int .i64 ((Ds.length:Int)))),(36,(Value.int .i64 i)),(37,(.bool (decide (i < ((Ds.length:Int)))))),(54,(.bool (decide ((tpN vars Ds k i.toNat)=((dm Ds (0)).v))))),(55,lv),(56,(.int .i64 ((Ds.length:Int)))),(57,(Value.int .i64 xx))]) (fun (xx:Int) V' σ'=>V=V'∧[ζ1,ζ7,ζ9,ζ5,ζ8,ζ11,(S s),ζ2,(Arr 97 b3 [(.int .i64 (vw Ds k xx.toNat 0)),(.int .i64 (vw Ds k xx.toNat 1)),(.int .i64 (vw Ds k xx.toNat 2))])]=σ'∧0≤xx∧xx≤Ds.length) (fun (xx:Int)=>(Ds.length - xx).toNat) (0) ?_ ?_ ?_
 exact ⟨rfl,rfl,rfl,rfl,rfl,rfl,rfl,rfl,rfl,rfl,rfl,rfl,rfl,rfl,rfl,rfl,rfl,rfl,rfl,rfl,rfl,rfl,trivial⟩
 subst ζ1 ζ5 ζ7 ζ8 ζ9 ζ11 ζ29 ζ2 ζ21 ζ33 ζ34 ζ35 ζ36 ζ37 ζ41; exact ⟨rfl,(show [(Arr 113 bb [u,w,(Value.map (some ba)),(Value.map (some bi)),(.bool (decide (wd L)))]),(Gr 3 1 u L.length ((L.map (Value.int .i64)))),(Gr 80 3 w M.length ((fks M))),(Mf ba (Value.int .i64) (Value.int .i64) (lfF L)),(Mf bi fkv (Value.int .i64) (idF M)),(Mf bd kv (Value.int .i64) Dn),(S s),(Arr 97 b1 [(.int .i64 k.1),(.int .i64 k.2.1),(.int .i64 k.2.2)]),(Arr 97 b3 [(.int .i64 (vw Ds k (0:Int).toNat 0)),(.int .i64 (vw Ds k (0:Int).toNat 1)),(.int .i64 (vw Ds k (0:Int).toNat 2))])]=[(Arr 113 bb [u,w,(Value.map (some ba)),(Value.map (some bi)),(.bool (decide (wd L)))]),(Gr 3 1 u L.length ((L.map (Value.int .i64)))),(Gr 80 3 w M.length ((fks M))),(Mf ba (Value.int .i64) (Value.int .i64) (lfF L)),(Mf bi fkv (Value.int .i64) (idF M)),(Mf bd kv (Value.int .i64) Dn),(S s),(Arr 97 b1 [(.int .i64 k.1),(.int .i64 k.2.1),(.int .i64 k.2.2)]),(Arr 97 b3 [(Value.int .i64 0),(Value.int .i64 0),(Value.int .i64 0)])] from by simp only [show Int.toNat 0=0 from rfl,vw_0]),by omega,by omega⟩
 rintro j e2 V1l σ1l hI1
 let ζ6:Asrt:=Arr 97 b3 [(.int .i64 (vw Ds k j.toNat 0)),(.int .i64 (vw Ds k j.toNat 1)),(.int .i64 (vw Ds k j.toNat 2))]
 obtain ⟨rfl,rfl,i3,i4⟩:V=V1l∧[ζ1,ζ7,ζ9,ζ5,ζ8,ζ11,(S s),ζ2,ζ6]=σ1l∧0≤j∧j≤Ds.length:=hI1
 refine vc_seq ?_
 refine vc_res (σ':=[ζ1,ζ7,ζ9,ζ5,ζ8,ζ11,(S s),ζ2,ζ6]) rfl ?_
 refine vc_region ?_
 refine oq (qv_lss rfl rfl) ?_
 refine ops_nil ?_
 refine vc_seq ?_
 refine vc_if rfl (fun c4=>?_) (fun c4=>?_)
 refine vc_skip ?_
 refine vc_seq ?_
 refine vc_block ?_
 refine vc_seq ?_
 have hkj:=leaf_idx hd hK ht (i:=j) (by omega) (by omega)
 have hkj1:=hkj.1
 have hkj2:=hkj.2
 refine vc_region ?_
 refine oq (qv_mv (Value.int .i64 j) rfl) ?_
 refine oq (qv_ias (v:=lv) (i:=j) Try.underlying102 Try.size25 rfl hE.bl.sl rfl (by omega) (by omega)) ?_
 refine oq (qv_lds (v:=lv) (i:=j) (vs:=[(.int .i64 ((dm Ds (j)).v)),(gv lvs (j)),(gv nvs (j)),(.int .i64 ((dm Ds (j)).r))]) Try.agg25 rfl hE.bl.sl (by omega) (by omega) (mdls_at (by omega) (by omega))) ?_
 refine ops_alloc Try.ti25 rfl (fun b4=>?_)
 refine oq (qv_as (Value.int .i64 j) rfl) ?_
 refine ops_stw (k:=9) (vs:=[(.int .i64 ((dm Ds (j)).v)),(gv lvs (j)),(gv nvs (j)),(.int .i64 ((dm Ds (j)).r))]) Try.size25 rfl rfl rfl (allc rfl (allc (Sl.one (hE.bl.at_ (j) (by omega) (by omega)).l) (allc (SlS.one (hE.bl.at_ (j) (by omega) (by omega)).n) (allc rfl rfl)))) rfl rfl ?_
 refine ops_nil ?_
 let ζ31:Asrt:=Arr 25 b4 [(.int .i64 ((dm Ds (j)).v)),(gv lvs (j)),(gv nvs (j)),(.int .i64 ((dm Ds (j)).r))]
 refine vc_res (σ':=[ζ1,ζ7,ζ9,ζ5,ζ8,ζ11,(S s),ζ2,ζ6,ζ31]) rfl ?_
 refine vc_region_order (τ:=[]) [(0,false),(1,false),(2,false),(3,false),(4,false),(5,false),(6,false),(7,false),(8,false),(9,true)] [ζ1,ζ7,ζ9,ζ5,ζ8,ζ11,(S s),ζ2,ζ6,ζ31] Try.mixed (perm_nil _) (by kernel_rfl) ?_
 refine rq rfl (qv_mv (Value.int .i64 j) rfl) ?_
 refine rq rfl (qv_fa (off:=0) Try.field25_1 rfl) ?_
 refine rq rfl (qv_ldp (v:=(gv lvs (j))) Try.plain22 rfl (inOc (k:=9) rfl) rfl) ?_
 refine rq rfl (qv_mv (Value.int .i64 j) rfl) ?_
 refine rq rfl (qv_iav (i:=j) (off:=0) Try.underlying97 Try.size3 rfl rfl (by omega) (by omega)) ?_
 subst ζ1 ζ5 ζ7 ζ8 ζ9 ζ11 ζ29 ζ2 ζ21 ζ33 ζ34 ζ35 ζ36 ζ37 ζ41 ζ6 ζ31
 refine rq rfl (qv_ldp (v:=(.int .i64 (gi [k.1,k.2.1,k.2.2] (j)))) Try.plain3 rfl (inOc (k:=7) rfl) (arr_at (ys:=[k.1,k.2.1,k.2.2]) (by omega) (by simp; omega))) ?_
 refine rq rfl (qv_iai (v:=(gv lvs (j))) (i:=gi [k.1,k.2.1,k.2.2] (j)) Try.underlying22 Try.size3 rfl (inVi (hE.bl.at_ (j) (by omega) (by omega)).l) rfl (by omega) (by omega)) ?_
 refine rq rfl (qv_ldi (v:=(gv lvs (j))) (i:=gi [k.1,k.2.1,k.2.2] (j)) Try.plain3 rfl (inVi (hE.bl.at_ (j) (by omega) (by omega)).l) (by omega) (by omega)) ?_
 refine rq rfl (qv_iav (i:=j) (off:=0) Try.underlying97 Try.size3 rfl rfl (by omega) (by omega)) ?_
 refine rl1 (by kernel_rfl) rfl ?_
 refine ops_stp (k:=8) (off:=0+(j).toNat) (cs:=[(.int .i64 (vw Ds k j.toNat 0)),(.int .i64 (vw Ds k j.toNat 1)),(.int .i64 (vw Ds k j.toNat 2))]) Try.size3 rfl (rfl:ev _ _=(.int .i64 (gi ((dm Ds (j)).L) (gi [k.1,k.2.1,k.2.2] (j))))) rfl rfl (by simp; omega) ?_
 let ζ1:Asrt:=Arr 113 bb [u,w,(Value.map (some ba)),(Value.map (some bi)),(.bool (decide (wd L)))]
 let ζ2:Asrt:=Arr 97 b1 [(.int .i64 k.1),(.int .i64 k.2.1),(.int .i64 k.2.2)]
 let ζ5:Asrt:=Mf ba (Value.int .i64) (Value.int .i64) (lfF L)
 let ζ7:Asrt:=Gr 3 1 u L.length ((L.map (Value.int .i64)))
 let ζ8:Asrt:=Mf bi fkv (Value.int .i64) (idF M)
 let ζ9:Asrt:=Gr 80 3 w M.length ((fks M))
 let ζ11:Asrt:=Mf bd kv (Value.int .i64) Dn
 let ζ28:Asrt:=Arr 97 b3 (([(.int .i64 (vw Ds k j.toNat 0)),(.int .i64 (vw Ds k j.toNat 1)),(.int .i64 (vw Ds k j.toNat 2))]).set (0+(j).toNat) (.int .i64 (gi ((dm Ds (j)).L) (gi [k.1,k.2.1,k.2.2] (j)))))
 let ζ31:Asrt:=Arr 25 b4 [(.int .i64 ((dm Ds (j)).v)),(gv lvs (j)),(gv nvs (j)),(.int .i64 ((dm Ds (j)).r))]
 refine ops_nil ⟨[ζ1,ζ7,ζ9,ζ5,ζ8,ζ11,(S s),ζ2,ζ28,ζ31],[],perm_nil _,?_⟩
 refine rnil ?_
 refine vc_res (σ':=[ζ1,ζ7,ζ9,ζ5,ζ8,ζ11,(S s),ζ2,ζ28,ζ31]) rfl ?_
 refine vc_drop [(Arr 113 bb [u,w,(Value.map (some ba)),(Value.map (some bi)),(Value.bool (decide (wd L)))]),ζ7,ζ9,ζ5,ζ8,ζ11,(S s),(Arr 97 b1 [(Value.int .i64 (k.1)),(Value.int .i64 (k.2.1)),(Value.int .i64 (k.2.2))]),(Arr 97 b3 (([(Value.int .i64 (vw Ds k j.toNat 0)),(Value.int .i64 (vw Ds k j.toNat 1)),(Value.int .i64 (vw Ds k j.toNat 2))]).set (0+(j).toNat) (Value.int .i64 (gi ((dm Ds (j)).L) (gi [k.1,k.2.1,k.2.2] (j))))))] [(Arr 25 b4 [(Value.int .i64 ((dm Ds (j)).v)),(gv lvs (j)),(gv nvs (j)),(Value.int .i64 ((dm Ds (j)).r))])] ((List.perm_middle (l₁:=[(Arr 113 bb [u,w,(Value.map (some ba)),(Value.map (some bi)),(Value.bool (decide (wd L)))]),ζ7,ζ9,ζ5,ζ8,ζ11,(S s),(Arr 97 b1 [(Value.int .i64 (k.1)),(Value.int .i64 (k.2.1)),(Value.int .i64 (k.2.2))]),(Arr 97 b3 (([(Value.int .i64 (vw Ds k j.toNat 0)),(Value.int .i64 (vw Ds k j.toNat 1)),(Value.int .i64 (vw Ds k j.toNat 2))]).set (0+(j).toNat) (Value.int .i64 (gi ((dm Ds (j)).L) (gi [k.1,k.2.1,k.2.2] (j))))))]) (l₂:=[])).trans (List.perm_append_comm (l₁:=[(Arr 25 b4 [(Value.int .i64 ((dm Ds (j)).v)),(gv lvs (j)),(gv nvs (j)),(Value.int .i64 ((dm Ds (j)).r))])]))) ?_
 refine vc_region ?_
 refine oq (qv_add rfl rfl (by omega)) ?_
 refine oq (qv_mv (.int .i64 (j+1)) rfl) ?_
 refine ops_nil ?_
 subst ζ1 ζ2 ζ5 ζ7 ζ8 ζ9 ζ11 ζ28 ζ31
 refine ⟨(j+1),⟨rfl,rfl,rfl,rfl,rfl,rfl,rfl,rfl,rfl,rfl,rfl,rfl,rfl,rfl,rfl,rfl,rfl,rfl,rfl,rfl,rfl,(congrArg (Value.int .i64) (show (j+1)=((j+1)) from by omega)),trivial⟩,⟨rfl,(show [(Arr 113 bb [u,w,(Value.map (some ba)),(Value.map (some bi)),(.bool (decide (wd L)))]),(Gr 3 1 u L.length ((L.map (Value.int .i64)))),(Gr 80 3 w M.length ((fks M))),(Mf ba (Value.int .i64) (Value.int .i64) (lfF L)),(Mf bi fkv (Value.int .i64) (idF M)),(Mf bd kv (Value.int .i64) Dn),(S s),(Arr 97 b1 [(.int .i64 k.1),(.int .i64 k.2.1),(.int .i64 k.2.2)]),(Arr 97 b3 [(.int .i64 (vw Ds k (j+1:Int).toNat 0)),(.int .i64 (vw Ds k (j+1:Int).toNat 1)),(.int .i64 (vw Ds k (j+1:Int).toNat 2))])]=[(Arr 113 bb [u,w,(Value.map (some ba)),(Value.map (some bi)),(.bool (decide (wd L)))]),(Gr 3 1 u L.length ((L.map (Value.int .i64)))),(Gr 80 3 w M.length ((fks M))),(Mf ba (Value.int .i64) (Value.int .i64) (lfF L)),(Mf bi fkv (Value.int .i64) (idF M)),(Mf bd kv (Value.int .i64) Dn),(S s),(Arr 97 b1 [(.int .i64 k.1),(.int .i64 k.2.1),(.int .i64 k.2.2)]),(Arr 97 b3 (([(.int .i64 (vw Ds k j.toNat 0)),(.int .i64 (vw Ds k j.toNat 1)),(.int .i64 (vw Ds k j.toNat 2))]).set (0+(j).toNat) (.int .i64 (gi ((dm Ds (j)).L) (gi [k.1,k.2.1,k.2.2] (j))))))] from by rw [show ([(.int .i64 (vw Ds k (j+1).toNat 0)),(.int .i64 (vw Ds k (j+1).toNat 1)),(.int .i64 (vw Ds k (j+1).toNat 2))]:List Value)=([(.int .i64 (vw Ds k j.toNat 0)),(.int .i64 (vw Ds k j.toNat 1)),(.int .i64 (vw Ds k j.toNat 2))]:List Value).set (0+j.toNat) (.int .i64 (gi (dm Ds (j)).L (gi [k.1,k.2.1,k.2.2] (j)))) from (vwL_step (by omega) (by omega)).symm]),by omega,by omega⟩,by omega⟩
 refine vc_exit ?_
 refine blockQ_hit ?_
 refine vc_region_order (τ:=[ζ1,ζ7,ζ9,ζ5,ζ8,(S s)]) [(0,false),(1,false),(2,false),(3,true),(4,true),(5,false)] [ζ11,ζ2,ζ6] Try.mixed (perm_idx _ _ [5,7,8,0,1,2,3,4,6] rfl rfl) (by kernel_rfl) ?_
 refine rq rfl (qv_ldp (v:=(Value.pointer (some ⟨bb,0,none⟩))) Try.plain91 rfl (inVc hE.cm) rfl) ?_
 refine rq rfl (qv_ldp (v:=(Value.func (.func fid) #[] fcaps.toArray)) Try.plain98 rfl (inVc hE.cf) rfl) ?_
 refine rq rfl (qv_ldm (vs:=[(.int .i64 (vw Ds k j.toNat 0)),(.int .i64 (vw Ds k j.toNat 1)),(.int .i64 (vw Ds k j.toNat 2))]) Try.agg97 rfl (inOc (k:=2) rfl) rfl rfl) ?_
 refine rl rfl ?_
 refine ops_call (σa:=[(S s)]) (σr:=[ζ1,ζ7,ζ9,ζ5,ζ8,ζ11,ζ2,ζ6]) (hE.f _ (Vc.Sub.refl _) _ _ _ _ (vw_inR hd hK ht hE.rg (by omega) (by omega)) (vw_inR hd hK ht hE.rg (by omega) (by omega)) (vw_inR hd hK ht hE.rg (by omega) (by omega)) (by omega)) rfl rfl (perm_idx _ _ [6,0,1,2,3,4,5,7,8] rfl rfl) (fun r1 V1 sg1 hV1 hp1=>?_)
 obtain ⟨s1,t1,rfl,rfl,hz1,hx1,hv1,hf1⟩:=hp1
 have hE:=hE.mono hV1
 refine ops_perm (σ':=[ζ1,ζ7,ζ9,ζ5,ζ8,ζ11,(S s1),ζ2,ζ6]) (perm_idx _ _ [1,2,3,4,5,6,0,7,8] rfl rfl) ?_
 refine ops_nil ⟨[ζ11,ζ2,ζ6],[ζ1,ζ7,ζ9,ζ5,ζ8,(S s1)],hV1,(perm_idx _ _ [5,7,8,0,1,2,3,4,6] rfl rfl),⟨[],.refl _⟩,?_⟩
 refine rl rfl ?_
 refine ops_call (σa:=[ζ1,ζ7,ζ9,ζ5,ζ8]) (σr:=[ζ11,(S s1),ζ2,ζ6]) (leaf_c (L:=L) (M:=M) (z:=t1) (u:=u) (w:=w) (by omega)) rfl rfl (.refl _) (fun r2 V2 sg2 hV2 hp2=>?_)
 obtain ⟨rfl,u3,rfl⟩:=hp2
 have hE:=hE.mono hV2
 let ζ19:Asrt:=Gr 3 1 u3 ((lfR L t1).1.length) (((lfR L t1).1.map (Value.int .i64)))
 let ζ20:Asrt:=Mf ba (Value.int .i64) (Value.int .i64) (lfF (lfR L t1).1)
 let ζ27:Asrt:=Arr 113 bb [u3,w,(Value.map (some ba)),(Value.map (some bi)),(.bool (decide (wd (lfR L t1).1)))]
 refine ops_nil ⟨[ζ11,ζ2,ζ6],[ζ27,ζ19,ζ9,ζ20,ζ8,(S s1)],hV2,(perm_idx _ _ [5,7,8,0,1,2,3,4,6] rfl rfl),⟨[],.refl _⟩,?_⟩
 refine rq rfl (qv_as (.int .i64 ((lfR L t1).2)) rfl) ?_
 refine rnil ?_
 refine vc_seq ?_
 refine vc_res (σ':=[ζ27,ζ19,ζ9,ζ20,ζ8,ζ11,(S s1),ζ2,ζ6]) rfl ?_
 refine vc_region ?_
 refine oq (qv_ldp (v:=(Value.map (some bd))) Try.plain137 rfl (inVc hE.cd) rfl) ?_
 refine oq (qv_ldm (vs:=[(.int .i64 k.1),(.int .i64 k.2.1),(.int .i64 k.2.2)]) Try.agg97 rfl (inOc (k:=7) rfl) rfl rfl) ?_
 refine oq (qv_mv (.int .i64 ((lfR L t1).2)) rfl) ?_
 refine ops_mapset (k:=5) (key:=k) (v:=(lfR L t1).2) Try.underlying137 k3_key rfl rfl rfl rfl ?_
 refine ops_nil ?_
 refine vc_seq ?_
 let ζ25:Asrt:=Mf bd kv (Value.int .i64) (setF Dn k ((lfR L t1).2))
 refine vc_res (σ':=[ζ27,ζ19,ζ9,ζ20,ζ8,ζ25,(S s1),ζ2,ζ6]) rfl ?_
 refine vc_region ?_
 refine oq (qv_mv (.int .i64 ((lfR L t1).2)) rfl) ?_
 refine oq (qv_as (.int .i64 ((lfR L t1).2)) rfl) ?_
 refine ops_nil ?_
 let ζ12:Asrt:=Arr 97 b1 [(Value.int .i64 (k.1)),(Value.int .i64 (k.2.1)),(Value.int .i64 (k.2.2))]
 let ζ23:Asrt:=Arr 113 bb [u3,w,(Value.map (some ba)),(Value.map (some bi)),(Value.bool (decide (wd (lfR L t1).1)))]
 refine vc_drop [ζ23,ζ19,ζ9,ζ20,ζ8,ζ25,(S s1),ζ12] [(Arr 97 b3 [(Value.int .i64 (vw Ds k j.toNat 0)),(Value.int .i64 (vw Ds k j.toNat 1)),(Value.int .i64 (vw Ds k j.toNat 2))])] ((List.perm_middle (l₁:=[ζ23,ζ19,ζ9,ζ20,ζ8,ζ25,(S s1),ζ12]) (l₂:=[])).trans (List.perm_append_comm (l₁:=[(Arr 97 b3 [(Value.int .i64 (vw Ds k j.toNat 0)),(Value.int .i64 (vw Ds k j.toNat 1)),(Value.int .i64 (vw Ds k j.toNat 2))])]))) ?_
 refine vc_drop [ζ23,ζ19,ζ9,ζ20,ζ8,ζ25,(S s1)] [ζ12] ((List.perm_middle (l₁:=[ζ23,ζ19,ζ9,ζ20,ζ8,ζ25,(S s1)]) (l₂:=[])).trans (List.perm_append_comm (l₁:=[ζ12]))) ?_
 refine vc_ret ?_
 refine rq1 (.int .i64 ((lfR L t1).2)) rfl ?_
 subst ζ1 ζ5 ζ7 ζ8 ζ9 ζ11 ζ29 ζ2 ζ21 ζ33 ζ34 ζ35 ζ36 ζ37 ζ41 ζ6 ζ19 ζ20 ζ27 ζ25 ζ12 ζ23
 exact ⟨(lfR L t1).1,M,setF Dn k (lfR L t1).2,(lfR L t1).2,u3,w,s1,rfl,rfl,by omega,hv1 L hIv,hx1,fun F hF=>comb_leaf (hI F (hx1 F hF)) hd hK ht (n:=j.toNat) (by omega) (by rw [hf1 F hF])⟩
 refine vc_seq ?_
 have ht:mlv vars Ds k < vars:=by omega
 have l1:=lk_ok hE.sv hd hK ht False
 have l2:=lk_ok hE.sv hd hK ht True
 have x1:=lk_pow hE.sv hd hK ht False
 have x2:=lk_pow hE.sv hd hK ht True
 have mb1:=mlv_bd hd l1.1
 have mb2:=mlv_bd hd l2.1
 have pw1:=one_le_two_pow' (vars - mlv vars Ds (lk_ vars Ds k False)).toNat
 have pw2:=one_le_two_pow' (vars - mlv vars Ds (lk_ vars Ds k True)).toNat
 refine vc_region ?_
 refine ops_alloc Try.ti97 rfl (fun b5=>?_)
 refine ops_alloc Try.ti97 rfl (fun b6=>?_)
 refine ops_nil ?_
 refine vc_seq ?_
 refine vc_seq ?_
 refine vc_res (σ':=[ζ1,ζ7,ζ9,ζ5,ζ8,ζ11,(S s),ζ2,(Arr 97 b5 [(Value.int .i64 0),(Value.int .i64 0),(Value.int .i64 0)]),(Arr 97 b6 [(Value.int .i64 0),(Value.int .i64 0),(Value.int .i64 0)])]) rfl ?_
 refine vc_region ?_
 refine oq (qv_ldp (v:=lv) Try.plain102 rfl (inVc hE.cl) rfl) ?_
 refine oq (qv_lenSS Try.underlying102 rfl hE.bl.sl) ?_
 refine oq (qv_mv (Value.int .i64 0) rfl) ?_
 refine ops_nil ?_
 refine vc_block ?_
 refine vc_loop (α:=Int) (fun (xx:Int)=>[(0,ζ29),(1,ζ33),(2,ζ34),(3,ζ35),(4,ζ36),(5,ζ37),(6,ζ41),(7,(Value.int .i64 0)),(8,(.int .i64 ((Dn k).getD 0))),(9,ζ21),(10,(.int .i64 (tpN vars Ds k i.toNat))),(13,(Value.int .i64 0)),(17,(Value.pointer (some ⟨b5,0,none⟩))),(18,(Value.pointer (some ⟨b6,0,none⟩))),(28,ζ21),(34,lv),(35,(.int .i64 ((Ds.length:Int)))),(36,(Value.int .i64 i)),(37,(.bool (decide (i < ((Ds.length:Int)))))),(54,(.bool (decide ((tpN vars Ds k i.toNat)=((dm Ds (0)).v))))),(77,lv),(78,(.int .i64 ((Ds.length:Int)))),(79,(Value.int .i64 xx))]) (fun (xx:Int) V' σ'=>V=V'∧[ζ1,ζ7,ζ9,ζ5,ζ8,ζ11,(S s),ζ2,(Arr 97 b5 [(.int .i64 (lw Ds k (tpN vars Ds k i.toNat) False xx.toNat 0)),(.int .i64 (lw Ds k (tpN vars Ds k i.toNat) False xx.toNat 1)),(.int .i64 (lw Ds k (tpN vars Ds k i.toNat) False xx.toNat 2))]),(Arr 97 b6 [(.int .i64 (lw Ds k (tpN vars Ds k i.toNat) True xx.toNat 0)),(.int .i64 (lw Ds k (tpN vars Ds k i.toNat) True xx.toNat 1)),(.int .i64 (lw Ds k (tpN vars Ds k i.toNat) True xx.toNat 2))])]=σ'∧0≤xx∧xx≤Ds.length) (fun (xx:Int)=>(Ds.length - xx).toNat) (0) ?_ ?_ ?_
 exact ⟨rfl,rfl,rfl,rfl,rfl,rfl,rfl,rfl,rfl,rfl,rfl,rfl,rfl,rfl,rfl,rfl,rfl,rfl,rfl,rfl,rfl,rfl,rfl,trivial⟩
 subst ζ1 ζ5 ζ7 ζ8 ζ9 ζ11 ζ29 ζ2 ζ21 ζ33 ζ34 ζ35 ζ36 ζ37 ζ41; exact ⟨rfl,(show [(Arr 113 bb [u,w,(Value.map (some ba)),(Value.map (some bi)),(.bool (decide (wd L)))]),(Gr 3 1 u L.length ((L.map (Value.int .i64)))),(Gr 80 3 w M.length ((fks M))),(Mf ba (Value.int .i64) (Value.int .i64) (lfF L)),(Mf bi fkv (Value.int .i64) (idF M)),(Mf bd kv (Value.int .i64) Dn),(S s),(Arr 97 b1 [(.int .i64 k.1),(.int .i64 k.2.1),(.int .i64 k.2.2)]),(Arr 97 b5 [(.int .i64 (lw Ds k (tpN vars Ds k i.toNat) False (0:Int).toNat 0)),(.int .i64 (lw Ds k (tpN vars Ds k i.toNat) False (0:Int).toNat 1)),(.int .i64 (lw Ds k (tpN vars Ds k i.toNat) False (0:Int).toNat 2))]),(Arr 97 b6 [(.int .i64 (lw Ds k (tpN vars Ds k i.toNat) True (0:Int).toNat 0)),(.int .i64 (lw Ds k (tpN vars Ds k i.toNat) True (0:Int).toNat 1)),(.int .i64 (lw Ds k (tpN vars Ds k i.toNat) True (0:Int).toNat 2))])]=[(Arr 113 bb [u,w,(Value.map (some ba)),(Value.map (some bi)),(.bool (decide (wd L)))]),(Gr 3 1 u L.length ((L.map (Value.int .i64)))),(Gr 80 3 w M.length ((fks M))),(Mf ba (Value.int .i64) (Value.int .i64) (lfF L)),(Mf bi fkv (Value.int .i64) (idF M)),(Mf bd kv (Value.int .i64) Dn),(S s),(Arr 97 b1 [(.int .i64 k.1),(.int .i64 k.2.1),(.int .i64 k.2.2)]),(Arr 97 b5 [(Value.int .i64 0),(Value.int .i64 0),(Value.int .i64 0)]),(Arr 97 b6 [(Value.int .i64 0),(Value.int .i64 0),(Value.int .i64 0)])] from by simp only [show Int.toNat 0=0 from rfl,lw_0]),by omega,by omega⟩
 rintro q e3 V2l σ2l hI2
 let ζ3:Asrt:=Arr 97 b5 [(.int .i64 (lw Ds k (tpN vars Ds k i.toNat) False q.toNat 0)),(.int .i64 (lw Ds k (tpN vars Ds k i.toNat) False q.toNat 1)),(.int .i64 (lw Ds k (tpN vars Ds k i.toNat) False q.toNat 2))]
 let ζ4:Asrt:=Arr 97 b6 [(.int .i64 (lw Ds k (tpN vars Ds k i.toNat) True q.toNat 0)),(.int .i64 (lw Ds k (tpN vars Ds k i.toNat) True q.toNat 1)),(.int .i64 (lw Ds k (tpN vars Ds k i.toNat) True q.toNat 2))]
 obtain ⟨rfl,rfl,i5,i6⟩:V=V2l∧[ζ1,ζ7,ζ9,ζ5,ζ8,ζ11,(S s),ζ2,ζ3,ζ4]=σ2l∧0≤q∧q≤Ds.length:=hI2
 refine vc_seq ?_
 refine vc_res (σ':=[ζ1,ζ7,ζ9,ζ5,ζ8,ζ11,(S s),ζ2,ζ3,ζ4]) rfl ?_
 refine vc_region ?_
 refine oq (qv_lss rfl rfl) ?_
 refine ops_nil ?_
 refine vc_seq ?_
 refine vc_if rfl (fun c5=>?_) (fun c5=>?_)
 refine vc_skip ?_
 refine vc_seq ?_
 refine vc_block ?_
 refine vc_seq ?_
 have hkq:=hK q (by omega) (by omega)
 have hvq:=hE.sv q (by omega) (by omega)
 have hkr:=hkq.1.1
 have hkr2:=hkq.1.2
 refine vc_region ?_
 refine oq (qv_mv (Value.int .i64 q) rfl) ?_
 refine oq (qv_ias (v:=lv) (i:=q) Try.underlying102 Try.size25 rfl hE.bl.sl rfl (by omega) (by omega)) ?_
 refine oq (qv_lds (v:=lv) (i:=q) (vs:=[(.int .i64 ((dm Ds (q)).v)),(gv lvs (q)),(gv nvs (q)),(.int .i64 ((dm Ds (q)).r))]) Try.agg25 rfl hE.bl.sl (by omega) (by omega) (mdls_at (by omega) (by omega))) ?_
 refine ops_alloc Try.ti25 rfl (fun b7=>?_)
 refine oq (qv_as (Value.int .i64 q) rfl) ?_
 refine ops_stw (k:=10) (vs:=[(.int .i64 ((dm Ds (q)).v)),(gv lvs (q)),(gv nvs (q)),(.int .i64 ((dm Ds (q)).r))]) Try.size25 rfl rfl rfl (allc rfl (allc (Sl.one (hE.bl.at_ (q) (by omega) (by omega)).l) (allc (SlS.one (hE.bl.at_ (q) (by omega) (by omega)).n) (allc rfl rfl)))) rfl rfl ?_
 refine ops_nil ?_
 let ζ32:Asrt:=Arr 25 b7 [(.int .i64 ((dm Ds (q)).v)),(gv lvs (q)),(gv nvs (q)),(.int .i64 ((dm Ds (q)).r))]
 refine vc_res (σ':=[ζ1,ζ7,ζ9,ζ5,ζ8,ζ11,(S s),ζ2,ζ3,ζ4,ζ32]) rfl ?_
 refine vc_region_order (τ:=[ζ3]) [(0,false),(1,false),(2,false),(3,false),(4,false),(5,false),(6,false),(7,false),(8,false),(9,false),(10,false),(11,false),(12,false),(13,false),(14,false),(15,true),(16,false),(17,true)] [ζ1,ζ7,ζ9,ζ5,ζ8,ζ11,(S s),ζ2,ζ4,ζ32] Try.mixed (perm_idx _ _ [0,1,2,3,4,5,6,7,9,10,8] rfl rfl) (by kernel_rfl) ?_
 refine rq rfl (qv_mv (Value.int .i64 q) rfl) ?_
 refine rq rfl (qv_mv (Value.int .i64 q) rfl) ?_
 refine rq rfl (qv_ldm (vs:=[(.int .i64 ((dm Ds (q)).v)),(gv lvs (q)),(gv nvs (q)),(.int .i64 ((dm Ds (q)).r))]) Try.agg25 rfl (inOc (k:=9) rfl) rfl rfl) ?_
 refine rq rfl (qv_mv (Value.int .i64 q) rfl) ?_
 refine rq rfl (qv_iav (i:=q) (off:=0) Try.underlying97 Try.size3 rfl rfl (by omega) (by omega)) ?_
 subst ζ1 ζ5 ζ7 ζ8 ζ9 ζ11 ζ29 ζ2 ζ21 ζ33 ζ34 ζ35 ζ36 ζ37 ζ41 ζ3 ζ4 ζ32
 refine rq rfl (qv_ldp (v:=(.int .i64 (gi [k.1,k.2.1,k.2.2] (q)))) Try.plain3 rfl (inOc (k:=7) rfl) (arr_at (ys:=[k.1,k.2.1,k.2.2]) (by omega) (by simp; omega))) ?_
 refine rq rfl (qv_mv (.int .i64 (tpN vars Ds k i.toNat)) rfl) ?_
 refine rq rfl (qv_call (v:=(.int .i64 (stp (dm Ds (q)) (gi [k.1,k.2.1,k.2.2] (q)) (tpN vars Ds k i.toNat) False))) (step_c (hE.bl.at_ (q) (by omega) (by omega)) (r:=gi [k.1,k.2.1,k.2.2] (q)) (x:=tpN vars Ds k i.toNat) (hi:=False) (by omega) (by omega) (by omega)) rfl rfl) ?_
 refine rq rfl (qv_ldm (vs:=[(.int .i64 ((dm Ds (q)).v)),(gv lvs (q)),(gv nvs (q)),(.int .i64 ((dm Ds (q)).r))]) Try.agg25 rfl (inOc (k:=9) rfl) rfl rfl) ?_
 refine rq rfl (qv_mv (Value.int .i64 q) rfl) ?_
 refine rq rfl (qv_iav (i:=q) (off:=0) Try.underlying97 Try.size3 rfl rfl (by omega) (by omega)) ?_
 refine rq rfl (qv_ldp (v:=(.int .i64 (gi [k.1,k.2.1,k.2.2] (q)))) Try.plain3 rfl (inOc (k:=7) rfl) (arr_at (ys:=[k.1,k.2.1,k.2.2]) (by omega) (by simp; omega))) ?_
 refine rq rfl (qv_mv (.int .i64 (tpN vars Ds k i.toNat)) rfl) ?_
 refine rq rfl (qv_call (v:=(.int .i64 (stp (dm Ds (q)) (gi [k.1,k.2.1,k.2.2] (q)) (tpN vars Ds k i.toNat) True))) (step_c (hE.bl.at_ (q) (by omega) (by omega)) (r:=gi [k.1,k.2.1,k.2.2] (q)) (x:=tpN vars Ds k i.toNat) (hi:=True) (by omega) (by omega) (by omega)) rfl rfl) ?_
 refine rq rfl (qv_iav (i:=q) (off:=0) Try.underlying97 Try.size3 rfl rfl (by omega) (by omega)) ?_
 refine rl rfl ?_
 refine ops_stp (k:=8) (off:=0+(q).toNat) (cs:=[(.int .i64 (lw Ds k (tpN vars Ds k i.toNat) False q.toNat 0)),(.int .i64 (lw Ds k (tpN vars Ds k i.toNat) False q.toNat 1)),(.int .i64 (lw Ds k (tpN vars Ds k i.toNat) False q.toNat 2))]) Try.size3 rfl (rfl:ev _ _=(.int .i64 (stp (dm Ds (q)) (gi [k.1,k.2.1,k.2.2] (q)) (tpN vars Ds k i.toNat) False))) rfl rfl (by simp; omega) ?_
 refine ops_nil ⟨[(Arr 113 bb [u,w,(Value.map (some ba)),(Value.map (some bi)),(.bool (decide (wd L)))]),(Gr 3 1 u L.length ((L.map (Value.int .i64)))),(Gr 80 3 w M.length ((fks M))),(Mf ba (Value.int .i64) (Value.int .i64) (lfF L)),(Mf bi fkv (Value.int .i64) (idF M)),(Mf bd kv (Value.int .i64) Dn),(S s),(Arr 97 b1 [(.int .i64 k.1),(.int .i64 k.2.1),(.int .i64 k.2.2)]),(Arr 97 b6 [(.int .i64 (lw Ds k (tpN vars Ds k i.toNat) True q.toNat 0)),(.int .i64 (lw Ds k (tpN vars Ds k i.toNat) True q.toNat 1)),(.int .i64 (lw Ds k (tpN vars Ds k i.toNat) True q.toNat 2))]),(Arr 25 b7 [(.int .i64 ((dm Ds (q)).v)),(gv lvs (q)),(gv nvs (q)),(.int .i64 ((dm Ds (q)).r))])],[(Arr 97 b5 (([(.int .i64 (lw Ds k (tpN vars Ds k i.toNat) False q.toNat 0)),(.int .i64 (lw Ds k (tpN vars Ds k i.toNat) False q.toNat 1)),(.int .i64 (lw Ds k (tpN vars Ds k i.toNat) False q.toNat 2))]).set (0+(q).toNat) (.int .i64 (stp (dm Ds (q)) (gi [k.1,k.2.1,k.2.2] (q)) (tpN vars Ds k i.toNat) False))))],(Sub.refl _),(perm_idx _ _ [0,1,2,3,4,5,6,7,9,10,8] rfl rfl),⟨[],.refl _⟩,?_⟩
 refine rq rfl (qv_iav (i:=q) (off:=0) Try.underlying97 Try.size3 rfl rfl (by omega) (by omega)) ?_
 refine rl1 (by kernel_rfl) rfl ?_
 refine ops_stp (k:=9) (off:=0+(q).toNat) (cs:=[(.int .i64 (lw Ds k (tpN vars Ds k i.toNat) True q.toNat 0)),(.int .i64 (lw Ds k (tpN vars Ds k i.toNat) True q.toNat 1)),(.int .i64 (lw Ds k (tpN vars Ds k i.toNat) True q.toNat 2))]) Try.size3 rfl (rfl:ev _ _=(.int .i64 (stp (dm Ds (q)) (gi [k.1,k.2.1,k.2.2] (q)) (tpN vars Ds k i.toNat) True))) rfl rfl (by simp; omega) ?_
 let ζ1:Asrt:=Arr 113 bb [u,w,(Value.map (some ba)),(Value.map (some bi)),(.bool (decide (wd L)))]
 let ζ2:Asrt:=Arr 97 b1 [(.int .i64 k.1),(.int .i64 k.2.1),(.int .i64 k.2.2)]
 let ζ5:Asrt:=Mf ba (Value.int .i64) (Value.int .i64) (lfF L)
 let ζ7:Asrt:=Gr 3 1 u L.length ((L.map (Value.int .i64)))
 let ζ8:Asrt:=Mf bi fkv (Value.int .i64) (idF M)
 let ζ9:Asrt:=Gr 80 3 w M.length ((fks M))
 let ζ11:Asrt:=Mf bd kv (Value.int .i64) Dn
 let ζ22:Asrt:=Arr 97 b5 (([(.int .i64 (lw Ds k (tpN vars Ds k i.toNat) False q.toNat 0)),(.int .i64 (lw Ds k (tpN vars Ds k i.toNat) False q.toNat 1)),(.int .i64 (lw Ds k (tpN vars Ds k i.toNat) False q.toNat 2))]).set (0+(q).toNat) (.int .i64 (stp (dm Ds (q)) (gi [k.1,k.2.1,k.2.2] (q)) (tpN vars Ds k i.toNat) False)))
 let ζ24:Asrt:=Arr 97 b6 (([(.int .i64 (lw Ds k (tpN vars Ds k i.toNat) True q.toNat 0)),(.int .i64 (lw Ds k (tpN vars Ds k i.toNat) True q.toNat 1)),(.int .i64 (lw Ds k (tpN vars Ds k i.toNat) True q.toNat 2))]).set (0+(q).toNat) (.int .i64 (stp (dm Ds (q)) (gi [k.1,k.2.1,k.2.2] (q)) (tpN vars Ds k i.toNat) True)))
 let ζ32:Asrt:=Arr 25 b7 [(.int .i64 ((dm Ds (q)).v)),(gv lvs (q)),(gv nvs (q)),(.int .i64 ((dm Ds (q)).r))]
 refine ops_nil ⟨[ζ1,ζ7,ζ9,ζ5,ζ8,ζ11,(S s),ζ2,ζ24,ζ32],[ζ22],(perm_idx _ _ [0,1,2,3,4,5,6,7,9,10,8] rfl rfl),?_⟩
 refine rnil ?_
 refine vc_res (σ':=[ζ1,ζ7,ζ9,ζ5,ζ8,ζ11,(S s),ζ2,ζ22,ζ24,ζ32]) rfl ?_
 refine vc_drop [(Arr 113 bb [u,w,(Value.map (some ba)),(Value.map (some bi)),(Value.bool (decide (wd L)))]),ζ7,ζ9,ζ5,ζ8,ζ11,(S s),(Arr 97 b1 [(Value.int .i64 (k.1)),(Value.int .i64 (k.2.1)),(Value.int .i64 (k.2.2))]),(Arr 97 b5 (([(Value.int .i64 (lw Ds k (tpN vars Ds k i.toNat) False q.toNat 0)),(Value.int .i64 (lw Ds k (tpN vars Ds k i.toNat) False q.toNat 1)),(Value.int .i64 (lw Ds k (tpN vars Ds k i.toNat) False q.toNat 2))]).set (0+(q).toNat) (Value.int .i64 (stp (dm Ds (q)) (gi [k.1,k.2.1,k.2.2] (q)) (tpN vars Ds k i.toNat) False)))),(Arr 97 b6 (([(Value.int .i64 (lw Ds k (tpN vars Ds k i.toNat) True q.toNat 0)),(Value.int .i64 (lw Ds k (tpN vars Ds k i.toNat) True q.toNat 1)),(Value.int .i64 (lw Ds k (tpN vars Ds k i.toNat) True q.toNat 2))]).set (0+(q).toNat) (Value.int .i64 (stp (dm Ds (q)) (gi [k.1,k.2.1,k.2.2] (q)) (tpN vars Ds k i.toNat) True))))] [(Arr 25 b7 [(Value.int .i64 ((dm Ds (q)).v)),(gv lvs (q)),(gv nvs (q)),(Value.int .i64 ((dm Ds (q)).r))])] ((List.perm_middle (l₁:=[(Arr 113 bb [u,w,(Value.map (some ba)),(Value.map (some bi)),(Value.bool (decide (wd L)))]),ζ7,ζ9,ζ5,ζ8,ζ11,(S s),(Arr 97 b1 [(Value.int .i64 (k.1)),(Value.int .i64 (k.2.1)),(Value.int .i64 (k.2.2))]),(Arr 97 b5 (([(Value.int .i64 (lw Ds k (tpN vars Ds k i.toNat) False q.toNat 0)),(Value.int .i64 (lw Ds k (tpN vars Ds k i.toNat) False q.toNat 1)),(Value.int .i64 (lw Ds k (tpN vars Ds k i.toNat) False q.toNat 2))]).set (0+(q).toNat) (Value.int .i64 (stp (dm Ds (q)) (gi [k.1,k.2.1,k.2.2] (q)) (tpN vars Ds k i.toNat) False)))),(Arr 97 b6 (([(Value.int .i64 (lw Ds k (tpN vars Ds k i.toNat) True q.toNat 0)),(Value.int .i64 (lw Ds k (tpN vars Ds k i.toNat) True q.toNat 1)),(Value.int .i64 (lw Ds k (tpN vars Ds k i.toNat) True q.toNat 2))]).set (0+(q).toNat) (Value.int .i64 (stp (dm Ds (q)) (gi [k.1,k.2.1,k.2.2] (q)) (tpN vars Ds k i.toNat) True))))]) (l₂:=[])).trans (List.perm_append_comm (l₁:=[(Arr 25 b7 [(Value.int .i64 ((dm Ds (q)).v)),(gv lvs (q)),(gv nvs (q)),(Value.int .i64 ((dm Ds (q)).r))])]))) ?_
 refine vc_region ?_
 refine oq (qv_add rfl rfl (by omega)) ?_
 refine oq (qv_mv (.int .i64 (q+1)) rfl) ?_
 refine ops_nil ?_
 subst ζ1 ζ2 ζ5 ζ7 ζ8 ζ9 ζ11 ζ22 ζ24 ζ32
 refine ⟨(q+1),⟨rfl,rfl,rfl,rfl,rfl,rfl,rfl,rfl,rfl,rfl,rfl,rfl,rfl,rfl,rfl,rfl,rfl,rfl,rfl,rfl,rfl,rfl,(congrArg (Value.int .i64) (show (q+1)=((q+1)) from by omega)),trivial⟩,⟨rfl,(show [(Arr 113 bb [u,w,(Value.map (some ba)),(Value.map (some bi)),(.bool (decide (wd L)))]),(Gr 3 1 u L.length ((L.map (Value.int .i64)))),(Gr 80 3 w M.length ((fks M))),(Mf ba (Value.int .i64) (Value.int .i64) (lfF L)),(Mf bi fkv (Value.int .i64) (idF M)),(Mf bd kv (Value.int .i64) Dn),(S s),(Arr 97 b1 [(.int .i64 k.1),(.int .i64 k.2.1),(.int .i64 k.2.2)]),(Arr 97 b5 [(.int .i64 (lw Ds k (tpN vars Ds k i.toNat) False (q+1:Int).toNat 0)),(.int .i64 (lw Ds k (tpN vars Ds k i.toNat) False (q+1:Int).toNat 1)),(.int .i64 (lw Ds k (tpN vars Ds k i.toNat) False (q+1:Int).toNat 2))]),(Arr 97 b6 [(.int .i64 (lw Ds k (tpN vars Ds k i.toNat) True (q+1:Int).toNat 0)),(.int .i64 (lw Ds k (tpN vars Ds k i.toNat) True (q+1:Int).toNat 1)),(.int .i64 (lw Ds k (tpN vars Ds k i.toNat) True (q+1:Int).toNat 2))])]=[(Arr 113 bb [u,w,(Value.map (some ba)),(Value.map (some bi)),(.bool (decide (wd L)))]),(Gr 3 1 u L.length ((L.map (Value.int .i64)))),(Gr 80 3 w M.length ((fks M))),(Mf ba (Value.int .i64) (Value.int .i64) (lfF L)),(Mf bi fkv (Value.int .i64) (idF M)),(Mf bd kv (Value.int .i64) Dn),(S s),(Arr 97 b1 [(.int .i64 k.1),(.int .i64 k.2.1),(.int .i64 k.2.2)]),(Arr 97 b5 (([(.int .i64 (lw Ds k (tpN vars Ds k i.toNat) False q.toNat 0)),(.int .i64 (lw Ds k (tpN vars Ds k i.toNat) False q.toNat 1)),(.int .i64 (lw Ds k (tpN vars Ds k i.toNat) False q.toNat 2))]).set (0+(q).toNat) (.int .i64 (stp (dm Ds (q)) (gi [k.1,k.2.1,k.2.2] (q)) (tpN vars Ds k i.toNat) False)))),(Arr 97 b6 (([(.int .i64 (lw Ds k (tpN vars Ds k i.toNat) True q.toNat 0)),(.int .i64 (lw Ds k (tpN vars Ds k i.toNat) True q.toNat 1)),(.int .i64 (lw Ds k (tpN vars Ds k i.toNat) True q.toNat 2))]).set (0+(q).toNat) (.int .i64 (stp (dm Ds (q)) (gi [k.1,k.2.1,k.2.2] (q)) (tpN vars Ds k i.toNat) True))))] from by rw [show ([(.int .i64 (lw Ds k (tpN vars Ds k i.toNat) False (q+1).toNat 0)),(.int .i64 (lw Ds k (tpN vars Ds k i.toNat) False (q+1).toNat 1)),(.int .i64 (lw Ds k (tpN vars Ds k i.toNat) False (q+1).toNat 2))]:List Value)=([(.int .i64 (lw Ds k (tpN vars Ds k i.toNat) False q.toNat 0)),(.int .i64 (lw Ds k (tpN vars Ds k i.toNat) False q.toNat 1)),(.int .i64 (lw Ds k (tpN vars Ds k i.toNat) False q.toNat 2))]:List Value).set (0+q.toNat) (.int .i64 (stp (dm Ds (q)) (gi [k.1,k.2.1,k.2.2] (q)) (tpN vars Ds k i.toNat) False)) from (lwL_step (by omega) (by omega)).symm,show ([(.int .i64 (lw Ds k (tpN vars Ds k i.toNat) True (q+1).toNat 0)),(.int .i64 (lw Ds k (tpN vars Ds k i.toNat) True (q+1).toNat 1)),(.int .i64 (lw Ds k (tpN vars Ds k i.toNat) True (q+1).toNat 2))]:List Value)=([(.int .i64 (lw Ds k (tpN vars Ds k i.toNat) True q.toNat 0)),(.int .i64 (lw Ds k (tpN vars Ds k i.toNat) True q.toNat 1)),(.int .i64 (lw Ds k (tpN vars Ds k i.toNat) True q.toNat 2))]:List Value).set (0+q.toNat) (.int .i64 (stp (dm Ds (q)) (gi [k.1,k.2.1,k.2.2] (q)) (tpN vars Ds k i.toNat) True)) from (lwL_step (by omega) (by omega)).symm]),by omega,by omega⟩,by omega⟩
 refine vc_exit ?_
 refine blockQ_hit ?_
 refine vc_seq ?_
 have hlkF:lwL Ds k (tpN vars Ds k i.toNat) False q.toNat=lk_ vars Ds k False:=by rw [htp,show q.toNat=Ds.length by omega]; rfl
 have hlkT:lwL Ds k (tpN vars Ds k i.toNat) True q.toNat=lk_ vars Ds k True:=by rw [htp,show q.toNat=Ds.length by omega]; rfl
 refine vc_region ?_
 refine oq (qv_ldp (v:=(Value.func (.func 102) #[] #[ζ33,ζ34,ζ35,ζ36,ζ37])) Try.plain98 rfl (inVc hE.cr) rfl) ?_
 refine oq (qv_ldm (vs:=[(.int .i64 (lw Ds k (tpN vars Ds k i.toNat) False q.toNat 0)),(.int .i64 (lw Ds k (tpN vars Ds k i.toNat) False q.toNat 1)),(.int .i64 (lw Ds k (tpN vars Ds k i.toNat) False q.toNat 2))]) Try.agg97 rfl (inOc (k:=8) rfl) rfl rfl) ?_
 subst ζ1 ζ5 ζ7 ζ8 ζ9 ζ11 ζ29 ζ2 ζ21 ζ33 ζ34 ζ35 ζ36 ζ37 ζ41 ζ3 ζ4
 refine ops_call (σa:=[(Arr 113 bb [u,w,(Value.map (some ba)),(Value.map (some bi)),(.bool (decide (wd L)))]),(Gr 3 1 u L.length ((L.map (Value.int .i64)))),(Gr 80 3 w M.length ((fks M))),(Mf ba (Value.int .i64) (Value.int .i64) (lfF L)),(Mf bi fkv (Value.int .i64) (idF M)),(Mf bd kv (Value.int .i64) Dn),(S s)]) (σr:=[(Arr 97 b1 [(.int .i64 k.1),(.int .i64 k.2.1),(.int .i64 k.2.2)]),(Arr 97 b5 [(.int .i64 (lw Ds k (tpN vars Ds k i.toNat) False q.toNat 0)),(.int .i64 (lw Ds k (tpN vars Ds k i.toNat) False q.toNat 1)),(.int .i64 (lw Ds k (tpN vars Ds k i.toNat) False q.toNat 2))]),(Arr 97 b6 [(.int .i64 (lw Ds k (tpN vars Ds k i.toNat) True q.toNat 0)),(.int .i64 (lw Ds k (tpN vars Ds k i.toNat) True q.toNat 1)),(.int .i64 (lw Ds k (tpN vars Ds k i.toNat) True q.toNat 2))])]) (by have h:=IH _ (lk_ vars Ds k False) L M Dn u w s hE hIv l1.1 (by omega) hI (by omega) (by omega) (by omega); rw [← hlkF] at h; exact h) rfl rfl (.refl _) (fun r3 V3 sg3 hV3 hp3=>?_)
 obtain ⟨L1,M1,D1,p1,u1,w1,s1,rfl,rfl,hzX,hvX,hxX,X⟩:=hp3
 rw [hlkF] at X hzX
 have hE:=hE.mono hV3
 refine oq (qv_as (Value.int .i64 p1) rfl) ?_
 refine ops_nil ?_
 let ζ2:Asrt:=Arr 97 b1 [(.int .i64 k.1),(.int .i64 k.2.1),(.int .i64 k.2.2)]
 let ζ3:Asrt:=Arr 97 b5 [(.int .i64 (lw Ds k (tpN vars Ds k i.toNat) False q.toNat 0)),(.int .i64 (lw Ds k (tpN vars Ds k i.toNat) False q.toNat 1)),(.int .i64 (lw Ds k (tpN vars Ds k i.toNat) False q.toNat 2))]
 let ζ4:Asrt:=Arr 97 b6 [(.int .i64 (lw Ds k (tpN vars Ds k i.toNat) True q.toNat 0)),(.int .i64 (lw Ds k (tpN vars Ds k i.toNat) True q.toNat 1)),(.int .i64 (lw Ds k (tpN vars Ds k i.toNat) True q.toNat 2))]
 let ζ38:Asrt:=Arr 113 bb [u1,w1,(Value.map (some ba)),(Value.map (some bi)),(.bool (decide (wd L1)))]
 refine vc_res (σ':=[ζ38,(Gr 3 1 u1 L1.length ((L1.map (Value.int .i64)))),(Gr 80 3 w1 M1.length ((fks M1))),(Mf ba (Value.int .i64) (Value.int .i64) (lfF L1)),(Mf bi fkv (Value.int .i64) (idF M1)),(Mf bd kv (Value.int .i64) D1),(S s1),ζ2,ζ3,ζ4]) rfl ?_
 obtain ⟨Fa,hFa⟩:=hE.ne s1
 have hAl:=(X Fa hFa).len
 have hAl2:=(X Fa hFa).lel
 refine vc_region_order (τ:=[ζ38,(Gr 3 1 u1 L1.length ((L1.map (Value.int .i64)))),(Gr 80 3 w1 M1.length ((fks M1))),(Mf ba (Value.int .i64) (Value.int .i64) (lfF L1)),(Mf bi fkv (Value.int .i64) (idF M1)),(Mf bd kv (Value.int .i64) D1),(S s1)]) [(0,false),(1,false),(2,false),(3,false),(4,false),(5,true),(6,true),(7,false)] [ζ2,ζ3,ζ4] Try.mixed (perm_idx _ _ [7,8,9,0,1,2,3,4,5,6] rfl rfl) (by kernel_rfl) ?_
 refine rq rfl (qv_ldp (v:=(Value.pointer (some ⟨bb,0,none⟩))) Try.plain91 rfl (inVc hE.cm) rfl) ?_
 refine rq rfl (qv_mv (.int .i64 (tpN vars Ds k i.toNat)) rfl) ?_
 refine rq rfl (qv_mv (Value.int .i64 p1) rfl) ?_
 refine rq rfl (qv_ldp (v:=(Value.func (.func 102) #[] #[(Value.pointer (some ⟨pd,0,none⟩)),(Value.pointer (some ⟨pl,0,none⟩)),(Value.pointer (some ⟨pm,0,none⟩)),(Value.pointer (some ⟨pf,0,none⟩)),(Value.pointer (some ⟨pr,0,none⟩))])) Try.plain98 rfl (inVc hE.cr) rfl) ?_
 refine rq rfl (qv_ldm (vs:=[(.int .i64 (lw Ds k (tpN vars Ds k i.toNat) True q.toNat 0)),(.int .i64 (lw Ds k (tpN vars Ds k i.toNat) True q.toNat 1)),(.int .i64 (lw Ds k (tpN vars Ds k i.toNat) True q.toNat 2))]) Try.agg97 rfl (inOc (k:=2) rfl) rfl rfl) ?_
 refine rl rfl ?_
 subst ζ2 ζ3 ζ4 ζ38
 refine ops_call (σa:=[(Arr 113 bb [u1,w1,(Value.map (some ba)),(Value.map (some bi)),(.bool (decide (wd L1)))]),(Gr 3 1 u1 L1.length ((L1.map (Value.int .i64)))),(Gr 80 3 w1 M1.length ((fks M1))),(Mf ba (Value.int .i64) (Value.int .i64) (lfF L1)),(Mf bi fkv (Value.int .i64) (idF M1)),(Mf bd kv (Value.int .i64) D1),(S s1)]) (σr:=[(Arr 97 b1 [(.int .i64 k.1),(.int .i64 k.2.1),(.int .i64 k.2.2)]),(Arr 97 b5 [(.int .i64 (lw Ds k (tpN vars Ds k i.toNat) False q.toNat 0)),(.int .i64 (lw Ds k (tpN vars Ds k i.toNat) False q.toNat 1)),(.int .i64 (lw Ds k (tpN vars Ds k i.toNat) False q.toNat 2))]),(Arr 97 b6 [(.int .i64 (lw Ds k (tpN vars Ds k i.toNat) True q.toNat 0)),(.int .i64 (lw Ds k (tpN vars Ds k i.toNat) True q.toNat 1)),(.int .i64 (lw Ds k (tpN vars Ds k i.toNat) True q.toNat 2))])]) (by have h:=IH _ (lk_ vars Ds k True) L1 M1 D1 u1 w1 s1 hE hvX l2.1 (by omega) (fun F hF=>(X F hF).inv) (by omega) (by omega) (by omega); rw [← hlkT] at h; exact h) rfl rfl (.refl _) (fun r4 V4 sg4 hV4 hp4=>?_)
 obtain ⟨L2,M2,D2,p2,u2,w2,s2,rfl,rfl,hzY,hvY,hxY,Y⟩:=hp4
 rw [hlkT] at Y hzY
 have hE:=hE.mono hV4
 let ζ2:Asrt:=Arr 97 b1 [(.int .i64 k.1),(.int .i64 k.2.1),(.int .i64 k.2.2)]
 let ζ3:Asrt:=Arr 97 b5 [(.int .i64 (lw Ds k (tpN vars Ds k i.toNat) False q.toNat 0)),(.int .i64 (lw Ds k (tpN vars Ds k i.toNat) False q.toNat 1)),(.int .i64 (lw Ds k (tpN vars Ds k i.toNat) False q.toNat 2))]
 let ζ4:Asrt:=Arr 97 b6 [(.int .i64 (lw Ds k (tpN vars Ds k i.toNat) True q.toNat 0)),(.int .i64 (lw Ds k (tpN vars Ds k i.toNat) True q.toNat 1)),(.int .i64 (lw Ds k (tpN vars Ds k i.toNat) True q.toNat 2))]
 let ζ17:Asrt:=Mf ba (Value.int .i64) (Value.int .i64) (lfF L2)
 let ζ18:Asrt:=Gr 3 1 u2 L2.length ((L2.map (Value.int .i64)))
 let ζ39:Asrt:=Arr 113 bb [u2,w2,(Value.map (some ba)),(Value.map (some bi)),(.bool (decide (wd L2)))]
 let ζ40:Asrt:=Mf bd kv (Value.int .i64) D2
 refine ops_nil ⟨[ζ2,ζ3,ζ4],[ζ39,ζ18,(Gr 80 3 w2 M2.length ((fks M2))),ζ17,(Mf bi fkv (Value.int .i64) (idF M2)),ζ40,(S s2)],hV4,(perm_idx _ _ [7,8,9,0,1,2,3,4,5,6] rfl rfl),⟨[],.refl _⟩,?_⟩
 refine rl rfl ?_
 obtain ⟨Fb,hFb⟩:=hE.ne s2
 have hBl:=(Y Fb hFb).len
 have hBl2:=(Y Fb hFb).lel
 refine ops_call (σa:=[ζ39,ζ18,(Gr 80 3 w2 M2.length ((fks M2))),ζ17,(Mf bi fkv (Value.int .i64) (idF M2))]) (σr:=[ζ40,(S s2),ζ2,ζ3,ζ4]) (node_c (L:=L2) (M:=M2) (v:=(tpN vars Ds k i.toNat)) (l:=p1) (h:=p2) (u:=u2) (w:=w2) (by omega)) rfl rfl (.refl _) (fun r5 V5 sg5 hV5 hp5=>?_)
 obtain ⟨rfl,w3,rfl⟩:=hp5
 have hE:=hE.mono hV5
 let ζ10:Asrt:=Gr 80 3 w3 ((ndR M2 (tpN vars Ds k i.toNat) p1 p2).1.length) ((fks (ndR M2 (tpN vars Ds k i.toNat) p1 p2).1))
 let ζ14:Asrt:=Mf bi fkv (Value.int .i64) (idF (ndR M2 (tpN vars Ds k i.toNat) p1 p2).1)
 let ζ30:Asrt:=Arr 113 bb [u2,w3,(Value.map (some ba)),(Value.map (some bi)),(.bool (decide (wd L2)))]
 refine ops_nil ⟨[ζ2,ζ3,ζ4],[ζ30,ζ18,ζ10,ζ17,ζ14,ζ40,(S s2)],hV5,(perm_idx _ _ [7,8,9,0,1,2,3,4,5,6] rfl rfl),⟨[],.refl _⟩,?_⟩
 let ζ26:Value:=.int .i64 ((ndR M2 (tpN vars Ds k i.toNat) p1 p2).2)
 refine rq rfl (qv_as ζ26 rfl) ?_
 refine rnil ?_
 refine vc_seq ?_
 refine vc_res (σ':=[ζ30,ζ18,ζ10,ζ17,ζ14,ζ40,(S s2),ζ2,ζ3,ζ4]) rfl ?_
 refine vc_region ?_
 refine oq (qv_ldp (v:=(Value.map (some bd))) Try.plain137 rfl (inVc hE.cd) rfl) ?_
 refine oq (qv_ldm (vs:=[(.int .i64 k.1),(.int .i64 k.2.1),(.int .i64 k.2.2)]) Try.agg97 rfl (inOc (k:=7) rfl) rfl rfl) ?_
 refine oq (qv_mv ζ26 rfl) ?_
 refine ops_mapset (k:=5) (key:=k) (v:=(ndR M2 (tpN vars Ds k i.toNat) p1 p2).2) Try.underlying137 k3_key rfl rfl rfl rfl ?_
 refine ops_nil ?_
 refine vc_seq ?_
 let ζ16:Asrt:=Mf bd kv (Value.int .i64) (setF D2 k ((ndR M2 (tpN vars Ds k i.toNat) p1 p2).2))
 refine vc_res (σ':=[ζ30,ζ18,ζ10,ζ17,ζ14,ζ16,(S s2),ζ2,ζ3,ζ4]) rfl ?_
 refine vc_region ?_
 refine oq (qv_mv ζ26 rfl) ?_
 refine oq (qv_as ζ26 rfl) ?_
 refine ops_nil ?_
 let ζ12:Asrt:=Arr 97 b1 [(Value.int .i64 (k.1)),(Value.int .i64 (k.2.1)),(Value.int .i64 (k.2.2))]
 let ζ13:Asrt:=Arr 97 b5 [(Value.int .i64 (lw Ds k (tpN vars Ds k i.toNat) False q.toNat 0)),(Value.int .i64 (lw Ds k (tpN vars Ds k i.toNat) False q.toNat 1)),(Value.int .i64 (lw Ds k (tpN vars Ds k i.toNat) False q.toNat 2))]
 let ζ15:Asrt:=Arr 113 bb [u2,w3,(Value.map (some ba)),(Value.map (some bi)),(Value.bool (decide (wd L2)))]
 refine vc_drop [ζ15,ζ18,ζ10,ζ17,ζ14,ζ16,(S s2),ζ12,ζ13] [(Arr 97 b6 [(Value.int .i64 (lw Ds k (tpN vars Ds k i.toNat) True q.toNat 0)),(Value.int .i64 (lw Ds k (tpN vars Ds k i.toNat) True q.toNat 1)),(Value.int .i64 (lw Ds k (tpN vars Ds k i.toNat) True q.toNat 2))])] ((List.perm_middle (l₁:=[ζ15,ζ18,ζ10,ζ17,ζ14,ζ16,(S s2),ζ12,ζ13]) (l₂:=[])).trans (List.perm_append_comm (l₁:=[(Arr 97 b6 [(Value.int .i64 (lw Ds k (tpN vars Ds k i.toNat) True q.toNat 0)),(Value.int .i64 (lw Ds k (tpN vars Ds k i.toNat) True q.toNat 1)),(Value.int .i64 (lw Ds k (tpN vars Ds k i.toNat) True q.toNat 2))])]))) ?_
 refine vc_drop [ζ15,ζ18,ζ10,ζ17,ζ14,ζ16,(S s2),ζ12] [ζ13] ((List.perm_middle (l₁:=[ζ15,ζ18,ζ10,ζ17,ζ14,ζ16,(S s2),ζ12]) (l₂:=[])).trans (List.perm_append_comm (l₁:=[ζ13]))) ?_
 refine vc_drop [ζ15,ζ18,ζ10,ζ17,ζ14,ζ16,(S s2)] [ζ12] ((List.perm_middle (l₁:=[ζ15,ζ18,ζ10,ζ17,ζ14,ζ16,(S s2)]) (l₂:=[])).trans (List.perm_append_comm (l₁:=[ζ12]))) ?_
 refine vc_ret ?_
 refine rq1 ζ26 rfl ?_
 subst ζ2 ζ3 ζ4 ζ17 ζ18 ζ39 ζ40 ζ10 ζ14 ζ30 ζ26 ζ16 ζ12 ζ13 ζ15
 exact ⟨L2,(ndR M2 (tpN vars Ds k i.toNat) p1 p2).1,setF D2 k (ndR M2 (tpN vars Ds k i.toNat) p1 p2).2,(ndR M2 (tpN vars Ds k i.toNat) p1 p2).2,u2,w3,s2,rfl,rfl,by omega,hvY,fun F hF=>hxX F (hxY F hF),fun F hF=>comb_node hE.sv hd hK ht (X F (hxY F hF)) (Y F hF) (by rw [htp])⟩
theorem comb_c {vars:Int} {Ds:List Mg} {γ:Type} {S:γ→Asrt} {Ag:γ→(Int→Int→Int→Int)→Prop} {sz:γ→Nat} {Iv:γ→List Int→Prop} {lv:Value} {lvs nvs:List Value} {fid:Nat} {fcaps:List Value} {pd pl pf pr pm bb bd ba bi:Nat}:∀ n,CmbC vars Ds S Ag sz Iv lv lvs nvs fid fcaps pd pl pf pr pm bb bd ba bi n
  | 0=>fun V k L M Dn u w s _ _ _ hn=>by omega
  | n+1=>fun V k L M Dn u w s hE hIv hK hn hI hMb hLb hSb=>comb_step (comb_c n) hE hIv hK hn hI hMb hLb hSb
end Go.Proofs.Ytkmhjcjpohpiaaa
