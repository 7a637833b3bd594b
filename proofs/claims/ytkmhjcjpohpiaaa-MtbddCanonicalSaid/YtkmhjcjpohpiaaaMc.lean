import Derived.Test.YtkmhjcjpohpiaaaMb
import Derived.Test.YtkmhjcjpohpiaaaWb
/- Walks of mtbdd: what each function returns. Printed by a program out of notes. -/
namespace Go.Proofs.Ytkmhjcjpohpiaaa
open Go.Vc
open Classical
set_option maxRecDepth 100000
set_option maxHeartbeats 4000000
theorem combine_s {V:HV} {vars:Int} {Ds:List Mg} {γ:Type} {S:γ→Asrt} {Ag:γ→(Int→Int→Int→Int)→Prop} {sz:γ→Nat} {Iv:γ→List Int→Prop} {s:γ} {lv:Value} {lvs nvs:List Value} {fid:Nat} {fcaps:List Value} {bb ba bi:Nat} {L:List Int} {M:List Fk} {u w:Value} (hM:Mdl V lv lvs nvs Ds) (hd:DsOk vars Ds) (hsv:SameV vars Ds) (hrg:Rng Ds) (h1:1≤Ds.length) (hr:Rts Ds) (hok:BOk vars L M) (hMb:M.length≤1099511627776) (hLb:L.length≤1099511627776) (hIv:Iv s L) (hSb:sz s≤1099511627776) (hf:∀ W,Vc.Sub V W→∀ (s:γ) (x y z:Int),inR x→inR y→inR z→sz s+1≤2199023255552→FnC Try.prog fid (.agg #[.int .i64 x,.int .i64 y,.int .i64 z] :: fcaps) W [S s] (fun v _ σ'=>∃ s' t,v=.int .i64 t∧σ' = [S s']∧sz s'≤sz s+1∧Nx Ag s s'∧(∀ L,Iv s L→Iv s' (lfR L t).1)∧∀ F,Ag s' F→F x y z=t)) (hne:∀ s,∃ F,Ag s F) :
    FnC Try.prog 66 [(Value.pointer (some ⟨bb,0,none⟩)),lv,(Value.func (.func fid) #[] fcaps.toArray)] V [(Arr 113 bb [u,w,(Value.map (some ba)),(Value.map (some bi)),(.bool (decide (wd L)))]),(Gr 3 1 u L.length ((L.map (Value.int .i64)))),(Gr 80 3 w M.length ((fks M))),(Mf ba (Value.int .i64) (Value.int .i64) (lfF L)),(Mf bi fkv (Value.int .i64) (idF M)),(S s)] (fun v _ σ'=>∃ L' M' p u' w' s',v=.int .i64 p∧σ' = [Arr 113 bb [u',w',.map (some ba),.map (some bi),.bool (decide (wd L'))],Gr 3 1 u' L'.length (L'.map (Value.int .i64)),Gr 80 3 w' M'.length (fks M'),Mf ba (Value.int .i64) (Value.int .i64) (lfF L'),Mf bi fkv (Value.int .i64) (idF M'),S s']∧sz s'≤sz s+1099511627776∧Iv s' L'∧Nx Ag s s'∧M'.length≤M.length+1099511627776∧L'.length≤L.length+1099511627776∧∀ F,Ag s' F→BOk vars L' M'∧Std vars Ds F L' M' (rt Ds) p∧∀ z ∈ L',z ∈ L ∨ ∃ e,gF Ds F (rt Ds) e=z):=by
 refine fn_intro (N:=29) Try.func66 (by kernel_rfl) rfl rfl rfl (Nat.le_of_ble_eq_true rfl) ?_
 intro w0 D
 have hb:=SlS.bound hM.sl
 have hle:=hd.le
 have hv0:=hd.v0
 have hv1:=hd.v1
 have hsub:=Vc.Sub.refl V
 have hK:=rt_ok hr
 have hpw:=comb_pow hd hK
 have hpw1:=one_le_two_pow' (vars - mlv vars Ds (rt Ds)).toNat
 refine vc_seq ?_
 let ζ3:Asrt:=Mf ba (Value.int .i64) (Value.int .i64) (lfF L)
 let ζ4:Asrt:=Gr 3 1 u L.length ((L.map (Value.int .i64)))
 let ζ7:Asrt:=Arr 113 bb [u,w,(Value.map (some ba)),(Value.map (some bi)),(.bool (decide (wd L)))]
 let ζ8:Asrt:=Mf bi fkv (Value.int .i64) (idF M)
 let ζ10:Asrt:=Gr 80 3 w M.length ((fks M))
 refine vc_res (σ':=[ζ7,ζ4,ζ10,ζ3,ζ8,(S s)]) rfl ?_
 refine vc_region ?_
 let ζ18:Value:=Value.pointer (some ⟨bb,0,none⟩)
 refine ops_box (v:=ζ18) (cs:=[ζ18]) rfl rfl (fun b1=>?_)
 refine ops_box (v:=lv) (cs:=[lv]) rfl (SlS.cells hM.sl) (fun b2=>?_)
 let ζ16:Value:=Value.func (.func fid) #[] fcaps.toArray
 refine ops_box (v:=ζ16) (cs:=[ζ16]) rfl rfl (fun b3=>?_)
 refine oq (qv_as (Value.int .i64 0) rfl) ?_
 refine ops_nil ?_
 refine vc_seq ?_
 let ζ6:Asrt:=Arr 98 b3 [(Value.func (.func fid) #[] fcaps.toArray)]
 let ζ9:Asrt:=Arr 91 b1 [(Value.pointer (some ⟨bb,0,none⟩))]
 refine vc_res (σ':=[ζ7,ζ4,ζ10,ζ3,ζ8,(S s),ζ9,(Arr 102 b2 [lv]),ζ6]) rfl ?_
 refine vc_region ?_
 refine ops_mkmap0 kv (Value.int .i64) (fun b4=>?_)
 refine ops_alloc Try.ti137 rfl (fun b5=>?_)
 refine ops_stp (k:=10) (off:=0) (cs:=[(Value.map none)]) Try.size137 rfl (rfl:ev _ _=(Value.map (some b4))) rfl rfl (Nat.le_of_ble_eq_true rfl) ?_
 refine ops_nil ?_
 refine vc_seq ?_
 let ζ12:Asrt:=Arr 137 b5 [(Value.map (some b4))]
 refine vc_res (σ':=[ζ7,ζ4,ζ10,ζ3,ζ8,(S s),ζ9,(Arr 102 b2 [lv]),ζ6,(Mf b4 kv (Value.int .i64) (fun _=>none)),ζ12]) rfl ?_
 refine vc_region ?_
 refine ops_alloc Try.ti98 rfl (fun b6=>?_)
 refine ops_nil ?_
 refine vc_seq ?_
 refine vc_res (σ':=[ζ7,ζ4,ζ10,ζ3,ζ8,(S s),ζ9,(Arr 102 b2 [lv]),ζ6,(Mf b4 kv (Value.int .i64) (fun _=>none)),ζ12,(Arr 98 b6 [Value.nilFunc])]) rfl ?_
 refine vc_region ?_
 refine oq (qv_func (cs:=[(Value.pointer (some ⟨b5,0,none⟩)),(Value.pointer (some ⟨b2,0,none⟩)),(Value.pointer (some ⟨b1,0,none⟩)),(Value.pointer (some ⟨b3,0,none⟩)),(Value.pointer (some ⟨b6,0,none⟩))]) rfl) ?_
 let ζ1:Value:=Value.func (.func 102) #[] #[(Value.pointer (some ⟨b5,0,none⟩)),(Value.pointer (some ⟨b2,0,none⟩)),(Value.pointer (some ⟨b1,0,none⟩)),(Value.pointer (some ⟨b3,0,none⟩)),(Value.pointer (some ⟨b6,0,none⟩))]
 refine ops_stp (k:=11) (off:=0) (cs:=[Value.nilFunc]) Try.size98 rfl (rfl:ev _ _=ζ1) rfl rfl (Nat.le_of_ble_eq_true rfl) ?_
 refine ops_nil ?_
 refine vc_seq ?_
 refine vc_res (σ':=[ζ7,ζ4,ζ10,ζ3,ζ8,(S s),ζ9,(Arr 102 b2 [lv]),ζ6,(Mf b4 kv (Value.int .i64) (fun _=>none)),ζ12,(Arr 98 b6 [ζ1])]) rfl ?_
 refine vc_region ?_
 refine ops_alloc Try.ti97 rfl (fun b7=>?_)
 refine ops_nil ?_
 refine vc_seq ?_
 refine vc_seq ?_
 refine vc_res (σ':=[ζ7,ζ4,ζ10,ζ3,ζ8,(S s),ζ9,(Arr 102 b2 [lv]),ζ6,(Mf b4 kv (Value.int .i64) (fun _=>none)),ζ12,(Arr 98 b6 [ζ1]),(Arr 97 b7 [(Value.int .i64 0),(Value.int .i64 0),(Value.int .i64 0)])]) rfl ?_
 refine vc_region ?_
 refine oq (qv_ldp (v:=lv) Try.plain102 rfl (inOc (k:=7) rfl) rfl) ?_
 refine oq (qv_lenSS Try.underlying102 rfl hM.sl) ?_
 refine oq (qv_mv (Value.int .i64 0) rfl) ?_
 refine ops_nil ?_
 refine vc_block ?_
 refine vc_loop (α:=Int) (fun (xx:Int)=>[(0,ζ18),(1,lv),(2,ζ16),(3,(Value.pointer (some ⟨b1,0,none⟩))),(4,(Value.pointer (some ⟨b2,0,none⟩))),(5,(Value.pointer (some ⟨b3,0,none⟩))),(6,(Value.int .i64 0)),(7,(Value.pointer (some ⟨b5,0,none⟩))),(8,(Value.pointer (some ⟨b6,0,none⟩))),(9,(Value.pointer (some ⟨b7,0,none⟩))),(14,lv),(15,(.int .i64 ((Ds.length:Int)))),(16,(Value.int .i64 xx))]) (fun (xx:Int) V' σ'=>V=V'∧[ζ7,ζ4,ζ10,ζ3,ζ8,(S s),ζ9,(Arr 102 b2 [lv]),ζ6,(Mf b4 kv (Value.int .i64) (fun _=>none)),ζ12,(Arr 98 b6 [ζ1]),(Arr 97 b7 [(.int .i64 (rn Ds xx.toNat 0)),(.int .i64 (rn Ds xx.toNat 1)),(.int .i64 (rn Ds xx.toNat 2))])]=σ'∧0≤xx∧xx≤Ds.length) (fun (xx:Int)=>(Ds.length - xx).toNat) (0) ?_ ?_ ?_
 exact ⟨rfl,rfl,rfl,rfl,rfl,rfl,rfl,rfl,rfl,rfl,rfl,rfl,rfl,trivial⟩
 subst ζ3 ζ4 ζ7 ζ8 ζ10 ζ18 ζ16 ζ6 ζ9 ζ12 ζ1; exact ⟨rfl,(show [(Arr 113 bb [u,w,(Value.map (some ba)),(Value.map (some bi)),(.bool (decide (wd L)))]),(Gr 3 1 u L.length ((L.map (Value.int .i64)))),(Gr 80 3 w M.length ((fks M))),(Mf ba (Value.int .i64) (Value.int .i64) (lfF L)),(Mf bi fkv (Value.int .i64) (idF M)),(S s),(Arr 91 b1 [(Value.pointer (some ⟨bb,0,none⟩))]),(Arr 102 b2 [lv]),(Arr 98 b3 [(Value.func (.func fid) #[] fcaps.toArray)]),(Mf b4 kv (Value.int .i64) (fun _=>none)),(Arr 137 b5 [(Value.map (some b4))]),(Arr 98 b6 [(Value.func (.func 102) #[] #[(Value.pointer (some ⟨b5,0,none⟩)),(Value.pointer (some ⟨b2,0,none⟩)),(Value.pointer (some ⟨b1,0,none⟩)),(Value.pointer (some ⟨b3,0,none⟩)),(Value.pointer (some ⟨b6,0,none⟩))])]),(Arr 97 b7 [(.int .i64 (rn Ds (0:Int).toNat 0)),(.int .i64 (rn Ds (0:Int).toNat 1)),(.int .i64 (rn Ds (0:Int).toNat 2))])]=[(Arr 113 bb [u,w,(Value.map (some ba)),(Value.map (some bi)),(.bool (decide (wd L)))]),(Gr 3 1 u L.length ((L.map (Value.int .i64)))),(Gr 80 3 w M.length ((fks M))),(Mf ba (Value.int .i64) (Value.int .i64) (lfF L)),(Mf bi fkv (Value.int .i64) (idF M)),(S s),(Arr 91 b1 [(Value.pointer (some ⟨bb,0,none⟩))]),(Arr 102 b2 [lv]),(Arr 98 b3 [(Value.func (.func fid) #[] fcaps.toArray)]),(Mf b4 kv (Value.int .i64) (fun _=>none)),(Arr 137 b5 [(Value.map (some b4))]),(Arr 98 b6 [(Value.func (.func 102) #[] #[(Value.pointer (some ⟨b5,0,none⟩)),(Value.pointer (some ⟨b2,0,none⟩)),(Value.pointer (some ⟨b1,0,none⟩)),(Value.pointer (some ⟨b3,0,none⟩)),(Value.pointer (some ⟨b6,0,none⟩))])]),(Arr 97 b7 [(Value.int .i64 0),(Value.int .i64 0),(Value.int .i64 0)])] from by simp only [show Int.toNat 0=0 from rfl,rn_0]),by omega,by omega⟩
 rintro i e1 V0l σ0l hI0
 let ζ13:Asrt:=Arr 97 b7 [(.int .i64 (rn Ds i.toNat 0)),(.int .i64 (rn Ds i.toNat 1)),(.int .i64 (rn Ds i.toNat 2))]
 obtain ⟨rfl,rfl,i1,i2⟩:V=V0l∧[ζ7,ζ4,ζ10,ζ3,ζ8,(S s),ζ9,(Arr 102 b2 [lv]),ζ6,(Mf b4 kv (Value.int .i64) (fun _=>none)),ζ12,(Arr 98 b6 [ζ1]),ζ13]=σ0l∧0≤i∧i≤Ds.length:=hI0
 refine vc_seq ?_
 refine vc_res (σ':=[ζ7,ζ4,ζ10,ζ3,ζ8,(S s),ζ9,(Arr 102 b2 [lv]),ζ6,(Mf b4 kv (Value.int .i64) (fun _=>none)),ζ12,(Arr 98 b6 [ζ1]),ζ13]) rfl ?_
 refine vc_region ?_
 refine oq (qv_lss rfl rfl) ?_
 refine ops_nil ?_
 refine vc_seq ?_
 refine vc_if rfl (fun c1=>?_) (fun c1=>?_)
 refine vc_skip ?_
 refine vc_seq ?_
 refine vc_block ?_
 refine vc_seq ?_
 refine vc_region ?_
 refine oq (qv_mv (Value.int .i64 i) rfl) ?_
 refine oq (qv_ias (v:=lv) (i:=i) Try.underlying102 Try.size25 rfl hM.sl rfl (by omega) (by omega)) ?_
 refine oq (qv_lds (v:=lv) (i:=i) (vs:=[(.int .i64 ((dm Ds (i)).v)),(gv lvs (i)),(gv nvs (i)),(.int .i64 ((dm Ds (i)).r))]) Try.agg25 rfl hM.sl (by omega) (by omega) (mdls_at (by omega) (by omega))) ?_
 refine ops_alloc Try.ti25 rfl (fun b8=>?_)
 refine oq (qv_as (Value.int .i64 i) rfl) ?_
 refine ops_stw (k:=13) (vs:=[(.int .i64 ((dm Ds (i)).v)),(gv lvs (i)),(gv nvs (i)),(.int .i64 ((dm Ds (i)).r))]) Try.size25 rfl rfl rfl (allc rfl (allc (Sl.one (hM.at_ (i) (by omega) (by omega)).l) (allc (SlS.one (hM.at_ (i) (by omega) (by omega)).n) (allc rfl rfl)))) rfl rfl ?_
 refine ops_nil ?_
 refine vc_res (σ':=[ζ7,ζ4,ζ10,ζ3,ζ8,(S s),ζ9,(Arr 102 b2 [lv]),ζ6,(Mf b4 kv (Value.int .i64) (fun _=>none)),ζ12,(Arr 98 b6 [ζ1]),ζ13,(Arr 25 b8 [(.int .i64 ((dm Ds (i)).v)),(gv lvs (i)),(gv nvs (i)),(.int .i64 ((dm Ds (i)).r))])]) rfl ?_
 refine vc_region ?_
 refine oq (qv_mv (Value.int .i64 i) rfl) ?_
 refine oq (qv_fa (off:=0) Try.field25_3 rfl) ?_
 refine oq (qv_ldp (v:=(.int .i64 ((dm Ds (i)).r))) Try.plain3 rfl (inOc (k:=13) rfl) rfl) ?_
 refine oq (qv_iav (i:=i) (off:=0) Try.underlying97 Try.size3 rfl rfl (by omega) (by omega)) ?_
 subst ζ3 ζ4 ζ7 ζ8 ζ10 ζ18 ζ16 ζ6 ζ9 ζ12 ζ1 ζ13
 refine ops_stp (k:=12) (off:=0+(i).toNat) (cs:=[(.int .i64 (rn Ds i.toNat 0)),(.int .i64 (rn Ds i.toNat 1)),(.int .i64 (rn Ds i.toNat 2))]) Try.size3 rfl (rfl:ev _ _=(.int .i64 ((dm Ds (i)).r))) rfl rfl (by simp; omega) ?_
 refine ops_nil ?_
 let ζ1:Value:=Value.func (.func 102) #[] #[(Value.pointer (some ⟨b5,0,none⟩)),(Value.pointer (some ⟨b2,0,none⟩)),(Value.pointer (some ⟨b1,0,none⟩)),(Value.pointer (some ⟨b3,0,none⟩)),(Value.pointer (some ⟨b6,0,none⟩))]
 let ζ3:Asrt:=Mf ba (Value.int .i64) (Value.int .i64) (lfF L)
 let ζ4:Asrt:=Gr 3 1 u L.length ((L.map (Value.int .i64)))
 let ζ6:Asrt:=Arr 98 b3 [(Value.func (.func fid) #[] fcaps.toArray)]
 let ζ8:Asrt:=Mf bi fkv (Value.int .i64) (idF M)
 let ζ9:Asrt:=Arr 91 b1 [(Value.pointer (some ⟨bb,0,none⟩))]
 let ζ10:Asrt:=Gr 80 3 w M.length ((fks M))
 let ζ12:Asrt:=Arr 137 b5 [(Value.map (some b4))]
 refine vc_res (σ':=[(Arr 113 bb [u,w,(Value.map (some ba)),(Value.map (some bi)),(.bool (decide (wd L)))]),ζ4,ζ10,ζ3,ζ8,(S s),ζ9,(Arr 102 b2 [lv]),ζ6,(Mf b4 kv (Value.int .i64) (fun _=>none)),ζ12,(Arr 98 b6 [ζ1]),(Arr 97 b7 (([(.int .i64 (rn Ds i.toNat 0)),(.int .i64 (rn Ds i.toNat 1)),(.int .i64 (rn Ds i.toNat 2))]).set (0+(i).toNat) (.int .i64 ((dm Ds (i)).r)))),(Arr 25 b8 [(.int .i64 ((dm Ds (i)).v)),(gv lvs (i)),(gv nvs (i)),(.int .i64 ((dm Ds (i)).r))])]) rfl ?_
 let ζ21:Value:=Value.int .i64 ((dm Ds (i)).r)
 refine vc_drop [(Arr 113 bb [u,w,(Value.map (some ba)),(Value.map (some bi)),(Value.bool (decide (wd L)))]),ζ4,ζ10,ζ3,ζ8,(S s),ζ9,(Arr 102 b2 [lv]),ζ6,(Mf b4 kv (Value.int .i64) (fun _=>none)),ζ12,(Arr 98 b6 [ζ1]),(Arr 97 b7 (([(Value.int .i64 (rn Ds i.toNat 0)),(Value.int .i64 (rn Ds i.toNat 1)),(Value.int .i64 (rn Ds i.toNat 2))]).set (0+(i).toNat) ζ21))] [(Arr 25 b8 [(Value.int .i64 ((dm Ds (i)).v)),(gv lvs (i)),(gv nvs (i)),ζ21])] ((List.perm_middle (l₁:=[(Arr 113 bb [u,w,(Value.map (some ba)),(Value.map (some bi)),(Value.bool (decide (wd L)))]),ζ4,ζ10,ζ3,ζ8,(S s),ζ9,(Arr 102 b2 [lv]),ζ6,(Mf b4 kv (Value.int .i64) (fun _=>none)),ζ12,(Arr 98 b6 [ζ1]),(Arr 97 b7 (([(Value.int .i64 (rn Ds i.toNat 0)),(Value.int .i64 (rn Ds i.toNat 1)),(Value.int .i64 (rn Ds i.toNat 2))]).set (0+(i).toNat) ζ21))]) (l₂:=[])).trans (List.perm_append_comm (l₁:=[(Arr 25 b8 [(Value.int .i64 ((dm Ds (i)).v)),(gv lvs (i)),(gv nvs (i)),ζ21])]))) ?_
 refine vc_region ?_
 refine oq (qv_add rfl rfl (by omega)) ?_
 refine oq (qv_mv (.int .i64 (i+1)) rfl) ?_
 refine ops_nil ?_
 subst ζ1 ζ3 ζ4 ζ6 ζ8 ζ9 ζ10 ζ12 ζ21
 refine ⟨(i+1),⟨rfl,rfl,rfl,rfl,rfl,rfl,rfl,rfl,rfl,rfl,rfl,rfl,(congrArg (Value.int .i64) (show (i+1)=((i+1)) from by omega)),trivial⟩,⟨rfl,(show [(Arr 113 bb [u,w,(Value.map (some ba)),(Value.map (some bi)),(.bool (decide (wd L)))]),(Gr 3 1 u L.length ((L.map (Value.int .i64)))),(Gr 80 3 w M.length ((fks M))),(Mf ba (Value.int .i64) (Value.int .i64) (lfF L)),(Mf bi fkv (Value.int .i64) (idF M)),(S s),(Arr 91 b1 [(Value.pointer (some ⟨bb,0,none⟩))]),(Arr 102 b2 [lv]),(Arr 98 b3 [(Value.func (.func fid) #[] fcaps.toArray)]),(Mf b4 kv (Value.int .i64) (fun _=>none)),(Arr 137 b5 [(Value.map (some b4))]),(Arr 98 b6 [(Value.func (.func 102) #[] #[(Value.pointer (some ⟨b5,0,none⟩)),(Value.pointer (some ⟨b2,0,none⟩)),(Value.pointer (some ⟨b1,0,none⟩)),(Value.pointer (some ⟨b3,0,none⟩)),(Value.pointer (some ⟨b6,0,none⟩))])]),(Arr 97 b7 [(.int .i64 (rn Ds (i+1:Int).toNat 0)),(.int .i64 (rn Ds (i+1:Int).toNat 1)),(.int .i64 (rn Ds (i+1:Int).toNat 2))])]=[(Arr 113 bb [u,w,(Value.map (some ba)),(Value.map (some bi)),(.bool (decide (wd L)))]),(Gr 3 1 u L.length ((L.map (Value.int .i64)))),(Gr 80 3 w M.length ((fks M))),(Mf ba (Value.int .i64) (Value.int .i64) (lfF L)),(Mf bi fkv (Value.int .i64) (idF M)),(S s),(Arr 91 b1 [(Value.pointer (some ⟨bb,0,none⟩))]),(Arr 102 b2 [lv]),(Arr 98 b3 [(Value.func (.func fid) #[] fcaps.toArray)]),(Mf b4 kv (Value.int .i64) (fun _=>none)),(Arr 137 b5 [(Value.map (some b4))]),(Arr 98 b6 [(Value.func (.func 102) #[] #[(Value.pointer (some ⟨b5,0,none⟩)),(Value.pointer (some ⟨b2,0,none⟩)),(Value.pointer (some ⟨b1,0,none⟩)),(Value.pointer (some ⟨b3,0,none⟩)),(Value.pointer (some ⟨b6,0,none⟩))])]),(Arr 97 b7 (([(.int .i64 (rn Ds i.toNat 0)),(.int .i64 (rn Ds i.toNat 1)),(.int .i64 (rn Ds i.toNat 2))]).set (0+(i).toNat) (.int .i64 ((dm Ds (i)).r))))] from by rw [show ([(.int .i64 (rn Ds (i+1).toNat 0)),(.int .i64 (rn Ds (i+1).toNat 1)),(.int .i64 (rn Ds (i+1).toNat 2))]:List Value)=([(.int .i64 (rn Ds i.toNat 0)),(.int .i64 (rn Ds i.toNat 1)),(.int .i64 (rn Ds i.toNat 2))]:List Value).set (0+i.toNat) (.int .i64 (dm Ds (i)).r) from (rnL_step (by omega) (by omega)).symm]),by omega,by omega⟩,by omega⟩
 refine vc_exit ?_
 refine blockQ_hit ?_
 refine vc_seq ?_
 have hrt:rnL Ds i.toNat=rt Ds:=rnL_all (by omega)
 let ζ2:Asrt:=Arr 97 b7 [(Value.int .i64 (rn Ds i.toNat 0)),(Value.int .i64 (rn Ds i.toNat 1)),(Value.int .i64 (rn Ds i.toNat 2))]
 let ζ5:Asrt:=Arr 113 bb [u,w,(Value.map (some ba)),(Value.map (some bi)),(Value.bool (decide (wd L)))]
 refine vc_freeze (b:=b5) (o:=.cells ([(Value.map (some b4))]:List Value).toArray 137 (0,0)) (σr:=[ζ5,ζ4,ζ10,ζ3,ζ8,(S s),ζ9,(Arr 102 b2 [lv]),ζ6,(Mf b4 kv (Value.int .i64) (fun _=>none)),(Arr 98 b6 [ζ1]),ζ2]) (List.perm_middle (l₁:=[ζ5,ζ4,ζ10,ζ3,ζ8,(S s),ζ9,(Arr 102 b2 [lv]),ζ6,(Mf b4 kv (Value.int .i64) (fun _=>none))]) (l₂:=[(Arr 98 b6 [ζ1]),ζ2])) (fun Vf1 hVf1 hb1=>?_)
 have hc1:Cells Vf1 b5 [(Value.map (some b4))]:=⟨_,_,hb1⟩
 have hM:=hM.mono hVf1
 have hsub:=hsub.mono hVf1
 refine vc_freeze (b:=b2) (o:=.cells ([lv]:List Value).toArray 102 (0,0)) (σr:=[ζ5,ζ4,ζ10,ζ3,ζ8,(S s),ζ9,ζ6,(Mf b4 kv (Value.int .i64) (fun _=>none)),(Arr 98 b6 [ζ1]),ζ2]) (List.perm_middle (l₁:=[ζ5,ζ4,ζ10,ζ3,ζ8,(S s),ζ9]) (l₂:=[ζ6,(Mf b4 kv (Value.int .i64) (fun _=>none)),(Arr 98 b6 [ζ1]),ζ2])) (fun Vf2 hVf2 hb2=>?_)
 have hc2:Cells Vf2 b2 [lv]:=⟨_,_,hb2⟩
 have hM:=hM.mono hVf2
 have hsub:=hsub.mono hVf2
 have hc1:=hc1.mono hVf2
 refine vc_freeze (b:=b1) (o:=.cells ([ζ18]:List Value).toArray 91 (0,0)) (σr:=[ζ5,ζ4,ζ10,ζ3,ζ8,(S s),ζ6,(Mf b4 kv (Value.int .i64) (fun _=>none)),(Arr 98 b6 [ζ1]),ζ2]) (List.perm_middle (l₁:=[ζ5,ζ4,ζ10,ζ3,ζ8,(S s)]) (l₂:=[ζ6,(Mf b4 kv (Value.int .i64) (fun _=>none)),(Arr 98 b6 [ζ1]),ζ2])) (fun Vf3 hVf3 hb3=>?_)
 have hc3:Cells Vf3 b1 [ζ18]:=⟨_,_,hb3⟩
 have hM:=hM.mono hVf3
 have hsub:=hsub.mono hVf3
 have hc1:=hc1.mono hVf3
 have hc2:=hc2.mono hVf3
 refine vc_freeze (b:=b3) (o:=.cells ([ζ16]:List Value).toArray 98 (0,0)) (σr:=[ζ5,ζ4,ζ10,ζ3,ζ8,(S s),(Mf b4 kv (Value.int .i64) (fun _=>none)),(Arr 98 b6 [ζ1]),ζ2]) (List.perm_middle (l₁:=[ζ5,ζ4,ζ10,ζ3,ζ8,(S s)]) (l₂:=[(Mf b4 kv (Value.int .i64) (fun _=>none)),(Arr 98 b6 [ζ1]),ζ2])) (fun Vf4 hVf4 hb4=>?_)
 have hc4:Cells Vf4 b3 [ζ16]:=⟨_,_,hb4⟩
 have hM:=hM.mono hVf4
 have hsub:=hsub.mono hVf4
 have hc1:=hc1.mono hVf4
 have hc2:=hc2.mono hVf4
 have hc3:=hc3.mono hVf4
 refine vc_freeze (b:=b6) (o:=.cells ([ζ1]:List Value).toArray 98 (0,0)) (σr:=[ζ5,ζ4,ζ10,ζ3,ζ8,(S s),(Mf b4 kv (Value.int .i64) (fun _=>none)),ζ2]) (List.perm_middle (l₁:=[ζ5,ζ4,ζ10,ζ3,ζ8,(S s),(Mf b4 kv (Value.int .i64) (fun _=>none))]) (l₂:=[ζ2])) (fun Vf5 hVf5 hb5=>?_)
 have hc5:Cells Vf5 b6 [ζ1]:=⟨_,_,hb5⟩
 have hM:=hM.mono hVf5
 have hsub:=hsub.mono hVf5
 have hc1:=hc1.mono hVf5
 have hc2:=hc2.mono hVf5
 have hc3:=hc3.mono hVf5
 have hc4:=hc4.mono hVf5
 refine vc_region ?_
 refine oq (qv_ldp (v:=ζ1) Try.plain98 rfl (inVc hc5) rfl) ?_
 refine oq (qv_ldm (vs:=[(.int .i64 (rn Ds i.toNat 0)),(.int .i64 (rn Ds i.toNat 1)),(.int .i64 (rn Ds i.toNat 2))]) Try.agg97 rfl (inOc (k:=7) rfl) rfl rfl) ?_
 subst ζ3 ζ4 ζ7 ζ8 ζ10 ζ18 ζ16 ζ6 ζ9 ζ12 ζ1 ζ13 ζ2 ζ5
 refine ops_call (σa:=[(Arr 113 bb [u,w,(Value.map (some ba)),(Value.map (some bi)),(.bool (decide (wd L)))]),(Gr 3 1 u L.length ((L.map (Value.int .i64)))),(Gr 80 3 w M.length ((fks M))),(Mf ba (Value.int .i64) (Value.int .i64) (lfF L)),(Mf bi fkv (Value.int .i64) (idF M)),(Mf b4 kv (Value.int .i64) (fun _=>none)),(S s)]) (σr:=[(Arr 97 b7 [(.int .i64 (rn Ds i.toNat 0)),(.int .i64 (rn Ds i.toNat 1)),(.int .i64 (rn Ds i.toNat 2))])]) (by have h:=comb_c (ba:=ba) (bi:=bi) (vars:=vars) (S:=S) (Ag:=Ag) (sz:=sz) (Iv:=Iv) ((vars - mlv vars Ds (rt Ds)).toNat+1) _ (rt Ds) L M (fun _=>none) u w s ⟨hM,hd,hsv,hrg,h1,hc1,hc2,hc3,hc4,hc5,fun W q=>hf W (hsub.trans q),hne⟩ hIv hK (by omega) (fun _ _=>⟨hok,fun _ _ h=>by cases h⟩) (by omega) (by omega) (by omega); rw [← hrt] at h; exact h) rfl rfl (perm_idx _ _ [0,1,2,3,4,6,5,7] rfl rfl) (fun r1 V1 sg1 hV1 hp1=>?_)
 obtain ⟨L1,M1,D1,p1,u1,w1,s1,rfl,rfl,hzX,hvX,hxX,X⟩:=hp1
 rw [hrt] at X hzX
 have hM:=hM.mono hV1
 have hsub:=hsub.mono hV1
 have hc1:=hc1.mono hV1
 have hc2:=hc2.mono hV1
 have hc3:=hc3.mono hV1
 have hc4:=hc4.mono hV1
 have hc5:=hc5.mono hV1
 let ζ14:Asrt:=Mf ba (Value.int .i64) (Value.int .i64) (lfF L1)
 let ζ15:Asrt:=Gr 3 1 u1 L1.length ((L1.map (Value.int .i64)))
 let ζ17:Asrt:=Mf bi fkv (Value.int .i64) (idF M1)
 let ζ19:Asrt:=Gr 80 3 w1 M1.length ((fks M1))
 let ζ20:Asrt:=Mf b4 kv (Value.int .i64) D1
 refine ops_perm (σ':=[(Arr 113 bb [u1,w1,(Value.map (some ba)),(Value.map (some bi)),(.bool (decide (wd L1)))]),ζ15,ζ19,ζ14,ζ17,(S s1),ζ20,(Arr 97 b7 [(.int .i64 (rn Ds i.toNat 0)),(.int .i64 (rn Ds i.toNat 1)),(.int .i64 (rn Ds i.toNat 2))])]) (perm_idx _ _ [0,1,2,3,4,6,5,7] rfl rfl) ?_
 refine oq (qv_as (Value.int .i64 p1) rfl) ?_
 refine ops_nil ?_
 let ζ11:Asrt:=Arr 113 bb [u1,w1,(Value.map (some ba)),(Value.map (some bi)),(Value.bool (decide (wd L1)))]
 refine vc_drop [ζ11,ζ15,ζ19,ζ14,ζ17,(S s1),ζ20] [(Arr 97 b7 [(Value.int .i64 (rn Ds i.toNat 0)),(Value.int .i64 (rn Ds i.toNat 1)),(Value.int .i64 (rn Ds i.toNat 2))])] ((List.perm_middle (l₁:=[ζ11,ζ15,ζ19,ζ14,ζ17,(S s1),ζ20]) (l₂:=[])).trans (List.perm_append_comm (l₁:=[(Arr 97 b7 [(Value.int .i64 (rn Ds i.toNat 0)),(Value.int .i64 (rn Ds i.toNat 1)),(Value.int .i64 (rn Ds i.toNat 2))])]))) ?_
 refine vc_drop [ζ11,ζ15,ζ19,ζ14,ζ17,(S s1)] [ζ20] ((List.perm_middle (l₁:=[ζ11,ζ15,ζ19,ζ14,ζ17,(S s1)]) (l₂:=[])).trans (List.perm_append_comm (l₁:=[ζ20]))) ?_
 refine vc_ret ?_
 refine rq1 (Value.int .i64 p1) rfl ?_
 obtain ⟨Fa,hFa⟩:=hne s1
 have hXl:=(X Fa hFa).len
 have hXl2:=(X Fa hFa).lel
 exact ⟨L1,M1,p1,u1,w1,s1,rfl,rfl,by omega,hvX,hxX,by omega,by omega,fun F hF=>⟨(X F hF).inv.ok,(X F hF).std,(X F hF).rch⟩⟩
theorem combine_c {V:HV} {vars:Int} {Ds:List Mg} {F:Int→Int→Int→Int} {lv:Value} {lvs nvs:List Value} {fid:Nat} {fcaps:List Value} {bb ba bi:Nat} {L:List Int} {M:List Fk} {u w:Value} (hM:Mdl V lv lvs nvs Ds) (hd:DsOk vars Ds) (hsv:SameV vars Ds) (hrg:Rng Ds) (h1:1≤Ds.length) (hr:Rts Ds) (hok:BOk vars L M) (hMb:M.length≤1099511627776) (hLb:L.length≤1099511627776) (hf:∀ W,Vc.Sub V W→∀ x y z:Int,inR x→inR y→inR z→FnC Try.prog fid (.agg #[.int .i64 x,.int .i64 y,.int .i64 z] :: fcaps) W [] (fun v _ _=>v=.int .i64 (F x y z))) :
    FnC Try.prog 66 [pt bb,lv,(Value.func (.func fid) #[] fcaps.toArray)] V [Arr 113 bb [u,w,.map (some ba),.map (some bi),.bool (decide (wd L))],Gr 3 1 u L.length (L.map (Value.int .i64)),Gr 80 3 w M.length (fks M),Mf ba (Value.int .i64) (Value.int .i64) (lfF L),Mf bi fkv (Value.int .i64) (idF M)] (fun v _ σ'=>∃ L' M' p u' w',v=.int .i64 p∧σ' = [Arr 113 bb [u',w',.map (some ba),.map (some bi),.bool (decide (wd L'))],Gr 3 1 u' L'.length (L'.map (Value.int .i64)),Gr 80 3 w' M'.length (fks M'),Mf ba (Value.int .i64) (Value.int .i64) (lfF L'),Mf bi fkv (Value.int .i64) (idF M')]∧BOk vars L' M'∧Std vars Ds F L' M' (rt Ds) p∧(∀ z ∈ L',z ∈ L ∨ ∃ e,gF Ds F (rt Ds) e=z)∧M'.length≤M.length+1099511627776∧L'.length≤L.length+1099511627776):=by
  refine FnC.pk_out ((combine_s (γ:=Unit) (S:=fun _=>Pk []) (Ag:=fun _ G=>G=F) (sz:=fun _=>0) (Iv:=fun _ _=>True) (s:=()) hM hd hsv hrg h1 hr hok hMb hLb trivial (by decide) (fun W q _ x y z hx hy hz _=>?_) (fun _=>⟨F,rfl⟩)).mono ?_)
  refine ((hf W q x y z hx hy hz).pk_in).mono ?_
  rintro v V' σ' _ ⟨rfl,_,rfl⟩
  exact ⟨(),_,rfl,rfl,by decide,fun _ h=>h,fun _ _=>trivial,fun G e=>by rw [e]⟩
  rintro v V' σ' _ ⟨L',M',p,u',w',_,rfl,rfl,_,_,_,a,b,c⟩
  obtain ⟨c1,c2,c3⟩:=c F rfl
  exact ⟨_,rfl,L',M',p,u',w',rfl,rfl,c1,c2,c3,a,b⟩
theorem newBuilder_c {V:HV} :
    FnC Try.prog 56 [] V [] (fun v _ σ'=>∃ bb ba bi,v=.pointer (some ⟨bb,0,none⟩)∧σ' = [Arr 113 bb [.slice none 0 0,.slice none 0 0,.map (some ba),.map (some bi),.bool (decide (wd []))],Mf ba (Value.int .i64) (Value.int .i64) (lfF []),Mf bi fkv (Value.int .i64) (idF [])]):=by
 refine FnC.drop ?_
 refine fn_intro (N:=5) Try.func56 (by kernel_rfl) rfl rfl rfl (Nat.le_of_ble_eq_true rfl) ?_
 intro w0 D
 refine vc_seq ?_
 refine vc_region ?_
 refine oq (qv_as (Value.pointer none) rfl) ?_
 refine ops_nil ?_
 refine vc_seq ?_
 refine vc_region ?_
 refine ops_mkmap0 (Value.int .i64) (Value.int .i64) (fun b1=>?_)
 refine ops_mkmap0 fkv (Value.int .i64) (fun b2=>?_)
 refine oq (qv_build (out:=[(Value.slice none 0 0),(Value.slice none 0 0),(Value.map (some b1)),(Value.map (some b2)),(Value.bool false)]) Try.build113 [(2,[(Value.map (some b1))]),(3,[(Value.map (some b2))])] rfl rfl) ?_
 refine ops_box (v:=(.agg #[(Value.slice none 0 0),(Value.slice none 0 0),(Value.map (some b1)),(Value.map (some b2)),(Value.bool false)])) (cs:=[(Value.slice none 0 0),(Value.slice none 0 0),(Value.map (some b1)),(Value.map (some b2)),(Value.bool false)]) rfl rfl (fun b3=>?_)
 refine oq (qv_as (Value.pointer (some ⟨b3,0,none⟩)) rfl) ?_
 refine ops_nil ?_
 refine vc_ret ?_
 refine rq1 (Value.pointer (some ⟨b3,0,none⟩)) rfl ?_
 rw [show (decide (wd []))=false from decide_eq_false wd_nil]
 exact ⟨[(Arr 113 b3 [(Value.slice none 0 0),(Value.slice none 0 0),(Value.map (some b1)),(Value.map (some b2)),(Value.bool false)]),(Mf b1 (Value.int .i64) (Value.int .i64) (fun _=>none)),(Mf b2 fkv (Value.int .i64) (fun _=>none))],[],perm_idx _ _ [2,0,1] rfl rfl,b3,b1,b2,rfl,rfl⟩
end Go.Proofs.Ytkmhjcjpohpiaaa
