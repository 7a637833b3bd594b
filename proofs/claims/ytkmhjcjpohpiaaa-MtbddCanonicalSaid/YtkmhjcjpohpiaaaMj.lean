import Derived.Test.YtkmhjcjpohpiaaaMi
/- Walks of mtbdd: what each function returns. Printed by a program out of notes. -/
namespace Go.Proofs.Ytkmhjcjpohpiaaa
open Go.Vc
open Classical
set_option maxRecDepth 100000
set_option maxHeartbeats 4000000
theorem restricted_c {V:HV} {la na:Value} {A:Mg} (hA:Mt V la na A) {i:Int} {b:Bool} (hok:Ok A) :
    FnC Try.prog 83 [(.agg #[(.int .i64 A.v),la,na,(.int .i64 A.r)]),(Value.int .i64 i),(.bool (decide (b=true)))] V [] (fun v V' σ'=>σ' = []∧MRs V' v (dg A.v (rsT A i b)) (0)):=by
 refine fn_intro (N:=92) Try.func83 (by kernel_rfl) rfl rfl rfl (Nat.le_of_ble_eq_true rfl) ?_
 intro w0 D
 have hbl:=Ints.bound hA.l
 have hbn:=SlS.bound hA.n
 have hl4:=hok.2.1
 have hrt:=hok.rt
 have hr0:0≤A.r:=hrt.1
 have hr1:A.r < A.L.length+A.N.length:=hrt.2
 refine vc_seq ?_
 refine vc_region ?_
 let ζ25:Value:=.agg #[(.int .i64 A.v),la,na,(.int .i64 A.r)]
 refine ops_box (v:=ζ25) (cs:=[(.int .i64 A.v),la,na,(.int .i64 A.r)]) rfl rfl (fun b1=>?_)
 refine ops_alloc Try.ti25 rfl (fun b2=>?_)
 refine oq (qv_as (Value.int .i64 0) rfl) ?_
 refine ops_nil ?_
 refine vc_seq ?_
 let ζ1:Asrt:=Arr 25 b2 [(Value.int .i64 0),(Value.slice none 0 0),(Value.slice none 0 0),(Value.int .i64 0)]
 let ζ2:Asrt:=Arr 25 b1 [(.int .i64 A.v),la,na,(.int .i64 A.r)]
 refine vc_res (σ':=[ζ2,ζ1]) rfl ?_
 refine vc_region ?_
 refine ops_call (σa:=[]) (σr:=[ζ2,ζ1]) (newBuilder_c) rfl rfl (.refl _) (fun r1 V1 sg1 hV1 hp1=>?_)
 obtain ⟨bb,ba,bi,rfl,rfl⟩:=hp1
 have hA:=hA.mono hV1
 let ζ27:Value:=Value.pointer (some ⟨bb,0,none⟩)
 refine oq (qv_as ζ27 rfl) ?_
 refine ops_nil ?_
 refine vc_seq ?_
 let ζ21:Asrt:=Arr 113 bb [(Value.slice none 0 0),(Value.slice none 0 0),(Value.map (some ba)),(Value.map (some bi)),(.bool (decide (wd [])))]
 let ζ32:Asrt:=Mf ba (Value.int .i64) (Value.int .i64) (lfF [])
 let ζ36:Asrt:=Mf bi fkv (Value.int .i64) (idF [])
 refine vc_res (σ':=[ζ21,ζ32,ζ36,ζ2,ζ1]) rfl ?_
 refine vc_nil 3 1 ?_
 refine vc_nil 80 3 ?_
 refine vc_region ?_
 refine oq (qv_fa (off:=0) Try.field25_1 rfl) ?_
 refine oq (qv_ldp (v:=la) Try.plain22 rfl (inOc (k:=3) rfl) rfl) ?_
 refine oq (qv_lenI Try.underlying22 rfl (hA.l)) ?_
 refine oq (qv_fa (off:=0) Try.field25_2 rfl) ?_
 refine oq (qv_ldp (v:=na) Try.plain23 rfl (inOc (k:=3) rfl) rfl) ?_
 refine oq (qv_lenSS Try.underlying23 rfl (hA.n)) ?_
 refine oq (qv_add rfl rfl (by omega)) ?_
 refine ops_make_gr (n:=((A.L.length:Int))+((A.N.length:Int))) Try.underlying22 Try.ti3 rfl rfl (by omega) (by omega) (by omega) (fun b3=>?_)
 let ζ22:Value:=.slice (some ⟨b3,0,none⟩) 0 (((A.L.length:Int))+((A.N.length:Int)):Int).toNat
 refine oq (qv_as ζ22 rfl) ?_
 refine ops_nil ?_
 refine vc_seq ?_
 refine vc_seq ?_
 refine vc_res (σ':=[ζ21,ζ32,ζ36,ζ2,ζ1,(Gr 3 1 ((Value.slice none 0 0)) 0 ([])),(Gr 80 3 ((Value.slice none 0 0)) 0 ([])),(Gr 3 1 (ζ22) 0 ([]))]) rfl ?_
 refine vc_region ?_
 refine oq (qv_fa (off:=0) Try.field25_1 rfl) ?_
 refine oq (qv_ldp (v:=la) Try.plain22 rfl (inOc (k:=3) rfl) rfl) ?_
 refine oq (qv_lenI Try.underlying22 rfl (hA.l)) ?_
 refine oq (qv_mv (Value.int .i64 0) rfl) ?_
 refine ops_nil ?_
 refine vc_block ?_
 refine vc_loop (α:=Int × List Int × List Int × Value × Value) (fun (xx:Int × List Int × List Int × Value × Value)=>[(0,ζ25),(1,(Value.int .i64 i)),(2,(.bool (decide (b=true)))),(3,(Value.pointer (some ⟨b1,0,none⟩))),(6,(Value.pointer (some ⟨b2,0,none⟩))),(7,(Value.int .i64 0)),(8,(Value.pointer (some ⟨bb,0,none⟩))),(26,la),(27,(.int .i64 ((A.L.length:Int)))),(9,xx.2.2.2.2),(28,(Value.int .i64 xx.1))]) (fun (xx:Int × List Int × List Int × Value × Value) V' σ'=>[(Arr 113 bb [xx.2.2.2.1,(Value.slice none 0 0),(Value.map (some ba)),(Value.map (some bi)),(.bool (decide (wd xx.2.1)))]),(Mf ba (Value.int .i64) (Value.int .i64) (lfF xx.2.1)),(Mf bi fkv (Value.int .i64) (idF ([]:List Fk))),ζ2,(Arr 25 b2 [(Value.int .i64 0),(Value.slice none 0 0),(Value.slice none 0 0),(Value.int .i64 0)]),(Gr 3 1 xx.2.2.2.1 xx.2.1.length ((xx.2.1.map (Value.int .i64)))),(Gr 80 3 ((Value.slice none 0 0)) (([]:List Fk).length) ((fks ([]:List Fk)))),(Gr 3 1 xx.2.2.2.2 xx.2.2.1.length ((xx.2.2.1.map (Value.int .i64))))]=σ'∧Mt V' la na A∧0≤xx.1∧xx.1≤A.L.length∧RInv A i b xx.2.1 [] xx.2.2.1∧xx.1=xx.2.2.1.length) (fun (xx:Int × List Int × List Int × Value × Value)=>(A.L.length - xx.1).toNat) (0,[],[],(Value.slice none 0 0),(.slice (some ⟨b3,0,none⟩) 0 (((A.L.length:Int))+((A.N.length:Int)):Int).toNat)) ?_ ?_ ?_
 subst ζ25 ζ1 ζ2 ζ27 ζ21 ζ32 ζ36 ζ22; exact ⟨rfl,rfl,rfl,rfl,rfl,rfl,rfl,rfl,rfl,(by first | rfl | (first | omega | simp)),rfl,trivial⟩
 exact (show [(Arr 113 bb [((Value.slice none 0 0):Value),(Value.slice none 0 0),(Value.map (some ba)),(Value.map (some bi)),(.bool (decide (wd ([]:List Int))))]),(Mf ba (Value.int .i64) (Value.int .i64) (lfF ([]:List Int))),(Mf bi fkv (Value.int .i64) (idF ([]:List Fk))),ζ2,ζ1,(Gr 3 1 ((Value.slice none 0 0):Value) ([]:List Int).length ((([]:List Int).map (Value.int .i64)))),(Gr 80 3 ((Value.slice none 0 0)) (([]:List Fk).length) ((fks ([]:List Fk)))),(Gr 3 1 (ζ22:Value) ([]:List Int).length ((([]:List Int).map (Value.int .i64))))]=[ζ21,ζ32,ζ36,ζ2,ζ1,(Gr 3 1 ((Value.slice none 0 0)) 0 ([])),(Gr 80 3 ((Value.slice none 0 0)) 0 ([])),(Gr 3 1 (ζ22) 0 ([]))]∧Mt V1 la na A∧0≤(0:Int)∧(0:Int)≤A.L.length∧RInv A i b ([]:List Int) [] ([]:List Int)∧(0:Int)=([]:List Int).length from ⟨rfl,hA,by omega,by omega,rinv0,rfl⟩)
 rintro ⟨k,L,R,u,rv⟩ e1 V0l σ0l hI0
 let ζ4:Asrt:=Mf ba (Value.int .i64) (Value.int .i64) (lfF L)
 let ζ5:Asrt:=Gr 3 1 u L.length ((L.map (Value.int .i64)))
 let ζ10:Asrt:=Gr 80 3 ((Value.slice none 0 0)) (([]:List Fk).length) ((fks ([]:List Fk)))
 let ζ15:Asrt:=Arr 113 bb [u,(Value.slice none 0 0),(Value.map (some ba)),(Value.map (some bi)),(.bool (decide (wd L)))]
 let ζ16:Asrt:=Mf bi fkv (Value.int .i64) (idF ([]:List Fk))
 let ζ23:Asrt:=Gr 3 1 rv R.length ((R.map (Value.int .i64)))
 obtain ⟨rfl,hA,i1,i2,c,hk⟩:[ζ15,ζ4,ζ16,ζ2,ζ1,ζ5,ζ10,ζ23]=σ0l∧Mt V0l la na A∧0≤k∧k≤A.L.length∧RInv A i b L [] R∧k=R.length:=hI0
 change VC _ _ _ _ _ _ (upds 92 [(0,ζ25),(1,(Value.int .i64 i)),(2,(.bool (decide (b=true)))),(3,(Value.pointer (some ⟨b1,0,none⟩))),(6,(Value.pointer (some ⟨b2,0,none⟩))),(7,(Value.int .i64 0)),(8,ζ27),(26,la),(27,(.int .i64 ((A.L.length:Int)))),(9,rv),(28,(Value.int .i64 k))] e1) _ _
 refine vc_seq ?_
 refine vc_res (σ':=[ζ15,ζ4,ζ16,ζ2,ζ1,ζ5,ζ10,ζ23]) rfl ?_
 refine vc_region ?_
 refine oq (qv_lss rfl rfl) ?_
 refine ops_nil ?_
 refine vc_seq ?_
 refine vc_if rfl (fun c1=>?_) (fun c1=>?_)
 refine vc_skip ?_
 refine vc_seq ?_
 refine vc_block ?_
 refine vc_seq ?_
 refine vc_region ?_
 refine oq (qv_iai (v:=la) (i:=k) Try.underlying22 Try.size3 rfl (inVi (hA.l)) rfl (by omega) (by omega)) ?_
 refine oq (qv_ldi (v:=la) (i:=k) Try.plain3 rfl (inVi (hA.l)) (by omega) (by omega)) ?_
 refine oq (qv_as (.int .i64 (gi A.L (k))) rfl) ?_
 refine ops_nil ?_
 refine vc_region ?_
 refine oq (qv_mv rv rfl) ?_
 refine oq (qv_mv ζ27 rfl) ?_
 refine oq (qv_mv (.int .i64 (gi A.L (k))) rfl) ?_
 refine ops_call (σa:=[ζ15,ζ5,ζ10,ζ4,ζ16]) (σr:=[ζ2,ζ1,ζ23]) (leaf_c (L:=L) (M:=([]:List Fk)) (z:=gi A.L (k)) (u:=u) (w:=(Value.slice none 0 0)) (by have:=c.ll; omega)) rfl rfl (perm_idx _ _ [0,5,6,1,2,3,4,7] rfl rfl) (fun r2 V2 sg2 hV2 hp2=>?_)
 obtain ⟨rfl,u3,rfl⟩:=hp2
 have hA:=hA.mono hV2
 refine ops_perm (σ':=[(Arr 113 bb [u3,(Value.slice none 0 0),(Value.map (some ba)),(Value.map (some bi)),(.bool (decide (wd (lfR L (gi A.L (k))).1)))]),(Mf ba (Value.int .i64) (Value.int .i64) (lfF (lfR L (gi A.L (k))).1)),ζ16,ζ2,ζ1,(Gr 3 1 u3 ((lfR L (gi A.L (k))).1.length) (((lfR L (gi A.L (k))).1.map (Value.int .i64)))),ζ10,ζ23]) (perm_idx _ _ [0,3,4,5,6,1,2,7] rfl rfl) ?_
 refine ops_lit (n:=1) (s:=1) (cs:=[(.int .i64 ((lfR L (gi A.L (k))).2))]) Try.underlying22 Try.ti3 (Nat.le_of_ble_eq_true rfl) rfl rfl rfl (Nat.le_of_ble_eq_true rfl) rfl (fun b4=>?_)
 subst ζ25 ζ1 ζ2 ζ27 ζ21 ζ32 ζ36 ζ22 ζ4 ζ5 ζ10 ζ15 ζ16 ζ23
 refine ops_append (k:=7) (n:=R.length) (s:=1) (m:=1) (v:=rv) (xs:=(R.map (Value.int .i64))) (news:=[(.int .i64 ((lfR L (gi A.L (k))).2))]) Try.underlying22 Try.ti3 rfl (Nat.le_of_ble_eq_true rfl) rfl rfl rfl rfl (news_own (j:=8) rfl) (by simp [Value.oneCell']) (by omega) (by simp only [maxLen]; omega) (fun v1 hn1=>?_)
 refine oq (qv_as v1 rfl) ?_
 refine ops_nil ?_
 let ζ1:Asrt:=Arr 25 b2 [(Value.int .i64 0),(Value.slice none 0 0),(Value.slice none 0 0),(Value.int .i64 0)]
 let ζ10:Asrt:=Gr 80 3 ((Value.slice none 0 0)) (([]:List Fk).length) ((fks ([]:List Fk)))
 let ζ16:Asrt:=Mf bi fkv (Value.int .i64) (idF ([]:List Fk))
 let ζ26:Asrt:=Gr 3 1 u3 ((lfR L (gi A.L (k))).1.length) (((lfR L (gi A.L (k))).1.map (Value.int .i64)))
 let ζ28:Asrt:=Mf ba (Value.int .i64) (Value.int .i64) (lfF (lfR L (gi A.L (k))).1)
 refine vc_res (σ':=[(Arr 113 bb [u3,(Value.slice none 0 0),(Value.map (some ba)),(Value.map (some bi)),(.bool (decide (wd (lfR L (gi A.L (k))).1)))]),ζ28,ζ16,(Arr 25 b1 [(.int .i64 A.v),la,na,(.int .i64 A.r)]),ζ1,ζ26,ζ10,(Gr 3 1 v1 ((R.length+1)) (((R.map (Value.int .i64))++[(.int .i64 ((lfR L (gi A.L (k))).2))]))),(Arr 3 b4 [(.int .i64 ((lfR L (gi A.L (k))).2))])]) rfl ?_
 let ζ31:Value:=Value.int .i64 ((lfR L (gi A.L (k))).2)
 refine vc_drop [(Arr 113 bb [u3,(Value.slice none 0 0),(Value.map (some ba)),(Value.map (some bi)),(Value.bool (decide (wd (lfR L (gi A.L (k))).1)))]),ζ28,ζ16,(Arr 25 b1 [(Value.int .i64 (A.v)),la,na,(Value.int .i64 (A.r))]),ζ1,ζ26,ζ10,(Gr 3 1 v1 ((R.length+1)) (((R.map (Value.int .i64))++[ζ31])))] [(Arr 3 b4 [ζ31])] ((List.perm_middle (l₁:=[(Arr 113 bb [u3,(Value.slice none 0 0),(Value.map (some ba)),(Value.map (some bi)),(Value.bool (decide (wd (lfR L (gi A.L (k))).1)))]),ζ28,ζ16,(Arr 25 b1 [(Value.int .i64 (A.v)),la,na,(Value.int .i64 (A.r))]),ζ1,ζ26,ζ10,(Gr 3 1 v1 ((R.length+1)) (((R.map (Value.int .i64))++[ζ31])))]) (l₂:=[])).trans (List.perm_append_comm (l₁:=[(Arr 3 b4 [ζ31])]))) ?_
 refine vc_region ?_
 refine oq (qv_add rfl rfl (by omega)) ?_
 refine oq (qv_mv (.int .i64 (k+1)) rfl) ?_
 refine ops_nil ?_
 subst ζ1 ζ10 ζ16 ζ26 ζ28 ζ31
 refine ⟨(k+1,(lfR L (gi A.L (k))).1,R++[(lfR L (gi A.L (k))).2],u3,v1),⟨rfl,rfl,rfl,rfl,rfl,rfl,rfl,rfl,rfl,rfl,(congrArg (Value.int .i64) (show (k+1)=((k+1)) from by omega)),trivial⟩,(show [(Arr 113 bb [u3,(Value.slice none 0 0),(Value.map (some ba)),(Value.map (some bi)),(.bool (decide (wd ((lfR L (gi A.L (k))).1:List Int))))]),(Mf ba (Value.int .i64) (Value.int .i64) (lfF ((lfR L (gi A.L (k))).1:List Int))),(Mf bi fkv (Value.int .i64) (idF ([]:List Fk))),(Arr 25 b1 [(.int .i64 A.v),la,na,(.int .i64 A.r)]),(Arr 25 b2 [(Value.int .i64 0),(Value.slice none 0 0),(Value.slice none 0 0),(Value.int .i64 0)]),(Gr 3 1 u3 ((lfR L (gi A.L (k))).1:List Int).length ((((lfR L (gi A.L (k))).1:List Int).map (Value.int .i64)))),(Gr 80 3 ((Value.slice none 0 0)) (([]:List Fk).length) ((fks ([]:List Fk)))),(Gr 3 1 v1 (R++[(lfR L (gi A.L (k))).2]:List Int).length (((R++[(lfR L (gi A.L (k))).2]:List Int).map (Value.int .i64))))]=[(Arr 113 bb [u3,(Value.slice none 0 0),(Value.map (some ba)),(Value.map (some bi)),(.bool (decide (wd (lfR L (gi A.L (k))).1)))]),(Mf ba (Value.int .i64) (Value.int .i64) (lfF (lfR L (gi A.L (k))).1)),(Mf bi fkv (Value.int .i64) (idF ([]:List Fk))),(Arr 25 b1 [(.int .i64 A.v),la,na,(.int .i64 A.r)]),(Arr 25 b2 [(Value.int .i64 0),(Value.slice none 0 0),(Value.slice none 0 0),(Value.int .i64 0)]),(Gr 3 1 u3 ((lfR L (gi A.L (k))).1.length) (((lfR L (gi A.L (k))).1.map (Value.int .i64)))),(Gr 80 3 ((Value.slice none 0 0)) (([]:List Fk).length) ((fks ([]:List Fk)))),(Gr 3 1 v1 ((R.length+1)) (((R.map (Value.int .i64))++[(.int .i64 ((lfR L (gi A.L (k))).2))])))]∧Mt V2 la na A∧0≤(k+1:Int)∧(k+1:Int)≤A.L.length∧RInv A i b ((lfR L (gi A.L (k))).1:List Int) [] (R++[(lfR L (gi A.L (k))).2]:List Int)∧(k+1:Int)=(R++[(lfR L (gi A.L (k))).2]:List Int).length from ⟨(show [(Arr 113 bb [u3,(Value.slice none 0 0),(Value.map (some ba)),(Value.map (some bi)),(.bool (decide (wd ((lfR L (gi A.L (k))).1))))]),(Mf ba (Value.int .i64) (Value.int .i64) (lfF ((lfR L (gi A.L (k))).1))),(Mf bi fkv (Value.int .i64) (idF ([]:List Fk))),(Arr 25 b1 [(.int .i64 A.v),la,na,(.int .i64 A.r)]),(Arr 25 b2 [(Value.int .i64 0),(Value.slice none 0 0),(Value.slice none 0 0),(Value.int .i64 0)]),(Gr 3 1 u3 ((lfR L (gi A.L (k))).1:List Int).length ((((lfR L (gi A.L (k))).1:List Int).map (Value.int .i64)))),(Gr 80 3 ((Value.slice none 0 0)) (([]:List Fk).length) ((fks ([]:List Fk)))),(Gr 3 1 v1 (R++[(lfR L (gi A.L (k))).2]:List Int).length (((R++[(lfR L (gi A.L (k))).2]:List Int).map (Value.int .i64))))]=[(Arr 113 bb [u3,(Value.slice none 0 0),(Value.map (some ba)),(Value.map (some bi)),(.bool (decide (wd (lfR L (gi A.L (k))).1)))]),(Mf ba (Value.int .i64) (Value.int .i64) (lfF (lfR L (gi A.L (k))).1)),(Mf bi fkv (Value.int .i64) (idF ([]:List Fk))),(Arr 25 b1 [(.int .i64 A.v),la,na,(.int .i64 A.r)]),(Arr 25 b2 [(Value.int .i64 0),(Value.slice none 0 0),(Value.slice none 0 0),(Value.int .i64 0)]),(Gr 3 1 u3 ((lfR L (gi A.L (k))).1.length) (((lfR L (gi A.L (k))).1.map (Value.int .i64)))),(Gr 80 3 ((Value.slice none 0 0)) (([]:List Fk).length) ((fks ([]:List Fk)))),(Gr 3 1 v1 ((R.length+1)) (((R.map (Value.int .i64))++[(.int .i64 ((lfR L (gi A.L (k))).2))])))] from by rw [List.map_append,List.length_append]; rfl),hA,by omega,by omega,rinv_leaf c hk (by omega) (hok.inr (by omega) (by omega)),by rw [List.length_append]; show _=((R.length+1:Nat):Int); omega⟩),show (A.L.length - (k+1)).toNat < (A.L.length - k).toNat from by omega⟩
 refine vc_exit ?_
 refine blockQ_hit ?_
 refine vc_seq ?_
 refine vc_seq ?_
 refine vc_region ?_
 refine oq (qv_fa (off:=0) Try.field25_2 rfl) ?_
 refine oq (qv_ldp (v:=na) Try.plain23 rfl (inOc (k:=3) rfl) rfl) ?_
 refine oq (qv_lenSS Try.underlying23 rfl (hA.n)) ?_
 refine oq (qv_mv (Value.int .i64 0) rfl) ?_
 refine ops_nil ?_
 refine vc_block ?_
 refine vc_loop (α:=Int × List Fk × List Int × Value × Value) (fun (xx:Int × List Fk × List Int × Value × Value)=>[(0,ζ25),(1,(Value.int .i64 i)),(2,(.bool (decide (b=true)))),(3,(Value.pointer (some ⟨b1,0,none⟩))),(6,(Value.pointer (some ⟨b2,0,none⟩))),(7,(Value.int .i64 0)),(8,(Value.pointer (some ⟨bb,0,none⟩))),(26,la),(27,(.int .i64 ((A.L.length:Int)))),(28,(Value.int .i64 k)),(29,(.bool (decide (k < ((A.L.length:Int)))))),(40,na),(41,(.int .i64 ((A.N.length:Int)))),(9,xx.2.2.2.2),(42,(Value.int .i64 xx.1))]) (fun (xx:Int × List Fk × List Int × Value × Value) V' σ'=>[(Arr 113 bb [u,xx.2.2.2.1,(Value.map (some ba)),(Value.map (some bi)),(.bool (decide (wd L)))]),(Mf ba (Value.int .i64) (Value.int .i64) (lfF L)),(Mf bi fkv (Value.int .i64) (idF xx.2.1)),ζ2,(Arr 25 b2 [(Value.int .i64 0),(Value.slice none 0 0),(Value.slice none 0 0),(Value.int .i64 0)]),(Gr 3 1 u L.length ((L.map (Value.int .i64)))),(Gr 80 3 xx.2.2.2.1 xx.2.1.length ((fks xx.2.1))),(Gr 3 1 xx.2.2.2.2 xx.2.2.1.length ((xx.2.2.1.map (Value.int .i64))))]=σ'∧Mt V' la na A∧0≤xx.1∧xx.1≤A.N.length∧RInv A i b L xx.2.1 xx.2.2.1∧(xx.2.2.1.length:Int)=A.L.length+xx.1) (fun (xx:Int × List Fk × List Int × Value × Value)=>(A.N.length - xx.1).toNat) (0,[],R,(Value.slice none 0 0),rv) ?_ ?_ ?_
 exact ⟨rfl,rfl,rfl,rfl,rfl,rfl,rfl,rfl,rfl,rfl,rfl,rfl,rfl,rfl,rfl,trivial⟩
 exact (show [(Arr 113 bb [u,((Value.slice none 0 0):Value),(Value.map (some ba)),(Value.map (some bi)),(.bool (decide (wd L)))]),ζ4,ζ16,ζ2,ζ1,ζ5,(Gr 80 3 ((Value.slice none 0 0):Value) ([]:List Fk).length ((fks ([]:List Fk)))),ζ23]=[ζ15,ζ4,ζ16,ζ2,ζ1,ζ5,ζ10,ζ23]∧Mt V0l la na A∧0≤(0:Int)∧(0:Int)≤A.N.length∧RInv A i b L ([]:List Fk) R∧(R.length:Int)=A.L.length+(0:Int) from ⟨rfl,hA,by omega,by omega,c,by omega⟩)
 rintro ⟨j,M,S,w,sv⟩ e2 V1l σ1l hI1
 let ζ12:Asrt:=Gr 3 1 sv S.length ((S.map (Value.int .i64)))
 let ζ13:Asrt:=Arr 113 bb [u,w,(Value.map (some ba)),(Value.map (some bi)),(.bool (decide (wd L)))]
 let ζ14:Asrt:=Mf bi fkv (Value.int .i64) (idF M)
 let ζ20:Asrt:=Gr 80 3 w M.length ((fks M))
 obtain ⟨rfl,hA,i3,i4,d,hj⟩:[ζ13,ζ4,ζ14,ζ2,ζ1,ζ5,ζ20,ζ12]=σ1l∧Mt V1l la na A∧0≤j∧j≤A.N.length∧RInv A i b L M S∧(S.length:Int)=A.L.length+j:=hI1
 change VC _ _ _ _ _ _ (upds 92 [(0,ζ25),(1,(Value.int .i64 i)),(2,(.bool (decide (b=true)))),(3,(Value.pointer (some ⟨b1,0,none⟩))),(6,(Value.pointer (some ⟨b2,0,none⟩))),(7,(Value.int .i64 0)),(8,ζ27),(26,la),(27,(.int .i64 ((A.L.length:Int)))),(28,(Value.int .i64 k)),(29,(.bool (decide (k < ((A.L.length:Int)))))),(40,na),(41,(.int .i64 ((A.N.length:Int)))),(9,sv),(42,(Value.int .i64 j))] e2) _ _
 refine vc_seq ?_
 refine vc_res (σ':=[ζ13,ζ4,ζ14,ζ2,ζ1,ζ5,ζ20,ζ12]) rfl ?_
 refine vc_region ?_
 refine oq (qv_lss rfl rfl) ?_
 refine ops_nil ?_
 refine vc_seq ?_
 refine vc_if rfl (fun c2=>?_) (fun c2=>?_)
 refine vc_skip ?_
 refine vc_seq ?_
 refine vc_block ?_
 refine vc_seq ?_
 refine vc_region ?_
 refine oq (qv_ias (v:=na) (i:=j) Try.underlying23 Try.size80 rfl (hA.n) rfl (by omega) (by omega)) ?_
 let ζ35:Value:=.int .i64 ((fk A.N (j)).v)
 refine oq (qv_lds (v:=na) (i:=j) (vs:=[ζ35,(.int .i64 ((fk A.N (j)).l)),(.int .i64 ((fk A.N (j)).h))]) Try.agg80 rfl (hA.n) (by omega) (by omega) (fks_at (by omega) (by omega))) ?_
 refine ops_alloc Try.ti80 rfl (fun b5=>?_)
 refine ops_stw (k:=8) (vs:=[ζ35,(.int .i64 ((fk A.N (j)).l)),(.int .i64 ((fk A.N (j)).h))]) Try.size80 rfl rfl rfl rfl rfl rfl ?_
 refine ops_nil ?_
 refine vc_seq ?_
 let ζ24:Asrt:=Arr 80 b5 [(.int .i64 ((fk A.N (j)).v)),(.int .i64 ((fk A.N (j)).l)),(.int .i64 ((fk A.N (j)).h))]
 refine vc_res (σ':=[ζ13,ζ4,ζ14,ζ2,ζ1,ζ5,ζ20,ζ12,ζ24]) rfl ?_
 have hbj:=hok.loc.bd j (by omega) (by omega)
 have hbj1:=hbj.1
 have hbj2:=hbj.2
 refine vc_region_any Try.mixed (by kernel_rfl) ?_
 refine qq (qv_mv sv rfl) ?_
 refine qq (qv_fa (off:=0) Try.field80_1 rfl) ?_
 refine qq (qv_ldp (v:=(.int .i64 ((fk A.N (j)).l))) Try.plain3 rfl (inOc (k:=8) rfl) rfl) ?_
 refine qq (qv_iai (v:=sv) (i:=(fk A.N (j)).l) Try.underlying22 Try.size3 rfl (inGi (k:=7) rfl) rfl (by omega) (by omega)) ?_
 refine qq (qv_ldi (v:=sv) (i:=(fk A.N (j)).l) Try.plain3 rfl (inGi (k:=7) rfl) (by omega) (by omega)) ?_
 refine qq (qv_mv sv rfl) ?_
 refine qq (qv_fa (off:=0) Try.field80_2 rfl) ?_
 refine qq (qv_ldp (v:=(.int .i64 ((fk A.N (j)).h))) Try.plain3 rfl (inOc (k:=8) rfl) rfl) ?_
 refine qq (qv_iai (v:=sv) (i:=(fk A.N (j)).h) Try.underlying22 Try.size3 rfl (inGi (k:=7) rfl) rfl (by omega) (by omega)) ?_
 refine qq (qv_ldi (v:=sv) (i:=(fk A.N (j)).h) Try.plain3 rfl (inGi (k:=7) rfl) (by omega) (by omega)) ?_
 let ζ33:Value:=.int .i64 (gi S ((fk A.N (j)).l))
 refine qq (qv_as ζ33 rfl) ?_
 let ζ34:Value:=.int .i64 (gi S ((fk A.N (j)).h))
 refine qq (qv_as ζ34 rfl) ?_
 refine qops_nil ?_
 refine vc_block ?_
 refine vc_seq ?_
 refine vc_region ?_
 refine oq (qv_fa (off:=0) Try.field80_0 rfl) ?_
 refine oq (qv_ldp (v:=ζ35) Try.plain3 rfl (inOc (k:=8) rfl) rfl) ?_
 refine oq (qv_mv (Value.int .i64 i) rfl) ?_
 refine oq (qv_neq rfl rfl) ?_
 refine oq (qv_as (.bool (decide (((fk A.N (j)).v) ≠ i))) rfl) ?_
 refine ops_nil ?_
 refine vc_if rfl (fun c3=>?_) (fun c3=>?_)
 refine vc_region ?_
 refine oq (qv_mv sv rfl) ?_
 refine oq (qv_mv ζ27 rfl) ?_
 refine oq (qv_fa (off:=0) Try.field80_0 rfl) ?_
 refine oq (qv_ldp (v:=ζ35) Try.plain3 rfl (inOc (k:=8) rfl) rfl) ?_
 refine oq (qv_mv ζ33 rfl) ?_
 refine oq (qv_mv ζ34 rfl) ?_
 refine ops_call (σa:=[ζ13,ζ5,ζ20,ζ4,ζ14]) (σr:=[ζ2,ζ1,ζ12,ζ24]) (node_c (L:=L) (M:=M) (v:=(fk A.N (j)).v) (l:=gi S (fk A.N (j)).l) (h:=gi S (fk A.N (j)).h) (u:=u) (w:=w) (by have:=d.ml; omega)) rfl rfl (perm_idx _ _ [0,5,6,1,2,3,4,7,8] rfl rfl) (fun r3 V3 sg3 hV3 hp3=>?_)
 obtain ⟨rfl,w3,rfl⟩:=hp3
 have hA:=hA.mono hV3
 refine ops_perm (σ':=[(Arr 113 bb [u,w3,(Value.map (some ba)),(Value.map (some bi)),(.bool (decide (wd L)))]),ζ4,(Mf bi fkv (Value.int .i64) (idF (ndR M ((fk A.N (j)).v) (gi S (fk A.N (j)).l) (gi S (fk A.N (j)).h)).1)),ζ2,ζ1,ζ5,(Gr 80 3 w3 ((ndR M ((fk A.N (j)).v) (gi S (fk A.N (j)).l) (gi S (fk A.N (j)).h)).1.length) ((fks (ndR M ((fk A.N (j)).v) (gi S (fk A.N (j)).l) (gi S (fk A.N (j)).h)).1))),ζ12,ζ24]) (perm_idx _ _ [0,3,4,5,6,1,2,7,8] rfl rfl) ?_
 refine ops_lit (n:=1) (s:=1) (cs:=[(.int .i64 ((ndR M ((fk A.N (j)).v) (gi S (fk A.N (j)).l) (gi S (fk A.N (j)).h)).2))]) Try.underlying22 Try.ti3 (Nat.le_of_ble_eq_true rfl) rfl rfl rfl (Nat.le_of_ble_eq_true rfl) rfl (fun b6=>?_)
 subst ζ25 ζ1 ζ2 ζ27 ζ21 ζ32 ζ36 ζ22 ζ4 ζ5 ζ10 ζ15 ζ16 ζ23 ζ12 ζ13 ζ14 ζ20 ζ35 ζ24 ζ33 ζ34
 refine ops_append (k:=7) (n:=S.length) (s:=1) (m:=1) (v:=sv) (xs:=(S.map (Value.int .i64))) (news:=[(.int .i64 ((ndR M ((fk A.N (j)).v) (gi S (fk A.N (j)).l) (gi S (fk A.N (j)).h)).2))]) Try.underlying22 Try.ti3 rfl (Nat.le_of_ble_eq_true rfl) rfl rfl rfl rfl (news_own (j:=9) rfl) (by simp [Value.oneCell']) (by omega) (by simp only [maxLen]; omega) (fun v2 hn2=>?_)
 refine oq (qv_as v2 rfl) ?_
 refine ops_nil ?_
 let ζ1:Asrt:=Arr 25 b2 [(Value.int .i64 0),(Value.slice none 0 0),(Value.slice none 0 0),(Value.int .i64 0)]
 let ζ4:Asrt:=Mf ba (Value.int .i64) (Value.int .i64) (lfF L)
 let ζ5:Asrt:=Gr 3 1 u L.length ((L.map (Value.int .i64)))
 let ζ6:Asrt:=Gr 80 3 w3 ((ndR M ((fk A.N (j)).v) (gi S (fk A.N (j)).l) (gi S (fk A.N (j)).h)).1.length) ((fks (ndR M ((fk A.N (j)).v) (gi S (fk A.N (j)).l) (gi S (fk A.N (j)).h)).1))
 let ζ11:Asrt:=Mf bi fkv (Value.int .i64) (idF (ndR M ((fk A.N (j)).v) (gi S (fk A.N (j)).l) (gi S (fk A.N (j)).h)).1)
 refine vc_res (σ':=[(Arr 113 bb [u,w3,(Value.map (some ba)),(Value.map (some bi)),(.bool (decide (wd L)))]),ζ4,ζ11,(Arr 25 b1 [(.int .i64 A.v),la,na,(.int .i64 A.r)]),ζ1,ζ5,ζ6,(Gr 3 1 v2 ((S.length+1)) (((S.map (Value.int .i64))++[(.int .i64 ((ndR M ((fk A.N (j)).v) (gi S (fk A.N (j)).l) (gi S (fk A.N (j)).h)).2))]))),(Arr 80 b5 [(.int .i64 ((fk A.N (j)).v)),(.int .i64 ((fk A.N (j)).l)),(.int .i64 ((fk A.N (j)).h))]),(Arr 3 b6 [(.int .i64 ((ndR M ((fk A.N (j)).v) (gi S (fk A.N (j)).l) (gi S (fk A.N (j)).h)).2))])]) rfl ?_
 let ζ3:Asrt:=Arr 80 b5 [(Value.int .i64 ((fk A.N (j)).v)),(Value.int .i64 ((fk A.N (j)).l)),(Value.int .i64 ((fk A.N (j)).h))]
 let ζ7:Asrt:=Arr 25 b1 [(Value.int .i64 (A.v)),la,na,(Value.int .i64 (A.r))]
 let ζ9:Asrt:=Gr 3 1 v2 ((S.length+1)) (((S.map (Value.int .i64))++[(Value.int .i64 ((ndR M ((fk A.N (j)).v) (gi S (fk A.N (j)).l) (gi S (fk A.N (j)).h)).2))]))
 let ζ19:Asrt:=Arr 113 bb [u,w3,(Value.map (some ba)),(Value.map (some bi)),(Value.bool (decide (wd L)))]
 refine vc_drop [ζ19,ζ4,ζ11,ζ7,ζ1,ζ5,ζ6,ζ9,ζ3] [(Arr 3 b6 [(Value.int .i64 ((ndR M ((fk A.N (j)).v) (gi S (fk A.N (j)).l) (gi S (fk A.N (j)).h)).2))])] ((List.perm_middle (l₁:=[ζ19,ζ4,ζ11,ζ7,ζ1,ζ5,ζ6,ζ9,ζ3]) (l₂:=[])).trans (List.perm_append_comm (l₁:=[(Arr 3 b6 [(Value.int .i64 ((ndR M ((fk A.N (j)).v) (gi S (fk A.N (j)).l) (gi S (fk A.N (j)).h)).2))])]))) ?_
 refine vc_drop [ζ19,ζ4,ζ11,ζ7,ζ1,ζ5,ζ6,ζ9] [ζ3] ((List.perm_middle (l₁:=[ζ19,ζ4,ζ11,ζ7,ζ1,ζ5,ζ6,ζ9]) (l₂:=[])).trans (List.perm_append_comm (l₁:=[ζ3]))) ?_
 refine vc_region ?_
 refine oq (qv_add rfl rfl (by omega)) ?_
 refine oq (qv_mv (.int .i64 (j+1)) rfl) ?_
 refine ops_nil ?_
 subst ζ1 ζ4 ζ5 ζ6 ζ11 ζ3 ζ7 ζ9 ζ19
 refine ⟨(j+1,(rsN A i b M S j).1,S++[(rsN A i b M S j).2],w3,v2),⟨rfl,rfl,rfl,rfl,rfl,rfl,rfl,rfl,rfl,rfl,rfl,rfl,rfl,rfl,(congrArg (Value.int .i64) (show (j+1)=((j+1)) from by omega)),trivial⟩,(show [(Arr 113 bb [u,w3,(Value.map (some ba)),(Value.map (some bi)),(.bool (decide (wd L)))]),(Mf ba (Value.int .i64) (Value.int .i64) (lfF L)),(Mf bi fkv (Value.int .i64) (idF ((rsN A i b M S j).1:List Fk))),(Arr 25 b1 [(.int .i64 A.v),la,na,(.int .i64 A.r)]),(Arr 25 b2 [(Value.int .i64 0),(Value.slice none 0 0),(Value.slice none 0 0),(Value.int .i64 0)]),(Gr 3 1 u L.length ((L.map (Value.int .i64)))),(Gr 80 3 w3 ((rsN A i b M S j).1:List Fk).length ((fks ((rsN A i b M S j).1:List Fk)))),(Gr 3 1 v2 (S++[(rsN A i b M S j).2]:List Int).length (((S++[(rsN A i b M S j).2]:List Int).map (Value.int .i64))))]=[(Arr 113 bb [u,w3,(Value.map (some ba)),(Value.map (some bi)),(.bool (decide (wd L)))]),(Mf ba (Value.int .i64) (Value.int .i64) (lfF L)),(Mf bi fkv (Value.int .i64) (idF (ndR M ((fk A.N (j)).v) (gi S (fk A.N (j)).l) (gi S (fk A.N (j)).h)).1)),(Arr 25 b1 [(.int .i64 A.v),la,na,(.int .i64 A.r)]),(Arr 25 b2 [(Value.int .i64 0),(Value.slice none 0 0),(Value.slice none 0 0),(Value.int .i64 0)]),(Gr 3 1 u L.length ((L.map (Value.int .i64)))),(Gr 80 3 w3 ((ndR M ((fk A.N (j)).v) (gi S (fk A.N (j)).l) (gi S (fk A.N (j)).h)).1.length) ((fks (ndR M ((fk A.N (j)).v) (gi S (fk A.N (j)).l) (gi S (fk A.N (j)).h)).1))),(Gr 3 1 v2 ((S.length+1)) (((S.map (Value.int .i64))++[(.int .i64 ((ndR M ((fk A.N (j)).v) (gi S (fk A.N (j)).l) (gi S (fk A.N (j)).h)).2))])))]∧Mt V3 la na A∧0≤(j+1:Int)∧(j+1:Int)≤A.N.length∧RInv A i b L ((rsN A i b M S j).1:List Fk) (S++[(rsN A i b M S j).2]:List Int)∧((S++[(rsN A i b M S j).2]:List Int).length:Int)=A.L.length+(j+1:Int) from ⟨(show [(Arr 113 bb [u,w3,(Value.map (some ba)),(Value.map (some bi)),(.bool (decide (wd L)))]),(Mf ba (Value.int .i64) (Value.int .i64) (lfF L)),(Mf bi fkv (Value.int .i64) (idF ((rsN A i b M S j).1))),(Arr 25 b1 [(.int .i64 A.v),la,na,(.int .i64 A.r)]),(Arr 25 b2 [(Value.int .i64 0),(Value.slice none 0 0),(Value.slice none 0 0),(Value.int .i64 0)]),(Gr 3 1 u L.length ((L.map (Value.int .i64)))),(Gr 80 3 w3 ((rsN A i b M S j).1:List Fk).length ((fks ((rsN A i b M S j).1)))),(Gr 3 1 v2 (S++[(rsN A i b M S j).2]:List Int).length (((S++[(rsN A i b M S j).2]:List Int).map (Value.int .i64))))]=[(Arr 113 bb [u,w3,(Value.map (some ba)),(Value.map (some bi)),(.bool (decide (wd L)))]),(Mf ba (Value.int .i64) (Value.int .i64) (lfF L)),(Mf bi fkv (Value.int .i64) (idF (ndR M ((fk A.N (j)).v) (gi S (fk A.N (j)).l) (gi S (fk A.N (j)).h)).1)),(Arr 25 b1 [(.int .i64 A.v),la,na,(.int .i64 A.r)]),(Arr 25 b2 [(Value.int .i64 0),(Value.slice none 0 0),(Value.slice none 0 0),(Value.int .i64 0)]),(Gr 3 1 u L.length ((L.map (Value.int .i64)))),(Gr 80 3 w3 ((ndR M ((fk A.N (j)).v) (gi S (fk A.N (j)).l) (gi S (fk A.N (j)).h)).1.length) ((fks (ndR M ((fk A.N (j)).v) (gi S (fk A.N (j)).l) (gi S (fk A.N (j)).h)).1))),(Gr 3 1 v2 ((S.length+1)) (((S.map (Value.int .i64))++[(.int .i64 ((ndR M ((fk A.N (j)).v) (gi S (fk A.N (j)).l) (gi S (fk A.N (j)).h)).2))])))] from by first | (rw [rsN_n (by assumption),List.map_append,List.length_append]; rfl) | (rw [rsN_t (by assumption) (by assumption),List.map_append,List.length_append]; rfl) | (rw [rsN_f (by assumption) (by assumption),List.map_append,List.length_append]; rfl)),hA,by omega,by omega,rinv_node hok.red hok.loc.bd d hj (by omega) (by omega),by rw [List.length_append]; show ((S.length+1:Nat):Int)=_; omega⟩),show (A.N.length - (j+1)).toNat < (A.N.length - j).toNat from by omega⟩
 refine vc_seq ?_
 refine vc_region ?_
 refine oq (qv_mv (.bool (decide (b=true))) rfl) ?_
 refine oq (qv_as (.bool (decide (b=true))) rfl) ?_
 refine ops_nil ?_
 refine vc_if rfl (fun c4=>?_) (fun c4=>?_)
 refine vc_region ?_
 refine oq (qv_mv sv rfl) ?_
 refine oq (qv_mv ζ34 rfl) ?_
 refine ops_lit (n:=1) (s:=1) (cs:=[ζ34]) Try.underlying22 Try.ti3 (Nat.le_of_ble_eq_true rfl) rfl rfl rfl (Nat.le_of_ble_eq_true rfl) rfl (fun b7=>?_)
 subst ζ25 ζ1 ζ2 ζ27 ζ21 ζ32 ζ36 ζ22 ζ4 ζ5 ζ10 ζ15 ζ16 ζ23 ζ12 ζ13 ζ14 ζ20 ζ35 ζ24 ζ33 ζ34
 refine ops_append (k:=7) (n:=S.length) (s:=1) (m:=1) (v:=sv) (xs:=(S.map (Value.int .i64))) (news:=[(.int .i64 (gi S ((fk A.N (j)).h)))]) Try.underlying22 Try.ti3 rfl (Nat.le_of_ble_eq_true rfl) rfl rfl rfl rfl (news_own (j:=9) rfl) (by simp [Value.oneCell']) (by omega) (by simp only [maxLen]; omega) (fun v3 hn3=>?_)
 refine oq (qv_as v3 rfl) ?_
 refine ops_nil ?_
 let ζ1:Asrt:=Arr 25 b2 [(Value.int .i64 0),(Value.slice none 0 0),(Value.slice none 0 0),(Value.int .i64 0)]
 let ζ4:Asrt:=Mf ba (Value.int .i64) (Value.int .i64) (lfF L)
 let ζ5:Asrt:=Gr 3 1 u L.length ((L.map (Value.int .i64)))
 let ζ14:Asrt:=Mf bi fkv (Value.int .i64) (idF M)
 let ζ20:Asrt:=Gr 80 3 w M.length ((fks M))
 refine vc_res (σ':=[(Arr 113 bb [u,w,(Value.map (some ba)),(Value.map (some bi)),(.bool (decide (wd L)))]),ζ4,ζ14,(Arr 25 b1 [(.int .i64 A.v),la,na,(.int .i64 A.r)]),ζ1,ζ5,ζ20,(Gr 3 1 v3 ((S.length+1)) (((S.map (Value.int .i64))++[(.int .i64 (gi S ((fk A.N (j)).h)))]))),(Arr 80 b5 [(.int .i64 ((fk A.N (j)).v)),(.int .i64 ((fk A.N (j)).l)),(.int .i64 ((fk A.N (j)).h))]),(Arr 3 b7 [(.int .i64 (gi S ((fk A.N (j)).h)))])]) rfl ?_
 let ζ3:Asrt:=Arr 80 b5 [(Value.int .i64 ((fk A.N (j)).v)),(Value.int .i64 ((fk A.N (j)).l)),(Value.int .i64 ((fk A.N (j)).h))]
 let ζ7:Asrt:=Arr 25 b1 [(Value.int .i64 (A.v)),la,na,(Value.int .i64 (A.r))]
 let ζ8:Asrt:=Arr 113 bb [u,w,(Value.map (some ba)),(Value.map (some bi)),(Value.bool (decide (wd L)))]
 let ζ17:Asrt:=Gr 3 1 v3 ((S.length+1)) (((S.map (Value.int .i64))++[(Value.int .i64 (gi S ((fk A.N (j)).h)))]))
 refine vc_drop [ζ8,ζ4,ζ14,ζ7,ζ1,ζ5,ζ20,ζ17,ζ3] [(Arr 3 b7 [(Value.int .i64 (gi S ((fk A.N (j)).h)))])] ((List.perm_middle (l₁:=[ζ8,ζ4,ζ14,ζ7,ζ1,ζ5,ζ20,ζ17,ζ3]) (l₂:=[])).trans (List.perm_append_comm (l₁:=[(Arr 3 b7 [(Value.int .i64 (gi S ((fk A.N (j)).h)))])]))) ?_
 refine vc_drop [ζ8,ζ4,ζ14,ζ7,ζ1,ζ5,ζ20,ζ17] [ζ3] ((List.perm_middle (l₁:=[ζ8,ζ4,ζ14,ζ7,ζ1,ζ5,ζ20,ζ17]) (l₂:=[])).trans (List.perm_append_comm (l₁:=[ζ3]))) ?_
 refine vc_region ?_
 refine oq (qv_add rfl rfl (by omega)) ?_
 refine oq (qv_mv (.int .i64 (j+1)) rfl) ?_
 refine ops_nil ?_
 subst ζ1 ζ4 ζ5 ζ14 ζ20 ζ3 ζ7 ζ8 ζ17
 refine ⟨(j+1,(rsN A i b M S j).1,S++[(rsN A i b M S j).2],w,v3),⟨rfl,rfl,rfl,rfl,rfl,rfl,rfl,rfl,rfl,rfl,rfl,rfl,rfl,rfl,(congrArg (Value.int .i64) (show (j+1)=((j+1)) from by omega)),trivial⟩,(show [(Arr 113 bb [u,w,(Value.map (some ba)),(Value.map (some bi)),(.bool (decide (wd L)))]),(Mf ba (Value.int .i64) (Value.int .i64) (lfF L)),(Mf bi fkv (Value.int .i64) (idF ((rsN A i b M S j).1:List Fk))),(Arr 25 b1 [(.int .i64 A.v),la,na,(.int .i64 A.r)]),(Arr 25 b2 [(Value.int .i64 0),(Value.slice none 0 0),(Value.slice none 0 0),(Value.int .i64 0)]),(Gr 3 1 u L.length ((L.map (Value.int .i64)))),(Gr 80 3 w ((rsN A i b M S j).1:List Fk).length ((fks ((rsN A i b M S j).1:List Fk)))),(Gr 3 1 v3 (S++[(rsN A i b M S j).2]:List Int).length (((S++[(rsN A i b M S j).2]:List Int).map (Value.int .i64))))]=[(Arr 113 bb [u,w,(Value.map (some ba)),(Value.map (some bi)),(.bool (decide (wd L)))]),(Mf ba (Value.int .i64) (Value.int .i64) (lfF L)),(Mf bi fkv (Value.int .i64) (idF M)),(Arr 25 b1 [(.int .i64 A.v),la,na,(.int .i64 A.r)]),(Arr 25 b2 [(Value.int .i64 0),(Value.slice none 0 0),(Value.slice none 0 0),(Value.int .i64 0)]),(Gr 3 1 u L.length ((L.map (Value.int .i64)))),(Gr 80 3 w M.length ((fks M))),(Gr 3 1 v3 ((S.length+1)) (((S.map (Value.int .i64))++[(.int .i64 (gi S ((fk A.N (j)).h)))])))]∧Mt V1l la na A∧0≤(j+1:Int)∧(j+1:Int)≤A.N.length∧RInv A i b L ((rsN A i b M S j).1:List Fk) (S++[(rsN A i b M S j).2]:List Int)∧((S++[(rsN A i b M S j).2]:List Int).length:Int)=A.L.length+(j+1:Int) from ⟨(show [(Arr 113 bb [u,w,(Value.map (some ba)),(Value.map (some bi)),(.bool (decide (wd L)))]),(Mf ba (Value.int .i64) (Value.int .i64) (lfF L)),(Mf bi fkv (Value.int .i64) (idF ((rsN A i b M S j).1))),(Arr 25 b1 [(.int .i64 A.v),la,na,(.int .i64 A.r)]),(Arr 25 b2 [(Value.int .i64 0),(Value.slice none 0 0),(Value.slice none 0 0),(Value.int .i64 0)]),(Gr 3 1 u L.length ((L.map (Value.int .i64)))),(Gr 80 3 w ((rsN A i b M S j).1:List Fk).length ((fks ((rsN A i b M S j).1)))),(Gr 3 1 v3 (S++[(rsN A i b M S j).2]:List Int).length (((S++[(rsN A i b M S j).2]:List Int).map (Value.int .i64))))]=[(Arr 113 bb [u,w,(Value.map (some ba)),(Value.map (some bi)),(.bool (decide (wd L)))]),(Mf ba (Value.int .i64) (Value.int .i64) (lfF L)),(Mf bi fkv (Value.int .i64) (idF M)),(Arr 25 b1 [(.int .i64 A.v),la,na,(.int .i64 A.r)]),(Arr 25 b2 [(Value.int .i64 0),(Value.slice none 0 0),(Value.slice none 0 0),(Value.int .i64 0)]),(Gr 3 1 u L.length ((L.map (Value.int .i64)))),(Gr 80 3 w M.length ((fks M))),(Gr 3 1 v3 ((S.length+1)) (((S.map (Value.int .i64))++[(.int .i64 (gi S ((fk A.N (j)).h)))])))] from by first | (rw [rsN_n (by assumption),List.map_append,List.length_append]; rfl) | (rw [rsN_t (by assumption) (by assumption),List.map_append,List.length_append]; rfl) | (rw [rsN_f (by assumption) (by assumption),List.map_append,List.length_append]; rfl)),hA,by omega,by omega,rinv_node hok.red hok.loc.bd d hj (by omega) (by omega),by rw [List.length_append]; show ((S.length+1:Nat):Int)=_; omega⟩),show (A.N.length - (j+1)).toNat < (A.N.length - j).toNat from by omega⟩
 refine vc_region ?_
 refine oq (qv_mv sv rfl) ?_
 refine oq (qv_mv ζ33 rfl) ?_
 refine ops_lit (n:=1) (s:=1) (cs:=[ζ33]) Try.underlying22 Try.ti3 (Nat.le_of_ble_eq_true rfl) rfl rfl rfl (Nat.le_of_ble_eq_true rfl) rfl (fun b8=>?_)
 subst ζ25 ζ1 ζ2 ζ27 ζ21 ζ32 ζ36 ζ22 ζ4 ζ5 ζ10 ζ15 ζ16 ζ23 ζ12 ζ13 ζ14 ζ20 ζ35 ζ24 ζ33 ζ34
 refine ops_append (k:=7) (n:=S.length) (s:=1) (m:=1) (v:=sv) (xs:=(S.map (Value.int .i64))) (news:=[(.int .i64 (gi S ((fk A.N (j)).l)))]) Try.underlying22 Try.ti3 rfl (Nat.le_of_ble_eq_true rfl) rfl rfl rfl rfl (news_own (j:=9) rfl) (by simp [Value.oneCell']) (by omega) (by simp only [maxLen]; omega) (fun v4 hn4=>?_)
 refine oq (qv_as v4 rfl) ?_
 refine ops_nil ?_
 let ζ1:Asrt:=Arr 25 b2 [(Value.int .i64 0),(Value.slice none 0 0),(Value.slice none 0 0),(Value.int .i64 0)]
 let ζ4:Asrt:=Mf ba (Value.int .i64) (Value.int .i64) (lfF L)
 let ζ5:Asrt:=Gr 3 1 u L.length ((L.map (Value.int .i64)))
 let ζ14:Asrt:=Mf bi fkv (Value.int .i64) (idF M)
 let ζ20:Asrt:=Gr 80 3 w M.length ((fks M))
 refine vc_res (σ':=[(Arr 113 bb [u,w,(Value.map (some ba)),(Value.map (some bi)),(.bool (decide (wd L)))]),ζ4,ζ14,(Arr 25 b1 [(.int .i64 A.v),la,na,(.int .i64 A.r)]),ζ1,ζ5,ζ20,(Gr 3 1 v4 ((S.length+1)) (((S.map (Value.int .i64))++[(.int .i64 (gi S ((fk A.N (j)).l)))]))),(Arr 80 b5 [(.int .i64 ((fk A.N (j)).v)),(.int .i64 ((fk A.N (j)).l)),(.int .i64 ((fk A.N (j)).h))]),(Arr 3 b8 [(.int .i64 (gi S ((fk A.N (j)).l)))])]) rfl ?_
 let ζ3:Asrt:=Arr 80 b5 [(Value.int .i64 ((fk A.N (j)).v)),(Value.int .i64 ((fk A.N (j)).l)),(Value.int .i64 ((fk A.N (j)).h))]
 let ζ7:Asrt:=Arr 25 b1 [(Value.int .i64 (A.v)),la,na,(Value.int .i64 (A.r))]
 let ζ8:Asrt:=Arr 113 bb [u,w,(Value.map (some ba)),(Value.map (some bi)),(Value.bool (decide (wd L)))]
 let ζ18:Asrt:=Gr 3 1 v4 ((S.length+1)) (((S.map (Value.int .i64))++[(Value.int .i64 (gi S ((fk A.N (j)).l)))]))
 refine vc_drop [ζ8,ζ4,ζ14,ζ7,ζ1,ζ5,ζ20,ζ18,ζ3] [(Arr 3 b8 [(Value.int .i64 (gi S ((fk A.N (j)).l)))])] ((List.perm_middle (l₁:=[ζ8,ζ4,ζ14,ζ7,ζ1,ζ5,ζ20,ζ18,ζ3]) (l₂:=[])).trans (List.perm_append_comm (l₁:=[(Arr 3 b8 [(Value.int .i64 (gi S ((fk A.N (j)).l)))])]))) ?_
 refine vc_drop [ζ8,ζ4,ζ14,ζ7,ζ1,ζ5,ζ20,ζ18] [ζ3] ((List.perm_middle (l₁:=[ζ8,ζ4,ζ14,ζ7,ζ1,ζ5,ζ20,ζ18]) (l₂:=[])).trans (List.perm_append_comm (l₁:=[ζ3]))) ?_
 refine vc_region ?_
 refine oq (qv_add rfl rfl (by omega)) ?_
 refine oq (qv_mv (.int .i64 (j+1)) rfl) ?_
 refine ops_nil ?_
 subst ζ1 ζ4 ζ5 ζ14 ζ20 ζ3 ζ7 ζ8 ζ18
 refine ⟨(j+1,(rsN A i b M S j).1,S++[(rsN A i b M S j).2],w,v4),⟨rfl,rfl,rfl,rfl,rfl,rfl,rfl,rfl,rfl,rfl,rfl,rfl,rfl,rfl,(congrArg (Value.int .i64) (show (j+1)=((j+1)) from by omega)),trivial⟩,(show [(Arr 113 bb [u,w,(Value.map (some ba)),(Value.map (some bi)),(.bool (decide (wd L)))]),(Mf ba (Value.int .i64) (Value.int .i64) (lfF L)),(Mf bi fkv (Value.int .i64) (idF ((rsN A i b M S j).1:List Fk))),(Arr 25 b1 [(.int .i64 A.v),la,na,(.int .i64 A.r)]),(Arr 25 b2 [(Value.int .i64 0),(Value.slice none 0 0),(Value.slice none 0 0),(Value.int .i64 0)]),(Gr 3 1 u L.length ((L.map (Value.int .i64)))),(Gr 80 3 w ((rsN A i b M S j).1:List Fk).length ((fks ((rsN A i b M S j).1:List Fk)))),(Gr 3 1 v4 (S++[(rsN A i b M S j).2]:List Int).length (((S++[(rsN A i b M S j).2]:List Int).map (Value.int .i64))))]=[(Arr 113 bb [u,w,(Value.map (some ba)),(Value.map (some bi)),(.bool (decide (wd L)))]),(Mf ba (Value.int .i64) (Value.int .i64) (lfF L)),(Mf bi fkv (Value.int .i64) (idF M)),(Arr 25 b1 [(.int .i64 A.v),la,na,(.int .i64 A.r)]),(Arr 25 b2 [(Value.int .i64 0),(Value.slice none 0 0),(Value.slice none 0 0),(Value.int .i64 0)]),(Gr 3 1 u L.length ((L.map (Value.int .i64)))),(Gr 80 3 w M.length ((fks M))),(Gr 3 1 v4 ((S.length+1)) (((S.map (Value.int .i64))++[(.int .i64 (gi S ((fk A.N (j)).l)))])))]∧Mt V1l la na A∧0≤(j+1:Int)∧(j+1:Int)≤A.N.length∧RInv A i b L ((rsN A i b M S j).1:List Fk) (S++[(rsN A i b M S j).2]:List Int)∧((S++[(rsN A i b M S j).2]:List Int).length:Int)=A.L.length+(j+1:Int) from ⟨(show [(Arr 113 bb [u,w,(Value.map (some ba)),(Value.map (some bi)),(.bool (decide (wd L)))]),(Mf ba (Value.int .i64) (Value.int .i64) (lfF L)),(Mf bi fkv (Value.int .i64) (idF ((rsN A i b M S j).1))),(Arr 25 b1 [(.int .i64 A.v),la,na,(.int .i64 A.r)]),(Arr 25 b2 [(Value.int .i64 0),(Value.slice none 0 0),(Value.slice none 0 0),(Value.int .i64 0)]),(Gr 3 1 u L.length ((L.map (Value.int .i64)))),(Gr 80 3 w ((rsN A i b M S j).1:List Fk).length ((fks ((rsN A i b M S j).1)))),(Gr 3 1 v4 (S++[(rsN A i b M S j).2]:List Int).length (((S++[(rsN A i b M S j).2]:List Int).map (Value.int .i64))))]=[(Arr 113 bb [u,w,(Value.map (some ba)),(Value.map (some bi)),(.bool (decide (wd L)))]),(Mf ba (Value.int .i64) (Value.int .i64) (lfF L)),(Mf bi fkv (Value.int .i64) (idF M)),(Arr 25 b1 [(.int .i64 A.v),la,na,(.int .i64 A.r)]),(Arr 25 b2 [(Value.int .i64 0),(Value.slice none 0 0),(Value.slice none 0 0),(Value.int .i64 0)]),(Gr 3 1 u L.length ((L.map (Value.int .i64)))),(Gr 80 3 w M.length ((fks M))),(Gr 3 1 v4 ((S.length+1)) (((S.map (Value.int .i64))++[(.int .i64 (gi S ((fk A.N (j)).l)))])))] from by first | (rw [rsN_n (by assumption),List.map_append,List.length_append]; rfl) | (rw [rsN_t (by assumption) (by assumption),List.map_append,List.length_append]; rfl) | (rw [rsN_f (by assumption) (by assumption),List.map_append,List.length_append]; rfl)),hA,by omega,by omega,rinv_node hok.red hok.loc.bd d hj (by omega) (by omega),by rw [List.length_append]; show ((S.length+1:Nat):Int)=_; omega⟩),show (A.N.length - (j+1)).toNat < (A.N.length - j).toNat from by omega⟩
 refine vc_exit ?_
 refine blockQ_hit ?_
 refine vc_seq ?_
 obtain ⟨hrf,hbd,hfe,hmk⟩:=d.fin hok.1.1 hl4.1 hl4.2 (by omega) hrt
 have hdl:=d.ll
 have hdm:=d.ml
 refine vc_region_order (τ:=[ζ13,ζ4,ζ14,ζ1,ζ5,ζ20]) [(0,false),(1,false),(2,false),(3,false),(4,false),(5,false),(6,false),(7,false),(8,true),(9,false),(10,false),(11,true),(12,false)] [ζ2,ζ12] Try.mixed (perm_idx _ _ [3,7,0,1,2,4,5,6] rfl rfl) (by kernel_rfl) ?_
 refine rq rfl (qv_mv ζ27 rfl) ?_
 refine rq rfl (qv_fa (off:=0) Try.field25_0 rfl) ?_
 refine rq rfl (qv_ldp (v:=(.int .i64 A.v)) Try.plain3 rfl (inOc (k:=0) rfl) rfl) ?_
 refine rq rfl (qv_mv sv rfl) ?_
 refine rq rfl (qv_fa (off:=0) Try.field25_3 rfl) ?_
 refine rq rfl (qv_ldp (v:=(.int .i64 A.r)) Try.plain3 rfl (inOc (k:=0) rfl) rfl) ?_
 refine rq rfl (qv_iai (v:=sv) (i:=A.r) Try.underlying22 Try.size3 rfl (inGi (k:=1) rfl) rfl (by omega) (by omega)) ?_
 refine rq rfl (qv_ldi (v:=sv) (i:=A.r) Try.plain3 rfl (inGi (k:=1) rfl) (by omega) (by omega)) ?_
 refine rl rfl ?_
 subst ζ25 ζ1 ζ2 ζ27 ζ21 ζ32 ζ36 ζ22 ζ4 ζ5 ζ10 ζ15 ζ16 ζ23 ζ12 ζ13 ζ14 ζ20
 refine ops_call (σa:=[(Arr 113 bb [u,w,(Value.map (some ba)),(Value.map (some bi)),(.bool (decide (wd L)))]),(Gr 3 1 u L.length ((L.map (Value.int .i64)))),(Gr 80 3 w M.length ((fks M))),(Mf ba (Value.int .i64) (Value.int .i64) (lfF L)),(Mf bi fkv (Value.int .i64) (idF M))]) (σr:=[(Arr 25 b1 [(.int .i64 A.v),la,na,(.int .i64 A.r)]),(Arr 25 b2 [(Value.int .i64 0),(Value.slice none 0 0),(Value.slice none 0 0),(Value.int .i64 0)]),(Gr 3 1 sv S.length ((S.map (Value.int .i64))))]) (by have h:=finish_c (vars:=A.v) (L:=L) (M:=M) (fa:=lfF L) (fb:=idF M) (root:=gi S A.r) (u:=u) (w:=w) (bb:=bb) (ba:=ba) (bi:=bi) (V:=V1l) hok.1.1 d.ok hrf (by omega) (by omega); rw [hfe,hbd,orZ_0] at h; exact h) rfl rfl (perm_idx _ _ [0,5,6,1,2,3,4,7] rfl rfl) (fun r4 V4 sg4 hV4 hp4=>?_)
 obtain ⟨rfl,lv1,nv1,rfl,hMt⟩:=hp4
 have hA:=hA.mono hV4
 let ζ2:Asrt:=Arr 25 b1 [(.int .i64 A.v),la,na,(.int .i64 A.r)]
 let ζ12:Asrt:=Gr 3 1 sv S.length ((S.map (Value.int .i64)))
 refine ops_nil ⟨[ζ2,ζ12],[(Arr 25 b2 [(Value.int .i64 0),(Value.slice none 0 0),(Value.slice none 0 0),(Value.int .i64 0)])],hV4,(perm_idx _ _ [0,2,1] rfl rfl),⟨[],.refl _⟩,?_⟩
 let ζ29:Value:=.int .i64 ((dg A.v (rsT A i b)).v)
 let ζ30:Value:=.int .i64 ((dg A.v (rsT A i b)).r)
 refine rq rfl (qv_ext (.agg #[ζ29,lv1,nv1,ζ30]) rfl rfl) ?_
 refine rq rfl (qv_ext (Value.int .i64 0) rfl rfl) ?_
 refine rl1 (by kernel_rfl) rfl ?_
 refine ops_stw (k:=1) (vs:=[ζ29,lv1,nv1,ζ30]) Try.size25 rfl rfl rfl (allc rfl (allc (Sl.one hMt.l) (allc (SlS.one hMt.n) (allc rfl rfl)))) rfl rfl ?_
 refine ops_nil ⟨[ζ2,ζ12],[(Arr 25 b2 [ζ29,lv1,nv1,ζ30])],(perm_idx _ _ [0,2,1] rfl rfl),?_⟩
 refine rq rfl (qv_as (Value.int .i64 0) rfl) ?_
 refine rnil ?_
 refine vc_freeze (b:=b2) (o:=.cells ([(Value.int .i64 ((dg A.v (rsT A i b)).v)),lv1,nv1,(Value.int .i64 ((dg A.v (rsT A i b)).r))]:List Value).toArray 25 (0,0)) (σr:=[(Arr 25 b1 [(Value.int .i64 (A.v)),la,na,(Value.int .i64 (A.r))]),ζ12]) (List.perm_middle (l₁:=[(Arr 25 b1 [(Value.int .i64 (A.v)),la,na,(Value.int .i64 (A.r))])]) (l₂:=[ζ12])) (fun Vf1 hVf1 hb1=>?_)
 have hc1:Cells Vf1 b2 [ζ29,lv1,nv1,ζ30]:=⟨_,_,hb1⟩
 have hA:=hA.mono hVf1
 have hMt:=hMt.mono hVf1
 refine vc_drop [] [ζ2,ζ12] (.refl _) ?_
 refine vc_ret ?_
 refine rs2 _ (Value.int .i64 0) (rv_c (vs:=[ζ29,lv1,nv1,ζ30]) Try.agg25 rfl (inVc hc1) rfl rfl) (rv_t rfl) ?_
 exact ⟨rfl,lv1,nv1,rfl,hMt⟩
end Go.Proofs.Ytkmhjcjpohpiaaa
