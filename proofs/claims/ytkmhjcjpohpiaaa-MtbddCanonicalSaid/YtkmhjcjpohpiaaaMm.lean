import Derived.Test.YtkmhjcjpohpiaaaMk
/- Walks of mtbdd: what each function returns. Printed by a program out of notes. -/
namespace Go.Proofs.Ytkmhjcjpohpiaaa
open Go.Vc
open Classical
set_option maxRecDepth 100000
set_option maxHeartbeats 4000000
theorem Histogram_c {V:HV} {la na:Value} {A:Mg} (hA:Mt V la na A) :
    FnC Try.prog 28 [(.agg #[(.int .i64 A.v),la,na,(.int .i64 A.r)])] V [] (fun v V' σ'=>σ' = []∧∃ u,v=.tuple #[u,.int .i64 (vE [A])]∧P2s V' u (hgR A)):=by
 refine fn_intro (N:=92) Try.func28 (by kernel_rfl) rfl rfl rfl (Nat.le_of_ble_eq_true rfl) ?_
 intro w0 D
 have hbl:=Ints.bound hA.l
 have hbn:=SlS.bound hA.n
 refine vc_seq ?_
 refine vc_region ?_
 refine ops_box (v:=(.agg #[(.int .i64 A.v),la,na,(.int .i64 A.r)])) (cs:=[(.int .i64 A.v),la,na,(.int .i64 A.r)]) rfl rfl (fun b1=>?_)
 refine oq (qv_as (Value.slice none 0 0) rfl) ?_
 refine oq (qv_as (Value.int .i64 0) rfl) ?_
 refine ops_nil ?_
 refine vc_seq ?_
 refine vc_seq ?_
 let ζ1:Asrt:=Arr 25 b1 [(.int .i64 A.v),la,na,(.int .i64 A.r)]
 refine vc_res (σ':=[ζ1]) rfl ?_
 refine vc_region ?_
 refine oq (qv_ldm (vs:=[(.int .i64 A.v),la,na,(.int .i64 A.r)]) Try.agg25 rfl (inOc (k:=0) rfl) rfl rfl) ?_
 refine ops_lit (n:=1) (s:=4) (cs:=[(.int .i64 A.v),la,na,(.int .i64 A.r)]) Try.underlying102 Try.ti25 (Nat.le_of_ble_eq_true rfl) rfl rfl rfl (Nat.le_of_ble_eq_true rfl) rfl (fun b2=>?_)
 refine ops_freeze (b:=b2) (o:=.cells ([(Value.int .i64 (A.v)),la,na,(Value.int .i64 (A.r))]:List Value).toArray 25 (0,0)) (σr:=[(Arr 25 b1 [(Value.int .i64 (A.v)),la,na,(Value.int .i64 (A.r))])]) (List.perm_middle (l₁:=[(Arr 25 b1 [(Value.int .i64 (A.v)),la,na,(Value.int .i64 (A.r))])]) (l₂:=[])) (fun Vf1 hVf1 hb1=>?_)
 have hc1:Cells Vf1 b2 [(.int .i64 A.v),la,na,(.int .i64 A.r)]:=⟨_,_,hb1⟩
 have hA:=hA.mono hVf1
 refine oq (qv_call (v:=(.int .i64 (vE [A]))) (checked_c (Mdl.one hc1 hA) (by show 1≤1; omega)) rfl rfl) ?_
 refine oq (qv_as (.int .i64 (vE [A])) rfl) ?_
 refine ops_nil ?_
 refine vc_seq ?_
 refine vc_region ?_
 refine oq (qv_mv (.int .i64 (vE [A])) rfl) ?_
 refine oq (qv_neq rfl rfl) ?_
 refine ops_nil ?_
 refine vc_if rfl (fun c1=>?_) (fun c1=>?_)
 refine vc_seq ?_
 refine vc_region ?_
 refine oq (qv_mv (.int .i64 (vE [A])) rfl) ?_
 refine oq (qv_as (Value.slice none 0 0) rfl) ?_
 refine oq (qv_as (.int .i64 (vE [A])) rfl) ?_
 refine ops_nil ?_
 refine vc_drop [] [ζ1] (.refl _) ?_
 refine vc_ret ?_
 refine rq2 (Value.slice none 0 0) (.int .i64 (vE [A])) rfl rfl ?_
 obtain ⟨hn,e1⟩:=vE1_n (A:=A) (by omega)
 subst ζ1
 unfold hgR
 rw [if_neg hn]
 exact ⟨rfl,_,rfl,P2s.nil⟩
 refine vc_skip ?_
 refine vc_seq ?_
 have hz:vE [A]=0:=by omega
 have hok:=vE1_ok.1 hz
 have hrt:=hok.rt
 have hr0:0≤A.r:=hrt.1
 have hr1:A.r < A.L.length+A.N.length:=hrt.2
 have hl4:=hok.2.1
 have hv1:=hok.1.1
 have hv2:=hok.1.2
 have hpw:=pow2_40 (n:=A.v.toNat) (by omega)
 refine vc_region ?_
 refine oq (qv_fa (off:=0) Try.field25_1 rfl) ?_
 refine oq (qv_ldp (v:=la) Try.plain22 rfl (inOc (k:=0) rfl) rfl) ?_
 refine oq (qv_lenI Try.underlying22 rfl (hA.l)) ?_
 refine oq (qv_fa (off:=0) Try.field25_2 rfl) ?_
 refine oq (qv_ldp (v:=na) Try.plain23 rfl (inOc (k:=0) rfl) rfl) ?_
 refine oq (qv_lenSS Try.underlying23 rfl (hA.n)) ?_
 refine oq (qv_add rfl rfl (by omega)) ?_
 refine ops_make (n:=((A.L.length:Int))+((A.N.length:Int))) Try.underlying22 Try.ti3 rfl rfl rfl rfl (by omega) (by omega) (by omega) (fun b3=>?_)
 let ζ2:Value:=.slice (some ⟨b3,0,none⟩) (((A.L.length:Int))+((A.N.length:Int))).toNat (((A.L.length:Int))+((A.N.length:Int))).toNat
 refine oq (qv_as ζ2 rfl) ?_
 refine ops_nil ?_
 refine vc_seq ?_
 let ζ6:Asrt:=Arr 3 b3 (List.replicate (((A.L.length:Int))+((A.N.length:Int))).toNat (Value.int .i64 0))
 refine vc_res (σ':=[ζ1,ζ6]) rfl ?_
 refine vc_region_order (τ:=[]) [(0,false),(1,false),(2,false),(3,false),(4,false),(5,false),(6,false),(7,true)] [ζ1,ζ6] Try.mixed (perm_nil _) (by kernel_rfl) ?_
 refine rq rfl (qv_mv ζ2 rfl) ?_
 refine rq rfl (qv_fa (off:=0) Try.field25_3 rfl) ?_
 refine rq rfl (qv_ldp (v:=(.int .i64 A.r)) Try.plain3 rfl (inOc (k:=0) rfl) rfl) ?_
 refine rq rfl (qv_fa (off:=0) Try.field25_0 rfl) ?_
 refine rq rfl (qv_ldp (v:=(.int .i64 A.v)) Try.plain3 rfl (inOc (k:=0) rfl) rfl) ?_
 refine rq rfl (qv_shli rfl rfl (by omega) (by omega) (by omega)) ?_
 subst ζ1 ζ2 ζ6
 refine rq rfl (qv_ia (v:=(.slice (some ⟨b3,0,none⟩) (((A.L.length:Int))+((A.N.length:Int))).toNat (((A.L.length:Int))+((A.N.length:Int))).toNat)) (i:=A.r) Try.underlying22 Try.size3 rfl (inO (k:=1) rfl (by simp only [List.length_map,List.length_set,List.length_replicate]; try omega) (Nat.le_refl _) (by omega)) rfl (by omega) (by first | omega | (simp only [List.length_map,List.length_set,List.length_replicate]; omega))) ?_
 refine rl1 (by kernel_rfl) rfl ?_
 refine ops_ste (k:=1) (b:=b3) (n:=(((A.L.length:Int))+((A.N.length:Int))).toNat) (c:=(((A.L.length:Int))+((A.N.length:Int))).toNat) (i:=A.r) (cs:=(List.replicate (((A.L.length:Int))+((A.N.length:Int))).toNat (Value.int .i64 0))) Try.size3 rfl (rfl:ev _ _=(.int .i64 (1 * 2 ^ (A.v:Int).toNat))) rfl rfl (by omega) (by first | omega | (simp only [List.length_map,List.length_set,List.length_replicate]; omega)) ?_
 let ζ1:Asrt:=Arr 25 b1 [(.int .i64 A.v),la,na,(.int .i64 A.r)]
 let ζ4:Asrt:=Arr 3 b3 (((List.replicate (((A.L.length:Int))+((A.N.length:Int))).toNat (Value.int .i64 0))).set (A.r).toNat (.int .i64 (1 * 2 ^ (A.v:Int).toNat)))
 refine ops_nil ⟨[ζ1,ζ4],[],perm_nil _,?_⟩
 refine rnil ?_
 refine vc_seq ?_
 refine vc_seq ?_
 refine vc_res (σ':=[ζ1,ζ4]) rfl ?_
 refine vc_region ?_
 refine oq (qv_fa (off:=0) Try.field25_2 rfl) ?_
 refine oq (qv_ldp (v:=na) Try.plain23 rfl (inOc (k:=0) rfl) rfl) ?_
 refine oq (qv_lenSS Try.underlying23 rfl (hA.n)) ?_
 refine oq (qv_sub rfl rfl (by omega)) ?_
 refine oq (qv_as (.int .i64 (((A.N.length:Int)) - 1)) rfl) ?_
 refine ops_nil ?_
 refine vc_block ?_
 let ζ5:Value:=.agg #[(.int .i64 A.v),la,na,(.int .i64 A.r)]
 let ζ7:Value:=.bool (decide ((vE [A]) ≠ 0))
 let ζ9:Value:=Value.pointer (some ⟨b1,0,none⟩)
 refine vc_loop (α:=Int × List Int) (fun (xx:Int × List Int)=>[(0,ζ5),(1,ζ9),(2,(Value.slice none 0 0)),(3,(Value.int .i64 0)),(4,(.int .i64 (vE [A]))),(5,(.slice (some ⟨b3,0,none⟩) (((A.L.length:Int))+((A.N.length:Int))).toNat (((A.L.length:Int))+((A.N.length:Int))).toNat)),(15,ζ7),(6,(Value.int .i64 xx.1))]) (fun (xx:Int × List Int) V' σ'=>Vf1=V'∧[ζ1,(Arr 3 b3 (xx.2.map (Value.int .i64)))]=σ'∧-1≤xx.1∧xx.1 < A.N.length∧CInv_ A ((A.N.length:Int) - 1 - xx.1).toNat xx.2) (fun (xx:Int × List Int)=>(xx.1+1).toNat) (((A.N.length:Int) - 1),((List.replicate (A.L.length+A.N.length) (0:Int)).set A.r.toNat (2 ^ A.v.toNat))) ?_ ?_ ?_
 subst ζ1 ζ4 ζ5 ζ7 ζ9; exact ⟨rfl,rfl,rfl,rfl,rfl,rfl,rfl,(congrArg (Value.int .i64) (show (((A.N.length:Int)) - 1)=((((A.N.length:Int) - 1))) from by first | omega | simp)),trivial⟩
 subst ζ1 ζ4 ζ5 ζ7 ζ9; exact ⟨rfl,(show [(Arr 25 b1 [(.int .i64 A.v),la,na,(.int .i64 A.r)]),(Arr 3 b3 ((((List.replicate (A.L.length+A.N.length) (0:Int)).set A.r.toNat (2 ^ A.v.toNat)):List Int).map (Value.int .i64)))]=[(Arr 25 b1 [(.int .i64 A.v),la,na,(.int .i64 A.r)]),(Arr 3 b3 (((List.replicate (((A.L.length:Int))+((A.N.length:Int))).toNat (Value.int .i64 0))).set (A.r).toNat (.int .i64 (1 * 2 ^ (A.v:Int).toNat))))] from by rw [ci_init]),by omega,by omega,by rw [show ((A.N.length:Int) - 1 - ((A.N.length:Int) - 1)).toNat=0 by omega]; exact ci_0 hok⟩
 rintro ⟨j,C⟩ e1 V0l σ0l hI0
 let ζ3:Asrt:=Arr 3 b3 (C.map (Value.int .i64))
 obtain ⟨rfl,rfl,i1,i2,ci⟩:Vf1=V0l∧[ζ1,ζ3]=σ0l∧-1≤j∧j < A.N.length∧CInv_ A ((A.N.length:Int) - 1 - j).toNat C:=hI0
 let ζ2:Value:=.slice (some ⟨b3,0,none⟩) (((A.L.length:Int))+((A.N.length:Int))).toNat (((A.L.length:Int))+((A.N.length:Int))).toNat
 change VC _ _ _ _ _ _ (upds 92 [(0,ζ5),(1,ζ9),(2,(Value.slice none 0 0)),(3,(Value.int .i64 0)),(4,(.int .i64 (vE [A]))),(5,ζ2),(15,ζ7),(6,(Value.int .i64 j))] e1) _ _
 refine vc_seq ?_
 refine vc_seq ?_
 refine vc_res (σ':=[ζ1,ζ3]) rfl ?_
 refine vc_region ?_
 refine oq (qv_mv (Value.int .i64 j) rfl) ?_
 refine oq (qv_geq rfl rfl) ?_
 refine ops_nil ?_
 refine vc_if rfl (fun c2=>?_) (fun c2=>?_)
 refine vc_skip ?_
 refine vc_seq ?_
 refine vc_block ?_
 refine vc_seq ?_
 have hcl:=ci.len
 have hbj:=hok.loc.bd j (by omega) (by omega)
 have hbj1:=hbj.1
 have hbj2:=hbj.2
 have q0:=ci.bd hok (r:=(A.L.length:Int)+j) (by omega) (by omega)
 have q1:=ci.bd hok (r:=(fk A.N (j)).l) (by omega) (by omega)
 have q2:=ci.bd hok (r:=(fk A.N (j)).h) (by omega) (by omega)
 refine vc_region ?_
 refine oq (qv_mv ζ2 rfl) ?_
 refine oq (qv_fa (off:=0) Try.field25_1 rfl) ?_
 refine oq (qv_ldp (v:=la) Try.plain22 rfl (inOc (k:=0) rfl) rfl) ?_
 refine oq (qv_lenI Try.underlying22 rfl (hA.l)) ?_
 refine oq (qv_mv (Value.int .i64 j) rfl) ?_
 refine oq (qv_add rfl rfl (by omega)) ?_
 subst ζ1 ζ4 ζ5 ζ7 ζ9 ζ3 ζ2
 refine oq (qv_ia (v:=(.slice (some ⟨b3,0,none⟩) (((A.L.length:Int))+((A.N.length:Int))).toNat (((A.L.length:Int))+((A.N.length:Int))).toNat)) (i:=((A.L.length:Int))+j) Try.underlying22 Try.size3 rfl (inO (k:=1) rfl (by simp only [List.length_map,List.length_set,List.length_replicate]; try omega) (Nat.le_refl _) (by omega)) rfl (by omega) (by first | omega | (simp only [List.length_map,List.length_set,List.length_replicate]; omega))) ?_
 refine oq (qv_ldv (u:=(.int .i64 (gi C (((A.L.length:Int))+j)))) (v:=(.slice (some ⟨b3,0,none⟩) (((A.L.length:Int))+((A.N.length:Int))).toNat (((A.L.length:Int))+((A.N.length:Int))).toNat)) (i:=((A.L.length:Int))+j) Try.plain3 rfl (inO (k:=1) rfl (by simp only [List.length_map,List.length_set,List.length_replicate]; try omega) (Nat.le_refl _) (by omega)) (by omega) (by first | omega | (simp only [List.length_map,List.length_set,List.length_replicate]; omega)) (gvm (by omega) (by omega))) ?_
 refine oq (qv_quo rfl rfl (by omega) (by omega)) ?_
 refine oq (qv_as (.int .i64 ((gi C (((A.L.length:Int))+j)) / 2)) rfl) ?_
 refine ops_nil ?_
 refine vc_seq ?_
 refine vc_region ?_
 refine oq (qv_mv (.slice (some ⟨b3,0,none⟩) (((A.L.length:Int))+((A.N.length:Int))).toNat (((A.L.length:Int))+((A.N.length:Int))).toNat) rfl) ?_
 refine oq (qv_fa (off:=0) Try.field25_2 rfl) ?_
 refine oq (qv_ldp (v:=na) Try.plain23 rfl (inOc (k:=0) rfl) rfl) ?_
 refine oq (qv_mv (Value.int .i64 j) rfl) ?_
 refine oq (qv_ias (v:=na) (i:=j) Try.underlying23 Try.size80 rfl (hA.n) rfl (by omega) (by first | omega | (simp only [List.length_map,List.length_set,List.length_replicate]; omega))) ?_
 refine oq (qv_fas Try.field80_1 rfl (hA.n) (by omega) (by first | omega | (simp only [List.length_map,List.length_set,List.length_replicate]; omega))) ?_
 refine oq (qv_ldf (u:=(.int .i64 ((fk A.N (j)).l))) (v:=na) (i:=j) Try.plain3 rfl (hA.n) (by omega) (by first | omega | (simp only [List.length_map,List.length_set,List.length_replicate]; omega)) (by omega) (fks_el (o:=1) (by omega) (by omega) (by omega) rfl)) ?_
 refine oq (qv_ia (v:=(.slice (some ⟨b3,0,none⟩) (((A.L.length:Int))+((A.N.length:Int))).toNat (((A.L.length:Int))+((A.N.length:Int))).toNat)) (i:=(fk A.N (j)).l) Try.underlying22 Try.size3 rfl (inO (k:=1) rfl (by simp only [List.length_map,List.length_set,List.length_replicate]; try omega) (Nat.le_refl _) (by omega)) rfl (by omega) (by first | omega | (simp only [List.length_map,List.length_set,List.length_replicate]; omega))) ?_
 refine oq (qv_ldv (u:=(.int .i64 (gi C ((fk A.N (j)).l)))) (v:=(.slice (some ⟨b3,0,none⟩) (((A.L.length:Int))+((A.N.length:Int))).toNat (((A.L.length:Int))+((A.N.length:Int))).toNat)) (i:=(fk A.N (j)).l) Try.plain3 rfl (inO (k:=1) rfl (by simp only [List.length_map,List.length_set,List.length_replicate]; try omega) (Nat.le_refl _) (by omega)) (by omega) (by first | omega | (simp only [List.length_map,List.length_set,List.length_replicate]; omega)) (gvm (by omega) (by omega))) ?_
 refine oq (qv_mv (.int .i64 ((gi C (((A.L.length:Int))+j)) / 2)) rfl) ?_
 refine oq (qv_add rfl rfl (by omega)) ?_
 refine oq (qv_ia (v:=(.slice (some ⟨b3,0,none⟩) (((A.L.length:Int))+((A.N.length:Int))).toNat (((A.L.length:Int))+((A.N.length:Int))).toNat)) (i:=(fk A.N (j)).l) Try.underlying22 Try.size3 rfl (inO (k:=1) rfl (by simp only [List.length_map,List.length_set,List.length_replicate]; try omega) (Nat.le_refl _) (by omega)) rfl (by omega) (by first | omega | (simp only [List.length_map,List.length_set,List.length_replicate]; omega))) ?_
 refine ops_ste (k:=1) (b:=b3) (n:=(((A.L.length:Int))+((A.N.length:Int))).toNat) (c:=(((A.L.length:Int))+((A.N.length:Int))).toNat) (i:=(fk A.N (j)).l) (cs:=(C.map (Value.int .i64))) Try.size3 rfl (rfl:ev _ _=(.int .i64 ((gi C ((fk A.N (j)).l))+((gi C (((A.L.length:Int))+j)) / 2)))) rfl rfl (by omega) (by first | omega | (simp only [List.length_map,List.length_set,List.length_replicate]; omega)) ?_
 refine ops_nil ?_
 refine vc_res (σ':=[(Arr 25 b1 [(.int .i64 A.v),la,na,(.int .i64 A.r)]),(Arr 3 b3 (((C.map (Value.int .i64))).set ((fk A.N (j)).l).toNat (.int .i64 ((gi C ((fk A.N (j)).l))+((gi C (((A.L.length:Int))+j)) / 2)))))]) rfl ?_
 have hne:(fk A.N (j)).l ≠ (fk A.N (j)).h:=(hok.loc.nd j (by omega) (by omega)).2.1
 have q3:gi (C.set (fk A.N (j)).l.toNat (gi C ((fk A.N (j)).l)+gi C ((A.L.length:Int)+j) / 2)) ((fk A.N (j)).h)=gi C ((fk A.N (j)).h):=by rw [gi_set (by omega) (by omega) (by omega),if_neg (fun q=>hne q.symm)]
 refine vc_region ?_
 refine oq (qv_mv (.slice (some ⟨b3,0,none⟩) (((A.L.length:Int))+((A.N.length:Int))).toNat (((A.L.length:Int))+((A.N.length:Int))).toNat) rfl) ?_
 refine oq (qv_fa (off:=0) Try.field25_2 rfl) ?_
 refine oq (qv_ldp (v:=na) Try.plain23 rfl (inOc (k:=0) rfl) rfl) ?_
 refine oq (qv_mv (Value.int .i64 j) rfl) ?_
 refine oq (qv_ias (v:=na) (i:=j) Try.underlying23 Try.size80 rfl (hA.n) rfl (by omega) (by first | omega | (simp only [List.length_map,List.length_set,List.length_replicate]; omega))) ?_
 refine oq (qv_fas Try.field80_2 rfl (hA.n) (by omega) (by first | omega | (simp only [List.length_map,List.length_set,List.length_replicate]; omega))) ?_
 refine oq (qv_ldf (u:=(.int .i64 ((fk A.N (j)).h))) (v:=na) (i:=j) Try.plain3 rfl (hA.n) (by omega) (by first | omega | (simp only [List.length_map,List.length_set,List.length_replicate]; omega)) (by omega) (fks_el (o:=2) (by omega) (by omega) (by omega) rfl)) ?_
 refine oq (qv_ia (v:=(.slice (some ⟨b3,0,none⟩) (((A.L.length:Int))+((A.N.length:Int))).toNat (((A.L.length:Int))+((A.N.length:Int))).toNat)) (i:=(fk A.N (j)).h) Try.underlying22 Try.size3 rfl (inO (k:=1) rfl (by simp only [List.length_map,List.length_set,List.length_replicate]; try omega) (Nat.le_refl _) (by omega)) rfl (by omega) (by first | omega | (simp only [List.length_map,List.length_set,List.length_replicate]; omega))) ?_
 refine oq (qv_ldv (u:=(.int .i64 (gi (C.set (fk A.N (j)).l.toNat (gi C ((fk A.N (j)).l)+gi C ((A.L.length:Int)+j) / 2)) ((fk A.N (j)).h)))) (v:=(.slice (some ⟨b3,0,none⟩) (((A.L.length:Int))+((A.N.length:Int))).toNat (((A.L.length:Int))+((A.N.length:Int))).toNat)) (i:=(fk A.N (j)).h) Try.plain3 rfl (inO (k:=1) rfl (by simp only [List.length_map,List.length_set,List.length_replicate]; try omega) (Nat.le_refl _) (by omega)) (by omega) (by first | omega | (simp only [List.length_map,List.length_set,List.length_replicate]; omega)) (by rw [mset]; exact gvm (by omega) (by rw [List.length_set]; omega))) ?_
 refine oq (qv_mv (.int .i64 ((gi C (((A.L.length:Int))+j)) / 2)) rfl) ?_
 refine oq (qv_add rfl rfl (by omega)) ?_
 refine oq (qv_ia (v:=(.slice (some ⟨b3,0,none⟩) (((A.L.length:Int))+((A.N.length:Int))).toNat (((A.L.length:Int))+((A.N.length:Int))).toNat)) (i:=(fk A.N (j)).h) Try.underlying22 Try.size3 rfl (inO (k:=1) rfl (by simp only [List.length_map,List.length_set,List.length_replicate]; try omega) (Nat.le_refl _) (by omega)) rfl (by omega) (by first | omega | (simp only [List.length_map,List.length_set,List.length_replicate]; omega))) ?_
 refine ops_ste (k:=1) (b:=b3) (n:=(((A.L.length:Int))+((A.N.length:Int))).toNat) (c:=(((A.L.length:Int))+((A.N.length:Int))).toNat) (i:=(fk A.N (j)).h) (cs:=(((C.map (Value.int .i64))).set ((fk A.N (j)).l).toNat (.int .i64 ((gi C ((fk A.N (j)).l))+((gi C (((A.L.length:Int))+j)) / 2))))) Try.size3 rfl (rfl:ev _ _=(.int .i64 ((gi (C.set (fk A.N (j)).l.toNat (gi C ((fk A.N (j)).l)+gi C ((A.L.length:Int)+j) / 2)) ((fk A.N (j)).h))+((gi C (((A.L.length:Int))+j)) / 2)))) rfl rfl (by omega) (by first | omega | (simp only [List.length_map,List.length_set,List.length_replicate]; omega)) ?_
 refine ops_nil ?_
 refine vc_res (σ':=[(Arr 25 b1 [(.int .i64 A.v),la,na,(.int .i64 A.r)]),(Arr 3 b3 (((((C.map (Value.int .i64))).set ((fk A.N (j)).l).toNat (.int .i64 ((gi C ((fk A.N (j)).l))+((gi C (((A.L.length:Int))+j)) / 2))))).set ((fk A.N (j)).h).toNat (.int .i64 ((gi (C.set (fk A.N (j)).l.toNat (gi C ((fk A.N (j)).l)+gi C ((A.L.length:Int)+j) / 2)) ((fk A.N (j)).h))+((gi C (((A.L.length:Int))+j)) / 2)))))]) rfl ?_
 refine vc_region ?_
 refine oq (qv_mv (Value.int .i64 j) rfl) ?_
 refine oq (qv_sub rfl rfl (by omega)) ?_
 refine oq (qv_as (.int .i64 (j - 1)) rfl) ?_
 refine ops_nil ?_
 refine ⟨(j - 1,ciS A j C),⟨rfl,rfl,rfl,rfl,rfl,rfl,rfl,(congrArg (Value.int .i64) (show (j - 1)=((j - 1)) from by omega)),trivial⟩,⟨rfl,(show [(Arr 25 b1 [(.int .i64 A.v),la,na,(.int .i64 A.r)]),(Arr 3 b3 ((ciS A j C:List Int).map (Value.int .i64)))]=[(Arr 25 b1 [(.int .i64 A.v),la,na,(.int .i64 A.r)]),(Arr 3 b3 (((((C.map (Value.int .i64))).set ((fk A.N (j)).l).toNat (.int .i64 ((gi C ((fk A.N (j)).l))+((gi C (((A.L.length:Int))+j)) / 2))))).set ((fk A.N (j)).h).toNat (.int .i64 ((gi (C.set (fk A.N (j)).l.toNat (gi C ((fk A.N (j)).l)+gi C ((A.L.length:Int)+j) / 2)) ((fk A.N (j)).h))+((gi C (((A.L.length:Int))+j)) / 2)))))] from by rw [mset,mset]; rfl),by omega,by omega,by have q:=ci_step hok ci (j:=j) (by omega) (by omega); rw [show ((A.N.length:Int) - 1 - (j - 1)).toNat=((A.N.length:Int) - 1 - j).toNat+1 by omega]; exact q⟩,by omega⟩
 refine vc_exit ?_
 refine blockQ_hit ?_
 refine vc_seq ?_
 refine vc_region ?_
 refine oq (qv_as (Value.slice none 0 0) rfl) ?_
 refine ops_nil ?_
 refine vc_seq ?_
 refine vc_seq ?_
 have hcl:=ci.len
 refine vc_nil 57 2 ?_
 refine vc_region ?_
 refine oq (qv_fa (off:=0) Try.field25_1 rfl) ?_
 refine oq (qv_ldp (v:=la) Try.plain22 rfl (inOc (k:=0) rfl) rfl) ?_
 refine oq (qv_lenI Try.underlying22 rfl (hA.l)) ?_
 refine oq (qv_mv (Value.int .i64 0) rfl) ?_
 refine ops_nil ?_
 refine vc_block ?_
 refine vc_loop (α:=Int × Value) (fun (xx:Int × Value)=>[(0,ζ5),(1,(Value.pointer (some ⟨b1,0,none⟩))),(2,(Value.slice none 0 0)),(3,(Value.int .i64 0)),(4,(.int .i64 (vE [A]))),(5,(.slice (some ⟨b3,0,none⟩) (((A.L.length:Int))+((A.N.length:Int))).toNat (((A.L.length:Int))+((A.N.length:Int))).toNat)),(6,(Value.int .i64 j)),(15,ζ7),(37,(.bool (decide (0≤j)))),(74,la),(75,(.int .i64 ((A.L.length:Int)))),(8,xx.2),(76,(Value.int .i64 xx.1))]) (fun (xx:Int × Value) V' σ'=>Vf1=V'∧[ζ1,(Arr 3 b3 (C.map (Value.int .i64))),(Gr 57 2 xx.2 ((hgN A xx.1.toNat).length) ((p2s (hgN A xx.1.toNat))))]=σ'∧0≤xx.1∧xx.1≤A.L.length) (fun (xx:Int × Value)=>(A.L.length - xx.1).toNat) (0,(Value.slice none 0 0)) ?_ ?_ ?_
 subst ζ1 ζ4 ζ5 ζ7 ζ9 ζ3 ζ2; exact ⟨rfl,rfl,rfl,rfl,rfl,rfl,rfl,rfl,rfl,rfl,rfl,(by first | rfl | (first | omega | simp)),rfl,trivial⟩
 exact ⟨rfl,(show [ζ1,ζ3,(Gr 57 2 ((Value.slice none 0 0)) ((hgN A (0:Int).toNat).length) ((p2s (hgN A (0:Int).toNat))))]=[ζ1,ζ3,(Gr 57 2 ((Value.slice none 0 0)) 0 ([]))] from by rfl),by omega,by omega⟩
 rintro ⟨i,ov⟩ e2 V1l σ1l hI1
 obtain ⟨rfl,rfl,i3,i4⟩:Vf1=V1l∧[ζ1,ζ3,(Gr 57 2 ov ((hgN A i.toNat).length) ((p2s (hgN A i.toNat))))]=σ1l∧0≤i∧i≤A.L.length:=hI1
 change VC _ _ _ _ _ _ (upds 92 [(0,ζ5),(1,ζ9),(2,(Value.slice none 0 0)),(3,(Value.int .i64 0)),(4,(.int .i64 (vE [A]))),(5,ζ2),(6,(Value.int .i64 j)),(15,ζ7),(37,(.bool (decide (0≤j)))),(74,la),(75,(.int .i64 ((A.L.length:Int)))),(8,ov),(76,(Value.int .i64 i))] e2) _ _
 refine vc_seq ?_
 refine vc_res (σ':=[ζ1,ζ3,(Gr 57 2 ov ((hgN A i.toNat).length) ((p2s (hgN A i.toNat))))]) rfl ?_
 refine vc_region ?_
 refine oq (qv_lss rfl rfl) ?_
 refine ops_nil ?_
 refine vc_seq ?_
 refine vc_if rfl (fun c3=>?_) (fun c3=>?_)
 refine vc_skip ?_
 refine vc_seq ?_
 refine vc_block ?_
 refine vc_seq ?_
 refine vc_region ?_
 refine oq (qv_mv (Value.int .i64 i) rfl) ?_
 refine oq (qv_iai (v:=la) (i:=i) Try.underlying22 Try.size3 rfl (inVi (hA.l)) rfl (by omega) (by omega)) ?_
 refine oq (qv_ldi (v:=la) (i:=i) Try.plain3 rfl (inVi (hA.l)) (by omega) (by omega)) ?_
 refine oq (qv_as (Value.int .i64 i) rfl) ?_
 refine oq (qv_as (.int .i64 (gi A.L (i))) rfl) ?_
 refine ops_nil ?_
 have hgl:(hgN A i.toNat).length≤A.L.length:=by unfold hgN; rw [List.length_take,hg_len]; omega
 refine vc_region ?_
 refine oq (qv_mv ov rfl) ?_
 refine oq (qv_mv (.int .i64 (gi A.L (i))) rfl) ?_
 refine oq (qv_mv ζ2 rfl) ?_
 refine oq (qv_mv (Value.int .i64 i) rfl) ?_
 subst ζ1 ζ4 ζ5 ζ7 ζ9 ζ3 ζ2
 refine oq (qv_ia (v:=(.slice (some ⟨b3,0,none⟩) (((A.L.length:Int))+((A.N.length:Int))).toNat (((A.L.length:Int))+((A.N.length:Int))).toNat)) (i:=i) Try.underlying22 Try.size3 rfl (inO (k:=1) rfl (by simp only [List.length_map,List.length_set,List.length_replicate]; try omega) (Nat.le_refl _) (by omega)) rfl (by omega) (by first | omega | (simp only [List.length_map,List.length_set,List.length_replicate]; omega))) ?_
 refine oq (qv_ldv (u:=(.int .i64 (gi C (i)))) (v:=(.slice (some ⟨b3,0,none⟩) (((A.L.length:Int))+((A.N.length:Int))).toNat (((A.L.length:Int))+((A.N.length:Int))).toNat)) (i:=i) Try.plain3 rfl (inO (k:=1) rfl (by simp only [List.length_map,List.length_set,List.length_replicate]; try omega) (Nat.le_refl _) (by omega)) (by omega) (by first | omega | (simp only [List.length_map,List.length_set,List.length_replicate]; omega)) (gvm (by omega) (by omega))) ?_
 refine oq (qv_build (out:=[(.int .i64 (gi A.L (i))),(.int .i64 (gi C (i)))]) Try.build57 [(0,[(.int .i64 (gi A.L (i)))]),(1,[(.int .i64 (gi C (i)))])] rfl rfl) ?_
 refine ops_lit (n:=1) (s:=2) (cs:=[(.int .i64 (gi A.L (i))),(.int .i64 (gi C (i)))]) Try.underlying53 Try.ti57 (Nat.le_of_ble_eq_true rfl) rfl rfl rfl (Nat.le_of_ble_eq_true rfl) rfl (fun b4=>?_)
 refine ops_append (k:=2) (n:=(hgN A i.toNat).length) (s:=2) (m:=1) (v:=ov) (xs:=(p2s (hgN A i.toNat))) (news:=[(.int .i64 (gi A.L (i))),(.int .i64 (gi C (i)))]) Try.underlying53 Try.ti57 rfl (Nat.le_of_ble_eq_true rfl) rfl rfl rfl rfl (news_own (j:=3) rfl) (by simp [Value.oneCell']) (by omega) (by simp only [maxLen]; omega) (fun v1 hn1=>?_)
 refine oq (qv_as v1 rfl) ?_
 refine ops_nil ?_
 let ζ3:Asrt:=Arr 3 b3 (C.map (Value.int .i64))
 refine vc_res (σ':=[(Arr 25 b1 [(.int .i64 A.v),la,na,(.int .i64 A.r)]),ζ3,(Gr 57 2 v1 (((hgN A i.toNat).length+1)) (((p2s (hgN A i.toNat))++[(.int .i64 (gi A.L (i))),(.int .i64 (gi C (i)))]))),(Arr 57 b4 [(.int .i64 (gi A.L (i))),(.int .i64 (gi C (i)))])]) rfl ?_
 let ζ8:Value:=Value.int .i64 (gi A.L (i))
 refine vc_drop [(Arr 25 b1 [(Value.int .i64 (A.v)),la,na,(Value.int .i64 (A.r))]),ζ3,(Gr 57 2 v1 (((hgN A i.toNat).length+1)) (((p2s (hgN A i.toNat))++[ζ8,(Value.int .i64 (gi C (i)))])))] [(Arr 57 b4 [ζ8,(Value.int .i64 (gi C (i)))])] ((List.perm_middle (l₁:=[(Arr 25 b1 [(Value.int .i64 (A.v)),la,na,(Value.int .i64 (A.r))]),ζ3,(Gr 57 2 v1 (((hgN A i.toNat).length+1)) (((p2s (hgN A i.toNat))++[ζ8,(Value.int .i64 (gi C (i)))])))]) (l₂:=[])).trans (List.perm_append_comm (l₁:=[(Arr 57 b4 [ζ8,(Value.int .i64 (gi C (i)))])]))) ?_
 refine vc_region ?_
 refine oq (qv_add rfl rfl (by omega)) ?_
 refine oq (qv_mv (.int .i64 (i+1)) rfl) ?_
 refine ops_nil ?_
 subst ζ3 ζ8
 refine ⟨(i+1,v1),⟨rfl,rfl,rfl,rfl,rfl,rfl,rfl,rfl,rfl,rfl,rfl,rfl,(congrArg (Value.int .i64) (show (i+1)=((i+1)) from by omega)),trivial⟩,⟨rfl,(show [(Arr 25 b1 [(.int .i64 A.v),la,na,(.int .i64 A.r)]),(Arr 3 b3 (C.map (Value.int .i64))),(Gr 57 2 v1 ((hgN A (i+1:Int).toNat).length) ((p2s (hgN A (i+1:Int).toNat))))]=[(Arr 25 b1 [(.int .i64 A.v),la,na,(.int .i64 A.r)]),(Arr 3 b3 (C.map (Value.int .i64))),(Gr 57 2 v1 (((hgN A i.toNat).length+1)) (((p2s (hgN A i.toNat))++[(.int .i64 (gi A.L (i))),(.int .i64 (gi C (i)))])))] from by rw [← hgN_step hok (C:=C) (by have q:=ci; rw [show ((A.N.length:Int) - 1 - j).toNat=A.N.length by omega] at q; exact q) (by omega) (by omega),p2s_snoc,List.length_append]; rfl),by omega,by omega⟩,by omega⟩
 refine vc_exit ?_
 refine blockQ_hit ?_
 refine vc_seq ?_
 refine vc_region ?_
 refine oq (qv_mv ov rfl) ?_
 refine oq (qv_as ov rfl) ?_
 refine oq (qv_as (Value.int .i64 0) rfl) ?_
 refine ops_nil ?_
 refine vc_freezeS (v:=ov) (E:=57) (n:=(hgN A i.toNat).length) (xs:=(p2s (hgN A i.toNat))) (σr:=[(Arr 25 b1 [(Value.int .i64 (A.v)),la,na,(Value.int .i64 (A.r))]),ζ3]) (List.perm_middle (l₁:=[(Arr 25 b1 [(Value.int .i64 (A.v)),la,na,(Value.int .i64 (A.r))]),ζ3]) (l₂:=[])) (fun Vf2 hVf2 hc2=>?_)
 have hA:=hA.mono hVf2
 have hc1:=hc1.mono hVf2
 refine vc_drop [] [ζ1,ζ3] (.refl _) ?_
 refine vc_ret ?_
 refine rq2 ov (Value.int .i64 0) rfl rfl ?_
 have q:=hc2
 subst ζ1 ζ4 ζ5 ζ7 ζ9 ζ3 ζ2
 rw [hgN_all (by omega)] at q
 unfold hgR
 rw [if_pos hok,hz]
 exact ⟨rfl,_,rfl,q⟩
end Go.Proofs.Ytkmhjcjpohpiaaa
