import Derived.Test.YtkmhjcjpohpiaaaBn
/- Walks of bdd: what each function returns. Printed by a program out of notes. -/
namespace Go.Proofs.Ytkmhjcjpohpiaaa.Bd
open Go.Vc
open Classical
set_option maxRecDepth 100000
set_option maxHeartbeats 4000000
theorem Count_c {V:HV} {na:Value} {A:Dg} (hA:Fks V na A.N) :
    FnC Try.prog 30 [(.agg #[(.int .i64 A.v),na,(.int .i64 A.r)])] V [] (fun v _ σ'=>σ' = []∧v=.tuple #[.int .i64 (cnN A),.int .i64 (vE [A])]):=by
 refine fn_intro (N:=25) Try.func30 (by kernel_rfl) rfl rfl rfl (Nat.le_of_ble_eq_true rfl) ?_
 intro w0 D
 have hb:=SlS.bound hA
 refine vc_seq ?_
 refine vc_region ?_
 refine ops_box (v:=(.agg #[(.int .i64 A.v),na,(.int .i64 A.r)])) (cs:=[(.int .i64 A.v),na,(.int .i64 A.r)]) rfl rfl (fun b1=>?_)
 refine oq (qv_as (Value.int .i64 0) rfl) ?_
 refine oq (qv_as (Value.int .i64 0) rfl) ?_
 refine ops_nil ?_
 refine vc_seq ?_
 refine vc_seq ?_
 refine vc_res (σ':=[(Arr 59 b1 [(.int .i64 A.v),na,(.int .i64 A.r)])]) rfl ?_
 refine vc_region ?_
 refine oq (qv_ldm (vs:=[(.int .i64 A.v),na,(.int .i64 A.r)]) Try.agg59 rfl (inOc (k:=0) rfl) rfl rfl) ?_
 refine ops_lit (n:=1) (s:=3) (cs:=[(.int .i64 A.v),na,(.int .i64 A.r)]) Try.underlying141 Try.ti59 (Nat.le_of_ble_eq_true rfl) rfl rfl rfl (Nat.le_of_ble_eq_true rfl) rfl (fun b2=>?_)
 refine ops_freeze (b:=b2) (o:=.cells ([(Value.int .i64 (A.v)),na,(Value.int .i64 (A.r))]:List Value).toArray 59 (0,0)) (σr:=[(Arr 59 b1 [(Value.int .i64 (A.v)),na,(Value.int .i64 (A.r))])]) (List.perm_middle (l₁:=[(Arr 59 b1 [(Value.int .i64 (A.v)),na,(Value.int .i64 (A.r))])]) (l₂:=[])) (fun Vf1 hVf1 hb1=>?_)
 have hc1:Cells Vf1 b2 [(.int .i64 A.v),na,(.int .i64 A.r)]:=⟨_,_,hb1⟩
 have hA:=hA.mono hVf1
 refine oq (qv_call (v:=(.int .i64 (vE [A]))) (valid_c (Bdl.one hc1 hA) (by show 1≤1; omega)) rfl rfl) ?_
 refine oq (qv_as (.int .i64 (vE [A])) rfl) ?_
 refine ops_nil ?_
 refine vc_seq ?_
 refine vc_region ?_
 refine oq (qv_mv (.int .i64 (vE [A])) rfl) ?_
 refine oq (qv_neq rfl rfl) ?_
 refine ops_nil ?_
 refine vc_if rfl (fun c1=>?_) (fun c1=>?_)
 refine vc_seq ?_
 refine vc_region ?_
 refine oq (qv_mv (.int .i64 (vE [A])) rfl) ?_
 refine oq (qv_as (Value.int .i64 0) rfl) ?_
 refine oq (qv_as (.int .i64 (vE [A])) rfl) ?_
 refine ops_nil ?_
 refine vc_drop [] [(Arr 59 b1 [(.int .i64 A.v),na,(.int .i64 A.r)])] (.refl _) ?_
 refine vc_ret ?_
 refine rq2 (Value.int .i64 0) (.int .i64 (vE [A])) rfl rfl ?_
 rw [cnN_n (by omega)]
 exact ⟨rfl,rfl⟩
 refine vc_skip ?_
 refine vc_seq ?_
 have hz:vE [A]=0:=by omega
 have hok:=ok_of hz
 have hrf:=hok.2.2.1.rf
 have hrf1:=hrf.1
 have hrf2:=hrf.2
 have hca:=ct_all hok.2.2.1.1 hrf hok.1.1 hok.1.2
 have hll:=hok.2.2.1.1.lev_le hrf
 have hln:=hok.2.2.1.1.lev_nn hok.1.1 hrf
 have hv40:=hok.1.2
 refine vc_region ?_
 refine ops_mkmap0 (Value.int .i64) (Value.int .i64) (fun b3=>?_)
 refine ops_mapins (k:=1) (key:=0) (v:=0) Try.underlying110 (KeyT.int Try.underlying3) rfl rfl rfl rfl ?_
 refine ops_mapins (k:=1) (key:=1) (v:=1) Try.underlying110 (KeyT.int Try.underlying3) rfl rfl rfl rfl ?_
 refine oq (qv_mv (Value.map (some b3)) rfl) ?_
 refine ops_alloc Try.ti110 rfl (fun b4=>?_)
 refine ops_stp (k:=2) (off:=0) (cs:=[(Value.map none)]) Try.size110 rfl (rfl:ev _ _=(Value.map (some b3))) rfl rfl (Nat.le_of_ble_eq_true rfl) ?_
 refine ops_nil ?_
 refine vc_seq ?_
 refine vc_res (σ':=[(Arr 59 b1 [(.int .i64 A.v),na,(.int .i64 A.r)]),(Mf b3 (Value.int .i64) (Value.int .i64) (setF (setF (fun _=>none) 0 0) 1 1)),(Arr 110 b4 [(Value.map (some b3))])]) rfl ?_
 refine vc_region ?_
 refine ops_alloc Try.ti94 rfl (fun b5=>?_)
 refine ops_nil ?_
 refine vc_seq ?_
 refine vc_res (σ':=[(Arr 59 b1 [(.int .i64 A.v),na,(.int .i64 A.r)]),(Mf b3 (Value.int .i64) (Value.int .i64) (setF (setF (fun _=>none) 0 0) 1 1)),(Arr 110 b4 [(Value.map (some b3))]),(Arr 94 b5 [Value.nilFunc])]) rfl ?_
 refine vc_region ?_
 refine oq (qv_func (cs:=[(Value.pointer (some ⟨b4,0,none⟩)),(Value.pointer (some ⟨b1,0,none⟩)),(Value.pointer (some ⟨b5,0,none⟩))]) rfl) ?_
 refine ops_stp (k:=3) (off:=0) (cs:=[Value.nilFunc]) Try.size94 rfl (rfl:ev _ _=(Value.func (.func 76) #[] #[(Value.pointer (some ⟨b4,0,none⟩)),(Value.pointer (some ⟨b1,0,none⟩)),(Value.pointer (some ⟨b5,0,none⟩))])) rfl rfl (Nat.le_of_ble_eq_true rfl) ?_
 refine ops_nil ?_
 refine vc_seq ?_
 refine vc_res (σ':=[(Arr 59 b1 [(.int .i64 A.v),na,(.int .i64 A.r)]),(Mf b3 (Value.int .i64) (Value.int .i64) (setF (setF (fun _=>none) 0 0) 1 1)),(Arr 110 b4 [(Value.map (some b3))]),(Arr 94 b5 [(Value.func (.func 76) #[] #[(Value.pointer (some ⟨b4,0,none⟩)),(Value.pointer (some ⟨b1,0,none⟩)),(Value.pointer (some ⟨b5,0,none⟩))])])]) rfl ?_
 refine vc_freeze (b:=b4) (o:=.cells ([(Value.map (some b3))]:List Value).toArray 110 (0,0)) (σr:=[(Arr 59 b1 [(Value.int .i64 (A.v)),na,(Value.int .i64 (A.r))]),(Mf b3 (Value.int .i64) (Value.int .i64) (setF (setF (fun _=>none) 0 0) 1 1)),(Arr 94 b5 [(Value.func (.func 76) #[] #[(Value.pointer (some ⟨b4,0,none⟩)),(Value.pointer (some ⟨b1,0,none⟩)),(Value.pointer (some ⟨b5,0,none⟩))])])]) (List.perm_middle (l₁:=[(Arr 59 b1 [(Value.int .i64 (A.v)),na,(Value.int .i64 (A.r))]),(Mf b3 (Value.int .i64) (Value.int .i64) (setF (setF (fun _=>none) 0 0) 1 1))]) (l₂:=[(Arr 94 b5 [(Value.func (.func 76) #[] #[(Value.pointer (some ⟨b4,0,none⟩)),(Value.pointer (some ⟨b1,0,none⟩)),(Value.pointer (some ⟨b5,0,none⟩))])])])) (fun Vf2 hVf2 hb2=>?_)
 have hc2:Cells Vf2 b4 [(Value.map (some b3))]:=⟨_,_,hb2⟩
 have hA:=hA.mono hVf2
 have hc1:=hc1.mono hVf2
 refine vc_freeze (b:=b1) (o:=.cells ([(Value.int .i64 (A.v)),na,(Value.int .i64 (A.r))]:List Value).toArray 59 (0,0)) (σr:=[(Mf b3 (Value.int .i64) (Value.int .i64) (setF (setF (fun _=>none) 0 0) 1 1)),(Arr 94 b5 [(Value.func (.func 76) #[] #[(Value.pointer (some ⟨b4,0,none⟩)),(Value.pointer (some ⟨b1,0,none⟩)),(Value.pointer (some ⟨b5,0,none⟩))])])]) (List.perm_middle (l₁:=[]) (l₂:=[(Mf b3 (Value.int .i64) (Value.int .i64) (setF (setF (fun _=>none) 0 0) 1 1)),(Arr 94 b5 [(Value.func (.func 76) #[] #[(Value.pointer (some ⟨b4,0,none⟩)),(Value.pointer (some ⟨b1,0,none⟩)),(Value.pointer (some ⟨b5,0,none⟩))])])])) (fun Vf3 hVf3 hb3=>?_)
 have hc3:Cells Vf3 b1 [(.int .i64 A.v),na,(.int .i64 A.r)]:=⟨_,_,hb3⟩
 have hA:=hA.mono hVf3
 have hc1:=hc1.mono hVf3
 have hc2:=hc2.mono hVf3
 refine vc_freeze (b:=b5) (o:=.cells ([(Value.func (.func 76) #[] #[(Value.pointer (some ⟨b4,0,none⟩)),(Value.pointer (some ⟨b1,0,none⟩)),(Value.pointer (some ⟨b5,0,none⟩))])]:List Value).toArray 94 (0,0)) (σr:=[(Mf b3 (Value.int .i64) (Value.int .i64) (setF (setF (fun _=>none) 0 0) 1 1))]) (List.perm_middle (l₁:=[(Mf b3 (Value.int .i64) (Value.int .i64) (setF (setF (fun _=>none) 0 0) 1 1))]) (l₂:=[])) (fun Vf4 hVf4 hb4=>?_)
 have hc4:Cells Vf4 b5 [(Value.func (.func 76) #[] #[(Value.pointer (some ⟨b4,0,none⟩)),(Value.pointer (some ⟨b1,0,none⟩)),(Value.pointer (some ⟨b5,0,none⟩))])]:=⟨_,_,hb4⟩
 have hA:=hA.mono hVf4
 have hc1:=hc1.mono hVf4
 have hc2:=hc2.mono hVf4
 have hc3:=hc3.mono hVf4
 refine vc_region_order (τ:=[(Mf b3 (Value.int .i64) (Value.int .i64) (setF (setF (fun _=>none) 0 0) 1 1))]) [(0,false),(1,false),(2,false),(4,false),(5,false),(6,false),(3,true),(7,false),(8,false),(9,false),(10,false)] [] Try.mixed (perm_idx _ _ [0] rfl rfl) (by kernel_rfl) ?_
 refine rq rfl (qv_ldp (v:=(Value.func (.func 76) #[] #[(Value.pointer (some ⟨b4,0,none⟩)),(Value.pointer (some ⟨b1,0,none⟩)),(Value.pointer (some ⟨b5,0,none⟩))])) Try.plain94 rfl (inVc hc4) rfl) ?_
 refine rq rfl (qv_fa (off:=0) Try.field59_2 rfl) ?_
 refine rq rfl (qv_ldp (v:=(.int .i64 A.r)) Try.plain3 rfl (inVc hc3) rfl) ?_
 refine rq rfl (qv_ldm (vs:=[(.int .i64 A.v),na,(.int .i64 A.r)]) Try.agg59 rfl (inVc hc3) rfl rfl) ?_
 refine rq rfl (qv_fa (off:=0) Try.field59_2 rfl) ?_
 refine rq rfl (qv_ldp (v:=(.int .i64 A.r)) Try.plain3 rfl (inVc hc3) rfl) ?_
 refine rl rfl ?_
 refine ops_call (σa:=[(Mf b3 (Value.int .i64) (Value.int .i64) (setF (setF (fun _=>none) 0 0) 1 1))]) (σr:=[]) (cnt_c hok.2.2.1.1 hok.1.2 (A.r.toNat+1) _ A.r pl0 hA hc2 hc3 hc4 hok.2.2.1.rf (by have:=hok.2.2.1.2.1; omega) cnI0) rfl rfl (.refl _) (fun r1 V1 sg1 hV1 hp1=>?_)
 obtain ⟨rfl,D1,rfl,I1⟩:=hp1
 have hA:=hA.mono hV1
 have hc1:=hc1.mono hV1
 have hc2:=hc2.mono hV1
 have hc3:=hc3.mono hV1
 have hc4:=hc4.mono hV1
 refine ops_nil ⟨[],[(Mf b3 (Value.int .i64) (Value.int .i64) D1)],hV1,(perm_idx _ _ [0] rfl rfl),⟨[],.refl _⟩,?_⟩
 refine rq rfl (qv_call (v:=(.int .i64 (lev A.v A.N A.r))) (level_c hA (r:=A.r) (by omega) (by omega)) rfl rfl) ?_
 refine rq rfl (qv_shli rfl rfl (by omega) (by omega) (by omega)) ?_
 refine rq rfl (qv_as (.int .i64 ((ct A.v A.N A.r) * 2 ^ (lev A.v A.N A.r:Int).toNat)) rfl) ?_
 refine rq rfl (qv_as (Value.int .i64 0) rfl) ?_
 refine rnil ?_
 refine vc_drop [] [(Mf b3 (Value.int .i64) (Value.int .i64) D1)] (.refl _) ?_
 refine vc_ret ?_
 refine rq2 (.int .i64 ((ct A.v A.N A.r) * 2 ^ (lev A.v A.N A.r:Int).toNat)) (Value.int .i64 0) rfl rfl ?_
 rw [cnN_0 hz,hz]
 exact ⟨rfl,rfl⟩
end Go.Proofs.Ytkmhjcjpohpiaaa.Bd
