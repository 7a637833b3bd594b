import Derived.Test.YtkmhjcjpohpiaaaBa
/- Walks of bdd: what each function returns. Printed by a program out of notes. -/
namespace Go.Proofs.Ytkmhjcjpohpiaaa.Bd
open Go.Vc
open Classical
set_option maxRecDepth 100000
set_option maxHeartbeats 4000000
theorem lay_c {V:HV} {nv:Value} {N:List Fk} {vars root:Int} (hN:Fks V nv N) (hF:Fm vars N) (hr:Rf N root) (hlN:N.length≤4398046511104) :
    FnC Try.prog 107 [(Value.int .i64 vars),nv,(Value.int .i64 root)] V [] (fun v V' σ'=>σ' = []∧∃ u',v=.agg #[.int .i64 vars,u',.int .i64 (layF N root).2]∧Fks V' u' (layF N root).1):=by
 refine fn_intro (N:=20) Try.func107 (by kernel_rfl) rfl rfl rfl (Nat.le_of_ble_eq_true rfl) ?_
 intro w0 D
 refine vc_seq ?_
 refine vc_region ?_
 refine ops_box (v:=nv) (cs:=[nv]) rfl (SlS.cells hN) (fun b1=>?_)
 refine ops_alloc Try.ti59 rfl (fun b2=>?_)
 refine ops_nil ?_
 refine vc_seq ?_
 let ζ2:Asrt:=Arr 59 b2 [(Value.int .i64 0),(Value.slice none 0 0),(Value.int .i64 0)]
 refine vc_res (σ':=[(Arr 23 b1 [nv]),ζ2]) rfl ?_
 refine vc_region ?_
 refine oq (qv_mv (Value.int .i64 vars) rfl) ?_
 refine oq (qv_build (out:=[(Value.int .i64 vars),(Value.slice none 0 0),(Value.int .i64 0)]) Try.build59 [(0,[(Value.int .i64 vars)])] rfl rfl) ?_
 refine ops_alloc Try.ti59 rfl (fun b3=>?_)
 refine ops_stw (k:=2) (vs:=[(Value.int .i64 vars),(Value.slice none 0 0),(Value.int .i64 0)]) Try.size59 rfl rfl rfl rfl rfl rfl ?_
 refine ops_nil ?_
 refine vc_seq ?_
 let ζ3:Asrt:=Arr 59 b3 [(Value.int .i64 vars),(Value.slice none 0 0),(Value.int .i64 0)]
 refine vc_res (σ':=[(Arr 23 b1 [nv]),ζ2,ζ3]) rfl ?_
 refine vc_region ?_
 refine ops_mkmap0 (Value.int .i64) (Value.int .i64) (fun b4=>?_)
 refine ops_mapins (k:=3) (key:=0) (v:=0) Try.underlying110 (KeyT.int Try.underlying3) rfl rfl rfl rfl ?_
 refine ops_mapins (k:=3) (key:=1) (v:=1) Try.underlying110 (KeyT.int Try.underlying3) rfl rfl rfl rfl ?_
 refine oq (qv_mv (Value.map (some b4)) rfl) ?_
 refine ops_alloc Try.ti110 rfl (fun b5=>?_)
 refine ops_stp (k:=4) (off:=0) (cs:=[(Value.map none)]) Try.size110 rfl (rfl:ev _ _=(Value.map (some b4))) rfl rfl (Nat.le_of_ble_eq_true rfl) ?_
 refine ops_nil ?_
 refine vc_seq ?_
 let ζ7:Asrt:=Arr 110 b5 [(Value.map (some b4))]
 refine vc_res (σ':=[(Arr 23 b1 [nv]),ζ2,ζ3,(Mf b4 (Value.int .i64) (Value.int .i64) (setF (setF (fun _=>none) 0 0) 1 1)),ζ7]) rfl ?_
 refine vc_region ?_
 refine ops_alloc Try.ti94 rfl (fun b6=>?_)
 refine ops_nil ?_
 refine vc_seq ?_
 refine vc_res (σ':=[(Arr 23 b1 [nv]),ζ2,ζ3,(Mf b4 (Value.int .i64) (Value.int .i64) (setF (setF (fun _=>none) 0 0) 1 1)),ζ7,(Arr 94 b6 [Value.nilFunc])]) rfl ?_
 refine vc_region ?_
 refine oq (qv_func (cs:=[(Value.pointer (some ⟨b5,0,none⟩)),(Value.pointer (some ⟨b1,0,none⟩)),(Value.pointer (some ⟨b6,0,none⟩)),(Value.pointer (some ⟨b3,0,none⟩))]) rfl) ?_
 let ζ1:Value:=Value.func (.func 133) #[] #[(Value.pointer (some ⟨b5,0,none⟩)),(Value.pointer (some ⟨b1,0,none⟩)),(Value.pointer (some ⟨b6,0,none⟩)),(Value.pointer (some ⟨b3,0,none⟩))]
 refine ops_stp (k:=5) (off:=0) (cs:=[Value.nilFunc]) Try.size94 rfl (rfl:ev _ _=ζ1) rfl rfl (Nat.le_of_ble_eq_true rfl) ?_
 refine ops_nil ?_
 refine vc_seq ?_
 refine vc_res (σ':=[(Arr 23 b1 [nv]),ζ2,ζ3,(Mf b4 (Value.int .i64) (Value.int .i64) (setF (setF (fun _=>none) 0 0) 1 1)),ζ7,(Arr 94 b6 [ζ1])]) rfl ?_
 refine vc_freeze (b:=b1) (o:=.cells ([nv]:List Value).toArray 23 (0,0)) (σr:=[ζ2,ζ3,(Mf b4 (Value.int .i64) (Value.int .i64) (setF (setF (fun _=>none) 0 0) 1 1)),ζ7,(Arr 94 b6 [ζ1])]) (List.perm_middle (l₁:=[]) (l₂:=[ζ2,ζ3,(Mf b4 (Value.int .i64) (Value.int .i64) (setF (setF (fun _=>none) 0 0) 1 1)),ζ7,(Arr 94 b6 [ζ1])])) (fun Vf1 hVf1 hb1=>?_)
 have hc1:Cells Vf1 b1 [nv]:=⟨_,_,hb1⟩
 have hN:=hN.mono hVf1
 refine vc_freeze (b:=b5) (o:=.cells ([(Value.map (some b4))]:List Value).toArray 110 (0,0)) (σr:=[ζ2,ζ3,(Mf b4 (Value.int .i64) (Value.int .i64) (setF (setF (fun _=>none) 0 0) 1 1)),(Arr 94 b6 [ζ1])]) (List.perm_middle (l₁:=[ζ2,ζ3,(Mf b4 (Value.int .i64) (Value.int .i64) (setF (setF (fun _=>none) 0 0) 1 1))]) (l₂:=[(Arr 94 b6 [ζ1])])) (fun Vf2 hVf2 hb2=>?_)
 have hc2:Cells Vf2 b5 [(Value.map (some b4))]:=⟨_,_,hb2⟩
 have hN:=hN.mono hVf2
 have hc1:=hc1.mono hVf2
 refine vc_freeze (b:=b6) (o:=.cells ([ζ1]:List Value).toArray 94 (0,0)) (σr:=[ζ2,ζ3,(Mf b4 (Value.int .i64) (Value.int .i64) (setF (setF (fun _=>none) 0 0) 1 1))]) (List.perm_middle (l₁:=[ζ2,ζ3,(Mf b4 (Value.int .i64) (Value.int .i64) (setF (setF (fun _=>none) 0 0) 1 1))]) (l₂:=[])) (fun Vf3 hVf3 hb3=>?_)
 have hc3:Cells Vf3 b6 [ζ1]:=⟨_,_,hb3⟩
 have hN:=hN.mono hVf3
 have hc1:=hc1.mono hVf3
 have hc2:=hc2.mono hVf3
 refine vc_nil 80 3 ?_
 refine vc_region ?_
 refine oq (qv_ldp (v:=ζ1) Try.plain94 rfl (inVc hc3) rfl) ?_
 refine oq (qv_mv (Value.int .i64 root) rfl) ?_
 refine ops_call (σa:=[ζ3,(Gr 80 3 ((Value.slice none 0 0)) 0 ([])),(Mf b4 (Value.int .i64) (Value.int .i64) (setF (setF (fun _=>none) 0 0) 1 1))]) (σr:=[ζ2]) (visit_c hF hlN (root.toNat+1) _ root ([],pl0) (Value.slice none 0 0) hN hc2 hc1 hc3 hr (by have:=hr.1; omega) (lyI0 N)) rfl rfl (perm_idx _ _ [1,3,2,0] rfl rfl) (fun r1 V1 sg1 hV1 hp1=>?_)
 obtain ⟨rfl,ux,rfl⟩:=hp1
 have hN:=hN.mono hV1
 have hc1:=hc1.mono hV1
 have hc2:=hc2.mono hV1
 have hc3:=hc3.mono hV1
 let ζ4:Asrt:=Mf b4 (Value.int .i64) (Value.int .i64) ((vis N (root.toNat+1) root ([],pl0)).1.2)
 refine ops_perm (σ':=[ζ2,(Arr 59 b3 [(Value.int .i64 vars),ux,(Value.int .i64 0)]),ζ4,(Gr 80 3 ux ((layF N root).1.length) ((fks (layF N root).1)))]) (perm_idx _ _ [3,0,2,1] rfl rfl) ?_
 refine oq (qv_fa (off:=0) Try.field59_2 rfl) ?_
 let ζ6:Value:=.int .i64 ((layF N root).2)
 refine ops_stp (k:=1) (off:=2) (cs:=[(Value.int .i64 vars),ux,(Value.int .i64 0)]) Try.size3 rfl (rfl:ev _ _=ζ6) rfl rfl (Nat.le_of_ble_eq_true rfl) ?_
 refine ops_nil ?_
 refine vc_seq ?_
 refine vc_res (σ':=[ζ2,(Arr 59 b3 [(Value.int .i64 vars),ux,ζ6]),ζ4,(Gr 80 3 ux ((layF N root).1.length) ((fks (layF N root).1)))]) rfl ?_
 refine vc_region ?_
 refine oq (qv_ldm (vs:=[(Value.int .i64 vars),ux,ζ6]) Try.agg59 rfl (inOc (k:=1) rfl) rfl rfl) ?_
 refine ops_gr1 (k:=3) rfl (fun ho1=>?_)
 refine ops_stw (k:=0) (vs:=[(Value.int .i64 vars),ux,ζ6]) Try.size59 rfl rfl rfl (allc rfl (allc ho1 (allc rfl rfl))) rfl rfl ?_
 refine ops_nil ?_
 let ζ5:Asrt:=Arr 59 b3 [(Value.int .i64 vars),ux,(Value.int .i64 ((layF N root).2))]
 refine vc_freezeS (v:=ux) (E:=80) (n:=(layF N root).1.length) (xs:=(fks (layF N root).1)) (σr:=[(Arr 59 b2 [(Value.int .i64 vars),ux,(Value.int .i64 ((layF N root).2))]),ζ5,ζ4]) (List.perm_middle (l₁:=[(Arr 59 b2 [(Value.int .i64 vars),ux,(Value.int .i64 ((layF N root).2))]),ζ5,ζ4]) (l₂:=[])) (fun Vf4 hVf4 hc4=>?_)
 have hN:=hN.mono hVf4
 have hc1:=hc1.mono hVf4
 have hc2:=hc2.mono hVf4
 have hc3:=hc3.mono hVf4
 refine vc_freeze (b:=b2) (o:=.cells ([(Value.int .i64 vars),ux,(Value.int .i64 ((layF N root).2))]:List Value).toArray 59 (0,0)) (σr:=[ζ5,ζ4]) (List.perm_middle (l₁:=[]) (l₂:=[ζ5,ζ4])) (fun Vf5 hVf5 hb5=>?_)
 have hc5:Cells Vf5 b2 [(Value.int .i64 vars),ux,ζ6]:=⟨_,_,hb5⟩
 have hN:=hN.mono hVf5
 have hc1:=hc1.mono hVf5
 have hc2:=hc2.mono hVf5
 have hc3:=hc3.mono hVf5
 have hc4:=hc4.mono hVf5
 refine vc_drop [] [(Arr 59 b3 [(Value.int .i64 vars),ux,ζ6]),ζ4] (.refl _) ?_
 refine vc_ret ?_
 refine rs1 _ (rv_c (vs:=[(Value.int .i64 vars),ux,ζ6]) Try.agg59 rfl (inVc hc5) rfl rfl) ?_
 exact ⟨rfl,ux,rfl,hc4⟩
end Go.Proofs.Ytkmhjcjpohpiaaa.Bd
