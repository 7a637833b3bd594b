import Derived.Test.YtkmhjcjpohpiaaaMd
import Derived.Test.YtkmhjcjpohpiaaaWn
/- Walks of mtbdd: what each function returns. Printed by a program out of notes. -/
namespace Go.Proofs.Ytkmhjcjpohpiaaa
open Go.Vc
open Classical
set_option maxRecDepth 100000
set_option maxHeartbeats 4000000
theorem order_in {V:HV} {vars:Int} {L:List Int} {M:List Fk} {cx:List Value} {u w:Value} {bb:Nat} {root:Int} (hbb:Cells V bb (u :: w :: cx)) (hL:Ints .i64 V u L) (hN:Fks V w M) (hok:BOk vars L M) (hr:(bV L M).ok root) (hin:∀ z ∈ L,inR z) (hLb:L.length≤2199023255552) (hMb:M.length≤2199023255552) :
    FnC Try.prog 101 [(Value.pointer (some ⟨bb,0,none⟩)),(Value.int .i64 root)] V [] (fun v _ σ'=>∃ vn vl,v=.tuple #[vn,vl]∧σ' = [Gr 3 1 vn (oE M root).nd.length ((oE M root).nd.map (Value.int .i64)),Gr 3 1 vl (oE M root).lv.length ((lvS L (oE M root).lv).map (Value.int .i64))]):=by
 refine FnC.drop ?_
 refine fn_intro (N:=18) Try.func101 (by kernel_rfl) rfl rfl rfl (Nat.le_of_ble_eq_true rfl) ?_
 intro w0 D
 obtain ⟨E,hE⟩:∃ E,E=oE M root:=⟨_,rfl⟩
 have hE3:ordF M (root.toNat+2) root os0=E:=hE.symm
 have hln:=(ord_inv hok.red (root.toNat+2) root os0 hr (mu_lt hr) osi0).inv.len
 have hlz:∀ z ∈ E.lv,0≤z∧z < L.length:=by rw [hE]; exact fun z hz=>lv_bd hok hr hz
 rw [hE3] at hln
 rw [← hE]
 refine vc_seq ?_
 refine vc_region ?_
 let ζ5:Value:=Value.pointer (some ⟨bb,0,none⟩)
 refine ops_box (v:=ζ5) (cs:=[ζ5]) rfl rfl (fun b1=>?_)
 refine ops_alloc Try.ti22 rfl (fun b2=>?_)
 refine ops_alloc Try.ti22 rfl (fun b3=>?_)
 refine ops_nil ?_
 refine vc_seq ?_
 let ζ6:Asrt:=Arr 22 b2 [(Value.slice none 0 0)]
 let ζ7:Asrt:=Arr 22 b3 [(Value.slice none 0 0)]
 refine vc_res (σ':=[(Arr 91 b1 [ζ5]),ζ6,ζ7]) rfl ?_
 refine vc_region ?_
 refine ops_mkmap0 (Value.int .i64) Value.bool (fun b4=>?_)
 refine ops_alloc Try.ti150 rfl (fun b5=>?_)
 refine ops_stp (k:=4) (off:=0) (cs:=[(Value.map none)]) Try.size150 rfl (rfl:ev _ _=(Value.map (some b4))) rfl rfl (Nat.le_of_ble_eq_true rfl) ?_
 refine ops_nil ?_
 refine vc_seq ?_
 let ζ9:Asrt:=Arr 150 b5 [(Value.map (some b4))]
 refine vc_res (σ':=[(Arr 91 b1 [ζ5]),ζ6,ζ7,(Mf b4 (Value.int .i64) Value.bool (fun _=>none)),ζ9]) rfl ?_
 refine vc_region ?_
 refine ops_alloc Try.ti151 rfl (fun b6=>?_)
 refine ops_nil ?_
 refine vc_seq ?_
 refine vc_res (σ':=[(Arr 91 b1 [ζ5]),ζ6,ζ7,(Mf b4 (Value.int .i64) Value.bool (fun _=>none)),ζ9,(Arr 151 b6 [Value.nilFunc])]) rfl ?_
 refine vc_region ?_
 refine oq (qv_func (cs:=[(Value.pointer (some ⟨b5,0,none⟩)),(Value.pointer (some ⟨b3,0,none⟩)),(Value.pointer (some ⟨b1,0,none⟩)),(Value.pointer (some ⟨b6,0,none⟩)),(Value.pointer (some ⟨b2,0,none⟩))]) rfl) ?_
 let ζ1:Value:=Value.func (.func 128) #[] #[(Value.pointer (some ⟨b5,0,none⟩)),(Value.pointer (some ⟨b3,0,none⟩)),(Value.pointer (some ⟨b1,0,none⟩)),(Value.pointer (some ⟨b6,0,none⟩)),(Value.pointer (some ⟨b2,0,none⟩))]
 refine ops_stp (k:=5) (off:=0) (cs:=[Value.nilFunc]) Try.size151 rfl (rfl:ev _ _=ζ1) rfl rfl (Nat.le_of_ble_eq_true rfl) ?_
 refine ops_nil ?_
 refine vc_seq ?_
 refine vc_res (σ':=[(Arr 91 b1 [ζ5]),ζ6,ζ7,(Mf b4 (Value.int .i64) Value.bool (fun _=>none)),ζ9,(Arr 151 b6 [ζ1])]) rfl ?_
 refine vc_freeze (b:=b5) (o:=.cells ([(Value.map (some b4))]:List Value).toArray 150 (0,0)) (σr:=[(Arr 91 b1 [ζ5]),ζ6,ζ7,(Mf b4 (Value.int .i64) Value.bool (fun _=>none)),(Arr 151 b6 [ζ1])]) (List.perm_middle (l₁:=[(Arr 91 b1 [ζ5]),ζ6,ζ7,(Mf b4 (Value.int .i64) Value.bool (fun _=>none))]) (l₂:=[(Arr 151 b6 [ζ1])])) (fun Vf1 hVf1 hb1=>?_)
 have hc1:Cells Vf1 b5 [(Value.map (some b4))]:=⟨_,_,hb1⟩
 have hbb:=hbb.mono hVf1
 have hL:=hL.mono hVf1
 have hN:=hN.mono hVf1
 refine vc_freeze (b:=b1) (o:=.cells ([ζ5]:List Value).toArray 91 (0,0)) (σr:=[ζ6,ζ7,(Mf b4 (Value.int .i64) Value.bool (fun _=>none)),(Arr 151 b6 [ζ1])]) (List.perm_middle (l₁:=[]) (l₂:=[ζ6,ζ7,(Mf b4 (Value.int .i64) Value.bool (fun _=>none)),(Arr 151 b6 [ζ1])])) (fun Vf2 hVf2 hb2=>?_)
 have hc2:Cells Vf2 b1 [ζ5]:=⟨_,_,hb2⟩
 have hbb:=hbb.mono hVf2
 have hL:=hL.mono hVf2
 have hN:=hN.mono hVf2
 have hc1:=hc1.mono hVf2
 refine vc_freeze (b:=b6) (o:=.cells ([ζ1]:List Value).toArray 151 (0,0)) (σr:=[ζ6,ζ7,(Mf b4 (Value.int .i64) Value.bool (fun _=>none))]) (List.perm_middle (l₁:=[ζ6,ζ7,(Mf b4 (Value.int .i64) Value.bool (fun _=>none))]) (l₂:=[])) (fun Vf3 hVf3 hb3=>?_)
 have hc3:Cells Vf3 b6 [ζ1]:=⟨_,_,hb3⟩
 have hbb:=hbb.mono hVf3
 have hL:=hL.mono hVf3
 have hN:=hN.mono hVf3
 have hc1:=hc1.mono hVf3
 have hc2:=hc2.mono hVf3
 refine vc_nil 3 1 ?_
 refine vc_nil 3 1 ?_
 refine vc_region ?_
 refine oq (qv_ldp (v:=ζ1) Try.plain151 rfl (inVc hc3) rfl) ?_
 refine oq (qv_mv (Value.int .i64 root) rfl) ?_
 subst ζ5 ζ6 ζ7 ζ9 ζ1
 refine ops_call (σa:=[(Mf b4 (Value.int .i64) Value.bool (fun _=>none)),(Arr 22 b3 [(Value.slice none 0 0)]),(Gr 3 1 ((Value.slice none 0 0)) 0 ([])),(Arr 22 b2 [(Value.slice none 0 0)]),(Gr 3 1 ((Value.slice none 0 0)) 0 ([]))]) (σr:=[]) (by have h:=ord_c (L:=L) (M:=M) (cx:=cx) (root.toNat+2) _ root os0 (Value.slice none 0 0) (Value.slice none 0 0) ⟨hok.red,hc1,hc2,hbb,hc3,hN,hLb,hMb⟩ hr (mu_lt hr) osi0; rw [hE3] at h; exact h) rfl rfl (perm_idx _ _ [2,1,3,0,4] rfl rfl) (fun r1 V1 sg1 hV1 hp1=>?_)
 obtain ⟨rfl,u1,n1,rfl⟩:=hp1
 have hbb:=hbb.mono hV1
 have hL:=hL.mono hV1
 have hN:=hN.mono hV1
 have hc1:=hc1.mono hV1
 have hc2:=hc2.mono hV1
 have hc3:=hc3.mono hV1
 let ζ3:Asrt:=Gr 3 1 n1 E.nd.length ((E.nd.map (Value.int .i64)))
 let ζ4:Asrt:=Mf b4 (Value.int .i64) Value.bool E.sn
 let ζ8:Asrt:=Gr 3 1 u1 E.lv.length ((E.lv.map (Value.int .i64)))
 refine ops_perm (σ':=[(Arr 22 b2 [n1]),(Arr 22 b3 [u1]),ζ4,ζ8,ζ3]) (perm_idx _ _ [3,1,0,2,4] rfl rfl) ?_
 refine ops_nil ?_
 refine vc_seq ?_
 refine vc_res (σ':=[(Arr 22 b2 [n1]),(Arr 22 b3 [u1]),ζ4,ζ8,ζ3]) rfl ?_
 refine vc_region ?_
 refine oq (qv_ldp (v:=u1) Try.plain22 rfl (inOc (k:=1) rfl) rfl) ?_
 let ζ10:Value:=Value.pointer (some ⟨b1,0,none⟩)
 refine oq (qv_func (cs:=[ζ10]) rfl) ?_
 refine ops_call (σa:=[ζ8]) (σr:=[(Arr 22 b2 [n1]),(Arr 22 b3 [u1]),ζ4,ζ3]) (SortL_c (zs:=E.lv) (L:=L) hc2 hbb hL hlz hin hok.nod (by omega)) rfl rfl (perm_idx _ _ [3,0,1,2,4] rfl rfl) (fun r2 V2 sg2 hV2 hp2=>?_)
 obtain ⟨rfl,hVV,rfl⟩:=hp2
 have hbb:=hbb.mono hV2
 have hL:=hL.mono hV2
 have hN:=hN.mono hV2
 have hc1:=hc1.mono hV2
 have hc2:=hc2.mono hV2
 have hc3:=hc3.mono hV2
 let ζ2:Asrt:=Gr 3 1 u1 E.lv.length (((lvS L E.lv).map (Value.int .i64)))
 refine ops_perm (σ':=[(Arr 22 b2 [n1]),(Arr 22 b3 [u1]),ζ4,ζ2,ζ3]) (perm_idx _ _ [1,2,3,0,4] rfl rfl) ?_
 refine ops_nil ?_
 refine vc_seq ?_
 refine vc_res (σ':=[(Arr 22 b2 [n1]),(Arr 22 b3 [u1]),ζ4,ζ2,ζ3]) rfl ?_
 let ζ5:Value:=Value.pointer (some ⟨bb,0,none⟩)
 refine vc_join (α:=Unit) (fun xx=>[(0,ζ5),(1,(Value.int .i64 root)),(2,ζ10),(4,(Value.pointer (some ⟨b2,0,none⟩))),(5,(Value.pointer (some ⟨b3,0,none⟩))),(6,(Value.pointer (some ⟨b5,0,none⟩))),(7,(Value.pointer (some ⟨b6,0,none⟩)))]) (fun xx V' σ'=>V2=V'∧[(Arr 22 b2 [n1]),(Arr 22 b3 [u1]),ζ4,ζ2,ζ3]=σ') ?_ ?_
 refine vc_region_E (τ:=[(Arr 22 b2 [n1])]) (n:=4) [(Arr 22 b3 [u1]),ζ4,ζ2,ζ3] Try.mixed (perm_idx _ _ [1,2,3,4,0] rfl rfl) rfl ?_
 refine el2 (i:=0) (j:=1) (by kernel_rfl) ?_ ?_
 refine ⟨_,rfl,?_⟩
 refine oq (qv_ldp (v:=n1) Try.plain22 rfl (inOc (k:=0) rfl) rfl) ?_
 refine ops_nil ⟨[(Arr 22 b3 [u1]),ζ4,ζ2,ζ3],[(Arr 22 b2 [n1])],(perm_idx _ _ [1,2,3,4,0] rfl rfl),.inl ⟨(Sub.refl _),[],.refl _⟩,?_⟩
 refine el2 (i:=1) (j:=2) (by kernel_rfl) ?_ ?_
 refine ⟨_,rfl,?_⟩
 refine oq (qv_ldp (v:=u1) Try.plain22 rfl (inOc (k:=1) rfl) rfl) ?_
 refine ops_nil ⟨[(Arr 22 b3 [u1]),ζ4,ζ2,ζ3],[(Arr 22 b2 [n1])],(perm_idx _ _ [1,2,3,4,0] rfl rfl),.inl ⟨(Sub.refl _),[],.refl _⟩,?_⟩
 refine el1 (i:=2) (by kernel_rfl) ?_
 refine ⟨_,rfl,?_⟩
 refine ops_gr1 (k:=4) rfl (fun ho1=>?_)
 refine ops_stp (k:=0) (off:=0) (cs:=[n1]) Try.size22 rfl (rfl:ev _ _=n1) ho1 rfl (Nat.le_of_ble_eq_true rfl) ?_
 refine ops_nil ⟨[(Arr 22 b3 [u1]),ζ4,ζ2,ζ3],[(Arr 22 b2 [n1])],(perm_idx _ _ [1,2,3,4,0] rfl rfl),.inl ⟨(Sub.refl _),[],.refl _⟩,?_⟩
 refine el1 (i:=3) (by kernel_rfl) ?_
 refine ⟨_,rfl,?_⟩
 refine ops_gr1 (k:=3) rfl (fun ho2=>?_)
 refine ops_stp (k:=1) (off:=0) (cs:=[u1]) Try.size22 rfl (rfl:ev _ _=u1) ho2 rfl (Nat.le_of_ble_eq_true rfl) ?_
 refine ops_nil ⟨[(Arr 22 b3 [u1]),ζ4,ζ2,ζ3],[(Arr 22 b2 [n1])],(perm_idx _ _ [1,2,3,4,0] rfl rfl),.inl ⟨(Sub.refl _),[],.refl _⟩,?_⟩
 refine enil (σ':=[(Arr 22 b2 [n1]),(Arr 22 b3 [u1]),ζ4,ζ2,ζ3]) (by kernel_rfl) (perm_idx _ _ [0,1,2,3,4] rfl rfl) ⟨(),⟨rfl,rfl,rfl,rfl,rfl,rfl,rfl,trivial⟩,rfl,rfl⟩
 refine ⟨_,rfl,?_⟩
 refine ops_gr1 (k:=4) rfl (fun ho3=>?_)
 refine ops_stp (k:=0) (off:=0) (cs:=[n1]) Try.size22 rfl (rfl:ev _ _=n1) ho3 rfl (Nat.le_of_ble_eq_true rfl) ?_
 refine ops_nil ⟨[(Arr 22 b3 [u1]),ζ4,ζ2,ζ3],[(Arr 22 b2 [n1])],(perm_idx _ _ [1,2,3,4,0] rfl rfl),.inl ⟨(Sub.refl _),[],.refl _⟩,?_⟩
 refine el1 (i:=1) (by kernel_rfl) ?_
 refine ⟨_,rfl,?_⟩
 refine oq (qv_ldp (v:=u1) Try.plain22 rfl (inOc (k:=1) rfl) rfl) ?_
 refine ops_nil ⟨[(Arr 22 b3 [u1]),ζ4,ζ2,ζ3],[(Arr 22 b2 [n1])],(perm_idx _ _ [1,2,3,4,0] rfl rfl),.inl ⟨(Sub.refl _),[],.refl _⟩,?_⟩
 refine el1 (i:=3) (by kernel_rfl) ?_
 refine ⟨_,rfl,?_⟩
 refine ops_gr1 (k:=3) rfl (fun ho4=>?_)
 refine ops_stp (k:=1) (off:=0) (cs:=[u1]) Try.size22 rfl (rfl:ev _ _=u1) ho4 rfl (Nat.le_of_ble_eq_true rfl) ?_
 refine ops_nil ⟨[(Arr 22 b3 [u1]),ζ4,ζ2,ζ3],[(Arr 22 b2 [n1])],(perm_idx _ _ [1,2,3,4,0] rfl rfl),.inl ⟨(Sub.refl _),[],.refl _⟩,?_⟩
 refine enil (σ':=[(Arr 22 b2 [n1]),(Arr 22 b3 [u1]),ζ4,ζ2,ζ3]) (by kernel_rfl) (perm_idx _ _ [0,1,2,3,4] rfl rfl) ⟨(),⟨rfl,rfl,rfl,rfl,rfl,rfl,rfl,trivial⟩,rfl,rfl⟩
 refine ⟨_,rfl,?_⟩
 refine oq (qv_ldp (v:=u1) Try.plain22 rfl (inOc (k:=1) rfl) rfl) ?_
 refine ops_nil ⟨[(Arr 22 b3 [u1]),ζ4,ζ2,ζ3],[(Arr 22 b2 [n1])],(perm_idx _ _ [1,2,3,4,0] rfl rfl),.inl ⟨(Sub.refl _),[],.refl _⟩,?_⟩
 refine el1 (i:=0) (by kernel_rfl) ?_
 refine ⟨_,rfl,?_⟩
 refine oq (qv_ldp (v:=n1) Try.plain22 rfl (inOc (k:=0) rfl) rfl) ?_
 refine ops_nil ⟨[(Arr 22 b3 [u1]),ζ4,ζ2,ζ3],[(Arr 22 b2 [n1])],(perm_idx _ _ [1,2,3,4,0] rfl rfl),.inl ⟨(Sub.refl _),[],.refl _⟩,?_⟩
 refine el1 (i:=2) (by kernel_rfl) ?_
 refine ⟨_,rfl,?_⟩
 refine ops_gr1 (k:=4) rfl (fun ho5=>?_)
 refine ops_stp (k:=0) (off:=0) (cs:=[n1]) Try.size22 rfl (rfl:ev _ _=n1) ho5 rfl (Nat.le_of_ble_eq_true rfl) ?_
 refine ops_nil ⟨[(Arr 22 b3 [u1]),ζ4,ζ2,ζ3],[(Arr 22 b2 [n1])],(perm_idx _ _ [1,2,3,4,0] rfl rfl),.inl ⟨(Sub.refl _),[],.refl _⟩,?_⟩
 refine el1 (i:=3) (by kernel_rfl) ?_
 refine ⟨_,rfl,?_⟩
 refine ops_gr1 (k:=3) rfl (fun ho6=>?_)
 refine ops_stp (k:=1) (off:=0) (cs:=[u1]) Try.size22 rfl (rfl:ev _ _=u1) ho6 rfl (Nat.le_of_ble_eq_true rfl) ?_
 refine ops_nil ⟨[(Arr 22 b3 [u1]),ζ4,ζ2,ζ3],[(Arr 22 b2 [n1])],(perm_idx _ _ [1,2,3,4,0] rfl rfl),.inl ⟨(Sub.refl _),[],.refl _⟩,?_⟩
 refine enil (σ':=[(Arr 22 b2 [n1]),(Arr 22 b3 [u1]),ζ4,ζ2,ζ3]) (by kernel_rfl) (perm_idx _ _ [0,1,2,3,4] rfl rfl) ⟨(),⟨rfl,rfl,rfl,rfl,rfl,rfl,rfl,trivial⟩,rfl,rfl⟩
 rintro ⟨⟩ e1 Vj1 σj1 hJ1
 obtain ⟨rfl,rfl⟩:V2=Vj1∧[(Arr 22 b2 [n1]),(Arr 22 b3 [u1]),ζ4,ζ2,ζ3]=σj1:=hJ1
 change VC _ _ _ _ _ _ (upds 18 [(0,ζ5),(1,(Value.int .i64 root)),(2,ζ10),(4,(Value.pointer (some ⟨b2,0,none⟩))),(5,(Value.pointer (some ⟨b3,0,none⟩))),(6,(Value.pointer (some ⟨b5,0,none⟩))),(7,(Value.pointer (some ⟨b6,0,none⟩)))] e1) _ _
 refine vc_drop [(Arr 22 b2 [n1]),(Arr 22 b3 [u1]),ζ2,ζ3] [ζ4] ((List.perm_middle (l₁:=[(Arr 22 b2 [n1]),(Arr 22 b3 [u1])]) (l₂:=[ζ2,ζ3])).trans (List.perm_append_comm (l₁:=[ζ4]))) ?_
 refine vc_ret ?_
 refine rs2 n1 u1 (rv_p Try.plain22 rfl (inOc (k:=0) rfl) rfl) (rv_p Try.plain22 rfl (inOc (k:=1) rfl) rfl) ?_
 refine ⟨[ζ3,ζ2],[(Arr 22 b2 [n1]),(Arr 22 b3 [u1])],perm_idx _ _ [3,2,0,1] rfl rfl,n1,u1,rfl,rfl⟩
theorem order_c {V:HV} {vars:Int} {L:List Int} {M:List Fk} {cx:List Value} {u w:Value} {bb:Nat} {root:Int} (hok:BOk vars L M) (hr:(bV L M).ok root) (hin:∀ z ∈ L,inR z) (hLb:L.length≤2199023255552) (hMb:M.length≤2199023255552) :
    FnC Try.prog 101 [pt bb,.int .i64 root] V [Arr 113 bb (u :: w :: cx),Gr 3 1 u L.length (L.map (Value.int .i64)),Gr 80 3 w M.length (fks M)] (fun v _ σ'=>∃ vn vl,v=.tuple #[vn,vl]∧σ' = [Gr 3 1 vn (oE M root).nd.length ((oE M root).nd.map (Value.int .i64)),Gr 3 1 vl (oE M root).lv.length ((lvS L (oE M root).lv).map (Value.int .i64)),Arr 113 bb (u :: w :: cx),Gr 3 1 u L.length (L.map (Value.int .i64)),Gr 80 3 w M.length (fks M)]):=by
  refine (FnC.lend (σ0:=[]) (Φ:=fun v σ'=>∃ vn vl,v=.tuple #[vn,vl]∧σ' = [Gr 3 1 vn (oE M root).nd.length ((oE M root).nd.map (Value.int .i64)),Gr 3 1 vl (oE M root).lv.length ((lvS L (oE M root).lv).map (Value.int .i64))]) ⟨_,Try.func101,by rfl,by rfl⟩ fun V' _ hs=>?_).mono ?_
  obtain ⟨h1,hs⟩:=hs.arr
  obtain ⟨h2,hs⟩:=hs.gr
  obtain ⟨h3,_⟩:=hs.grs
  exact order_in h1 h2 h3 hok hr hin hLb hMb
  rintro v V' σ' _ ⟨σ1,rfl,vn,vl,rfl,rfl⟩
  exact ⟨vn,vl,rfl,rfl⟩
end Go.Proofs.Ytkmhjcjpohpiaaa
