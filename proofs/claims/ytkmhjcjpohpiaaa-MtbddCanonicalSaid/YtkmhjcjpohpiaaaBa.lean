import Derived.Test.YtkmhjcjpohpiaaaWd
import Derived.Test.YtkmhjcjpohpiaaaTy
/- Walks of bdd: what each function returns. Printed by a program out of notes. -/
namespace Go.Proofs.Ytkmhjcjpohpiaaa.Bd
open Go.Vc
open Classical
set_option maxRecDepth 100000
set_option maxHeartbeats 4000000
theorem level_c {V:HV} {nv:Value} {N:List Fk} {vars root:Int} (hN:Fks V nv N) {r:Int} (h0:0≤r) (h1:r < 2+N.length) :
    FnC Try.prog 77 [(.agg #[(Value.int .i64 vars),nv,(Value.int .i64 root)]),(Value.int .i64 r)] V [] (fun v _ _=>v=(.int .i64 (lev vars N r))):=by
 refine fn_intro (N:=16) Try.func77 (by kernel_rfl) rfl rfl rfl (Nat.le_of_ble_eq_true rfl) ?_
 intro w0 D
 have hb:=SlS.bound hN
 refine vc_seq ?_
 refine vc_region ?_
 refine ops_box (v:=(.agg #[(Value.int .i64 vars),nv,(Value.int .i64 root)])) (cs:=[(Value.int .i64 vars),nv,(Value.int .i64 root)]) rfl rfl (fun b1=>?_)
 refine oq (qv_as (Value.int .i64 0) rfl) ?_
 refine ops_nil ?_
 refine vc_seq ?_
 refine vc_seq ?_
 refine vc_res (σ':=[(Arr 59 b1 [(Value.int .i64 vars),nv,(Value.int .i64 root)])]) rfl ?_
 refine vc_region ?_
 refine oq (qv_mv (Value.int .i64 r) rfl) ?_
 refine oq (qv_lss rfl rfl) ?_
 refine ops_nil ?_
 refine vc_if rfl (fun c1=>?_) (fun c1=>?_)
 refine vc_seq ?_
 refine vc_region ?_
 refine oq (qv_fa (off:=0) Try.field59_0 rfl) ?_
 refine oq (qv_ldp (v:=(Value.int .i64 vars)) Try.plain3 rfl (inOc (k:=0) rfl) rfl) ?_
 refine oq (qv_as (Value.int .i64 vars) rfl) ?_
 refine ops_nil ?_
 refine vc_ret ?_
 exact rq1 (.int .i64 (lev vars N r)) (congrArg (Value.int .i64) (show vars=(lev vars N r) from by first | (rw [lev_const (by omega)]; done) | (rw [lev_node (by omega)]; rfl))) rfl
 refine vc_skip ?_
 refine vc_seq ?_
 refine vc_region ?_
 refine oq (qv_fa (off:=0) Try.field59_1 rfl) ?_
 refine oq (qv_ldp (v:=nv) Try.plain23 rfl (inOc (k:=0) rfl) rfl) ?_
 refine oq (qv_mv (Value.int .i64 r) rfl) ?_
 refine oq (qv_sub rfl rfl (by omega)) ?_
 refine oq (qv_ias (v:=nv) (i:=r - 2) Try.underlying23 Try.size80 rfl hN rfl (by omega) (by omega)) ?_
 refine oq (qv_fas Try.field80_0 rfl hN (by omega) (by omega)) ?_
 refine oq (qv_ldf (u:=(.int .i64 ((fk N (r - 2)).v))) (v:=nv) (i:=r - 2) Try.plain3 rfl hN (by omega) (by omega) (by omega) (fks_el (N:=N) (o:=0) (by omega) (by omega) (by omega) rfl)) ?_
 refine oq (qv_as (.int .i64 ((fk N (r - 2)).v)) rfl) ?_
 refine ops_nil ?_
 refine vc_ret ?_
 exact rq1 (.int .i64 (lev vars N r)) (congrArg (Value.int .i64) (show ((fk N (r - 2)).v)=(lev vars N r) from by first | (rw [lev_const (by omega)]; done) | (rw [lev_node (by omega)]; rfl))) rfl
/-- What the walk does, for references below k. -/
def VisC (N:List Fk) (vars:Int) (nv:Value) (bp bn bv bo bm:Nat) (k:Nat):Prop:=∀ (V:HV) (r:Int) (s:Ly) (u:Value),Fks V nv N→Cells V bp [.map (some bm)]→Cells V bn [nv]→Cells V bv [.func (.func 133) #[] #[pt bp,pt bn,pt bv,pt bo]]→Rf N r→r < k→LyI N s →
  FnC Try.prog 133 [.int .i64 r,pt bp,pt bn,pt bv,pt bo] V [Arr 59 bo [.int .i64 vars,u,.int .i64 0],Gr 80 3 u s.1.length (fks s.1),Mf bm (Value.int .i64) (Value.int .i64) s.2]
    (fun v _ σ'=>v=.int .i64 (vis N k r s).2∧∃ u',σ' = [Arr 59 bo [.int .i64 vars,u',.int .i64 0],Gr 80 3 u' (vis N k r s).1.1.length (fks (vis N k r s).1.1),Mf bm (Value.int .i64) (Value.int .i64) (vis N k r s).1.2])
theorem visit_step {V:HV} {N:List Fk} {vars:Int} {nv:Value} {bp bn bv bo bm k:Nat} (hF:Fm vars N) (hlN:N.length≤4398046511104) (IH:VisC N vars nv bp bn bv bo bm k) {r:Int} {s:Ly} {u:Value} (hN:Fks V nv N) (hbp:Cells V bp [.map (some bm)]) (hbn:Cells V bn [nv]) (hbv:Cells V bv [.func (.func 133) #[] #[pt bp,pt bn,pt bv,pt bo]]) (hr:Rf N r) (hk:r < (k+1:Nat)) (hI:LyI N s) :
    FnC Try.prog 133 [(Value.int .i64 r),(Value.pointer (some ⟨bp,0,none⟩)),(Value.pointer (some ⟨bn,0,none⟩)),(Value.pointer (some ⟨bv,0,none⟩)),(Value.pointer (some ⟨bo,0,none⟩))] V [(Arr 59 bo [(Value.int .i64 vars),u,(Value.int .i64 0)]),(Gr 80 3 u s.1.length ((fks s.1))),(Mf bm (Value.int .i64) (Value.int .i64) s.2)] (fun v _ σ'=>v=.int .i64 (vis N (k+1) r s).2∧∃ u',σ' = [Arr 59 bo [.int .i64 vars,u',.int .i64 0],Gr 80 3 u' (vis N (k+1) r s).1.1.length (fks (vis N (k+1) r s).1.1),Mf bm (Value.int .i64) (Value.int .i64) (vis N (k+1) r s).1.2]):=by
 refine fn_intro (N:=53) Try.func133 (by kernel_rfl) rfl rfl rfl (Nat.le_of_ble_eq_true rfl) ?_
 intro w0 D
 have hb:=SlS.bound hN
 refine vc_seq ?_
 refine vc_res (σ':=[(Arr 59 bo [(Value.int .i64 vars),u,(Value.int .i64 0)]),(Gr 80 3 u s.1.length ((fks s.1))),(Mf bm (Value.int .i64) (Value.int .i64) s.2)]) rfl ?_
 refine vc_region ?_
 refine oq (qv_as (Value.int .i64 0) rfl) ?_
 refine ops_nil ?_
 refine vc_seq ?_
 refine vc_seq ?_
 refine vc_region ?_
 refine oq (qv_ldp (v:=(Value.map (some bm))) Try.plain110 rfl (inVc hbp) rfl) ?_
 refine oq (qv_mv (Value.int .i64 r) rfl) ?_
 refine oq (qv_look (a0:=0) (key:=r) (k:=2) Try.underlying110 (KeyT.int Try.underlying3) Try.ti3 rfl rfl rfl) ?_
 let ζ6:Value:=.int .i64 ((s.2 r).getD 0)
 let ζ7:Value:=.bool (decide ((s.2 r).isSome=true))
 refine oq (qv_mv (.tuple #[ζ6,ζ7]) rfl) ?_
 refine oq (qv_ext ζ6 rfl rfl) ?_
 refine oq (qv_ext ζ7 rfl rfl) ?_
 refine oq (qv_as ζ6 rfl) ?_
 refine oq (qv_as ζ7 rfl) ?_
 refine ops_nil ?_
 refine vc_seq ?_
 refine vc_region ?_
 refine oq (qv_mv ζ7 rfl) ?_
 refine ops_nil ?_
 refine vc_if rfl (fun c1=>?_) (fun c1=>?_)
 refine vc_seq ?_
 refine vc_region ?_
 refine oq (qv_mv ζ6 rfl) ?_
 refine oq (qv_as ζ6 rfl) ?_
 refine ops_nil ?_
 refine vc_ret ?_
 refine rq1 ζ6 rfl ?_
 obtain ⟨p,hp⟩:=Option.isSome_iff_exists.1 c1
 subst ζ6 ζ7
 rw [vis_hit hp]
 exact ⟨by rw [hp]; rfl,u,rfl⟩
 refine vc_skip ?_
 refine vc_seq ?_
 have hnone:s.2 r=none:=by cases hq:s.2 r with | none=>rfl | some p=>exact absurd (by rw [hq]; rfl) c1
 have h2:=hI.ge2 hr hnone
 have h3:=hr.2
 have hlo:=hF.lo r h2 hr.2
 have hhi:=hF.hi r h2 hr.2
 subst ζ6 ζ7
 rw [nd_fk] at hlo hhi
 refine vc_region ?_
 refine oq (qv_ldp (v:=nv) Try.plain23 rfl (inVc hbn) rfl) ?_
 refine oq (qv_mv (Value.int .i64 r) rfl) ?_
 refine oq (qv_sub rfl rfl (by omega)) ?_
 refine oq (qv_ias (v:=nv) (i:=r - 2) Try.underlying23 Try.size80 rfl hN rfl (by omega) (by omega)) ?_
 let ζ5:Value:=.int .i64 ((fk N (r - 2)).v)
 let ζ10:Value:=.int .i64 ((fk N (r - 2)).l)
 refine oq (qv_lds (v:=nv) (i:=r - 2) (vs:=[ζ5,ζ10,(.int .i64 ((fk N (r - 2)).h))]) Try.agg80 rfl hN (by omega) (by omega) (fks_at (N:=N) (by omega) (by omega))) ?_
 refine ops_alloc Try.ti80 rfl (fun b1=>?_)
 refine ops_stw (k:=3) (vs:=[ζ5,ζ10,(.int .i64 ((fk N (r - 2)).h))]) Try.size80 rfl rfl rfl rfl rfl rfl ?_
 refine ops_nil ?_
 refine vc_seq ?_
 refine vc_res (σ':=[(Arr 59 bo [(Value.int .i64 vars),u,(Value.int .i64 0)]),(Gr 80 3 u s.1.length ((fks s.1))),(Mf bm (Value.int .i64) (Value.int .i64) s.2),(Arr 80 b1 [ζ5,ζ10,(.int .i64 ((fk N (r - 2)).h))])]) rfl ?_
 obtain ⟨x,hx⟩:∃ x,x=vis N k (fk N (r - 2)).l s:=⟨_,rfl⟩
 have A:VisOk N (fk N (r - 2)).l s x:=hx ▸ vis_ok hF k _ s ⟨hlo.1,by omega⟩ (by omega) hI
 refine vc_region ?_
 refine oq (qv_ldp (v:=(Value.func (.func 133) #[] #[(Value.pointer (some ⟨bp,0,none⟩)),(Value.pointer (some ⟨bn,0,none⟩)),(Value.pointer (some ⟨bv,0,none⟩)),(Value.pointer (some ⟨bo,0,none⟩))])) Try.plain94 rfl (inVc hbv) rfl) ?_
 refine oq (qv_fa (off:=0) Try.field80_1 rfl) ?_
 refine oq (qv_ldp (v:=ζ10) Try.plain3 rfl (inOc (k:=3) rfl) rfl) ?_
 subst ζ5 ζ10
 refine ops_call (σa:=[(Arr 59 bo [(Value.int .i64 vars),u,(Value.int .i64 0)]),(Gr 80 3 u s.1.length ((fks s.1))),(Mf bm (Value.int .i64) (Value.int .i64) s.2)]) (σr:=[(Arr 80 b1 [(.int .i64 ((fk N (r - 2)).v)),(.int .i64 ((fk N (r - 2)).l)),(.int .i64 ((fk N (r - 2)).h))])]) (by have h:=IH _ (fk N (r - 2)).l s u hN hbp hbn hbv ⟨by omega,by omega⟩ (by omega) hI; rw [← hx] at h; exact h) rfl rfl (.refl _) (fun r1 V1 sg1 hV1 hp1=>?_)
 obtain ⟨rfl,ux,rfl⟩:=hp1
 have hN:=hN.mono hV1
 have hbp:=hbp.mono hV1
 have hbn:=hbn.mono hV1
 have hbv:=hbv.mono hV1
 refine oq (qv_as (.int .i64 x.2) rfl) ?_
 refine ops_nil ?_
 refine vc_seq ?_
 refine vc_res (σ':=[(Arr 59 bo [(Value.int .i64 vars),ux,(Value.int .i64 0)]),(Gr 80 3 ux x.1.1.length ((fks x.1.1))),(Mf bm (Value.int .i64) (Value.int .i64) x.1.2),(Arr 80 b1 [(.int .i64 ((fk N (r - 2)).v)),(.int .i64 ((fk N (r - 2)).l)),(.int .i64 ((fk N (r - 2)).h))])]) rfl ?_
 obtain ⟨y,hy⟩:∃ y,y=vis N k (fk N (r - 2)).h x.1:=⟨_,rfl⟩
 have B:VisOk N (fk N (r - 2)).h x.1 y:=hy ▸ vis_ok hF k _ x.1 ⟨hhi.1,by omega⟩ (by omega) A.inv
 have hyl:=vis_len hF B.inv
 refine vc_region ?_
 refine oq (qv_ldp (v:=(Value.func (.func 133) #[] #[(Value.pointer (some ⟨bp,0,none⟩)),(Value.pointer (some ⟨bn,0,none⟩)),(Value.pointer (some ⟨bv,0,none⟩)),(Value.pointer (some ⟨bo,0,none⟩))])) Try.plain94 rfl (inVc hbv) rfl) ?_
 refine oq (qv_fa (off:=0) Try.field80_2 rfl) ?_
 refine oq (qv_ldp (v:=(.int .i64 ((fk N (r - 2)).h))) Try.plain3 rfl (inOc (k:=3) rfl) rfl) ?_
 refine ops_call (σa:=[(Arr 59 bo [(Value.int .i64 vars),ux,(Value.int .i64 0)]),(Gr 80 3 ux x.1.1.length ((fks x.1.1))),(Mf bm (Value.int .i64) (Value.int .i64) x.1.2)]) (σr:=[(Arr 80 b1 [(.int .i64 ((fk N (r - 2)).v)),(.int .i64 ((fk N (r - 2)).l)),(.int .i64 ((fk N (r - 2)).h))])]) (by have h:=IH _ (fk N (r - 2)).h x.1 ux hN hbp hbn hbv ⟨by omega,by omega⟩ (by omega) A.inv; rw [← hy] at h; exact h) rfl rfl (.refl _) (fun r2 V2 sg2 hV2 hp2=>?_)
 obtain ⟨rfl,uy,rfl⟩:=hp2
 have hN:=hN.mono hV2
 have hbp:=hbp.mono hV2
 have hbn:=hbn.mono hV2
 have hbv:=hbv.mono hV2
 refine oq (qv_as (.int .i64 y.2) rfl) ?_
 refine ops_nil ?_
 refine vc_seq ?_
 let ζ5:Value:=.int .i64 ((fk N (r - 2)).v)
 refine vc_res (σ':=[(Arr 59 bo [(Value.int .i64 vars),uy,(Value.int .i64 0)]),(Gr 80 3 uy y.1.1.length ((fks y.1.1))),(Mf bm (Value.int .i64) (Value.int .i64) y.1.2),(Arr 80 b1 [ζ5,(.int .i64 ((fk N (r - 2)).l)),(.int .i64 ((fk N (r - 2)).h))])]) rfl ?_
 refine vc_region ?_
 refine oq (qv_fa (off:=0) Try.field59_1 rfl) ?_
 refine oq (qv_ldp (v:=uy) Try.plain23 rfl (inOc (k:=0) rfl) rfl) ?_
 refine oq (qv_fa (off:=0) Try.field80_0 rfl) ?_
 refine oq (qv_ldp (v:=ζ5) Try.plain3 rfl (inOc (k:=3) rfl) rfl) ?_
 refine oq (qv_mv (.int .i64 x.2) rfl) ?_
 refine oq (qv_mv (.int .i64 y.2) rfl) ?_
 refine oq (qv_build (out:=[ζ5,(.int .i64 x.2),(.int .i64 y.2)]) Try.build80 [(0,[ζ5]),(1,[(.int .i64 x.2)]),(2,[(.int .i64 y.2)])] rfl rfl) ?_
 refine ops_lit (n:=1) (s:=3) (cs:=[ζ5,(.int .i64 x.2),(.int .i64 y.2)]) Try.underlying23 Try.ti80 (Nat.le_of_ble_eq_true rfl) rfl rfl rfl (Nat.le_of_ble_eq_true rfl) rfl (fun b2=>?_)
 subst ζ5
 refine ops_append (k:=1) (n:=y.1.1.length) (s:=3) (m:=1) (v:=uy) (xs:=(fks y.1.1)) (news:=[(.int .i64 ((fk N (r - 2)).v)),(.int .i64 x.2),(.int .i64 y.2)]) Try.underlying23 Try.ti80 rfl (Nat.le_of_ble_eq_true rfl) rfl rfl rfl rfl (news_own (j:=4) rfl) (by simp [Value.oneCell']) (by omega) (by simp only [maxLen]; omega) (fun v1 hn1=>?_)
 refine oq (qv_fa (off:=0) Try.field59_1 rfl) ?_
 refine ops_gr1 (k:=1) rfl (fun ho1=>?_)
 refine ops_stp (k:=0) (off:=1) (cs:=[(Value.int .i64 vars),uy,(Value.int .i64 0)]) Try.size23 rfl (rfl:ev _ _=v1) ho1 rfl (Nat.le_of_ble_eq_true rfl) ?_
 refine ops_nil ?_
 refine vc_seq ?_
 let ζ4:Asrt:=Arr 59 bo [(Value.int .i64 vars),v1,(Value.int .i64 0)]
 let ζ5:Value:=.int .i64 ((fk N (r - 2)).v)
 let ζ8:Asrt:=Gr 80 3 v1 ((y.1.1.length+1)) (((fks y.1.1)++[ζ5,(.int .i64 x.2),(.int .i64 y.2)]))
 let ζ10:Value:=.int .i64 ((fk N (r - 2)).l)
 refine vc_res (σ':=[ζ4,ζ8,(Mf bm (Value.int .i64) (Value.int .i64) y.1.2),(Arr 80 b1 [ζ5,ζ10,(.int .i64 ((fk N (r - 2)).h))]),(Arr 80 b2 [ζ5,(.int .i64 x.2),(.int .i64 y.2)])]) rfl ?_
 refine vc_region ?_
 refine oq (qv_ldp (v:=(Value.map (some bm))) Try.plain110 rfl (inVc hbp) rfl) ?_
 refine oq (qv_mv (Value.int .i64 r) rfl) ?_
 refine oq (qv_fa (off:=0) Try.field59_1 rfl) ?_
 refine oq (qv_ldp (v:=v1) Try.plain23 rfl (inOc (k:=0) rfl) rfl) ?_
 refine oq (qv_lenGr (k:=1) Try.underlying23 rfl rfl) ?_
 refine oq (qv_add rfl rfl (by omega)) ?_
 refine oq (qv_sub rfl rfl (by omega)) ?_
 refine ops_mapset (k:=2) (key:=r) (v:=(2+((((y.1.1.length+1):Nat):Int))) - 1) Try.underlying110 (KeyT.int Try.underlying3) rfl rfl rfl rfl ?_
 refine ops_nil ?_
 refine vc_seq ?_
 let ζ1:Asrt:=Mf bm (Value.int .i64) (Value.int .i64) (setF y.1.2 r ((2+((((y.1.1.length+1):Nat):Int))) - 1))
 refine vc_res (σ':=[ζ4,ζ8,ζ1,(Arr 80 b1 [ζ5,ζ10,(.int .i64 ((fk N (r - 2)).h))]),(Arr 80 b2 [ζ5,(.int .i64 x.2),(.int .i64 y.2)])]) rfl ?_
 let ζ2:Asrt:=Gr 80 3 v1 ((y.1.1.length+1)) (((fks y.1.1)++[(Value.int .i64 ((fk N (r - 2)).v)),(Value.int .i64 (x.2)),(Value.int .i64 (y.2))]))
 let ζ3:Asrt:=Arr 80 b1 [(Value.int .i64 ((fk N (r - 2)).v)),(Value.int .i64 ((fk N (r - 2)).l)),(Value.int .i64 ((fk N (r - 2)).h))]
 refine vc_drop [ζ4,ζ2,ζ1,ζ3] [(Arr 80 b2 [(Value.int .i64 ((fk N (r - 2)).v)),(Value.int .i64 (x.2)),(Value.int .i64 (y.2))])] ((List.perm_middle (l₁:=[ζ4,ζ2,ζ1,ζ3]) (l₂:=[])).trans (List.perm_append_comm (l₁:=[(Arr 80 b2 [(Value.int .i64 ((fk N (r - 2)).v)),(Value.int .i64 (x.2)),(Value.int .i64 (y.2))])]))) ?_
 refine vc_drop [ζ4,ζ2,ζ1] [ζ3] ((List.perm_middle (l₁:=[ζ4,ζ2,ζ1]) (l₂:=[])).trans (List.perm_append_comm (l₁:=[ζ3]))) ?_
 refine vc_region ?_
 refine oq (qv_ldp (v:=(Value.map (some bm))) Try.plain110 rfl (inVc hbp) rfl) ?_
 refine oq (qv_mv (Value.int .i64 r) rfl) ?_
 refine oq (qv_look1 (a0:=0) (key:=r) (k:=2) Try.underlying110 (KeyT.int Try.underlying3) Try.ti3 rfl rfl rfl) ?_
 let ζ9:Value:=.int .i64 (((setF y.1.2 r ((2+((((y.1.1.length+1):Nat):Int))) - 1)) r).getD 0)
 refine oq (qv_as ζ9 rfl) ?_
 refine ops_nil ?_
 refine vc_ret ?_
 refine rq1 ζ9 rfl ?_
 subst ζ4 ζ5 ζ8 ζ10 ζ1 ζ2 ζ3 ζ9
 rw [vis_miss hnone hx hy]
 refine ⟨by rw [setF_same]; exact congrArg (Value.int .i64) (show (2:Int)+((y.1.1.length+1:Nat):Int) - 1=2+(y.1.1.length:Int) by omega),v1,?_⟩
 rw [show (2:Int)+((y.1.1.length+1:Nat):Int) - 1=2+(y.1.1.length:Int) by omega,fks_snoc,List.length_append]
 rfl
theorem visit_c {N:List Fk} {vars:Int} {nv:Value} {bp bn bv bo bm:Nat} (hF:Fm vars N) (hlN:N.length≤4398046511104):∀ k,VisC N vars nv bp bn bv bo bm k
  | 0=>fun V r s u _ _ _ _ hr hk _=>by have:=hr.1; omega
  | k+1=>fun V r s u hN hbp hbn hbv hr hk hI=>visit_step hF hlN (visit_c hF hlN k) hN hbp hbn hbv hr hk hI
end Go.Proofs.Ytkmhjcjpohpiaaa.Bd
