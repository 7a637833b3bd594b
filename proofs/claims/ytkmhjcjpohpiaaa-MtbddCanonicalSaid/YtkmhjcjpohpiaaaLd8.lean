import Derived.Test.YtkmhjcjpohpiaaaRows
import Derived.Test.YtkmhjcjpohpiaaaRk
import Derived.Test.YtkmhjcjpohpiaaaMtI
/- MtbddCanonical, proved: for all pairs of diagrams the law returns true. Without conditions. -/
namespace Go.Proofs.Ytkmhjcjpohpiaaa
open Go.ChangeShapes Go.WideShapes Go.ChangeAt Go.RowKit Go.Vc
open Go.ChangeMaps (open_string shut_string)
theorem ownMtbddCanonical:ownKnob Try.prog.godebug=none:=by kernel_rfl
theorem laidOutMtbddCanonical:laidOutB Try.prog=true:=by kernel_rfl
set_option maxRecDepth 100000 in
theorem liftedMtbddCanonical (os:Go.Os) (started:os.Started) (H:Type) (enc:TypeId × Value→H) :
    ReturnsInHanded {} Try.checked os 6 .any (Rows.mtbddCanonicalSpec.pre6 enc Try.prog Try.f6 Rows.mtbddCanonicalRow.domain false) (Rows.mtbddCanonicalSpec.post enc Try.prog Try.f6 false true false false):=by
  refine returnsInHanded_of_change (C:=Try.checked) ownMtbddCanonical started (by kernel_rfl) Try.func6
    (ChangeSpec.witness6 (enc:=enc) (C:=Try.checked) false ⟨#[],#[.agg #[.int .i64 0,.slice none 0 0,.slice none 0 0,.int .i64 0],.agg #[.int .i64 0,.slice none 0 0,.slice none 0 0,.int .i64 0]],[]⟩ 8 (by kernel_rfl) (by kernel_rfl) (by kernel_rfl) (by kernel_rfl)) ?_
  intro W base args ds gs before hval0 hW hcnd _
  have hval:∀ (j:Nat) t v,Try.f6.params[j]? = some t→args[j]? = some v→Value.okWide Try.prog W .any base t v:=hval0
  have hW2:=hW
  obtain ⟨p,q,hA0,hV,rfl,hfz,hnd⟩:=hW
  have hA:DataW.TrodAll enc Try.prog W 0 (fun _=>true) true Try.f6.params.toList args.toList ds p:=hA0
  rw [Try.params6] at hA hval
  obtain ⟨v0,vs0,d0,ds0,p0,q0,hargs,rfl,rfl,h0,r0⟩:=trodAll_cons hA
  obtain ⟨v1,vs1,d1,ds1,p1,q1,rfl,rfl,rfl,h1,r1⟩:=trodAll_cons r0
  obtain ⟨rfl,rfl,rfl⟩:=trodAll_nil r1
  obtain rfl:args = #[v0,v1]:=by cases args; simp_all
  obtain ⟨rfl,rfl⟩:=trodVars_none hV
  have k0:=h0
  have lt0:∀ x ∈ p0,x.block < W.heap.size:=by obtain ⟨m,hm⟩:=k0; exact DataW.trod_lt m _ _ _ hm
  obtain ⟨c0_0,c0_1,c0_2,c0_3,y0_0,y0_1,y0_2,y0_3,n0,rfl,rfl,rfl,g0_0,g0_1,g0_2,g0_3⟩:=Go.Joins.open_agg4 Try.underlying25 (by kernel_rfl) (by kernel_rfl) (hval 0 25 v0 rfl rfl) h0
  obtain ⟨a0_0,e0_0,-,w0_0⟩:=DataW.trod_int Try.underlying3 g0_0
  obtain rfl:c0_0=.int .i64 a0_0:=by simpa using e0_0
  obtain ⟨s0_1,t0_1,u0_1,e0_1⟩:=Go.Joins.slice_form Try.underlying22 g0_1
  obtain rfl:c0_1=.slice s0_1 t0_1 u0_1:=by simpa using e0_1
  obtain ⟨xs0_1,m0_1,wf0_1⟩:=read_ints Try.underlying22 Try.underlying3 (by kernel_rfl) rfl (by simpa [Value.cells] using g0_1)
  obtain ⟨s0_2,t0_2,u0_2,e0_2⟩:=Go.Joins.slice_form Try.underlying23 g0_2
  obtain rfl:c0_2=.slice s0_2 t0_2 u0_2:=by simpa using e0_2
  obtain ⟨R0_2,ms0_2,wf0_2⟩:=read_recs Try.underlying23 Try.underlying80 (by kernel_rfl) ⟨rfl,rfl,rfl⟩ ⟨by kernel_rfl,by kernel_rfl,by kernel_rfl⟩ Try.underlying3 Try.underlying3 Try.underlying3 rfl (by simpa [Value.cells] using g0_2)
  have m0_2:=fks_recs ms0_2
  obtain ⟨a0_3,e0_3,-,w0_3⟩:=DataW.trod_int Try.underlying3 g0_3
  obtain rfl:c0_3=.int .i64 a0_3:=by simpa using e0_3
  have k1:=h1
  have lt1:∀ x ∈ p1,x.block < W.heap.size:=by obtain ⟨m,hm⟩:=k1; exact DataW.trod_lt m _ _ _ hm
  obtain ⟨c1_0,c1_1,c1_2,c1_3,y1_0,y1_1,y1_2,y1_3,n1,rfl,rfl,rfl,g1_0,g1_1,g1_2,g1_3⟩:=Go.Joins.open_agg4 Try.underlying25 (by kernel_rfl) (by kernel_rfl) (hval 1 25 v1 rfl rfl) h1
  obtain ⟨a1_0,e1_0,-,w1_0⟩:=DataW.trod_int Try.underlying3 g1_0
  obtain rfl:c1_0=.int .i64 a1_0:=by simpa using e1_0
  obtain ⟨s1_1,t1_1,u1_1,e1_1⟩:=Go.Joins.slice_form Try.underlying22 g1_1
  obtain rfl:c1_1=.slice s1_1 t1_1 u1_1:=by simpa using e1_1
  obtain ⟨xs1_1,m1_1,wf1_1⟩:=read_ints Try.underlying22 Try.underlying3 (by kernel_rfl) rfl (by simpa [Value.cells] using g1_1)
  obtain ⟨s1_2,t1_2,u1_2,e1_2⟩:=Go.Joins.slice_form Try.underlying23 g1_2
  obtain rfl:c1_2=.slice s1_2 t1_2 u1_2:=by simpa using e1_2
  obtain ⟨R1_2,ms1_2,wf1_2⟩:=read_recs Try.underlying23 Try.underlying80 (by kernel_rfl) ⟨rfl,rfl,rfl⟩ ⟨by kernel_rfl,by kernel_rfl,by kernel_rfl⟩ Try.underlying3 Try.underlying3 Try.underlying3 rfl (by simpa [Value.cells] using g1_2)
  have m1_2:=fks_recs ms1_2
  obtain ⟨a1_3,e1_3,-,w1_3⟩:=DataW.trod_int Try.underlying3 g1_3
  obtain rfl:c1_3=.int .i64 a1_3:=by simpa using e1_3
  clear hA0 hval0
  refine (law_calls (Canonical_c (A:=⟨a0_0,_,_,a0_3⟩) ⟨m0_1,m0_2⟩ (B:=⟨a1_0,_,_,a1_3⟩) ⟨m1_1,m1_2⟩ )).mono fun e W2 ⟨he,bel⟩=>?_
  subst he
  exact ⟨_,rfl,_,_,_,[],_,[],hW2,trodAll_mk1 (shut_bool Try.underlying4 _),(trodAll_cons_mk (Below.trod laidOutMtbddCanonical (by kernel_rfl) (of_decide_eq_true (by kernel_rfl)) k0 bel lt0) (trodAll_cons_mk (Below.trod laidOutMtbddCanonical (by kernel_rfl) (of_decide_eq_true (by kernel_rfl)) k1 bel lt1) trodAll_mk0)),rfl,bel.frame _,fun h=>by cases h⟩
theorem mtbddCanonical_holds:Rows.MtbddCanonicalSaid :=
  OpenClaim.holds_of_wide 6 Try.f6 rfl rfl rfl rfl rfl rfl rfl ⟨rfl,rfl,rfl,rfl,rfl⟩ rfl rfl rfl rfl rfl (by kernel_rfl) Try.func6 (by kernel_rfl)
    (of_decide_eq_true (by kernel_rfl)) (by unfold Func.isWrapper; first | (rw [if_pos (by decide +kernel)]; kernel_rfl) | (rw [if_neg (by decide +kernel)]; exact ⟨rfl,rfl⟩))
    (fun os started H enc _=>liftedMtbddCanonical os started H enc)
#print axioms mtbddCanonical_holds
end Go.Proofs.Ytkmhjcjpohpiaaa
