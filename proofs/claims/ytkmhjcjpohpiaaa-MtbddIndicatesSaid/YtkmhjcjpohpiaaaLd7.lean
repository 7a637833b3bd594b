import Derived.Test.YtkmhjcjpohpiaaaRows
import Derived.Test.YtkmhjcjpohpiaaaRi
import Derived.Test.YtkmhjcjpohpiaaaMtI
/- MtbddIndicates, proved: for all binary diagrams and values the law returns true. Without conditions. -/
namespace Go.Proofs.Ytkmhjcjpohpiaaa
open Go.ChangeShapes Go.WideShapes Go.ChangeAt Go.RowKit Go.Vc
open Go.ChangeMaps (open_string shut_string)
theorem ownMtbddIndicates:ownKnob Try.prog.godebug=none:=by kernel_rfl
theorem laidOutMtbddIndicates:laidOutB Try.prog=true:=by kernel_rfl
set_option maxRecDepth 100000 in
theorem liftedMtbddIndicates (os:Go.Os) (started:os.Started) (H:Type) (enc:TypeId × Value→H) :
    ReturnsInHanded {} Try.checked os 10 .any (Rows.mtbddIndicatesSpec.pre6 enc Try.prog Try.f10 Rows.mtbddIndicatesRow.domain false) (Rows.mtbddIndicatesSpec.post enc Try.prog Try.f10 false true false false):=by
  refine returnsInHanded_of_change (C:=Try.checked) ownMtbddIndicates started (by kernel_rfl) Try.func10
    (ChangeSpec.witness6 (enc:=enc) (C:=Try.checked) false ⟨#[],#[.agg #[.int .i64 0,.slice none 0 0,.int .i64 0],.int .i64 0,.int .i64 0],[]⟩ 8 (by kernel_rfl) (by kernel_rfl) (by kernel_rfl) (by kernel_rfl)) ?_
  intro W base args ds gs before hval0 hW hcnd _
  have hval:∀ (j:Nat) t v,Try.f10.params[j]? = some t→args[j]? = some v→Value.okWide Try.prog W .any base t v:=hval0
  have hW2:=hW
  obtain ⟨p,q,hA0,hV,rfl,hfz,hnd⟩:=hW
  have hA:DataW.TrodAll enc Try.prog W 0 (fun _=>true) true Try.f10.params.toList args.toList ds p:=hA0
  rw [Try.params10] at hA hval
  obtain ⟨v0,vs0,d0,ds0,p0,q0,hargs,rfl,rfl,h0,r0⟩:=trodAll_cons hA
  obtain ⟨v1,vs1,d1,ds1,p1,q1,rfl,rfl,rfl,h1,r1⟩:=trodAll_cons r0
  obtain ⟨v2,vs2,d2,ds2,p2,q2,rfl,rfl,rfl,h2,r2⟩:=trodAll_cons r1
  obtain ⟨rfl,rfl,rfl⟩:=trodAll_nil r2
  obtain rfl:args = #[v0,v1,v2]:=by cases args; simp_all
  obtain ⟨rfl,rfl⟩:=trodVars_none hV
  have k0:=h0
  have lt0:∀ x ∈ p0,x.block < W.heap.size:=by obtain ⟨m,hm⟩:=k0; exact DataW.trod_lt m _ _ _ hm
  obtain ⟨c0_0,c0_1,c0_2,y0_0,y0_1,y0_2,n0,rfl,rfl,rfl,g0_0,g0_1,g0_2⟩:=Go.Joins.open_agg3 Try.underlying59 (by kernel_rfl) (by kernel_rfl) (hval 0 59 v0 rfl rfl) h0
  obtain ⟨a0_0,e0_0,-,w0_0⟩:=DataW.trod_int Try.underlying3 g0_0
  obtain rfl:c0_0=.int .i64 a0_0:=by simpa using e0_0
  obtain ⟨s0_1,t0_1,u0_1,e0_1⟩:=Go.Joins.slice_form Try.underlying23 g0_1
  obtain rfl:c0_1=.slice s0_1 t0_1 u0_1:=by simpa using e0_1
  obtain ⟨R0_1,ms0_1,wf0_1⟩:=read_recs Try.underlying23 Try.underlying80 (by kernel_rfl) ⟨rfl,rfl,rfl⟩ ⟨by kernel_rfl,by kernel_rfl,by kernel_rfl⟩ Try.underlying3 Try.underlying3 Try.underlying3 rfl (by simpa [Value.cells] using g0_1)
  have m0_1:=fks_recs ms0_1
  obtain ⟨a0_2,e0_2,-,w0_2⟩:=DataW.trod_int Try.underlying3 g0_2
  obtain rfl:c0_2=.int .i64 a0_2:=by simpa using e0_2
  obtain ⟨a1,rfl,rfl,rfl,w1⟩:=open_int Try.underlying3 (hval 1 3 v1 rfl rfl) h1
  obtain ⟨a2,rfl,rfl,rfl,w2⟩:=open_int Try.underlying3 (hval 2 3 v2 rfl rfl) h2
  clear hA0 hval0
  refine (law_calls (Indicates_c m0_1 )).mono fun e W2 ⟨he,bel⟩=>?_
  subst he
  exact ⟨_,rfl,_,_,_,[],_,[],hW2,trodAll_mk1 (shut_bool Try.underlying4 _),(trodAll_cons_mk (Below.trod laidOutMtbddIndicates (by kernel_rfl) (of_decide_eq_true (by kernel_rfl)) k0 bel lt0) (trodAll_cons_mk (shut_int Try.underlying3 w1) (trodAll_cons_mk (shut_int Try.underlying3 w2) trodAll_mk0))),rfl,bel.frame _,fun h=>by cases h⟩
theorem mtbddIndicates_holds:Rows.MtbddIndicatesSaid :=
  OpenClaim.holds_of_wide 10 Try.f10 rfl rfl rfl rfl rfl rfl rfl ⟨rfl,rfl,rfl,rfl,rfl⟩ rfl rfl rfl rfl rfl (by kernel_rfl) Try.func10 (by kernel_rfl)
    (of_decide_eq_true (by kernel_rfl)) (by unfold Func.isWrapper; first | (rw [if_pos (by decide +kernel)]; kernel_rfl) | (rw [if_neg (by decide +kernel)]; exact ⟨rfl,rfl⟩))
    (fun os started H enc _=>liftedMtbddIndicates os started H enc)
#print axioms mtbddIndicates_holds
end Go.Proofs.Ytkmhjcjpohpiaaa
