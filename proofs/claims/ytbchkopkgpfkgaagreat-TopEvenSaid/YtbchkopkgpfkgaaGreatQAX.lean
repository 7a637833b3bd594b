import Derived.Test.YtbchkopkgpfkgaaGreatQATb
import Derived.Test.YtbchkopkgpfkgaaGreatQAR
set_option linter.unusedVariables false
set_option maxRecDepth 100000
set_option maxHeartbeats 0
namespace Go.Proofs.YtbchkopkgpfkgaaGreat.Dd
open Classical Go.Vc
theorem aG5{V:HV}{sv:Value}{xs:List P2}{Bs:Nat}(hc:Cells V Bs [sv])(hx:s7 V sv xs)(hlen:xs.length≤1000000):
  aP Tryz.prog 240 [vn,Value.func (.func 204) #[] #[vp Bs]] V [] (λv V' σ'=>V'=V∧σ'=[Gr 162 2 v xs.length (q6 xs)]):=by
 refine aoB (N:=13) Tryz.func240 eU rfl rfl (nW rfl) ?_;intro w0 D;refine DS ?_;refine fF 162 2 ?_;refine jG ?_;refine bH λb1=> ?_;refine s_2 ?_;refine F5 rfl ?_;refine s_3 ?_;intro af1 wf1 hff1 hmf1;refine FE hff1 hmf1 rfl (enters_of Tryz.func204 eU rfl) (itP hx a_) (λ_=>rfl) (λj=>(upd _ _ 7 (Value.agg #[vi ((xs[j]?.getD ⟨0,0⟩).a),vi ((xs[j]?.getD ⟨0,0⟩).b)]))) (λ_=>fr1 hff1) (λ(j:Nat) V' σ'=>∃u:Value,σ'=[Gr 162 2 u j (q6 (xs.take j)),aM 158 b1 [u]]∧Cells V' Bs [sv]∧s7 V' sv xs∧V'=V) ⟨vn,rfl,hc,hx,rfl⟩ (by rintro j _ _ _ ⟨u,rfl,hc,hx,hVe⟩ hm_;exact⟨_,hx,hc,hm_.view⟩) ?_ ?_;rintro rr1 DD1 oo1 j Vr1 _ hj ⟨u,rfl,hc,hx,hVe⟩;refine lZ eU ?_;refine aQ λb2=> ?_;refine s_2 ?_;refine⟨[Gr 162 2 u j (q6 (xs.take j)),aM 158 b1 [u],aM 162 b2 [vi ((xs[j]?.getD ⟨0,0⟩).a),vi ((xs[j]?.getD ⟨0,0⟩).b)]],[],fO _ _ [0,1,4,2,3] rfl rfl,λoo2=> ?_⟩;refine BH ?_;refine lZ eU ?_;refine s_2 ?_;refine cQ 1 2 [vi ((xs[j]?.getD ⟨0,0⟩).a),vi ((xs[j]?.getD ⟨0,0⟩).b)] (λb3=> ?_);refine dV rfl rfl rfl fW a_ eZ λv1 hn1=> ?_;refine bO (k:=0) rfl (λho1=> ?_);refine j8 rfl eQ ho1 ?_;refine jG ?_;refine⟨[Gr 162 2 v1 (j+1) ((q6 (xs.take j))++ [vi ((xs[j]?.getD ⟨0,0⟩).a),vi ((xs[j]?.getD ⟨0,0⟩).b)]),aM 158 b1 [v1]],[aM 162 b2 [vi ((xs[j]?.getD ⟨0,0⟩).a),vi ((xs[j]?.getD ⟨0,0⟩).b)],aM 162 b3 [vi ((xs[j]?.getD ⟨0,0⟩).a),vi ((xs[j]?.getD ⟨0,0⟩).b)]],fO _ _ [0,1,3,4,2,5] rfl rfl,v1,by rw[←ax3 hj],hc,hx,hVe⟩;rintro DD2 _ Vr2 _ ⟨u,rfl,hc,hx,hVe⟩ hmf2;refine JP hff1 hmf2 ?_;refine s_3 ?_;refine JO (σb:=[Gr 162 2 u xs.length (q6 (xs.take xs.length))]) (τ:=[aM 158 b1 [u]]) (fO _ _ [0,2,1] rfl rfl) ?_;refine zJ ?_;exact⟨hVe,by rw[List.take_length]⟩
end Go.Proofs.YtbchkopkgpfkgaaGreat.Dd
