import Derived.Test.YtbchkopkgpfkgaaGreatQAN
import Derived.Test.YtbchkopkgpfkgaaGreatQEA
set_option linter.unusedVariables false
set_option maxRecDepth 100000
set_option maxHeartbeats 4000000
noncomputable section
namespace Go.Proofs.YtbchkopkgpfkgaaGreat
open Classical Go.Vc
variable{F:Fl}{V:HV}{ba ha va:Value}{bm k:Nat}{inp:Bool}{t:Tm}{vs:List Vr}{xs:List Int}
theorem Q2{p:Prop}[ip:Decidable p]:
  aP Tryz.prog 133 [.bool (decide p)] V [] (λv _ _=>v=(.int .i64 (if p then 1 else 0))):=by
 refine bI Tryz.func133 ?_;intro w0 D;refine eW ?_;refine aG ?_ ?_<;>intro c1;refine aF ?_;exact aW (aL awF);refine aN ?_;exact aW (aL awF)
theorem aEl:aP Tryz.prog 133 [.bool true] V [] (λv _ _=>v= .int .i64 1):=Q2 (p:=True)
theorem aAL:aP Tryz.prog 133 [.bool false] V [] (λv _ _=>v= .int .i64 0):=Q2 (p:=False)
theorem JY{n lo hi:Int}:
  aP Tryz.prog 73 [vi n,vi lo,vi hi] V [] (λv _ _=>v=(.int .i64 (lM n lo hi))):=by
 refine bI Tryz.func73 ?_;intro w0 D;refine nK ?_;exact aW (aL (by unfold lM aX bJ;(repeat' split)<;>omega))
def VLC(k:Nat):Prop:=∀(V:HV) (t:Tm) (ks uv:Value) (vs:List Vr) (inp:Bool) (xs:List Int),eJ V ks t.kids→aT .i64 V uv xs→xs.length=vs.length→bF vs xs→lO vs inp t→oI vs t→t.sz<k→aP Tryz.prog 74 [uv,.agg #[.int .i64 t.op,.int .i64 t.n,ks]] V [] (λv _ _=>v= .int .i64 (val xs t))
abbrev ah0:=λ(b2:Nat)=>Value.pointer (some ⟨b2,0,none⟩)
end Go.Proofs.YtbchkopkgpfkgaaGreat
end
