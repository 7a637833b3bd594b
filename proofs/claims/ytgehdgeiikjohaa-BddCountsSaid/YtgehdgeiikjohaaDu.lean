/- Walks of bdd: what each function returns. Printed by a program out of notes. -/
import Derived.Test.YtgehdgeiikjohaaDt
import Derived.Test.YtgehdgeiikjohaaDq
import Derived.Test.YtgehdgeiikjohaaVcI
namespace Go.Proofs.Ytgehdgeiikjohaa
open Go.Vc
open Classical

set_option maxRecDepth 100000 in
set_option maxHeartbeats 4000000 in
theorem EqI_c {V : HV} {a b : Value} {X Y : List Int} (hX : Ints .i64 V a X) (hY : Ints .i64 V b Y) :
    FnC Try.prog 47 [a, b] V [] (fun v _ _ => v = (.bool (decide (X = Y)))) := by
 refine fn_intro (N := 26) Try.func47 (by kernel_rfl) rfl rfl rfl (Nat.le_of_ble_eq_true rfl) ?_
 intro w0 D
 have hb := hX.bound
 have hb2 := hY.bound
 refine vc_seq ?_
 refine vc_region ?_
 refine oq (qv_as (Value.bool false) rfl) ?_
 refine ops_nil ?_
 refine vc_seq ?_
 refine vc_seq ?_
 refine vc_region ?_
 refine oq (qv_mv a rfl) ?_
 refine oq (qv_lenI Try.underlying58 rfl hX) ?_
 refine oq (qv_mv b rfl) ?_
 refine oq (qv_lenI Try.underlying58 rfl hY) ?_
 refine oq (qv_neq rfl rfl) ?_
 refine ops_nil ?_
 refine vc_if rfl (fun c1 => ?_) (fun c1 => ?_)
 ·
  refine vc_seq ?_
  refine vc_region ?_
  refine oq (qv_as (Value.bool false) rfl) ?_
  refine ops_nil ?_
  refine vc_ret ?_
  exact rq1 (.bool (decide (X = Y))) (congrArg Value.bool (decide_eq_false (show ¬ (X = Y) from by intro hx; subst hx; first | omega | exact absurd rfl (by assumption))).symm) rfl
 ·
  refine vc_skip ?_
  refine vc_seq ?_
  refine vc_seq ?_
  refine vc_region ?_
  refine oq (qv_mv a rfl) ?_
  refine oq (qv_lenI Try.underlying58 rfl hX) ?_
  refine oq (qv_mv (Value.int .i64 0) rfl) ?_
  refine ops_nil ?_
  refine vc_block ?_
  refine vc_loop (α := Int) (fun (xx : Int) => [(0, a), (1, b), (10, (.bool (decide (((X.length : Int)) ≠ ((Y.length : Int)))))), (12, (.int .i64 ((X.length : Int)))), (13, (Value.int .i64 xx))]) (fun (xx : Int) V' σ' => V = V' ∧ [] = σ' ∧ 0 ≤ xx ∧ xx ≤ X.length ∧ ∀ x : Int, 0 ≤ x → x < xx → gi X x = gi Y x) (fun (xx : Int) => (X.length - xx).toNat) (0) ?_ ?_ ?_
  · exact ⟨rfl, rfl, rfl, rfl, rfl, trivial⟩
  · exact ⟨rfl, rfl, by omega, by omega, fun x a b => by omega⟩
  rintro i e1 V0l σ0l hI0
  obtain ⟨rfl, rfl, i1, i2, hi⟩ : V = V0l ∧ [] = σ0l ∧ 0 ≤ i ∧ i ≤ X.length ∧ ∀ x : Int, 0 ≤ x → x < i → gi X x = gi Y x := hI0
  refine vc_seq ?_
  refine vc_region ?_
  refine oq (qv_lss rfl rfl) ?_
  refine ops_nil ?_
  refine vc_seq ?_
  refine vc_if rfl (fun c2 => ?_) (fun c2 => ?_)
  ·
   refine vc_skip ?_
   refine vc_seq ?_
   refine vc_block ?_
   refine vc_seq ?_
   refine vc_region ?_
   refine oq (qv_mv (Value.int .i64 i) rfl) ?_
   refine oq (qv_as (Value.int .i64 i) rfl) ?_
   refine ops_nil ?_
   refine vc_seq ?_
   refine vc_region_any Try.mixed (by kernel_rfl) ?_
   refine qq (qv_mv a rfl) ?_
   refine qq (qv_mv (Value.int .i64 i) rfl) ?_
   refine qq (qv_iai (v := a) (i := i) Try.underlying58 Try.size3 rfl (inVi hX) rfl (by omega) (by omega)) ?_
   refine qq (qv_ldi (v := a) (i := i) Try.plain3 rfl (inVi hX) (by omega) (by omega)) ?_
   refine qq (qv_mv b rfl) ?_
   refine qq (qv_mv (Value.int .i64 i) rfl) ?_
   refine qq (qv_iai (v := b) (i := i) Try.underlying58 Try.size3 rfl (inVi hY) rfl (by omega) (by omega)) ?_
   refine qq (qv_ldi (v := b) (i := i) Try.plain3 rfl (inVi hY) (by omega) (by omega)) ?_
   refine qq (qv_neq rfl rfl) ?_
   refine qops_nil ?_
   refine vc_if rfl (fun c3 => ?_) (fun c3 => ?_)
   ·
    refine vc_seq ?_
    refine vc_region ?_
    refine oq (qv_as (Value.bool false) rfl) ?_
    refine ops_nil ?_
    refine vc_ret ?_
    refine blockQ_ret ?_
    refine blockQ_ret ?_
    exact rq1 (.bool (decide (X = Y))) (congrArg Value.bool (decide_eq_false (show ¬ (X = Y) from by intro hx; subst hx; first | omega | exact absurd rfl (by assumption))).symm) rfl
   ·
    refine vc_skip ?_
    refine vc_region ?_
    refine oq (qv_add rfl rfl (by omega)) ?_
    refine oq (qv_mv (.int .i64 (i + 1)) rfl) ?_
    refine ops_nil ?_
    refine ⟨(i + 1), ⟨rfl, rfl, rfl, rfl, (congrArg (Value.int .i64) (show (i + 1) = ((i + 1)) from by omega)), trivial⟩, ⟨rfl, rfl, by omega, by omega, all_snoc hi (by omega)⟩, by omega⟩
  ·
   refine vc_exit ?_
   refine blockQ_hit ?_
   refine vc_seq ?_
   refine vc_region ?_
   refine oq (qv_as (Value.bool true) rfl) ?_
   refine ops_nil ?_
   refine vc_ret ?_
   exact rq1 (.bool (decide (X = Y))) (congrArg Value.bool (decide_eq_true (show (X = Y) from by exact ext_gi (by omega) (fun x a b => hi x a (by omega)))).symm) rfl

end Go.Proofs.Ytgehdgeiikjohaa
