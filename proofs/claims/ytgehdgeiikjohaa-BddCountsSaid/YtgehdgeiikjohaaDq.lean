/- Walks of bdd: what each function returns. Printed by a program out of notes. -/
import Derived.Test.YtgehdgeiikjohaaBp
import Derived.Test.YtgehdgeiikjohaaBdJ
import Derived.Test.YtgehdgeiikjohaaVcI
namespace Go.Proofs.Ytgehdgeiikjohaa
open Go.Vc
open Classical

set_option maxRecDepth 100000 in
set_option maxHeartbeats 4000000 in
theorem EqB_c {V : HV} {a b : Value} {X Y : List Bool} (hX : Bls V a X) (hY : Bls V b Y) :
    FnC Try.prog 35 [a, b] V [] (fun v _ _ => v = (.bool (decide (X = Y)))) := by
 refine fn_intro (N := 26) Try.func35 (by kernel_rfl) rfl rfl rfl (Nat.le_of_ble_eq_true rfl) ?_
 intro w0 D
 have hb := hX.bound
 have hb2 := hY.bound
 refine vc_seq ?_
 refine vc_region ?_
 refine oq (qv_as (Value.bool false) rfl) ?_
 refine ops_nil ?_
 refine vc_seq ?_
 refine vc_seq ?_
 refine vc_region ?_
 refine oq (qv_mv a rfl) ?_
 refine oq (qv_lenB Try.underlying34 rfl hX) ?_
 refine oq (qv_mv b rfl) ?_
 refine oq (qv_lenB Try.underlying34 rfl hY) ?_
 refine oq (qv_neq rfl rfl) ?_
 refine ops_nil ?_
 refine vc_if rfl (fun c1 => ?_) (fun c1 => ?_)
 ·
  refine vc_seq ?_
  refine vc_region ?_
  refine oq (qv_as (Value.bool false) rfl) ?_
  refine ops_nil ?_
  refine vc_ret ?_
  exact rq1 (.bool (decide (X = Y))) (congrArg Value.bool (decide_eq_false (show ¬ (X = Y) from by intro hx; subst hx; first | omega | exact absurd Iff.rfl (by assumption))).symm) rfl
 ·
  refine vc_skip ?_
  refine vc_seq ?_
  refine vc_seq ?_
  refine vc_region ?_
  refine oq (qv_mv a rfl) ?_
  refine oq (qv_lenB Try.underlying34 rfl hX) ?_
  refine oq (qv_mv (Value.int .i64 0) rfl) ?_
  refine ops_nil ?_
  refine vc_block ?_
  refine vc_loop (α := Int) (fun (xx : Int) => [(0, a), (1, b), (10, (.bool (decide (((X.length : Int)) ≠ ((Y.length : Int)))))), (12, (.int .i64 ((X.length : Int)))), (13, (Value.int .i64 xx))]) (fun (xx : Int) V' σ' => V = V' ∧ [] = σ' ∧ 0 ≤ xx ∧ xx ≤ X.length ∧ ∀ x : Int, 0 ≤ x → x < xx → gb X x = gb Y x) (fun (xx : Int) => (X.length - xx).toNat) (0) ?_ ?_ ?_
  · exact ⟨rfl, rfl, rfl, rfl, rfl, trivial⟩
  · exact ⟨rfl, rfl, by omega, by omega, fun x a b => by omega⟩
  rintro i e1 V0l σ0l hI0
  obtain ⟨rfl, rfl, i1, i2, hi⟩ : V = V0l ∧ [] = σ0l ∧ 0 ≤ i ∧ i ≤ X.length ∧ ∀ x : Int, 0 ≤ x → x < i → gb X x = gb Y x := hI0
  refine vc_seq ?_
  refine vc_region ?_
  refine oq (qv_lss rfl rfl) ?_
  refine ops_nil ?_
  refine vc_seq ?_
  refine vc_if rfl (fun c2 => ?_) (fun c2 => ?_)
  ·
   refine vc_skip ?_
   refine vc_seq ?_
   refine vc_block ?_
   refine vc_seq ?_
   refine vc_region ?_
   refine oq (qv_mv (Value.int .i64 i) rfl) ?_
   refine oq (qv_as (Value.int .i64 i) rfl) ?_
   refine ops_nil ?_
   refine vc_seq ?_
   refine vc_region_any Try.mixed (by kernel_rfl) ?_
   refine qq (qv_mv a rfl) ?_
   refine qq (qv_mv (Value.int .i64 i) rfl) ?_
   refine qq (qv_iab (v := a) (i := i) Try.underlying34 Try.size4 rfl (inVb hX) rfl (by omega) (by omega)) ?_
   refine qq (qv_ldb (v := a) (i := i) Try.plain4 rfl (inVb hX) (by omega) (by omega)) ?_
   refine qq (qv_mv b rfl) ?_
   refine qq (qv_mv (Value.int .i64 i) rfl) ?_
   refine qq (qv_iab (v := b) (i := i) Try.underlying34 Try.size4 rfl (inVb hY) rfl (by omega) (by omega)) ?_
   refine qq (qv_ldb (v := b) (i := i) Try.plain4 rfl (inVb hY) (by omega) (by omega)) ?_
   refine qq (qv_niffb Try.underlying4 rfl rfl) ?_
   refine qops_nil ?_
   refine vc_if rfl (fun c3 => ?_) (fun c3 => ?_)
   ·
    refine vc_seq ?_
    refine vc_region ?_
    refine oq (qv_as (Value.bool false) rfl) ?_
    refine ops_nil ?_
    refine vc_ret ?_
    refine blockQ_ret ?_
    refine blockQ_ret ?_
    exact rq1 (.bool (decide (X = Y))) (congrArg Value.bool (decide_eq_false (show ¬ (X = Y) from by intro hx; subst hx; first | omega | exact absurd Iff.rfl (by assumption))).symm) rfl
   ·
    refine vc_skip ?_
    refine vc_region ?_
    refine oq (qv_add rfl rfl (by omega)) ?_
    refine oq (qv_mv (.int .i64 (i + 1)) rfl) ?_
    refine ops_nil ?_
    refine ⟨(i + 1), ⟨rfl, rfl, rfl, rfl, (congrArg (Value.int .i64) (show (i + 1) = ((i + 1)) from by omega)), trivial⟩, ⟨rfl, rfl, by omega, by omega, all_snoc hi (Bool.eq_iff_iff.2 (Decidable.not_not.1 c3))⟩, by omega⟩
  ·
   refine vc_exit ?_
   refine blockQ_hit ?_
   refine vc_seq ?_
   refine vc_region ?_
   refine oq (qv_as (Value.bool true) rfl) ?_
   refine ops_nil ?_
   refine vc_ret ?_
   exact rq1 (.bool (decide (X = Y))) (congrArg Value.bool (decide_eq_true (show (X = Y) from by exact ext_gb (by omega) (fun x a b => hi x a (by omega)))).symm) rfl

set_option maxRecDepth 100000 in
set_option maxHeartbeats 4000000 in
theorem IndexB_c {V : HV} {a : Value} {X : List Bool} (hX : Bls V a X) :
    FnC Try.prog 64 [a, (Value.bool true)] V [] (fun v _ _ => v = (.int .i64 (firstI (fun i => gb X i = true) X.length))) := by
 refine fn_intro (N := 19) Try.func64 (by kernel_rfl) rfl rfl rfl (Nat.le_of_ble_eq_true rfl) ?_
 intro w0 D
 have hb := hX.bound
 refine vc_seq ?_
 refine vc_region ?_
 refine oq (qv_as (Value.int .i64 0) rfl) ?_
 refine ops_nil ?_
 refine vc_seq ?_
 refine vc_seq ?_
 refine vc_region ?_
 refine oq (qv_mv a rfl) ?_
 refine oq (qv_lenB Try.underlying34 rfl hX) ?_
 refine oq (qv_mv (Value.int .i64 0) rfl) ?_
 refine ops_nil ?_
 refine vc_block ?_
 refine vc_loop (α := Int) (fun (xx : Int) => [(0, a), (1, (Value.bool true)), (7, (.int .i64 ((X.length : Int)))), (8, (Value.int .i64 xx))]) (fun (xx : Int) V' σ' => V = V' ∧ [] = σ' ∧ 0 ≤ xx ∧ xx ≤ X.length ∧ ∀ x : Int, 0 ≤ x → x < xx → ¬ gb X x = true) (fun (xx : Int) => (X.length - xx).toNat) (0) ?_ ?_ ?_
 · exact ⟨rfl, rfl, rfl, rfl, trivial⟩
 · exact ⟨rfl, rfl, by omega, by omega, fun x a b => by omega⟩
 rintro i e1 V0l σ0l hI0
 obtain ⟨rfl, rfl, i1, i2, hi⟩ : V = V0l ∧ [] = σ0l ∧ 0 ≤ i ∧ i ≤ X.length ∧ ∀ x : Int, 0 ≤ x → x < i → ¬ gb X x = true := hI0
 refine vc_seq ?_
 refine vc_region ?_
 refine oq (qv_lss rfl rfl) ?_
 refine ops_nil ?_
 refine vc_seq ?_
 refine vc_if rfl (fun c1 => ?_) (fun c1 => ?_)
 ·
  refine vc_skip ?_
  refine vc_seq ?_
  refine vc_block ?_
  refine vc_seq ?_
  refine vc_region ?_
  refine oq (qv_mv (Value.int .i64 i) rfl) ?_
  refine oq (qv_as (Value.int .i64 i) rfl) ?_
  refine ops_nil ?_
  refine vc_seq ?_
  refine vc_region ?_
  refine oq (qv_mv (Value.bool true) rfl) ?_
  refine oq (qv_mv a rfl) ?_
  refine oq (qv_mv (Value.int .i64 i) rfl) ?_
  refine oq (qv_iab (v := a) (i := i) Try.underlying34 Try.size4 rfl (inVb hX) rfl (by omega) (by omega)) ?_
  refine oq (qv_ldb (v := a) (i := i) Try.plain4 rfl (inVb hX) (by omega) (by omega)) ?_
  refine oq (qv_eqt Try.underlying4 rfl rfl) ?_
  refine ops_nil ?_
  refine vc_if rfl (fun c2 => ?_) (fun c2 => ?_)
  ·
   refine vc_seq ?_
   refine vc_region ?_
   refine oq (qv_mv (Value.int .i64 i) rfl) ?_
   refine oq (qv_as (Value.int .i64 i) rfl) ?_
   refine ops_nil ?_
   refine vc_ret ?_
   refine blockQ_ret ?_
   refine blockQ_ret ?_
   exact rq1 (.int .i64 (firstI (fun i => gb X i = true) X.length)) (congrArg (Value.int .i64) (show i = (firstI (fun i => gb X i = true) X.length) from by exact (firstI_some (by omega) c2 hi X.length (by omega)).symm)) rfl
  ·
   refine vc_skip ?_
   refine vc_region ?_
   refine oq (qv_add rfl rfl (by omega)) ?_
   refine oq (qv_mv (.int .i64 (i + 1)) rfl) ?_
   refine ops_nil ?_
   refine ⟨(i + 1), ⟨rfl, rfl, rfl, (congrArg (Value.int .i64) (show (i + 1) = ((i + 1)) from by omega)), trivial⟩, ⟨rfl, rfl, by omega, by omega, all_snoc hi c2⟩, by omega⟩
 ·
  refine vc_exit ?_
  refine blockQ_hit ?_
  refine vc_seq ?_
  refine vc_region ?_
  refine oq (qv_as (.int .i64 ((-1))) rfl) ?_
  refine ops_nil ?_
  refine vc_ret ?_
  exact rq1 (.int .i64 (firstI (fun i => gb X i = true) X.length)) (congrArg (Value.int .i64) (show ((-1)) = (firstI (fun i => gb X i = true) X.length) from by exact (firstI_none X.length (fun x a b => hi x a (by omega))).symm)) rfl

set_option maxRecDepth 100000 in
set_option maxHeartbeats 4000000 in
theorem ContainsB_c {V : HV} {a : Value} {X : List Bool} (hX : Bls V a X) :
    FnC Try.prog 31 [a, (Value.bool true)] V [] (fun v _ _ => v = (.bool (decide (∃ i : Int, 0 ≤ i ∧ i < X.length ∧ gb X i = true)))) := by
 refine fn_intro (N := 9) Try.func31 (by kernel_rfl) rfl rfl rfl (Nat.le_of_ble_eq_true rfl) ?_
 intro w0 D
 refine vc_seq ?_
 refine vc_region ?_
 refine oq (qv_as (Value.bool false) rfl) ?_
 refine ops_nil ?_
 refine vc_seq ?_
 refine vc_region ?_
 refine oq (qv_mv a rfl) ?_
 refine oq (qv_mv (Value.bool true) rfl) ?_
 refine oq (qv_call (v := (.int .i64 (firstI (fun i => gb X i = true) X.length))) (IndexB_c hX) rfl rfl) ?_
 refine oq (qv_geq rfl rfl) ?_
 refine oq (qv_as (.bool (decide (0 ≤ (firstI (fun i => gb X i = true) X.length)))) rfl) ?_
 refine ops_nil ?_
 refine vc_ret ?_
 exact rq1 (.bool (decide (∃ i : Int, 0 ≤ i ∧ i < X.length ∧ gb X i = true))) (congrArg Value.bool (decide_eq_decide.2 (show (0 ≤ (firstI (fun i => gb X i = true) X.length)) ↔ (∃ i : Int, 0 ≤ i ∧ i < X.length ∧ gb X i = true) from by exact firstI_nonneg X.length))) rfl

end Go.Proofs.Ytgehdgeiikjohaa
