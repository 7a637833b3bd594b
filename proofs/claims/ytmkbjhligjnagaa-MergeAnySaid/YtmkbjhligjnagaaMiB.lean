/- Walks of merge: what each function returns. Printed by a program out of notes. -/
import Derived.Test.YtmkbjhligjnagaaMiA
namespace Go.Proofs.Ytmkbjhligjnagaa
open Go Go.Vc
open Classical
set_option maxRecDepth 100000
set_option maxRecDepth 100000 in
set_option maxHeartbeats 4000000 in
theorem isNaN_c {V : HV} {x : Int} :
    FnC Try.prog 68 [(Value.int .i64 x)] V [] (fun v _ _ => v = (Value.bool false)) := by
 refine fn_intro (N := 6) Try.func68 (by kernel_rfl) rfl rfl rfl (Nat.le_of_ble_eq_true rfl) ?_
 intro w0 D
 refine vc_seq ?_
 refine vc_region ?_
 refine oq (qv_as (Value.bool false) rfl) ?_
 refine ops_nil ?_
 refine vc_seq ?_
 refine vc_region ?_
 refine oq (qv_mv (Value.int .i64 x) rfl) ?_
 refine oq (qv_mv (Value.int .i64 x) rfl) ?_
 refine oq (qv_neq rfl rfl) ?_
 refine oq (qv_as (.bool (decide (x ≠ x))) rfl) ?_
 refine ops_nil ?_
 refine vc_ret ?_
 exact rq1 (Value.bool false) (congrArg Value.bool (decide_eq_false (show ¬ (x ≠ x) from by exact fun q => q rfl))) rfl

set_option maxRecDepth 100000 in
set_option maxHeartbeats 4000000 in
theorem Compare_c {V : HV} {x y : Int} :
    FnC Try.prog 61 [(Value.int .i64 x), (Value.int .i64 y)] V [] (fun v _ _ => v = (.int .i64 (cmpI x y))) := by
 refine fn_intro (N := 20) Try.func61 (by kernel_rfl) rfl rfl rfl (Nat.le_of_ble_eq_true rfl) ?_
 intro w0 D
 refine vc_seq ?_
 refine vc_region ?_
 refine oq (qv_as (Value.int .i64 0) rfl) ?_
 refine ops_nil ?_
 refine vc_seq ?_
 refine vc_region ?_
 refine oq (qv_mv (Value.int .i64 x) rfl) ?_
 refine oq (qv_call (v := (Value.bool false)) (isNaN_c) rfl rfl) ?_
 refine oq (qv_as (Value.bool false) rfl) ?_
 refine ops_nil ?_
 refine vc_seq ?_
 refine vc_region ?_
 refine oq (qv_mv (Value.int .i64 y) rfl) ?_
 refine oq (qv_call (v := (Value.bool false)) (isNaN_c) rfl rfl) ?_
 refine oq (qv_as (Value.bool false) rfl) ?_
 refine ops_nil ?_
 refine vc_seq ?_
 refine vc_seq ?_
 refine vc_region ?_
 refine oq (qv_mv (Value.bool false) rfl) ?_
 refine ops_nil ?_
 refine vc_ff rfl ?_
 refine vc_skip ?_
 refine vc_seq ?_
 refine vc_seq ?_
 refine vc_region ?_
 refine oq (qv_mv (Value.bool false) rfl) ?_
 refine ops_nil ?_
 refine vc_ff rfl ?_
 refine vc_skip ?_
 refine vc_seq ?_
 refine vc_seq ?_
 refine vc_region ?_
 refine oq (qv_mv (Value.int .i64 x) rfl) ?_
 refine oq (qv_mv (Value.int .i64 y) rfl) ?_
 refine oq (qv_lss rfl rfl) ?_
 refine ops_nil ?_
 refine vc_if rfl (fun c1 => ?_) (fun c1 => ?_)
 ·
  refine vc_seq ?_
  refine vc_region ?_
  refine oq (qv_as (.int .i64 ((-1))) rfl) ?_
  refine ops_nil ?_
  refine vc_ret ?_
  exact rq1 (.int .i64 (cmpI x y)) (congrArg (Value.int .i64) (show ((-1)) = (cmpI x y) from by rw [cmp_l (by omega)])) rfl
 ·
  refine vc_skip ?_
  refine vc_seq ?_
  refine vc_seq ?_
  refine vc_region ?_
  refine oq (qv_mv (Value.int .i64 x) rfl) ?_
  refine oq (qv_mv (Value.int .i64 y) rfl) ?_
  refine oq (qv_gtr rfl rfl) ?_
  refine ops_nil ?_
  refine vc_if rfl (fun c2 => ?_) (fun c2 => ?_)
  ·
   refine vc_seq ?_
   refine vc_region ?_
   refine oq (qv_as (Value.int .i64 1) rfl) ?_
   refine ops_nil ?_
   refine vc_ret ?_
   exact rq1 (.int .i64 (cmpI x y)) (congrArg (Value.int .i64) (show 1 = (cmpI x y) from by rw [cmp_g (by omega) (by omega)])) rfl
  ·
   refine vc_skip ?_
   refine vc_seq ?_
   refine vc_region ?_
   refine oq (qv_as (Value.int .i64 0) rfl) ?_
   refine ops_nil ?_
   refine vc_ret ?_
   exact rq1 (.int .i64 (cmpI x y)) (congrArg (Value.int .i64) (show 0 = (cmpI x y) from by rw [cmp_e (by omega) (by omega)])) rfl

set_option maxRecDepth 100000 in
set_option maxHeartbeats 4000000 in
theorem Or_c {V : HV} {a : Value} {x y : Int} (ha : Ints .i64 V a [x, y]) :
    FnC Try.prog 60 [a] V [] (fun v _ _ => v = (.int .i64 (if x ≠ 0 then x else y))) := by
 refine fn_intro (N := 18) Try.func60 (by kernel_rfl) rfl rfl rfl (Nat.le_of_ble_eq_true rfl) ?_
 intro w0 D
 have e2 : (([x, y] : List Int).length : Int) = 2 := rfl
 refine vc_seq ?_
 refine vc_region ?_
 refine oq (qv_as (Value.int .i64 0) rfl) ?_
 refine ops_nil ?_
 refine vc_seq ?_
 refine vc_region ?_
 refine oq (qv_as (Value.int .i64 0) rfl) ?_
 refine ops_nil ?_
 refine vc_seq ?_
 refine vc_seq ?_
 refine vc_region ?_
 refine oq (qv_mv a rfl) ?_
 refine oq (qv_lenI Try.underlying29 rfl ha) ?_
 refine oq (qv_mv (Value.int .i64 0) rfl) ?_
 refine ops_nil ?_
 refine vc_block ?_
 refine vc_loop (α := Int) (fun (xx : Int) => [(0, a), (3, (Value.int .i64 0)), (6, a), (7, (.int .i64 ((([x, y]).length : Int)))), (8, (Value.int .i64 xx))]) (fun (xx : Int) V' σ' => V = V' ∧ [] = σ' ∧ 0 ≤ xx ∧ xx ≤ 2 ∧ ∀ k : Int, 0 ≤ k → k < xx → gi [x, y] k = 0) (fun (xx : Int) => (2 - xx).toNat) (0) ?_ ?_ ?_
 · exact ⟨rfl, rfl, rfl, rfl, rfl, trivial⟩
 · exact ⟨rfl, rfl, by omega, by omega, fun k a b => by omega⟩
 rintro i e1 V0l σ0l hI0
 obtain ⟨rfl, rfl, i1, i2, hi⟩ : V = V0l ∧ [] = σ0l ∧ 0 ≤ i ∧ i ≤ 2 ∧ ∀ k : Int, 0 ≤ k → k < i → gi [x, y] k = 0 := hI0
 refine vc_seq ?_
 refine vc_region ?_
 refine oq (qv_lss rfl rfl) ?_
 refine ops_nil ?_
 refine vc_seq ?_
 refine vc_if rfl (fun c1 => ?_) (fun c1 => ?_)
 ·
  refine vc_skip ?_
  refine vc_seq ?_
  refine vc_block ?_
  refine vc_seq ?_
  refine vc_region ?_
  refine oq (qv_iai (v := a) (i := i) Try.underlying29 Try.size3 rfl (inVi ha) rfl (by omega) (by omega)) ?_
  refine oq (qv_ldi (v := a) (i := i) Try.plain3 rfl (inVi ha) (by omega) (by omega)) ?_
  refine oq (qv_as (.int .i64 (gi ([x, y]) (i))) rfl) ?_
  refine ops_nil ?_
  refine vc_seq ?_
  refine vc_region ?_
  refine oq (qv_mv (.int .i64 (gi ([x, y]) (i))) rfl) ?_
  refine oq (qv_mv (Value.int .i64 0) rfl) ?_
  refine oq (qv_neq rfl rfl) ?_
  refine ops_nil ?_
  refine vc_if rfl (fun c2 => ?_) (fun c2 => ?_)
  ·
   refine vc_seq ?_
   refine vc_region ?_
   refine oq (qv_mv (.int .i64 (gi ([x, y]) (i))) rfl) ?_
   refine oq (qv_as (.int .i64 (gi ([x, y]) (i))) rfl) ?_
   refine ops_nil ?_
   refine vc_ret ?_
   refine blockQ_ret ?_
   refine blockQ_ret ?_
   exact rq1 (.int .i64 (if x ≠ 0 then x else y)) (congrArg (Value.int .i64) (show (gi ([x, y]) (i)) = (if x ≠ 0 then x else y) from by first | exact or2 hi (by omega) (by omega) (.inl ⟨by omega, by assumption, rfl⟩) | exact or2 hi (by omega) (by omega) (.inr ⟨by omega, rfl⟩))) rfl
  ·
   refine vc_skip ?_
   refine vc_region ?_
   refine oq (qv_add rfl rfl (by omega)) ?_
   refine oq (qv_mv (.int .i64 (i + 1)) rfl) ?_
   refine ops_nil ?_
   refine ⟨(i + 1), ⟨rfl, rfl, rfl, rfl, (congrArg (Value.int .i64) (show (i + 1) = ((i + 1)) from by omega)), trivial⟩, ⟨rfl, rfl, by omega, by omega, all_snoc hi (by omega)⟩, by omega⟩
 ·
  refine vc_exit ?_
  refine blockQ_hit ?_
  refine vc_seq ?_
  refine vc_region ?_
  refine oq (qv_mv (Value.int .i64 0) rfl) ?_
  refine oq (qv_as (Value.int .i64 0) rfl) ?_
  refine ops_nil ?_
  refine vc_ret ?_
  exact rq1 (.int .i64 (if x ≠ 0 then x else y)) (congrArg (Value.int .i64) (show 0 = (if x ≠ 0 then x else y) from by first | exact or2 hi (by omega) (by omega) (.inl ⟨by omega, by assumption, rfl⟩) | exact or2 hi (by omega) (by omega) (.inr ⟨by omega, rfl⟩))) rfl

set_option maxRecDepth 100000 in
set_option maxHeartbeats 4000000 in
theorem order_c {V : HV} {x y : Be} :
    FnC Try.prog 43 [(.agg #[(.int .i64 x.s), (.int .i64 x.j), (.int .i64 x.v)]), (.agg #[(.int .i64 y.s), (.int .i64 y.j), (.int .i64 y.v)])] V [] (fun v _ _ => v = (.int .i64 (ordF x y))) := by
 refine fn_intro (N := 17) Try.func43 (by kernel_rfl) rfl rfl rfl (Nat.le_of_ble_eq_true rfl) ?_
 intro w0 D
 refine vc_seq ?_
 refine vc_region ?_
 refine ops_box (v := (.agg #[(.int .i64 x.s), (.int .i64 x.j), (.int .i64 x.v)])) (cs := [(.int .i64 x.s), (.int .i64 x.j), (.int .i64 x.v)]) rfl rfl (fun b1 => ?_)
 refine ops_box (v := (.agg #[(.int .i64 y.s), (.int .i64 y.j), (.int .i64 y.v)])) (cs := [(.int .i64 y.s), (.int .i64 y.j), (.int .i64 y.v)]) rfl rfl (fun b2 => ?_)
 refine oq (qv_as (Value.int .i64 0) rfl) ?_
 refine ops_nil ?_
 refine vc_seq ?_
 refine vc_res (σ' := [(Arr 66 b1 [(.int .i64 x.s), (.int .i64 x.j), (.int .i64 x.v)]), (Arr 66 b2 [(.int .i64 y.s), (.int .i64 y.j), (.int .i64 y.v)])]) rfl ?_
 refine vc_region_order (τ := []) [(0, false), (1, false), (2, false), (3, false), (4, false), (5, false), (6, false), (7, false), (8, false), (9, false), (10, true), (11, false), (12, false)] [(Arr 66 b1 [(.int .i64 x.s), (.int .i64 x.j), (.int .i64 x.v)]), (Arr 66 b2 [(.int .i64 y.s), (.int .i64 y.j), (.int .i64 y.v)])] Try.mixed (perm_nil _) (by kernel_rfl) ?_
 refine rq rfl (qv_fa (off := 0) Try.field66_1 rfl) ?_
 refine rq rfl (qv_ldp (v := (.int .i64 y.j)) Try.plain3 rfl (inOc (k := 1) rfl) rfl) ?_
 refine rq rfl (qv_fa (off := 0) Try.field66_1 rfl) ?_
 refine rq rfl (qv_ldp (v := (.int .i64 x.j)) Try.plain3 rfl (inOc (k := 0) rfl) rfl) ?_
 refine rq rfl (qv_call (v := (.int .i64 (cmpI y.j x.j))) (Compare_c) rfl rfl) ?_
 refine rq rfl (qv_fa (off := 0) Try.field66_0 rfl) ?_
 refine rq rfl (qv_ldp (v := (.int .i64 x.s)) Try.plain3 rfl (inOc (k := 0) rfl) rfl) ?_
 refine rq rfl (qv_fa (off := 0) Try.field66_0 rfl) ?_
 refine rq rfl (qv_ldp (v := (.int .i64 y.s)) Try.plain3 rfl (inOc (k := 1) rfl) rfl) ?_
 refine rq rfl (qv_call (v := (.int .i64 (cmpI x.s y.s))) (Compare_c) rfl rfl) ?_
 refine rl rfl ?_
 refine ops_lit (n := 2) (s := 1) (cs := [(.int .i64 (cmpI y.j x.j)), (.int .i64 (cmpI x.s y.s))]) Try.underlying29 Try.ti3 (Nat.le_of_ble_eq_true rfl) rfl rfl rfl (Nat.le_of_ble_eq_true rfl) rfl (fun b3 => ?_)
 refine ops_nil ⟨[(Arr 66 b1 [(.int .i64 x.s), (.int .i64 x.j), (.int .i64 x.v)]), (Arr 66 b2 [(.int .i64 y.s), (.int .i64 y.j), (.int .i64 y.v)]), (Arr 3 b3 [(.int .i64 (cmpI y.j x.j)), (.int .i64 (cmpI x.s y.s))])], [], (Sub.refl _), perm_nil _, ⟨[(Arr 3 b3 [(.int .i64 (cmpI y.j x.j)), (.int .i64 (cmpI x.s y.s))])], (.refl _)⟩, ?_⟩
 refine rq rfl (qv_call_own (v := (.int .i64 (if cmpI y.j x.j ≠ 0 then cmpI y.j x.j else cmpI x.s y.s))) (k := 2) (b := b3) rfl (fun Vo hVo hbo => Or_c (x := cmpI y.j x.j) (y := cmpI x.s y.s) (ints_cells ⟨_, _, hbo⟩ rfl (Nat.le_refl _) (by show 2 ≤ _; omega))) rfl rfl) ?_
 refine rq rfl (qv_as (.int .i64 (if cmpI y.j x.j ≠ 0 then cmpI y.j x.j else cmpI x.s y.s)) rfl) ?_
 refine rnil ?_
 refine vc_drop [] [(Arr 66 b1 [(.int .i64 x.s), (.int .i64 x.j), (.int .i64 x.v)]), (Arr 66 b2 [(.int .i64 y.s), (.int .i64 y.j), (.int .i64 y.v)]), (Arr 3 b3 [(.int .i64 (cmpI y.j x.j)), (.int .i64 (cmpI x.s y.s))])] (.refl _) ?_
 refine vc_ret ?_
 exact rq1 (.int .i64 (ordF x y)) (congrArg (Value.int .i64) (show (if cmpI y.j x.j ≠ 0 then cmpI y.j x.j else cmpI x.s y.s) = (ordF x y) from by rfl)) rfl

set_option maxRecDepth 100000 in
set_option maxHeartbeats 4000000 in
theorem firsts_c {V : HV} {s : Int} {fid : Nat} {fcaps : List Value} {T b mb : Nat} {κ α : Type} {ek : κ → Value} {vl : α → Value} {Inv Aft : Int → Value → (κ → Option α) → Prop} (h0 : 1 ≤ s) (h1 : s < 64) (hf : ∀ W : HV, Vc.Sub V W → ∀ (g : Int) (u : Value) (F : κ → Option α), 0 ≤ g → andV g (rsv s) = g → Inv g u F → FnC Try.prog fid (.int .i64 (oriV g (lw s)) :: fcaps) W [Arr T b [u], Mf mb ek vl F] (fun v _ σ' => v = .tuple #[] ∧ ∃ u' F', σ' = [Arr T b [u'], Mf mb ek vl F'] ∧ Aft g u' F')) (hn : ∀ (g : Int) (u : Value) (F : κ → Option α), 0 < g → andV g (rsv s) = g → Aft g u F → Inv (andV (g - 1) (rsv s)) u F) {u : Value} {F : κ → Option α} (hI0 : Inv (rsv s) u F) :
    FnC Try.prog 45 [(Value.int .i64 s), (Value.func (.func fid) #[] fcaps.toArray)] V [(Arr T b [u]), (Mf mb ek vl F)] (fun v _ σ' => v = .tuple #[] ∧ ∃ u' F', σ' = [Arr T b [u'], Mf mb ek vl F'] ∧ Aft 0 u' F') := by
 refine fn_intro (N := 26) Try.func45 (by kernel_rfl) rfl rfl rfl (Nat.le_of_ble_eq_true rfl) ?_
 intro w0 D
 have hsub := Vc.Sub.refl V
 have hr := rs_ok h0 h1
 refine vc_seq ?_
 refine vc_res (σ' := [(Arr T b [u]), (Mf mb ek vl F)]) rfl ?_
 refine vc_region ?_
 refine oq (qv_mv (Value.int .i64 s) rfl) ?_
 refine oq (qv_mv (Value.int .i64 s) rfl) ?_
 refine oq (qv_neg rfl (by omega)) ?_
 refine oq (qv_and rfl rfl (b_lw h0 h1)) ?_
 refine oq (qv_as (.int .i64 (lw s)) rfl) ?_
 refine ops_nil ?_
 refine vc_seq ?_
 refine vc_region ?_
 refine oq (qv_mv (Value.int .i64 s) rfl) ?_
 refine oq (qv_mv (.int .i64 (lw s)) rfl) ?_
 refine oq (qv_ani rfl rfl (b_rs h0 h1)) ?_
 refine oq (qv_as (.int .i64 (rsv s)) rfl) ?_
 refine ops_nil ?_
 refine vc_seq ?_
 refine vc_region ?_
 refine oq (qv_mv (.int .i64 (rsv s)) rfl) ?_
 refine oq (qv_as (.int .i64 (rsv s)) rfl) ?_
 refine ops_nil ?_
 refine vc_block ?_
 refine vc_loop (α := Int × Value × (κ → Option α)) (fun (xx : Int × Value × (κ → Option α)) => [(0, (Value.int .i64 s)), (1, (Value.func (.func fid) #[] fcaps.toArray)), (4, (.int .i64 (lw s))), (5, (.int .i64 (rsv s))), (6, (Value.int .i64 xx.1))]) (fun (xx : Int × Value × (κ → Option α)) V' σ' => [(Arr T b [xx.2.1]), (Mf mb ek vl xx.2.2)] = σ' ∧ Vc.Sub V V' ∧ 0 ≤ xx.1 ∧ andV xx.1 (rsv s) = xx.1 ∧ Inv xx.1 xx.2.1 xx.2.2) (fun (xx : Int × Value × (κ → Option α)) => xx.1.toNat) (rsv s, u, F) ?_ ?_ ?_
 · exact ⟨rfl, rfl, rfl, rfl, (congrArg (Value.int .i64) (show (rsv s) = ((rsv s)) from by first | omega | simp)), trivial⟩
 · exact (show [(Arr T b [u]), (Mf mb ek vl F)] = [(Arr T b [u]), (Mf mb ek vl F)] ∧ Vc.Sub V V ∧ 0 ≤ (rsv s : Int) ∧ andV (rsv s : Int) (rsv s) = (rsv s : Int) ∧ Inv (rsv s : Int) u F from ⟨rfl, hsub, hr.1.1, hr.2, hI0⟩)
 rintro ⟨gg, uu, FF⟩ e1 V0l σ0l hI0
 obtain ⟨rfl, hsub, g0, hg, hI⟩ : [(Arr T b [uu]), (Mf mb ek vl FF)] = σ0l ∧ Vc.Sub V V0l ∧ 0 ≤ gg ∧ andV gg (rsv s) = gg ∧ Inv gg uu FF := hI0
 change VC _ _ _ _ _ _ (upds 26 [(0, (Value.int .i64 s)), (1, (Value.func (.func fid) #[] fcaps.toArray)), (4, (.int .i64 (lw s))), (5, (.int .i64 (rsv s))), (6, (Value.int .i64 gg))] e1) _ _
 refine vc_seq ?_
 refine vc_block ?_
 refine vc_seq ?_
 refine vc_res (σ' := [(Arr T b [uu]), (Mf mb ek vl FF)]) rfl ?_
 refine vc_region ?_
 refine oq (qv_mv (Value.func (.func fid) #[] fcaps.toArray) rfl) ?_
 refine oq (qv_mv (Value.int .i64 gg) rfl) ?_
 refine oq (qv_mv (.int .i64 (lw s)) rfl) ?_
 refine oq (qv_ori rfl rfl (b_or h0 h1 g0 hg)) ?_
 refine ops_call (σa := [(Arr T b [uu]), (Mf mb ek vl FF)]) (σr := []) (hf _ hsub gg uu FF g0 hg hI) rfl rfl (.refl _) (fun r1 V1 sg1 hV1 hp1 => ?_)
 obtain ⟨rfl, u1, F1, rfl, hA⟩ := hp1
 have hsub := hsub.mono hV1
 refine ops_nil ?_
 refine vc_seq ?_
 refine vc_res (σ' := [(Arr T b [u1]), (Mf mb ek vl F1)]) rfl ?_
 refine vc_region ?_
 refine oq (qv_mv (Value.int .i64 gg) rfl) ?_
 refine oq (qv_eql rfl rfl) ?_
 refine ops_nil ?_
 refine vc_if rfl (fun c1 => ?_) (fun c1 => ?_)
 ·
  refine vc_ret ?_
  refine blockQ_ret ?_
  refine blockQ_ret ?_
  refine rq0 ?_
  have e : gg = 0 := by assumption
  rw [e] at hA
  exact ⟨rfl, u1, F1, rfl, hA⟩
 ·
  refine vc_skip ?_
  have gq : ¬ gg = 0 := by assumption
  have gp : 0 < gg := by omega
  have nx := fst_nx h0 h1 gp hg
  have gl := g_le h0 h1 g0 hg
  refine vc_region ?_
  refine oq (qv_mv (Value.int .i64 gg) rfl) ?_
  refine oq (qv_sub rfl rfl (by omega)) ?_
  refine oq (qv_mv (.int .i64 (rsv s)) rfl) ?_
  refine oq (qv_and rfl rfl (b_nx h0 h1 gp hg)) ?_
  refine oq (qv_as (.int .i64 (andV (gg - 1) (rsv s))) rfl) ?_
  refine ops_nil ?_
  refine ⟨(andV (gg - 1) (rsv s), u1, F1), ⟨rfl, rfl, rfl, rfl, (congrArg (Value.int .i64) (show (andV (gg - 1) (rsv s)) = ((andV (gg - 1) (rsv s))) from by omega)), trivial⟩, (show [(Arr T b [u1]), (Mf mb ek vl F1)] = [(Arr T b [u1]), (Mf mb ek vl F1)] ∧ Vc.Sub V V1 ∧ 0 ≤ (andV (gg - 1) (rsv s) : Int) ∧ andV (andV (gg - 1) (rsv s) : Int) (rsv s) = (andV (gg - 1) (rsv s) : Int) ∧ Inv (andV (gg - 1) (rsv s) : Int) u1 F1 from ⟨rfl, hsub, nx.1.1, nx.2, hn _ _ _ gp hg hA⟩), show (andV (gg - 1) (rsv s) : Int).toNat < gg.toNat from by omega⟩

end Go.Proofs.Ytmkbjhligjnagaa
