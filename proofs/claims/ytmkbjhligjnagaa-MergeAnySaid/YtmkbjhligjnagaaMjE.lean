/- The comparison of two entries of a table of sets, as the library's sort asks it. -/
import Derived.Shelf.Abstract
import Derived.WalkKit
import Derived.StillTailTactics
import Derived.RangeFuncRecord
import Derived.Shelf.SlSortCmp.WholeK
import Derived.Test.YtmkbjhligjnagaaSh
import Derived.Test.YtmkbjhligjnagaaMhF
import Derived.Test.YtmkbjhligjnagaaTy
namespace Go.Proofs.Ytmkbjhligjnagaa
open Go Go.RowKit Go.Shelf Go.Proofs Go.Lib Go.Sort
set_option maxRecDepth 100000 in
set_option maxHeartbeats 2000000 in
theorem or_calls (b : Nat) (x y : Int) (W : World) (h0 : W.cell? ⟨b, 0, none⟩ = some (.int .i64 x)) (h1 : W.cell? ⟨b, 1, none⟩ = some (.int .i64 y)) :
    Calls Try.prog 60 #[.slice (some ⟨b, 0, none⟩) 2 2] W fun e w' => e = .returned (.int .i64 (if x ≠ 0 then x else y)) ∧ w' = W := by
  obtain ⟨r, hr⟩ : ∃ r, r = if x ≠ 0 then x else y := ⟨_, rfl⟩
  rw [← hr]
  go_enter Try.func60, Try.ntmps60
  go_wp2
  refine wp_loop_rounds 3 ?_
  rw [rounds_succ]
  go_wp2
  · rename_i hx
    go_ret
    simp at hx
    rw [if_pos hx] at hr
    exact ⟨by rw [hr]; rfl, rfl⟩
  · rename_i hx
    simp at hx
    rw [rounds_succ]
    go_wp2
    · go_ret
      rw [if_neg (fun q => q hx)] at hr
      exact ⟨by rw [hr]; rfl, rfl⟩
    · rename_i hy
      simp at hy
      rw [rounds_succ]
      go_wp2
      go_ret
      rw [if_neg (fun q => q hx), hy] at hr
      exact ⟨by rw [hr]; rfl, rfl⟩
theorem al3 (W : World) (oa ob : Obj) (cs : Array Value) (T : TypeId) (i : Nat) : (((W.alloc oa).alloc ob).alloc (.cells cs T)).cell? ⟨W.heap.size + 1 + 1, i, none⟩ = cs[i]? := by
  have h := World.alloc_heap_new ((W.alloc oa).alloc ob) (.cells cs T)
  rw [World.size_alloc, World.size_alloc] at h
  unfold World.cell?
  simp only [h]
  rfl
theorem al3d (W : World) (oa ob : Obj) (cs : Array Value) (T : TypeId) (i : Nat) : (((W.alloc oa).alloc ob).alloc (.cells cs T)).drew.cell? ⟨W.heap.size + 1 + 1, i, none⟩ = cs[i]? := by
  show (((W.alloc oa).alloc ob).alloc (.cells cs T)).cell? ⟨W.heap.size + 1 + 1, i, none⟩ = cs[i]?
  exact al3 _ _ _ _ _ _
set_option maxRecDepth 100000 in
set_option maxHeartbeats 600000 in
theorem order_calls0 (x y : Be) (W : World) (u v r : Int) (hu : ∀ W', Calls Try.prog 61 #[.int .i64 y.j, .int .i64 x.j] W' fun e w' => e = .returned (.int .i64 u) ∧ w' = W') (hv : ∀ W', Calls Try.prog 61 #[.int .i64 x.s, .int .i64 y.s] W' fun e w' => e = .returned (.int .i64 v) ∧ w' = W')
    (ho : ∀ (b : Nat) (W' : World), W'.cell? ⟨b, 0, none⟩ = some (.int .i64 u) → W'.cell? ⟨b, 1, none⟩ = some (.int .i64 v) → Calls Try.prog 60 #[.slice (some ⟨b, 0, none⟩) 2 2] W' fun e w' => e = .returned (.int .i64 r) ∧ w' = W') :
    Calls Try.prog 43 #[.agg #[.int .i64 x.s, .int .i64 x.j, .int .i64 x.v], .agg #[.int .i64 y.s, .int .i64 y.j, .int .i64 y.v]] W fun e w' => e = .returned (.int .i64 r) ∧ ∃ q os', w' = grow (W.drewN q) os' := by
  go_enter Try.func43, Try.ntmps43
  go_wp2
  refine wp_region_still_tail 10 Try.mixed (by kernel_rfl) ?_
  change wpStill _ _ (World.drew _) (fun a' => wpList _ _ _ _ a' (World.drew _)) _ _
  simp only [List.take_succ_cons, List.take_zero, List.drop_succ_cons, List.drop_zero]
  still_step
  still_step
  still_step
  still_step
  still_call hu _
  still_step
  still_step
  still_step
  still_step
  still_call hv _
  refine wpStill_nil ?_
  go_wp2_with (go_at_call 60; refine (ho _ _ ?_ ?_).mono ?_; rotate_left 2; rintro e w' ⟨rfl, rfl⟩)
  · go_ret
    exact ⟨rfl, 1, _, by rw [alloc_eq_grow, alloc_eq_grow, alloc_eq_grow, grow_grow, grow_grow]; rfl⟩
  · exact al3d _ _ _ _ _ 0
  · exact al3d _ _ _ _ _ 1
theorem order_calls (x y : Be) (W : World) : Calls Try.prog 43 #[.agg #[.int .i64 x.s, .int .i64 x.j, .int .i64 x.v], .agg #[.int .i64 y.s, .int .i64 y.j, .int .i64 y.v]] W fun e w' =>
    e = .returned (.int .i64 (if compareInt y.j x.j ≠ 0 then compareInt y.j x.j else compareInt x.s y.s)) ∧ ∃ q os', w' = grow (W.drewN q) os' :=
  order_calls0 x y W _ _ _ (fun W' => Try.cmp_Compare_int _ _ W') (fun W' => Try.cmp_Compare_int _ _ W') fun b W' h0 h1 => or_calls b _ _ W' h0 h1
end Go.Proofs.Ytmkbjhligjnagaa
