/- Walks of numeric: what each function returns. Printed by a program out of notes. -/
import Derived.Test.YtapkilaikcihgaaNk
import Derived.Test.YtapkilaikcihgaaNmX
import Derived.Test.YtapkilaikcihgaaVcX
namespace Go.Proofs.Ytapkilaikcihgaa
open Go.Vc
open Classical

set_option maxRecDepth 100000 in
set_option maxHeartbeats 4000000 in
theorem NumericLeast_n {V : HV} {a b c : Nm} {x hi : Int} :
    FnC Try.prog 10 [(Value.agg #[(Value.int .i64 (a.l)), (Value.int .i64 (a.h)), (Value.int .i64 (a.s)), (Value.int .i64 (b.l)), (Value.int .i64 (b.h)), (Value.int .i64 (b.s)), (Value.int .i64 (c.l)), (Value.int .i64 (c.h)), (Value.int .i64 (c.s))]), (Value.int .i64 x), (Value.int .i64 hi)] V [] (fun v _ _ => v = (Value.bool true)) := by
  refine fn_intro (N := 133) Try.func10 (by kernel_rfl) rfl rfl rfl (Nat.le_of_ble_eq_true rfl) ?_
  intro w0 D
  refine vc_seq ?_
  refine vc_region ?_
  refine ops_box (v := (Value.agg #[(Value.int .i64 (a.l)), (Value.int .i64 (a.h)), (Value.int .i64 (a.s)), (Value.int .i64 (b.l)), (Value.int .i64 (b.h)), (Value.int .i64 (b.s)), (Value.int .i64 (c.l)), (Value.int .i64 (c.h)), (Value.int .i64 (c.s))])) (cs := [(Value.int .i64 (a.l)), (Value.int .i64 (a.h)), (Value.int .i64 (a.s)), (Value.int .i64 (b.l)), (Value.int .i64 (b.h)), (Value.int .i64 (b.s)), (Value.int .i64 (c.l)), (Value.int .i64 (c.h)), (Value.int .i64 (c.s))]) rfl rfl (fun b1 => ?_)
  refine oq (qv_as (Value.bool false) rfl) ?_
  refine ops_nil ?_
  refine vc_seq ?_
  refine vc_seq ?_
  refine vc_res (σ' := [(Arr 64 b1 [(Value.int .i64 (a.l)), (Value.int .i64 (a.h)), (Value.int .i64 (a.s)), (Value.int .i64 (b.l)), (Value.int .i64 (b.h)), (Value.int .i64 (b.s)), (Value.int .i64 (c.l)), (Value.int .i64 (c.h)), (Value.int .i64 (c.s))])]) rfl ?_
  refine vc_region ?_
  refine oq (qv_call (v := (Value.bool true)) (known_c) rfl rfl) ?_
  refine oq (qv_notc rfl) ?_
  refine ops_nil ?_
  refine vc_ff rfl ?_
  refine vc_skip ?_
  refine vc_seq ?_
  refine vc_join (α := Nat × Nat × Nat) (fun xx => [(0, (Value.agg #[(Value.int .i64 (a.l)), (Value.int .i64 (a.h)), (Value.int .i64 (a.s)), (Value.int .i64 (b.l)), (Value.int .i64 (b.h)), (Value.int .i64 (b.s)), (Value.int .i64 (c.l)), (Value.int .i64 (c.h)), (Value.int .i64 (c.s))])), (1, (Value.int .i64 x)), (2, (Value.int .i64 hi)), (3, (Value.pointer (some ⟨b1, 0, none⟩))), (6, (Value.bool false)), (7, (Value.pointer (some ⟨xx.1, 0, none⟩))), (8, (Value.pointer (some ⟨xx.2.1, 0, none⟩))), (9, (Value.pointer (some ⟨xx.2.2, 0, none⟩))), (22, (Value.bool false))]) (fun xx V' σ' => V = V' ∧ [(Arr 64 b1 [(Value.int .i64 (a.l)), (Value.int .i64 (a.h)), (Value.int .i64 (a.s)), (Value.int .i64 (b.l)), (Value.int .i64 (b.h)), (Value.int .i64 (b.s)), (Value.int .i64 (c.l)), (Value.int .i64 (c.h)), (Value.int .i64 (c.s))]), (Arr 23 xx.1 [(Value.int .i64 (a.l)), (Value.int .i64 (a.h)), (Value.int .i64 (a.s))]), (Arr 23 xx.2.1 [(Value.int .i64 (b.l)), (Value.int .i64 (b.h)), (Value.int .i64 (b.s))]), (Arr 23 xx.2.2 [(Value.int .i64 (c.l)), (Value.int .i64 (c.h)), (Value.int .i64 (c.s))])] = σ') ?_ ?_
  ·
    refine vc_region_E (τ := []) (n := 12) [(Arr 64 b1 [(Value.int .i64 (a.l)), (Value.int .i64 (a.h)), (Value.int .i64 (a.s)), (Value.int .i64 (b.l)), (Value.int .i64 (b.h)), (Value.int .i64 (b.s)), (Value.int .i64 (c.l)), (Value.int .i64 (c.h)), (Value.int .i64 (c.s))])] Try.mixed (perm_nil _) rfl ?_
    refine eq_ (i := 0) (by kernel_rfl) rfl (qv_iaa (i := 0) (off := 0) Try.underlying64 Try.size23 rfl rfl (by omega) (by omega) rfl) ?_
    refine eq_ (i := 1) (by kernel_rfl) rfl (qv_ldm (vs := [(Value.int .i64 (a.l)), (Value.int .i64 (a.h)), (Value.int .i64 (a.s))]) Try.agg23 rfl (inOc (k := 0) rfl) rfl rfl) ?_
    refine eq_ (i := 2) (by kernel_rfl) rfl (qv_iaa (i := 1) (off := 0) Try.underlying64 Try.size23 rfl rfl (by omega) (by omega) rfl) ?_
    refine eq_ (i := 3) (by kernel_rfl) rfl (qv_ldm (vs := [(Value.int .i64 (b.l)), (Value.int .i64 (b.h)), (Value.int .i64 (b.s))]) Try.agg23 rfl (inOc (k := 0) rfl) rfl rfl) ?_
    refine eq_ (i := 4) (by kernel_rfl) rfl (qv_iaa (i := 2) (off := 0) Try.underlying64 Try.size23 rfl rfl (by omega) (by omega) rfl) ?_
    refine eq_ (i := 5) (by kernel_rfl) rfl (qv_ldm (vs := [(Value.int .i64 (c.l)), (Value.int .i64 (c.h)), (Value.int .i64 (c.s))]) Try.agg23 rfl (inOc (k := 0) rfl) rfl rfl) ?_
    refine el3 (i := 6) (j := 7) (k := 8) (by kernel_rfl) ?_ ?_ ?_
    ·
      refine ⟨_, rfl, ?_⟩
      refine ops_alloc Try.ti23 rfl (fun b2 => ?_)
      refine ops_nil ⟨[(Arr 64 b1 [(Value.int .i64 (a.l)), (Value.int .i64 (a.h)), (Value.int .i64 (a.s)), (Value.int .i64 (b.l)), (Value.int .i64 (b.h)), (Value.int .i64 (b.s)), (Value.int .i64 (c.l)), (Value.int .i64 (c.h)), (Value.int .i64 (c.s))])], [(Arr 23 b2 [(Value.int .i64 0), (Value.int .i64 0), (Value.int .i64 0)])], (perm_idx _ _ [0, 1] rfl rfl), .inl ⟨(Sub.refl _), [], .refl _⟩, ?_⟩
      refine el2 (i := 7) (j := 8) (by kernel_rfl) ?_ ?_
      ·
        refine ⟨_, rfl, ?_⟩
        refine ops_alloc Try.ti23 rfl (fun b3 => ?_)
        refine ops_nil ⟨[(Arr 64 b1 [(Value.int .i64 (a.l)), (Value.int .i64 (a.h)), (Value.int .i64 (a.s)), (Value.int .i64 (b.l)), (Value.int .i64 (b.h)), (Value.int .i64 (b.s)), (Value.int .i64 (c.l)), (Value.int .i64 (c.h)), (Value.int .i64 (c.s))])], [(Arr 23 b2 [(Value.int .i64 0), (Value.int .i64 0), (Value.int .i64 0)]), (Arr 23 b3 [(Value.int .i64 0), (Value.int .i64 0), (Value.int .i64 0)])], (perm_idx _ _ [0, 1, 2] rfl rfl), .inl ⟨(Sub.refl _), [], .refl _⟩, ?_⟩
        refine el1 (i := 8) (by kernel_rfl) ?_
        refine ⟨_, rfl, ?_⟩
        refine ops_alloc Try.ti23 rfl (fun b4 => ?_)
        refine ops_nil ⟨[(Arr 64 b1 [(Value.int .i64 (a.l)), (Value.int .i64 (a.h)), (Value.int .i64 (a.s)), (Value.int .i64 (b.l)), (Value.int .i64 (b.h)), (Value.int .i64 (b.s)), (Value.int .i64 (c.l)), (Value.int .i64 (c.h)), (Value.int .i64 (c.s))]), (Arr 23 b4 [(Value.int .i64 0), (Value.int .i64 0), (Value.int .i64 0)])], [(Arr 23 b2 [(Value.int .i64 0), (Value.int .i64 0), (Value.int .i64 0)]), (Arr 23 b3 [(Value.int .i64 0), (Value.int .i64 0), (Value.int .i64 0)])], (perm_idx _ _ [0, 3, 1, 2] rfl rfl), .inl ⟨(Sub.refl _), [(Arr 23 b4 [(Value.int .i64 0), (Value.int .i64 0), (Value.int .i64 0)])], .refl _⟩, ?_⟩
        refine el1 (i := 9) (by kernel_rfl) ?_
        refine ⟨_, rfl, ?_⟩
        refine ops_stm (k := 1) (off := 0) (v := (Value.agg #[(Value.int .i64 (a.l)), (Value.int .i64 (a.h)), (Value.int .i64 (a.s))])) (vs := [(Value.int .i64 (a.l)), (Value.int .i64 (a.h)), (Value.int .i64 (a.s))]) (cs := [(Value.int .i64 0), (Value.int .i64 0), (Value.int .i64 0)]) (cs' := [(Value.int .i64 (a.l)), (Value.int .i64 (a.h)), (Value.int .i64 (a.s))]) Try.size23 rfl rfl rfl rfl rfl rfl (Nat.le_of_ble_eq_true rfl) rfl ?_
        refine ops_nil ⟨[(Arr 64 b1 [(Value.int .i64 (a.l)), (Value.int .i64 (a.h)), (Value.int .i64 (a.s)), (Value.int .i64 (b.l)), (Value.int .i64 (b.h)), (Value.int .i64 (b.s)), (Value.int .i64 (c.l)), (Value.int .i64 (c.h)), (Value.int .i64 (c.s))]), (Arr 23 b4 [(Value.int .i64 0), (Value.int .i64 0), (Value.int .i64 0)])], [(Arr 23 b2 [(Value.int .i64 (a.l)), (Value.int .i64 (a.h)), (Value.int .i64 (a.s))]), (Arr 23 b3 [(Value.int .i64 0), (Value.int .i64 0), (Value.int .i64 0)])], (perm_idx _ _ [0, 3, 1, 2] rfl rfl), .inl ⟨(Sub.refl _), [], .refl _⟩, ?_⟩
        refine el1 (i := 10) (by kernel_rfl) ?_
        refine ⟨_, rfl, ?_⟩
        refine ops_stm (k := 2) (off := 0) (v := (Value.agg #[(Value.int .i64 (b.l)), (Value.int .i64 (b.h)), (Value.int .i64 (b.s))])) (vs := [(Value.int .i64 (b.l)), (Value.int .i64 (b.h)), (Value.int .i64 (b.s))]) (cs := [(Value.int .i64 0), (Value.int .i64 0), (Value.int .i64 0)]) (cs' := [(Value.int .i64 (b.l)), (Value.int .i64 (b.h)), (Value.int .i64 (b.s))]) Try.size23 rfl rfl rfl rfl rfl rfl (Nat.le_of_ble_eq_true rfl) rfl ?_
        refine ops_nil ⟨[(Arr 64 b1 [(Value.int .i64 (a.l)), (Value.int .i64 (a.h)), (Value.int .i64 (a.s)), (Value.int .i64 (b.l)), (Value.int .i64 (b.h)), (Value.int .i64 (b.s)), (Value.int .i64 (c.l)), (Value.int .i64 (c.h)), (Value.int .i64 (c.s))]), (Arr 23 b4 [(Value.int .i64 0), (Value.int .i64 0), (Value.int .i64 0)])], [(Arr 23 b2 [(Value.int .i64 (a.l)), (Value.int .i64 (a.h)), (Value.int .i64 (a.s))]), (Arr 23 b3 [(Value.int .i64 (b.l)), (Value.int .i64 (b.h)), (Value.int .i64 (b.s))])], (perm_idx _ _ [0, 3, 1, 2] rfl rfl), .inl ⟨(Sub.refl _), [], .refl _⟩, ?_⟩
        refine el1 (i := 11) (by kernel_rfl) ?_
        refine ⟨_, rfl, ?_⟩
        refine ops_stm (k := 3) (off := 0) (v := (Value.agg #[(Value.int .i64 (c.l)), (Value.int .i64 (c.h)), (Value.int .i64 (c.s))])) (vs := [(Value.int .i64 (c.l)), (Value.int .i64 (c.h)), (Value.int .i64 (c.s))]) (cs := [(Value.int .i64 0), (Value.int .i64 0), (Value.int .i64 0)]) (cs' := [(Value.int .i64 (c.l)), (Value.int .i64 (c.h)), (Value.int .i64 (c.s))]) Try.size23 rfl rfl rfl rfl rfl rfl (Nat.le_of_ble_eq_true rfl) rfl ?_
        refine ops_nil ⟨[(Arr 64 b1 [(Value.int .i64 (a.l)), (Value.int .i64 (a.h)), (Value.int .i64 (a.s)), (Value.int .i64 (b.l)), (Value.int .i64 (b.h)), (Value.int .i64 (b.s)), (Value.int .i64 (c.l)), (Value.int .i64 (c.h)), (Value.int .i64 (c.s))]), (Arr 23 b4 [(Value.int .i64 (c.l)), (Value.int .i64 (c.h)), (Value.int .i64 (c.s))])], [(Arr 23 b2 [(Value.int .i64 (a.l)), (Value.int .i64 (a.h)), (Value.int .i64 (a.s))]), (Arr 23 b3 [(Value.int .i64 (b.l)), (Value.int .i64 (b.h)), (Value.int .i64 (b.s))])], (perm_idx _ _ [0, 3, 1, 2] rfl rfl), .inr (by kernel_rfl), ?_⟩
        refine enil (σ' := [(Arr 64 b1 [(Value.int .i64 (a.l)), (Value.int .i64 (a.h)), (Value.int .i64 (a.s)), (Value.int .i64 (b.l)), (Value.int .i64 (b.h)), (Value.int .i64 (b.s)), (Value.int .i64 (c.l)), (Value.int .i64 (c.h)), (Value.int .i64 (c.s))]), (Arr 23 b2 [(Value.int .i64 (a.l)), (Value.int .i64 (a.h)), (Value.int .i64 (a.s))]), (Arr 23 b3 [(Value.int .i64 (b.l)), (Value.int .i64 (b.h)), (Value.int .i64 (b.s))]), (Arr 23 b4 [(Value.int .i64 (c.l)), (Value.int .i64 (c.h)), (Value.int .i64 (c.s))])]) (by kernel_rfl) (perm_idx _ _ [0, 1, 2, 3] rfl rfl) ⟨(b2, b3, b4), ⟨rfl, rfl, rfl, rfl, rfl, rfl, rfl, rfl, rfl, trivial⟩, rfl, rfl⟩
      ·
        refine ⟨_, rfl, ?_⟩
        refine ops_alloc Try.ti23 rfl (fun b5 => ?_)
        refine ops_nil ⟨[(Arr 64 b1 [(Value.int .i64 (a.l)), (Value.int .i64 (a.h)), (Value.int .i64 (a.s)), (Value.int .i64 (b.l)), (Value.int .i64 (b.h)), (Value.int .i64 (b.s)), (Value.int .i64 (c.l)), (Value.int .i64 (c.h)), (Value.int .i64 (c.s))]), (Arr 23 b5 [(Value.int .i64 0), (Value.int .i64 0), (Value.int .i64 0)])], [(Arr 23 b2 [(Value.int .i64 0), (Value.int .i64 0), (Value.int .i64 0)])], (perm_idx _ _ [0, 2, 1] rfl rfl), .inl ⟨(Sub.refl _), [(Arr 23 b5 [(Value.int .i64 0), (Value.int .i64 0), (Value.int .i64 0)])], .refl _⟩, ?_⟩
        refine el1 (i := 7) (by kernel_rfl) ?_
        refine ⟨_, rfl, ?_⟩
        refine ops_alloc Try.ti23 rfl (fun b6 => ?_)
        refine ops_nil ⟨[(Arr 64 b1 [(Value.int .i64 (a.l)), (Value.int .i64 (a.h)), (Value.int .i64 (a.s)), (Value.int .i64 (b.l)), (Value.int .i64 (b.h)), (Value.int .i64 (b.s)), (Value.int .i64 (c.l)), (Value.int .i64 (c.h)), (Value.int .i64 (c.s))]), (Arr 23 b5 [(Value.int .i64 0), (Value.int .i64 0), (Value.int .i64 0)])], [(Arr 23 b2 [(Value.int .i64 0), (Value.int .i64 0), (Value.int .i64 0)]), (Arr 23 b6 [(Value.int .i64 0), (Value.int .i64 0), (Value.int .i64 0)])], (perm_idx _ _ [0, 2, 1, 3] rfl rfl), .inl ⟨(Sub.refl _), [], .refl _⟩, ?_⟩
        refine el1 (i := 9) (by kernel_rfl) ?_
        refine ⟨_, rfl, ?_⟩
        refine ops_stm (k := 1) (off := 0) (v := (Value.agg #[(Value.int .i64 (a.l)), (Value.int .i64 (a.h)), (Value.int .i64 (a.s))])) (vs := [(Value.int .i64 (a.l)), (Value.int .i64 (a.h)), (Value.int .i64 (a.s))]) (cs := [(Value.int .i64 0), (Value.int .i64 0), (Value.int .i64 0)]) (cs' := [(Value.int .i64 (a.l)), (Value.int .i64 (a.h)), (Value.int .i64 (a.s))]) Try.size23 rfl rfl rfl rfl rfl rfl (Nat.le_of_ble_eq_true rfl) rfl ?_
        refine ops_nil ⟨[(Arr 64 b1 [(Value.int .i64 (a.l)), (Value.int .i64 (a.h)), (Value.int .i64 (a.s)), (Value.int .i64 (b.l)), (Value.int .i64 (b.h)), (Value.int .i64 (b.s)), (Value.int .i64 (c.l)), (Value.int .i64 (c.h)), (Value.int .i64 (c.s))]), (Arr 23 b5 [(Value.int .i64 0), (Value.int .i64 0), (Value.int .i64 0)])], [(Arr 23 b2 [(Value.int .i64 (a.l)), (Value.int .i64 (a.h)), (Value.int .i64 (a.s))]), (Arr 23 b6 [(Value.int .i64 0), (Value.int .i64 0), (Value.int .i64 0)])], (perm_idx _ _ [0, 2, 1, 3] rfl rfl), .inl ⟨(Sub.refl _), [], .refl _⟩, ?_⟩
        refine el1 (i := 10) (by kernel_rfl) ?_
        refine ⟨_, rfl, ?_⟩
        refine ops_stm (k := 3) (off := 0) (v := (Value.agg #[(Value.int .i64 (b.l)), (Value.int .i64 (b.h)), (Value.int .i64 (b.s))])) (vs := [(Value.int .i64 (b.l)), (Value.int .i64 (b.h)), (Value.int .i64 (b.s))]) (cs := [(Value.int .i64 0), (Value.int .i64 0), (Value.int .i64 0)]) (cs' := [(Value.int .i64 (b.l)), (Value.int .i64 (b.h)), (Value.int .i64 (b.s))]) Try.size23 rfl rfl rfl rfl rfl rfl (Nat.le_of_ble_eq_true rfl) rfl ?_
        refine ops_nil ⟨[(Arr 64 b1 [(Value.int .i64 (a.l)), (Value.int .i64 (a.h)), (Value.int .i64 (a.s)), (Value.int .i64 (b.l)), (Value.int .i64 (b.h)), (Value.int .i64 (b.s)), (Value.int .i64 (c.l)), (Value.int .i64 (c.h)), (Value.int .i64 (c.s))]), (Arr 23 b5 [(Value.int .i64 0), (Value.int .i64 0), (Value.int .i64 0)])], [(Arr 23 b2 [(Value.int .i64 (a.l)), (Value.int .i64 (a.h)), (Value.int .i64 (a.s))]), (Arr 23 b6 [(Value.int .i64 (b.l)), (Value.int .i64 (b.h)), (Value.int .i64 (b.s))])], (perm_idx _ _ [0, 2, 1, 3] rfl rfl), .inl ⟨(Sub.refl _), [], .refl _⟩, ?_⟩
        refine el1 (i := 11) (by kernel_rfl) ?_
        refine ⟨_, rfl, ?_⟩
        refine ops_stm (k := 2) (off := 0) (v := (Value.agg #[(Value.int .i64 (c.l)), (Value.int .i64 (c.h)), (Value.int .i64 (c.s))])) (vs := [(Value.int .i64 (c.l)), (Value.int .i64 (c.h)), (Value.int .i64 (c.s))]) (cs := [(Value.int .i64 0), (Value.int .i64 0), (Value.int .i64 0)]) (cs' := [(Value.int .i64 (c.l)), (Value.int .i64 (c.h)), (Value.int .i64 (c.s))]) Try.size23 rfl rfl rfl rfl rfl rfl (Nat.le_of_ble_eq_true rfl) rfl ?_
        refine ops_nil ⟨[(Arr 64 b1 [(Value.int .i64 (a.l)), (Value.int .i64 (a.h)), (Value.int .i64 (a.s)), (Value.int .i64 (b.l)), (Value.int .i64 (b.h)), (Value.int .i64 (b.s)), (Value.int .i64 (c.l)), (Value.int .i64 (c.h)), (Value.int .i64 (c.s))]), (Arr 23 b5 [(Value.int .i64 (c.l)), (Value.int .i64 (c.h)), (Value.int .i64 (c.s))])], [(Arr 23 b2 [(Value.int .i64 (a.l)), (Value.int .i64 (a.h)), (Value.int .i64 (a.s))]), (Arr 23 b6 [(Value.int .i64 (b.l)), (Value.int .i64 (b.h)), (Value.int .i64 (b.s))])], (perm_idx _ _ [0, 2, 1, 3] rfl rfl), .inr (by kernel_rfl), ?_⟩
        refine enil (σ' := [(Arr 64 b1 [(Value.int .i64 (a.l)), (Value.int .i64 (a.h)), (Value.int .i64 (a.s)), (Value.int .i64 (b.l)), (Value.int .i64 (b.h)), (Value.int .i64 (b.s)), (Value.int .i64 (c.l)), (Value.int .i64 (c.h)), (Value.int .i64 (c.s))]), (Arr 23 b2 [(Value.int .i64 (a.l)), (Value.int .i64 (a.h)), (Value.int .i64 (a.s))]), (Arr 23 b6 [(Value.int .i64 (b.l)), (Value.int .i64 (b.h)), (Value.int .i64 (b.s))]), (Arr 23 b5 [(Value.int .i64 (c.l)), (Value.int .i64 (c.h)), (Value.int .i64 (c.s))])]) (by kernel_rfl) (perm_idx _ _ [0, 1, 3, 2] rfl rfl) ⟨(b2, b6, b5), ⟨rfl, rfl, rfl, rfl, rfl, rfl, rfl, rfl, rfl, trivial⟩, rfl, rfl⟩
    ·
      refine ⟨_, rfl, ?_⟩
      refine ops_alloc Try.ti23 rfl (fun b7 => ?_)
      refine ops_nil ⟨[(Arr 64 b1 [(Value.int .i64 (a.l)), (Value.int .i64 (a.h)), (Value.int .i64 (a.s)), (Value.int .i64 (b.l)), (Value.int .i64 (b.h)), (Value.int .i64 (b.s)), (Value.int .i64 (c.l)), (Value.int .i64 (c.h)), (Value.int .i64 (c.s))])], [(Arr 23 b7 [(Value.int .i64 0), (Value.int .i64 0), (Value.int .i64 0)])], (perm_idx _ _ [0, 1] rfl rfl), .inl ⟨(Sub.refl _), [], .refl _⟩, ?_⟩
      refine el2 (i := 6) (j := 8) (by kernel_rfl) ?_ ?_
      ·
        refine ⟨_, rfl, ?_⟩
        refine ops_alloc Try.ti23 rfl (fun b8 => ?_)
        refine ops_nil ⟨[(Arr 64 b1 [(Value.int .i64 (a.l)), (Value.int .i64 (a.h)), (Value.int .i64 (a.s)), (Value.int .i64 (b.l)), (Value.int .i64 (b.h)), (Value.int .i64 (b.s)), (Value.int .i64 (c.l)), (Value.int .i64 (c.h)), (Value.int .i64 (c.s))])], [(Arr 23 b7 [(Value.int .i64 0), (Value.int .i64 0), (Value.int .i64 0)]), (Arr 23 b8 [(Value.int .i64 0), (Value.int .i64 0), (Value.int .i64 0)])], (perm_idx _ _ [0, 1, 2] rfl rfl), .inl ⟨(Sub.refl _), [], .refl _⟩, ?_⟩
        refine el1 (i := 8) (by kernel_rfl) ?_
        refine ⟨_, rfl, ?_⟩
        refine ops_alloc Try.ti23 rfl (fun b9 => ?_)
        refine ops_nil ⟨[(Arr 64 b1 [(Value.int .i64 (a.l)), (Value.int .i64 (a.h)), (Value.int .i64 (a.s)), (Value.int .i64 (b.l)), (Value.int .i64 (b.h)), (Value.int .i64 (b.s)), (Value.int .i64 (c.l)), (Value.int .i64 (c.h)), (Value.int .i64 (c.s))]), (Arr 23 b9 [(Value.int .i64 0), (Value.int .i64 0), (Value.int .i64 0)])], [(Arr 23 b7 [(Value.int .i64 0), (Value.int .i64 0), (Value.int .i64 0)]), (Arr 23 b8 [(Value.int .i64 0), (Value.int .i64 0), (Value.int .i64 0)])], (perm_idx _ _ [0, 3, 1, 2] rfl rfl), .inl ⟨(Sub.refl _), [(Arr 23 b9 [(Value.int .i64 0), (Value.int .i64 0), (Value.int .i64 0)])], .refl _⟩, ?_⟩
        refine el1 (i := 9) (by kernel_rfl) ?_
        refine ⟨_, rfl, ?_⟩
        refine ops_stm (k := 2) (off := 0) (v := (Value.agg #[(Value.int .i64 (a.l)), (Value.int .i64 (a.h)), (Value.int .i64 (a.s))])) (vs := [(Value.int .i64 (a.l)), (Value.int .i64 (a.h)), (Value.int .i64 (a.s))]) (cs := [(Value.int .i64 0), (Value.int .i64 0), (Value.int .i64 0)]) (cs' := [(Value.int .i64 (a.l)), (Value.int .i64 (a.h)), (Value.int .i64 (a.s))]) Try.size23 rfl rfl rfl rfl rfl rfl (Nat.le_of_ble_eq_true rfl) rfl ?_
        refine ops_nil ⟨[(Arr 64 b1 [(Value.int .i64 (a.l)), (Value.int .i64 (a.h)), (Value.int .i64 (a.s)), (Value.int .i64 (b.l)), (Value.int .i64 (b.h)), (Value.int .i64 (b.s)), (Value.int .i64 (c.l)), (Value.int .i64 (c.h)), (Value.int .i64 (c.s))]), (Arr 23 b9 [(Value.int .i64 0), (Value.int .i64 0), (Value.int .i64 0)])], [(Arr 23 b7 [(Value.int .i64 0), (Value.int .i64 0), (Value.int .i64 0)]), (Arr 23 b8 [(Value.int .i64 (a.l)), (Value.int .i64 (a.h)), (Value.int .i64 (a.s))])], (perm_idx _ _ [0, 3, 1, 2] rfl rfl), .inl ⟨(Sub.refl _), [], .refl _⟩, ?_⟩
        refine el1 (i := 10) (by kernel_rfl) ?_
        refine ⟨_, rfl, ?_⟩
        refine ops_stm (k := 1) (off := 0) (v := (Value.agg #[(Value.int .i64 (b.l)), (Value.int .i64 (b.h)), (Value.int .i64 (b.s))])) (vs := [(Value.int .i64 (b.l)), (Value.int .i64 (b.h)), (Value.int .i64 (b.s))]) (cs := [(Value.int .i64 0), (Value.int .i64 0), (Value.int .i64 0)]) (cs' := [(Value.int .i64 (b.l)), (Value.int .i64 (b.h)), (Value.int .i64 (b.s))]) Try.size23 rfl rfl rfl rfl rfl rfl (Nat.le_of_ble_eq_true rfl) rfl ?_
        refine ops_nil ⟨[(Arr 64 b1 [(Value.int .i64 (a.l)), (Value.int .i64 (a.h)), (Value.int .i64 (a.s)), (Value.int .i64 (b.l)), (Value.int .i64 (b.h)), (Value.int .i64 (b.s)), (Value.int .i64 (c.l)), (Value.int .i64 (c.h)), (Value.int .i64 (c.s))]), (Arr 23 b9 [(Value.int .i64 0), (Value.int .i64 0), (Value.int .i64 0)])], [(Arr 23 b7 [(Value.int .i64 (b.l)), (Value.int .i64 (b.h)), (Value.int .i64 (b.s))]), (Arr 23 b8 [(Value.int .i64 (a.l)), (Value.int .i64 (a.h)), (Value.int .i64 (a.s))])], (perm_idx _ _ [0, 3, 1, 2] rfl rfl), .inl ⟨(Sub.refl _), [], .refl _⟩, ?_⟩
        refine el1 (i := 11) (by kernel_rfl) ?_
        refine ⟨_, rfl, ?_⟩
        refine ops_stm (k := 3) (off := 0) (v := (Value.agg #[(Value.int .i64 (c.l)), (Value.int .i64 (c.h)), (Value.int .i64 (c.s))])) (vs := [(Value.int .i64 (c.l)), (Value.int .i64 (c.h)), (Value.int .i64 (c.s))]) (cs := [(Value.int .i64 0), (Value.int .i64 0), (Value.int .i64 0)]) (cs' := [(Value.int .i64 (c.l)), (Value.int .i64 (c.h)), (Value.int .i64 (c.s))]) Try.size23 rfl rfl rfl rfl rfl rfl (Nat.le_of_ble_eq_true rfl) rfl ?_
        refine ops_nil ⟨[(Arr 64 b1 [(Value.int .i64 (a.l)), (Value.int .i64 (a.h)), (Value.int .i64 (a.s)), (Value.int .i64 (b.l)), (Value.int .i64 (b.h)), (Value.int .i64 (b.s)), (Value.int .i64 (c.l)), (Value.int .i64 (c.h)), (Value.int .i64 (c.s))]), (Arr 23 b9 [(Value.int .i64 (c.l)), (Value.int .i64 (c.h)), (Value.int .i64 (c.s))])], [(Arr 23 b7 [(Value.int .i64 (b.l)), (Value.int .i64 (b.h)), (Value.int .i64 (b.s))]), (Arr 23 b8 [(Value.int .i64 (a.l)), (Value.int .i64 (a.h)), (Value.int .i64 (a.s))])], (perm_idx _ _ [0, 3, 1, 2] rfl rfl), .inr (by kernel_rfl), ?_⟩
        refine enil (σ' := [(Arr 64 b1 [(Value.int .i64 (a.l)), (Value.int .i64 (a.h)), (Value.int .i64 (a.s)), (Value.int .i64 (b.l)), (Value.int .i64 (b.h)), (Value.int .i64 (b.s)), (Value.int .i64 (c.l)), (Value.int .i64 (c.h)), (Value.int .i64 (c.s))]), (Arr 23 b8 [(Value.int .i64 (a.l)), (Value.int .i64 (a.h)), (Value.int .i64 (a.s))]), (Arr 23 b7 [(Value.int .i64 (b.l)), (Value.int .i64 (b.h)), (Value.int .i64 (b.s))]), (Arr 23 b9 [(Value.int .i64 (c.l)), (Value.int .i64 (c.h)), (Value.int .i64 (c.s))])]) (by kernel_rfl) (perm_idx _ _ [0, 2, 1, 3] rfl rfl) ⟨(b8, b7, b9), ⟨rfl, rfl, rfl, rfl, rfl, rfl, rfl, rfl, rfl, trivial⟩, rfl, rfl⟩
      ·
        refine ⟨_, rfl, ?_⟩
        refine ops_alloc Try.ti23 rfl (fun b10 => ?_)
        refine ops_nil ⟨[(Arr 64 b1 [(Value.int .i64 (a.l)), (Value.int .i64 (a.h)), (Value.int .i64 (a.s)), (Value.int .i64 (b.l)), (Value.int .i64 (b.h)), (Value.int .i64 (b.s)), (Value.int .i64 (c.l)), (Value.int .i64 (c.h)), (Value.int .i64 (c.s))]), (Arr 23 b10 [(Value.int .i64 0), (Value.int .i64 0), (Value.int .i64 0)])], [(Arr 23 b7 [(Value.int .i64 0), (Value.int .i64 0), (Value.int .i64 0)])], (perm_idx _ _ [0, 2, 1] rfl rfl), .inl ⟨(Sub.refl _), [(Arr 23 b10 [(Value.int .i64 0), (Value.int .i64 0), (Value.int .i64 0)])], .refl _⟩, ?_⟩
        refine el1 (i := 6) (by kernel_rfl) ?_
        refine ⟨_, rfl, ?_⟩
        refine ops_alloc Try.ti23 rfl (fun b11 => ?_)
        refine ops_nil ⟨[(Arr 64 b1 [(Value.int .i64 (a.l)), (Value.int .i64 (a.h)), (Value.int .i64 (a.s)), (Value.int .i64 (b.l)), (Value.int .i64 (b.h)), (Value.int .i64 (b.s)), (Value.int .i64 (c.l)), (Value.int .i64 (c.h)), (Value.int .i64 (c.s))]), (Arr 23 b10 [(Value.int .i64 0), (Value.int .i64 0), (Value.int .i64 0)])], [(Arr 23 b7 [(Value.int .i64 0), (Value.int .i64 0), (Value.int .i64 0)]), (Arr 23 b11 [(Value.int .i64 0), (Value.int .i64 0), (Value.int .i64 0)])], (perm_idx _ _ [0, 2, 1, 3] rfl rfl), .inl ⟨(Sub.refl _), [], .refl _⟩, ?_⟩
        refine el1 (i := 9) (by kernel_rfl) ?_
        refine ⟨_, rfl, ?_⟩
        refine ops_stm (k := 3) (off := 0) (v := (Value.agg #[(Value.int .i64 (a.l)), (Value.int .i64 (a.h)), (Value.int .i64 (a.s))])) (vs := [(Value.int .i64 (a.l)), (Value.int .i64 (a.h)), (Value.int .i64 (a.s))]) (cs := [(Value.int .i64 0), (Value.int .i64 0), (Value.int .i64 0)]) (cs' := [(Value.int .i64 (a.l)), (Value.int .i64 (a.h)), (Value.int .i64 (a.s))]) Try.size23 rfl rfl rfl rfl rfl rfl (Nat.le_of_ble_eq_true rfl) rfl ?_
        refine ops_nil ⟨[(Arr 64 b1 [(Value.int .i64 (a.l)), (Value.int .i64 (a.h)), (Value.int .i64 (a.s)), (Value.int .i64 (b.l)), (Value.int .i64 (b.h)), (Value.int .i64 (b.s)), (Value.int .i64 (c.l)), (Value.int .i64 (c.h)), (Value.int .i64 (c.s))]), (Arr 23 b10 [(Value.int .i64 0), (Value.int .i64 0), (Value.int .i64 0)])], [(Arr 23 b7 [(Value.int .i64 0), (Value.int .i64 0), (Value.int .i64 0)]), (Arr 23 b11 [(Value.int .i64 (a.l)), (Value.int .i64 (a.h)), (Value.int .i64 (a.s))])], (perm_idx _ _ [0, 2, 1, 3] rfl rfl), .inl ⟨(Sub.refl _), [], .refl _⟩, ?_⟩
        refine el1 (i := 10) (by kernel_rfl) ?_
        refine ⟨_, rfl, ?_⟩
        refine ops_stm (k := 1) (off := 0) (v := (Value.agg #[(Value.int .i64 (b.l)), (Value.int .i64 (b.h)), (Value.int .i64 (b.s))])) (vs := [(Value.int .i64 (b.l)), (Value.int .i64 (b.h)), (Value.int .i64 (b.s))]) (cs := [(Value.int .i64 0), (Value.int .i64 0), (Value.int .i64 0)]) (cs' := [(Value.int .i64 (b.l)), (Value.int .i64 (b.h)), (Value.int .i64 (b.s))]) Try.size23 rfl rfl rfl rfl rfl rfl (Nat.le_of_ble_eq_true rfl) rfl ?_
        refine ops_nil ⟨[(Arr 64 b1 [(Value.int .i64 (a.l)), (Value.int .i64 (a.h)), (Value.int .i64 (a.s)), (Value.int .i64 (b.l)), (Value.int .i64 (b.h)), (Value.int .i64 (b.s)), (Value.int .i64 (c.l)), (Value.int .i64 (c.h)), (Value.int .i64 (c.s))]), (Arr 23 b10 [(Value.int .i64 0), (Value.int .i64 0), (Value.int .i64 0)])], [(Arr 23 b7 [(Value.int .i64 (b.l)), (Value.int .i64 (b.h)), (Value.int .i64 (b.s))]), (Arr 23 b11 [(Value.int .i64 (a.l)), (Value.int .i64 (a.h)), (Value.int .i64 (a.s))])], (perm_idx _ _ [0, 2, 1, 3] rfl rfl), .inl ⟨(Sub.refl _), [], .refl _⟩, ?_⟩
        refine el1 (i := 11) (by kernel_rfl) ?_
        refine ⟨_, rfl, ?_⟩
        refine ops_stm (k := 2) (off := 0) (v := (Value.agg #[(Value.int .i64 (c.l)), (Value.int .i64 (c.h)), (Value.int .i64 (c.s))])) (vs := [(Value.int .i64 (c.l)), (Value.int .i64 (c.h)), (Value.int .i64 (c.s))]) (cs := [(Value.int .i64 0), (Value.int .i64 0), (Value.int .i64 0)]) (cs' := [(Value.int .i64 (c.l)), (Value.int .i64 (c.h)), (Value.int .i64 (c.s))]) Try.size23 rfl rfl rfl rfl rfl rfl (Nat.le_of_ble_eq_true rfl) rfl ?_
        refine ops_nil ⟨[(Arr 64 b1 [(Value.int .i64 (a.l)), (Value.int .i64 (a.h)), (Value.int .i64 (a.s)), (Value.int .i64 (b.l)), (Value.int .i64 (b.h)), (Value.int .i64 (b.s)), (Value.int .i64 (c.l)), (Value.int .i64 (c.h)), (Value.int .i64 (c.s))]), (Arr 23 b10 [(Value.int .i64 (c.l)), (Value.int .i64 (c.h)), (Value.int .i64 (c.s))])], [(Arr 23 b7 [(Value.int .i64 (b.l)), (Value.int .i64 (b.h)), (Value.int .i64 (b.s))]), (Arr 23 b11 [(Value.int .i64 (a.l)), (Value.int .i64 (a.h)), (Value.int .i64 (a.s))])], (perm_idx _ _ [0, 2, 1, 3] rfl rfl), .inr (by kernel_rfl), ?_⟩
        refine enil (σ' := [(Arr 64 b1 [(Value.int .i64 (a.l)), (Value.int .i64 (a.h)), (Value.int .i64 (a.s)), (Value.int .i64 (b.l)), (Value.int .i64 (b.h)), (Value.int .i64 (b.s)), (Value.int .i64 (c.l)), (Value.int .i64 (c.h)), (Value.int .i64 (c.s))]), (Arr 23 b11 [(Value.int .i64 (a.l)), (Value.int .i64 (a.h)), (Value.int .i64 (a.s))]), (Arr 23 b7 [(Value.int .i64 (b.l)), (Value.int .i64 (b.h)), (Value.int .i64 (b.s))]), (Arr 23 b10 [(Value.int .i64 (c.l)), (Value.int .i64 (c.h)), (Value.int .i64 (c.s))])]) (by kernel_rfl) (perm_idx _ _ [0, 3, 1, 2] rfl rfl) ⟨(b11, b7, b10), ⟨rfl, rfl, rfl, rfl, rfl, rfl, rfl, rfl, rfl, trivial⟩, rfl, rfl⟩
    ·
      refine ⟨_, rfl, ?_⟩
      refine ops_alloc Try.ti23 rfl (fun b12 => ?_)
      refine ops_nil ⟨[(Arr 64 b1 [(Value.int .i64 (a.l)), (Value.int .i64 (a.h)), (Value.int .i64 (a.s)), (Value.int .i64 (b.l)), (Value.int .i64 (b.h)), (Value.int .i64 (b.s)), (Value.int .i64 (c.l)), (Value.int .i64 (c.h)), (Value.int .i64 (c.s))]), (Arr 23 b12 [(Value.int .i64 0), (Value.int .i64 0), (Value.int .i64 0)])], [], (perm_nil _), .inl ⟨(Sub.refl _), [(Arr 23 b12 [(Value.int .i64 0), (Value.int .i64 0), (Value.int .i64 0)])], .refl _⟩, ?_⟩
      refine el2 (i := 6) (j := 7) (by kernel_rfl) ?_ ?_
      ·
        refine ⟨_, rfl, ?_⟩
        refine ops_alloc Try.ti23 rfl (fun b13 => ?_)
        refine ops_nil ⟨[(Arr 64 b1 [(Value.int .i64 (a.l)), (Value.int .i64 (a.h)), (Value.int .i64 (a.s)), (Value.int .i64 (b.l)), (Value.int .i64 (b.h)), (Value.int .i64 (b.s)), (Value.int .i64 (c.l)), (Value.int .i64 (c.h)), (Value.int .i64 (c.s))]), (Arr 23 b12 [(Value.int .i64 0), (Value.int .i64 0), (Value.int .i64 0)])], [(Arr 23 b13 [(Value.int .i64 0), (Value.int .i64 0), (Value.int .i64 0)])], (perm_idx _ _ [0, 1, 2] rfl rfl), .inl ⟨(Sub.refl _), [], .refl _⟩, ?_⟩
        refine el1 (i := 7) (by kernel_rfl) ?_
        refine ⟨_, rfl, ?_⟩
        refine ops_alloc Try.ti23 rfl (fun b14 => ?_)
        refine ops_nil ⟨[(Arr 64 b1 [(Value.int .i64 (a.l)), (Value.int .i64 (a.h)), (Value.int .i64 (a.s)), (Value.int .i64 (b.l)), (Value.int .i64 (b.h)), (Value.int .i64 (b.s)), (Value.int .i64 (c.l)), (Value.int .i64 (c.h)), (Value.int .i64 (c.s))]), (Arr 23 b12 [(Value.int .i64 0), (Value.int .i64 0), (Value.int .i64 0)])], [(Arr 23 b13 [(Value.int .i64 0), (Value.int .i64 0), (Value.int .i64 0)]), (Arr 23 b14 [(Value.int .i64 0), (Value.int .i64 0), (Value.int .i64 0)])], (perm_idx _ _ [0, 1, 2, 3] rfl rfl), .inl ⟨(Sub.refl _), [], .refl _⟩, ?_⟩
        refine el1 (i := 9) (by kernel_rfl) ?_
        refine ⟨_, rfl, ?_⟩
        refine ops_stm (k := 2) (off := 0) (v := (Value.agg #[(Value.int .i64 (a.l)), (Value.int .i64 (a.h)), (Value.int .i64 (a.s))])) (vs := [(Value.int .i64 (a.l)), (Value.int .i64 (a.h)), (Value.int .i64 (a.s))]) (cs := [(Value.int .i64 0), (Value.int .i64 0), (Value.int .i64 0)]) (cs' := [(Value.int .i64 (a.l)), (Value.int .i64 (a.h)), (Value.int .i64 (a.s))]) Try.size23 rfl rfl rfl rfl rfl rfl (Nat.le_of_ble_eq_true rfl) rfl ?_
        refine ops_nil ⟨[(Arr 64 b1 [(Value.int .i64 (a.l)), (Value.int .i64 (a.h)), (Value.int .i64 (a.s)), (Value.int .i64 (b.l)), (Value.int .i64 (b.h)), (Value.int .i64 (b.s)), (Value.int .i64 (c.l)), (Value.int .i64 (c.h)), (Value.int .i64 (c.s))]), (Arr 23 b12 [(Value.int .i64 0), (Value.int .i64 0), (Value.int .i64 0)])], [(Arr 23 b13 [(Value.int .i64 (a.l)), (Value.int .i64 (a.h)), (Value.int .i64 (a.s))]), (Arr 23 b14 [(Value.int .i64 0), (Value.int .i64 0), (Value.int .i64 0)])], (perm_idx _ _ [0, 1, 2, 3] rfl rfl), .inl ⟨(Sub.refl _), [], .refl _⟩, ?_⟩
        refine el1 (i := 10) (by kernel_rfl) ?_
        refine ⟨_, rfl, ?_⟩
        refine ops_stm (k := 3) (off := 0) (v := (Value.agg #[(Value.int .i64 (b.l)), (Value.int .i64 (b.h)), (Value.int .i64 (b.s))])) (vs := [(Value.int .i64 (b.l)), (Value.int .i64 (b.h)), (Value.int .i64 (b.s))]) (cs := [(Value.int .i64 0), (Value.int .i64 0), (Value.int .i64 0)]) (cs' := [(Value.int .i64 (b.l)), (Value.int .i64 (b.h)), (Value.int .i64 (b.s))]) Try.size23 rfl rfl rfl rfl rfl rfl (Nat.le_of_ble_eq_true rfl) rfl ?_
        refine ops_nil ⟨[(Arr 64 b1 [(Value.int .i64 (a.l)), (Value.int .i64 (a.h)), (Value.int .i64 (a.s)), (Value.int .i64 (b.l)), (Value.int .i64 (b.h)), (Value.int .i64 (b.s)), (Value.int .i64 (c.l)), (Value.int .i64 (c.h)), (Value.int .i64 (c.s))]), (Arr 23 b12 [(Value.int .i64 0), (Value.int .i64 0), (Value.int .i64 0)])], [(Arr 23 b13 [(Value.int .i64 (a.l)), (Value.int .i64 (a.h)), (Value.int .i64 (a.s))]), (Arr 23 b14 [(Value.int .i64 (b.l)), (Value.int .i64 (b.h)), (Value.int .i64 (b.s))])], (perm_idx _ _ [0, 1, 2, 3] rfl rfl), .inl ⟨(Sub.refl _), [], .refl _⟩, ?_⟩
        refine el1 (i := 11) (by kernel_rfl) ?_
        refine ⟨_, rfl, ?_⟩
        refine ops_stm (k := 1) (off := 0) (v := (Value.agg #[(Value.int .i64 (c.l)), (Value.int .i64 (c.h)), (Value.int .i64 (c.s))])) (vs := [(Value.int .i64 (c.l)), (Value.int .i64 (c.h)), (Value.int .i64 (c.s))]) (cs := [(Value.int .i64 0), (Value.int .i64 0), (Value.int .i64 0)]) (cs' := [(Value.int .i64 (c.l)), (Value.int .i64 (c.h)), (Value.int .i64 (c.s))]) Try.size23 rfl rfl rfl rfl rfl rfl (Nat.le_of_ble_eq_true rfl) rfl ?_
        refine ops_nil ⟨[(Arr 64 b1 [(Value.int .i64 (a.l)), (Value.int .i64 (a.h)), (Value.int .i64 (a.s)), (Value.int .i64 (b.l)), (Value.int .i64 (b.h)), (Value.int .i64 (b.s)), (Value.int .i64 (c.l)), (Value.int .i64 (c.h)), (Value.int .i64 (c.s))]), (Arr 23 b12 [(Value.int .i64 (c.l)), (Value.int .i64 (c.h)), (Value.int .i64 (c.s))])], [(Arr 23 b13 [(Value.int .i64 (a.l)), (Value.int .i64 (a.h)), (Value.int .i64 (a.s))]), (Arr 23 b14 [(Value.int .i64 (b.l)), (Value.int .i64 (b.h)), (Value.int .i64 (b.s))])], (perm_idx _ _ [0, 1, 2, 3] rfl rfl), .inr (by kernel_rfl), ?_⟩
        refine enil (σ' := [(Arr 64 b1 [(Value.int .i64 (a.l)), (Value.int .i64 (a.h)), (Value.int .i64 (a.s)), (Value.int .i64 (b.l)), (Value.int .i64 (b.h)), (Value.int .i64 (b.s)), (Value.int .i64 (c.l)), (Value.int .i64 (c.h)), (Value.int .i64 (c.s))]), (Arr 23 b13 [(Value.int .i64 (a.l)), (Value.int .i64 (a.h)), (Value.int .i64 (a.s))]), (Arr 23 b14 [(Value.int .i64 (b.l)), (Value.int .i64 (b.h)), (Value.int .i64 (b.s))]), (Arr 23 b12 [(Value.int .i64 (c.l)), (Value.int .i64 (c.h)), (Value.int .i64 (c.s))])]) (by kernel_rfl) (perm_idx _ _ [0, 2, 3, 1] rfl rfl) ⟨(b13, b14, b12), ⟨rfl, rfl, rfl, rfl, rfl, rfl, rfl, rfl, rfl, trivial⟩, rfl, rfl⟩
      ·
        refine ⟨_, rfl, ?_⟩
        refine ops_alloc Try.ti23 rfl (fun b15 => ?_)
        refine ops_nil ⟨[(Arr 64 b1 [(Value.int .i64 (a.l)), (Value.int .i64 (a.h)), (Value.int .i64 (a.s)), (Value.int .i64 (b.l)), (Value.int .i64 (b.h)), (Value.int .i64 (b.s)), (Value.int .i64 (c.l)), (Value.int .i64 (c.h)), (Value.int .i64 (c.s))]), (Arr 23 b12 [(Value.int .i64 0), (Value.int .i64 0), (Value.int .i64 0)])], [(Arr 23 b15 [(Value.int .i64 0), (Value.int .i64 0), (Value.int .i64 0)])], (perm_idx _ _ [0, 1, 2] rfl rfl), .inl ⟨(Sub.refl _), [], .refl _⟩, ?_⟩
        refine el1 (i := 6) (by kernel_rfl) ?_
        refine ⟨_, rfl, ?_⟩
        refine ops_alloc Try.ti23 rfl (fun b16 => ?_)
        refine ops_nil ⟨[(Arr 64 b1 [(Value.int .i64 (a.l)), (Value.int .i64 (a.h)), (Value.int .i64 (a.s)), (Value.int .i64 (b.l)), (Value.int .i64 (b.h)), (Value.int .i64 (b.s)), (Value.int .i64 (c.l)), (Value.int .i64 (c.h)), (Value.int .i64 (c.s))]), (Arr 23 b12 [(Value.int .i64 0), (Value.int .i64 0), (Value.int .i64 0)])], [(Arr 23 b15 [(Value.int .i64 0), (Value.int .i64 0), (Value.int .i64 0)]), (Arr 23 b16 [(Value.int .i64 0), (Value.int .i64 0), (Value.int .i64 0)])], (perm_idx _ _ [0, 1, 2, 3] rfl rfl), .inl ⟨(Sub.refl _), [], .refl _⟩, ?_⟩
        refine el1 (i := 9) (by kernel_rfl) ?_
        refine ⟨_, rfl, ?_⟩
        refine ops_stm (k := 3) (off := 0) (v := (Value.agg #[(Value.int .i64 (a.l)), (Value.int .i64 (a.h)), (Value.int .i64 (a.s))])) (vs := [(Value.int .i64 (a.l)), (Value.int .i64 (a.h)), (Value.int .i64 (a.s))]) (cs := [(Value.int .i64 0), (Value.int .i64 0), (Value.int .i64 0)]) (cs' := [(Value.int .i64 (a.l)), (Value.int .i64 (a.h)), (Value.int .i64 (a.s))]) Try.size23 rfl rfl rfl rfl rfl rfl (Nat.le_of_ble_eq_true rfl) rfl ?_
        refine ops_nil ⟨[(Arr 64 b1 [(Value.int .i64 (a.l)), (Value.int .i64 (a.h)), (Value.int .i64 (a.s)), (Value.int .i64 (b.l)), (Value.int .i64 (b.h)), (Value.int .i64 (b.s)), (Value.int .i64 (c.l)), (Value.int .i64 (c.h)), (Value.int .i64 (c.s))]), (Arr 23 b12 [(Value.int .i64 0), (Value.int .i64 0), (Value.int .i64 0)])], [(Arr 23 b15 [(Value.int .i64 0), (Value.int .i64 0), (Value.int .i64 0)]), (Arr 23 b16 [(Value.int .i64 (a.l)), (Value.int .i64 (a.h)), (Value.int .i64 (a.s))])], (perm_idx _ _ [0, 1, 2, 3] rfl rfl), .inl ⟨(Sub.refl _), [], .refl _⟩, ?_⟩
        refine el1 (i := 10) (by kernel_rfl) ?_
        refine ⟨_, rfl, ?_⟩
        refine ops_stm (k := 2) (off := 0) (v := (Value.agg #[(Value.int .i64 (b.l)), (Value.int .i64 (b.h)), (Value.int .i64 (b.s))])) (vs := [(Value.int .i64 (b.l)), (Value.int .i64 (b.h)), (Value.int .i64 (b.s))]) (cs := [(Value.int .i64 0), (Value.int .i64 0), (Value.int .i64 0)]) (cs' := [(Value.int .i64 (b.l)), (Value.int .i64 (b.h)), (Value.int .i64 (b.s))]) Try.size23 rfl rfl rfl rfl rfl rfl (Nat.le_of_ble_eq_true rfl) rfl ?_
        refine ops_nil ⟨[(Arr 64 b1 [(Value.int .i64 (a.l)), (Value.int .i64 (a.h)), (Value.int .i64 (a.s)), (Value.int .i64 (b.l)), (Value.int .i64 (b.h)), (Value.int .i64 (b.s)), (Value.int .i64 (c.l)), (Value.int .i64 (c.h)), (Value.int .i64 (c.s))]), (Arr 23 b12 [(Value.int .i64 0), (Value.int .i64 0), (Value.int .i64 0)])], [(Arr 23 b15 [(Value.int .i64 (b.l)), (Value.int .i64 (b.h)), (Value.int .i64 (b.s))]), (Arr 23 b16 [(Value.int .i64 (a.l)), (Value.int .i64 (a.h)), (Value.int .i64 (a.s))])], (perm_idx _ _ [0, 1, 2, 3] rfl rfl), .inl ⟨(Sub.refl _), [], .refl _⟩, ?_⟩
        refine el1 (i := 11) (by kernel_rfl) ?_
        refine ⟨_, rfl, ?_⟩
        refine ops_stm (k := 1) (off := 0) (v := (Value.agg #[(Value.int .i64 (c.l)), (Value.int .i64 (c.h)), (Value.int .i64 (c.s))])) (vs := [(Value.int .i64 (c.l)), (Value.int .i64 (c.h)), (Value.int .i64 (c.s))]) (cs := [(Value.int .i64 0), (Value.int .i64 0), (Value.int .i64 0)]) (cs' := [(Value.int .i64 (c.l)), (Value.int .i64 (c.h)), (Value.int .i64 (c.s))]) Try.size23 rfl rfl rfl rfl rfl rfl (Nat.le_of_ble_eq_true rfl) rfl ?_
        refine ops_nil ⟨[(Arr 64 b1 [(Value.int .i64 (a.l)), (Value.int .i64 (a.h)), (Value.int .i64 (a.s)), (Value.int .i64 (b.l)), (Value.int .i64 (b.h)), (Value.int .i64 (b.s)), (Value.int .i64 (c.l)), (Value.int .i64 (c.h)), (Value.int .i64 (c.s))]), (Arr 23 b12 [(Value.int .i64 (c.l)), (Value.int .i64 (c.h)), (Value.int .i64 (c.s))])], [(Arr 23 b15 [(Value.int .i64 (b.l)), (Value.int .i64 (b.h)), (Value.int .i64 (b.s))]), (Arr 23 b16 [(Value.int .i64 (a.l)), (Value.int .i64 (a.h)), (Value.int .i64 (a.s))])], (perm_idx _ _ [0, 1, 2, 3] rfl rfl), .inr (by kernel_rfl), ?_⟩
        refine enil (σ' := [(Arr 64 b1 [(Value.int .i64 (a.l)), (Value.int .i64 (a.h)), (Value.int .i64 (a.s)), (Value.int .i64 (b.l)), (Value.int .i64 (b.h)), (Value.int .i64 (b.s)), (Value.int .i64 (c.l)), (Value.int .i64 (c.h)), (Value.int .i64 (c.s))]), (Arr 23 b16 [(Value.int .i64 (a.l)), (Value.int .i64 (a.h)), (Value.int .i64 (a.s))]), (Arr 23 b15 [(Value.int .i64 (b.l)), (Value.int .i64 (b.h)), (Value.int .i64 (b.s))]), (Arr 23 b12 [(Value.int .i64 (c.l)), (Value.int .i64 (c.h)), (Value.int .i64 (c.s))])]) (by kernel_rfl) (perm_idx _ _ [0, 3, 2, 1] rfl rfl) ⟨(b16, b15, b12), ⟨rfl, rfl, rfl, rfl, rfl, rfl, rfl, rfl, rfl, trivial⟩, rfl, rfl⟩
  rintro ⟨z7, z8, z9⟩ e1 Vj1 σj1 hJ1
  obtain ⟨rfl, rfl⟩ : V = Vj1 ∧ [(Arr 64 b1 [(Value.int .i64 (a.l)), (Value.int .i64 (a.h)), (Value.int .i64 (a.s)), (Value.int .i64 (b.l)), (Value.int .i64 (b.h)), (Value.int .i64 (b.s)), (Value.int .i64 (c.l)), (Value.int .i64 (c.h)), (Value.int .i64 (c.s))]), (Arr 23 z7 [(Value.int .i64 (a.l)), (Value.int .i64 (a.h)), (Value.int .i64 (a.s))]), (Arr 23 z8 [(Value.int .i64 (b.l)), (Value.int .i64 (b.h)), (Value.int .i64 (b.s))]), (Arr 23 z9 [(Value.int .i64 (c.l)), (Value.int .i64 (c.h)), (Value.int .i64 (c.s))])] = σj1 := hJ1
  change VC _ _ _ _ _ _ (upds 133 [(0, (Value.agg #[(Value.int .i64 (a.l)), (Value.int .i64 (a.h)), (Value.int .i64 (a.s)), (Value.int .i64 (b.l)), (Value.int .i64 (b.h)), (Value.int .i64 (b.s)), (Value.int .i64 (c.l)), (Value.int .i64 (c.h)), (Value.int .i64 (c.s))])), (1, (Value.int .i64 x)), (2, (Value.int .i64 hi)), (3, (Value.pointer (some ⟨b1, 0, none⟩))), (6, (Value.bool false)), (7, (Value.pointer (some ⟨z7, 0, none⟩))), (8, (Value.pointer (some ⟨z8, 0, none⟩))), (9, (Value.pointer (some ⟨z9, 0, none⟩))), (22, (Value.bool false))] e1) _ _
  refine vc_seq ?_
  refine vc_seq ?_
  refine vc_region ?_
  refine oq (qv_ldm (vs := [(Value.int .i64 (a.l)), (Value.int .i64 (a.h)), (Value.int .i64 (a.s))]) Try.agg23 rfl (inOc (k := 1) rfl) rfl rfl) ?_
  refine oq (qv_call (v := (Value.bool (decide (vld a)))) (rValid_c (a := a)) rfl rfl) ?_
  refine oq (qv_not rfl) ?_
  refine oq (qv_mv (Value.bool (decide (¬ (vld a)))) rfl) ?_
  by_cases g1 : ¬ (vld a)
  ·
    refine os (want_fn g1 rfl rfl rfl) ?_
    refine os (want_fn g1 rfl rfl rfl) ?_
    refine os (want_fn g1 rfl rfl rfl) ?_
    refine oq (qv_pick_t g1 rfl (rfl : ev _ _ = (Value.bool true))) ?_
    refine ops_nil ?_
    refine vc_tt rfl ?_
    refine vc_seq ?_
    refine vc_region ?_
    refine oq (qv_as (Value.bool true) rfl) ?_
    refine ops_nil ?_
    refine vc_ret ?_
    exact rq1 (Value.bool true) rfl rfl
  ·
    refine og (qv_ldm (vs := [(Value.int .i64 (b.l)), (Value.int .i64 (b.h)), (Value.int .i64 (b.s))]) Try.agg23 rfl (inOc (k := 2) rfl) rfl rfl) (want_f g1 rfl rfl rfl) ?_
    refine og (qv_call (v := (Value.bool (decide (vld b)))) (rValid_c (a := b)) rfl rfl) (want_f g1 rfl rfl rfl) ?_
    refine og (qv_not rfl) (want_f g1 rfl rfl rfl) ?_
    refine oq (qv_pick_f g1 rfl (rfl : ev _ _ = (Value.bool (decide (¬ (vld b)))))) ?_
    refine ops_nil ?_
    refine vc_if rfl (fun c1 => ?_) (fun c1 => ?_)
    ·
      refine vc_seq ?_
      refine vc_region ?_
      refine oq (qv_as (Value.bool true) rfl) ?_
      refine ops_nil ?_
      refine vc_ret ?_
      exact rq1 (Value.bool true) rfl rfl
    ·
      refine vc_skip ?_
      refine vc_seq ?_
      have hj : jOk a b := ⟨Decidable.not_not.1 (by assumption), Decidable.not_not.1 (by assumption)⟩
      have ha := hj.1
      have hb := hj.2
      have j0 := jE_1 hj
      have j1 := jN_1 hj
      obtain ⟨j2, j3, j4, j5⟩ := join_sub ha hb
      rw [← j1] at j2 j3 j4 j5
      have d1 : vld a ∧ vld (jN a b) ∧ sub a (jN a b) := ⟨ha, j2, j3⟩
      have d2 : vld b ∧ vld (jN a b) ∧ sub b (jN a b) := ⟨hb, j2, j4⟩
      refine vc_region ?_
      refine oq (qv_ldm (vs := [(Value.int .i64 (a.l)), (Value.int .i64 (a.h)), (Value.int .i64 (a.s))]) Try.agg23 rfl (inOc (k := 1) rfl) rfl rfl) ?_
      refine oq (qv_ldm (vs := [(Value.int .i64 (b.l)), (Value.int .i64 (b.h)), (Value.int .i64 (b.s))]) Try.agg23 rfl (inOc (k := 2) rfl) rfl rfl) ?_
      refine oq (qv_call (v := (Value.tuple #[(Value.agg #[(Value.int .i64 ((jN a b).l)), (Value.int .i64 ((jN a b).h)), (Value.int .i64 ((jN a b).s))]), (Value.int .i64 (jE a b))])) (Join_c (a := a) (b := b)) rfl rfl) ?_
      refine oq (qv_mv (Value.tuple #[(Value.agg #[(Value.int .i64 ((jN a b).l)), (Value.int .i64 ((jN a b).h)), (Value.int .i64 ((jN a b).s))]), (Value.int .i64 (jE a b))]) rfl) ?_
      refine oq (qv_ext (Value.agg #[(Value.int .i64 ((jN a b).l)), (Value.int .i64 ((jN a b).h)), (Value.int .i64 ((jN a b).s))]) rfl rfl) ?_
      refine oq (qv_ext (Value.int .i64 (jE a b)) rfl rfl) ?_
      refine ops_alloc Try.ti23 rfl (fun b17 => ?_)
      refine ops_stm (k := 4) (off := 0) (v := (Value.agg #[(Value.int .i64 ((jN a b).l)), (Value.int .i64 ((jN a b).h)), (Value.int .i64 ((jN a b).s))])) (vs := [(Value.int .i64 ((jN a b).l)), (Value.int .i64 ((jN a b).h)), (Value.int .i64 ((jN a b).s))]) (cs := [(Value.int .i64 0), (Value.int .i64 0), (Value.int .i64 0)]) (cs' := [(Value.int .i64 ((jN a b).l)), (Value.int .i64 ((jN a b).h)), (Value.int .i64 ((jN a b).s))]) Try.size23 rfl rfl rfl rfl rfl rfl (Nat.le_of_ble_eq_true rfl) rfl ?_
      refine oq (qv_as (Value.int .i64 (jE a b)) rfl) ?_
      refine ops_nil ?_
      refine vc_seq ?_
      refine vc_seq ?_
      refine vc_res (σ' := [(Arr 64 b1 [(Value.int .i64 (a.l)), (Value.int .i64 (a.h)), (Value.int .i64 (a.s)), (Value.int .i64 (b.l)), (Value.int .i64 (b.h)), (Value.int .i64 (b.s)), (Value.int .i64 (c.l)), (Value.int .i64 (c.h)), (Value.int .i64 (c.s))]), (Arr 23 z7 [(Value.int .i64 (a.l)), (Value.int .i64 (a.h)), (Value.int .i64 (a.s))]), (Arr 23 z8 [(Value.int .i64 (b.l)), (Value.int .i64 (b.h)), (Value.int .i64 (b.s))]), (Arr 23 z9 [(Value.int .i64 (c.l)), (Value.int .i64 (c.h)), (Value.int .i64 (c.s))]), (Arr 23 b17 [(Value.int .i64 ((jN a b).l)), (Value.int .i64 ((jN a b).h)), (Value.int .i64 ((jN a b).s))])]) rfl ?_
      refine vc_region ?_
      refine oq (qv_mv (Value.int .i64 (jE a b)) rfl) ?_
      refine oq (qv_neq rfl rfl) ?_
      refine oq (qv_mv (Value.bool (decide ((jE a b) ≠ 0))) rfl) ?_
      by_cases g2 : (jE a b) ≠ 0
      ·
        exact absurd j0 g2
      ·
        refine og (qv_ldm (vs := [(Value.int .i64 (a.l)), (Value.int .i64 (a.h)), (Value.int .i64 (a.s))]) Try.agg23 rfl (inOc (k := 1) rfl) rfl rfl) (want_f g2 rfl rfl rfl) ?_
        refine og (qv_ldm (vs := [(Value.int .i64 ((jN a b).l)), (Value.int .i64 ((jN a b).h)), (Value.int .i64 ((jN a b).s))]) Try.agg23 rfl (inOc (k := 4) rfl) rfl rfl) (want_f g2 rfl rfl rfl) ?_
        refine og (qv_call (v := (Value.bool (decide (vld a ∧ vld (jN a b) ∧ sub a (jN a b))))) (Subset_c (a := a) (b := jN a b)) rfl rfl) (want_f g2 rfl rfl rfl) ?_
        refine og (qv_not rfl) (want_f g2 rfl rfl rfl) ?_
        refine oq (qv_pick_f g2 rfl (rfl : ev _ _ = (Value.bool (decide (¬ (vld a ∧ vld (jN a b) ∧ sub a (jN a b))))))) ?_
        refine oq (qv_mv (Value.bool (decide (¬ (vld a ∧ vld (jN a b) ∧ sub a (jN a b))))) rfl) ?_
        by_cases g3 : ¬ (vld a ∧ vld (jN a b) ∧ sub a (jN a b))
        ·
          exact absurd d1 g3
        ·
          refine og (qv_ldm (vs := [(Value.int .i64 (b.l)), (Value.int .i64 (b.h)), (Value.int .i64 (b.s))]) Try.agg23 rfl (inOc (k := 2) rfl) rfl rfl) (want_f g3 rfl rfl rfl) ?_
          refine og (qv_ldm (vs := [(Value.int .i64 ((jN a b).l)), (Value.int .i64 ((jN a b).h)), (Value.int .i64 ((jN a b).s))]) Try.agg23 rfl (inOc (k := 4) rfl) rfl rfl) (want_f g3 rfl rfl rfl) ?_
          refine og (qv_call (v := (Value.bool (decide (vld b ∧ vld (jN a b) ∧ sub b (jN a b))))) (Subset_c (a := b) (b := jN a b)) rfl rfl) (want_f g3 rfl rfl rfl) ?_
          refine og (qv_not rfl) (want_f g3 rfl rfl rfl) ?_
          refine oq (qv_pick_f g3 rfl (rfl : ev _ _ = (Value.bool (decide (¬ (vld b ∧ vld (jN a b) ∧ sub b (jN a b))))))) ?_
          refine oq (qv_mv (Value.bool (decide (¬ (vld b ∧ vld (jN a b) ∧ sub b (jN a b))))) rfl) ?_
          by_cases g4 : ¬ (vld b ∧ vld (jN a b) ∧ sub b (jN a b))
          ·
            exact absurd d2 g4
          ·
            refine og (qv_ldm (vs := [(Value.int .i64 (a.l)), (Value.int .i64 (a.h)), (Value.int .i64 (a.s))]) Try.agg23 rfl (inOc (k := 1) rfl) rfl rfl) (want_f g4 rfl rfl rfl) ?_
            refine og (qv_ldm (vs := [(Value.int .i64 (c.l)), (Value.int .i64 (c.h)), (Value.int .i64 (c.s))]) Try.agg23 rfl (inOc (k := 3) rfl) rfl rfl) (want_f g4 rfl rfl rfl) ?_
            refine og (qv_call (v := (Value.bool (decide (vld a ∧ vld c ∧ sub a c)))) (Subset_c (a := a) (b := c)) rfl rfl) (want_f g4 rfl rfl rfl) ?_
            refine og (qv_mv (Value.bool (decide (vld a ∧ vld c ∧ sub a c))) rfl) (want_f g4 rfl rfl rfl) ?_
            by_cases g5 : vld a ∧ vld c ∧ sub a c
            ·
              refine og (qv_ldm (vs := [(Value.int .i64 (b.l)), (Value.int .i64 (b.h)), (Value.int .i64 (b.s))]) Try.agg23 rfl (inOc (k := 2) rfl) rfl rfl) (want_t g5 rfl rfl rfl) ?_
              refine og (qv_ldm (vs := [(Value.int .i64 (c.l)), (Value.int .i64 (c.h)), (Value.int .i64 (c.s))]) Try.agg23 rfl (inOc (k := 3) rfl) rfl rfl) (want_t g5 rfl rfl rfl) ?_
              refine og (qv_call (v := (Value.bool (decide (vld b ∧ vld c ∧ sub b c)))) (Subset_c (a := b) (b := c)) rfl rfl) (want_t g5 rfl rfl rfl) ?_
              refine og (qv_pick_t g5 rfl (rfl : ev _ _ = (Value.bool (decide (vld b ∧ vld c ∧ sub b c))))) (want_f g4 rfl rfl rfl) ?_
              refine og (qv_mv (Value.bool (decide (vld b ∧ vld c ∧ sub b c))) rfl) (want_f g4 rfl rfl rfl) ?_
              by_cases g6 : vld b ∧ vld c ∧ sub b c
              ·
                refine og (qv_ldm (vs := [(Value.int .i64 ((jN a b).l)), (Value.int .i64 ((jN a b).h)), (Value.int .i64 ((jN a b).s))]) Try.agg23 rfl (inOc (k := 4) rfl) rfl rfl) (want_t g6 rfl rfl rfl) ?_
                refine og (qv_ldm (vs := [(Value.int .i64 (c.l)), (Value.int .i64 (c.h)), (Value.int .i64 (c.s))]) Try.agg23 rfl (inOc (k := 3) rfl) rfl rfl) (want_t g6 rfl rfl rfl) ?_
                refine og (qv_call (v := (Value.bool (decide (vld (jN a b) ∧ vld c ∧ sub (jN a b) c)))) (Subset_c (a := jN a b) (b := c)) rfl rfl) (want_t g6 rfl rfl rfl) ?_
                refine og (qv_not rfl) (want_t g6 rfl rfl rfl) ?_
                refine og (qv_pick_t g6 rfl (rfl : ev _ _ = (Value.bool (decide (¬ (vld (jN a b) ∧ vld c ∧ sub (jN a b) c)))))) (want_f g4 rfl rfl rfl) ?_
                refine oq (qv_pick_f g4 rfl (rfl : ev _ _ = (Value.bool (decide (¬ (vld (jN a b) ∧ vld c ∧ sub (jN a b) c)))))) ?_
                refine ops_nil ?_
                refine vc_if rfl (fun c2 => ?_) (fun c2 => ?_)
                ·
                  exact absurd (sub_all j2 j5 (by assumption) (by assumption)) c2
                ·
                  refine vc_skip ?_
                  refine vc_seq ?_
                  have s0 : spE a = 0 := if_pos ha
                  have s1 : spU a x = upF a x := if_pos ha
                  have s2 : spA a x = abF a x := if_pos ha
                  have hu := up_ok ha x
                  have hv := ab_ok ha x
                  have hjj : jOk (spU a x) (spA a x) := by rw [s1, s2]; exact ⟨hu.1, hv.1⟩
                  have s3 := jE_1 hjj
                  have s4 : jN (spU a x) (spA a x) = a := by rw [jN_1 hjj, s1, s2]; exact join_parts ha x
                  have s5 : sizeV (spU a x) + sizeV (spA a x) = sizeV a := by rw [s1, s2, sizeV_1 hu.1, sizeV_1 hv.1, sizeV_1 ha]; exact size_parts ha x
                  have s6 : 0 ≤ sizeV (spU a x) ∧ sizeV (spU a x) ≤ 2199023255553 := by rw [s1, sizeV_1 hu.1]; exact size_bd hu.1
                  have s7 : 0 ≤ sizeV (spA a x) ∧ sizeV (spA a x) ≤ 2199023255553 := by rw [s2, sizeV_1 hv.1]; exact size_bd hv.1
                  refine vc_region ?_
                  refine oq (qv_ldm (vs := [(Value.int .i64 (a.l)), (Value.int .i64 (a.h)), (Value.int .i64 (a.s))]) Try.agg23 rfl (inOc (k := 1) rfl) rfl rfl) ?_
                  refine oq (qv_mv (Value.int .i64 x) rfl) ?_
                  refine oq (qv_call (v := (Value.tuple #[(Value.agg #[(Value.int .i64 ((spU a x).l)), (Value.int .i64 ((spU a x).h)), (Value.int .i64 ((spU a x).s))]), (Value.agg #[(Value.int .i64 ((spA a x).l)), (Value.int .i64 ((spA a x).h)), (Value.int .i64 ((spA a x).s))]), (Value.int .i64 (spE a))])) (Split_c (a := a)) rfl rfl) ?_
                  refine oq (qv_mv (Value.tuple #[(Value.agg #[(Value.int .i64 ((spU a x).l)), (Value.int .i64 ((spU a x).h)), (Value.int .i64 ((spU a x).s))]), (Value.agg #[(Value.int .i64 ((spA a x).l)), (Value.int .i64 ((spA a x).h)), (Value.int .i64 ((spA a x).s))]), (Value.int .i64 (spE a))]) rfl) ?_
                  refine oq (qv_ext (Value.agg #[(Value.int .i64 ((spU a x).l)), (Value.int .i64 ((spU a x).h)), (Value.int .i64 ((spU a x).s))]) rfl rfl) ?_
                  refine oq (qv_ext (Value.agg #[(Value.int .i64 ((spA a x).l)), (Value.int .i64 ((spA a x).h)), (Value.int .i64 ((spA a x).s))]) rfl rfl) ?_
                  refine oq (qv_ext (Value.int .i64 (spE a)) rfl rfl) ?_
                  refine ops_alloc Try.ti23 rfl (fun b18 => ?_)
                  refine ops_alloc Try.ti23 rfl (fun b19 => ?_)
                  refine ops_stm (k := 5) (off := 0) (v := (Value.agg #[(Value.int .i64 ((spU a x).l)), (Value.int .i64 ((spU a x).h)), (Value.int .i64 ((spU a x).s))])) (vs := [(Value.int .i64 ((spU a x).l)), (Value.int .i64 ((spU a x).h)), (Value.int .i64 ((spU a x).s))]) (cs := [(Value.int .i64 0), (Value.int .i64 0), (Value.int .i64 0)]) (cs' := [(Value.int .i64 ((spU a x).l)), (Value.int .i64 ((spU a x).h)), (Value.int .i64 ((spU a x).s))]) Try.size23 rfl rfl rfl rfl rfl rfl (Nat.le_of_ble_eq_true rfl) rfl ?_
                  refine ops_stm (k := 6) (off := 0) (v := (Value.agg #[(Value.int .i64 ((spA a x).l)), (Value.int .i64 ((spA a x).h)), (Value.int .i64 ((spA a x).s))])) (vs := [(Value.int .i64 ((spA a x).l)), (Value.int .i64 ((spA a x).h)), (Value.int .i64 ((spA a x).s))]) (cs := [(Value.int .i64 0), (Value.int .i64 0), (Value.int .i64 0)]) (cs' := [(Value.int .i64 ((spA a x).l)), (Value.int .i64 ((spA a x).h)), (Value.int .i64 ((spA a x).s))]) Try.size23 rfl rfl rfl rfl rfl rfl (Nat.le_of_ble_eq_true rfl) rfl ?_
                  refine oq (qv_as (Value.int .i64 (spE a)) rfl) ?_
                  refine ops_nil ?_
                  refine vc_seq ?_
                  refine vc_res (σ' := [(Arr 64 b1 [(Value.int .i64 (a.l)), (Value.int .i64 (a.h)), (Value.int .i64 (a.s)), (Value.int .i64 (b.l)), (Value.int .i64 (b.h)), (Value.int .i64 (b.s)), (Value.int .i64 (c.l)), (Value.int .i64 (c.h)), (Value.int .i64 (c.s))]), (Arr 23 z7 [(Value.int .i64 (a.l)), (Value.int .i64 (a.h)), (Value.int .i64 (a.s))]), (Arr 23 z8 [(Value.int .i64 (b.l)), (Value.int .i64 (b.h)), (Value.int .i64 (b.s))]), (Arr 23 z9 [(Value.int .i64 (c.l)), (Value.int .i64 (c.h)), (Value.int .i64 (c.s))]), (Arr 23 b17 [(Value.int .i64 ((jN a b).l)), (Value.int .i64 ((jN a b).h)), (Value.int .i64 ((jN a b).s))]), (Arr 23 b18 [(Value.int .i64 ((spU a x).l)), (Value.int .i64 ((spU a x).h)), (Value.int .i64 ((spU a x).s))]), (Arr 23 b19 [(Value.int .i64 ((spA a x).l)), (Value.int .i64 ((spA a x).h)), (Value.int .i64 ((spA a x).s))])]) rfl ?_
                  refine vc_region ?_
                  refine oq (qv_ldm (vs := [(Value.int .i64 ((spU a x).l)), (Value.int .i64 ((spU a x).h)), (Value.int .i64 ((spU a x).s))]) Try.agg23 rfl (inOc (k := 5) rfl) rfl rfl) ?_
                  refine oq (qv_ldm (vs := [(Value.int .i64 ((spA a x).l)), (Value.int .i64 ((spA a x).h)), (Value.int .i64 ((spA a x).s))]) Try.agg23 rfl (inOc (k := 6) rfl) rfl rfl) ?_
                  refine oq (qv_call (v := (Value.tuple #[(Value.agg #[(Value.int .i64 ((jN (spU a x) (spA a x)).l)), (Value.int .i64 ((jN (spU a x) (spA a x)).h)), (Value.int .i64 ((jN (spU a x) (spA a x)).s))]), (Value.int .i64 (jE (spU a x) (spA a x)))])) (Join_c (a := spU a x) (b := spA a x)) rfl rfl) ?_
                  refine oq (qv_mv (Value.tuple #[(Value.agg #[(Value.int .i64 ((jN (spU a x) (spA a x)).l)), (Value.int .i64 ((jN (spU a x) (spA a x)).h)), (Value.int .i64 ((jN (spU a x) (spA a x)).s))]), (Value.int .i64 (jE (spU a x) (spA a x)))]) rfl) ?_
                  refine oq (qv_ext (Value.agg #[(Value.int .i64 ((jN (spU a x) (spA a x)).l)), (Value.int .i64 ((jN (spU a x) (spA a x)).h)), (Value.int .i64 ((jN (spU a x) (spA a x)).s))]) rfl rfl) ?_
                  refine oq (qv_ext (Value.int .i64 (jE (spU a x) (spA a x))) rfl rfl) ?_
                  refine ops_alloc Try.ti23 rfl (fun b20 => ?_)
                  refine ops_stm (k := 7) (off := 0) (v := (Value.agg #[(Value.int .i64 ((jN (spU a x) (spA a x)).l)), (Value.int .i64 ((jN (spU a x) (spA a x)).h)), (Value.int .i64 ((jN (spU a x) (spA a x)).s))])) (vs := [(Value.int .i64 ((jN (spU a x) (spA a x)).l)), (Value.int .i64 ((jN (spU a x) (spA a x)).h)), (Value.int .i64 ((jN (spU a x) (spA a x)).s))]) (cs := [(Value.int .i64 0), (Value.int .i64 0), (Value.int .i64 0)]) (cs' := [(Value.int .i64 ((jN (spU a x) (spA a x)).l)), (Value.int .i64 ((jN (spU a x) (spA a x)).h)), (Value.int .i64 ((jN (spU a x) (spA a x)).s))]) Try.size23 rfl rfl rfl rfl rfl rfl (Nat.le_of_ble_eq_true rfl) rfl ?_
                  refine oq (qv_as (Value.int .i64 (jE (spU a x) (spA a x))) rfl) ?_
                  refine ops_nil ?_
                  refine vc_seq ?_
                  refine vc_seq ?_
                  refine vc_res (σ' := [(Arr 64 b1 [(Value.int .i64 (a.l)), (Value.int .i64 (a.h)), (Value.int .i64 (a.s)), (Value.int .i64 (b.l)), (Value.int .i64 (b.h)), (Value.int .i64 (b.s)), (Value.int .i64 (c.l)), (Value.int .i64 (c.h)), (Value.int .i64 (c.s))]), (Arr 23 z7 [(Value.int .i64 (a.l)), (Value.int .i64 (a.h)), (Value.int .i64 (a.s))]), (Arr 23 z8 [(Value.int .i64 (b.l)), (Value.int .i64 (b.h)), (Value.int .i64 (b.s))]), (Arr 23 z9 [(Value.int .i64 (c.l)), (Value.int .i64 (c.h)), (Value.int .i64 (c.s))]), (Arr 23 b17 [(Value.int .i64 ((jN a b).l)), (Value.int .i64 ((jN a b).h)), (Value.int .i64 ((jN a b).s))]), (Arr 23 b18 [(Value.int .i64 ((spU a x).l)), (Value.int .i64 ((spU a x).h)), (Value.int .i64 ((spU a x).s))]), (Arr 23 b19 [(Value.int .i64 ((spA a x).l)), (Value.int .i64 ((spA a x).h)), (Value.int .i64 ((spA a x).s))]), (Arr 23 b20 [(Value.int .i64 ((jN (spU a x) (spA a x)).l)), (Value.int .i64 ((jN (spU a x) (spA a x)).h)), (Value.int .i64 ((jN (spU a x) (spA a x)).s))])]) rfl ?_
                  refine vc_region_any Try.mixed (by kernel_rfl) ?_
                  refine qq (qv_mv (Value.int .i64 (spE a)) rfl) ?_
                  refine qq (qv_neq rfl rfl) ?_
                  refine qq (qv_mv (Value.bool (decide ((spE a) ≠ 0))) rfl) ?_
                  by_cases g7 : (spE a) ≠ 0
                  ·
                    exact absurd s0 g7
                  ·
                    refine qg (qv_mv (Value.int .i64 (jE (spU a x) (spA a x))) rfl) (want_f g7 rfl rfl rfl) ?_
                    refine qg (qv_neq rfl rfl) (want_f g7 rfl rfl rfl) ?_
                    refine qq (qv_pick_f g7 rfl (rfl : ev _ _ = (Value.bool (decide ((jE (spU a x) (spA a x)) ≠ 0))))) ?_
                    refine qq (qv_mv (Value.bool (decide ((jE (spU a x) (spA a x)) ≠ 0))) rfl) ?_
                    by_cases g8 : (jE (spU a x) (spA a x)) ≠ 0
                    ·
                      exact absurd s3 g8
                    ·
                      refine qg (qv_ldm (vs := [(Value.int .i64 ((jN (spU a x) (spA a x)).l)), (Value.int .i64 ((jN (spU a x) (spA a x)).h)), (Value.int .i64 ((jN (spU a x) (spA a x)).s))]) Try.agg23 rfl (inOc (k := 7) rfl) rfl rfl) (want_f g8 rfl rfl rfl) ?_
                      refine qg (qv_ldm (vs := [(Value.int .i64 (a.l)), (Value.int .i64 (a.h)), (Value.int .i64 (a.s))]) Try.agg23 rfl (inOc (k := 1) rfl) rfl rfl) (want_f g8 rfl rfl rfl) ?_
                      refine qg (qv_neqs Try.eq23 [(jN (spU a x) (spA a x)).l, (jN (spU a x) (spA a x)).h, (jN (spU a x) (spA a x)).s] [a.l, a.h, a.s] rfl rfl rfl rfl rfl rfl eq3) (want_f g8 rfl rfl rfl) ?_
                      refine qq (qv_pick_f g8 rfl (rfl : ev _ _ = (Value.bool (decide (¬ (((jN (spU a x) (spA a x)).l) = a.l ∧ ((jN (spU a x) (spA a x)).h) = a.h ∧ ((jN (spU a x) (spA a x)).s) = a.s)))))) ?_
                      refine qq (qv_mv (Value.bool (decide (¬ (((jN (spU a x) (spA a x)).l) = a.l ∧ ((jN (spU a x) (spA a x)).h) = a.h ∧ ((jN (spU a x) (spA a x)).s) = a.s)))) rfl) ?_
                      by_cases g9 : ¬ (((jN (spU a x) (spA a x)).l) = a.l ∧ ((jN (spU a x) (spA a x)).h) = a.h ∧ ((jN (spU a x) (spA a x)).s) = a.s)
                      ·
                        exact absurd (nm_iff.1 s4) g9
                      ·
                        refine qg (qv_ldm (vs := [(Value.int .i64 ((spU a x).l)), (Value.int .i64 ((spU a x).h)), (Value.int .i64 ((spU a x).s))]) Try.agg23 rfl (inOc (k := 5) rfl) rfl rfl) (want_f g9 rfl rfl rfl) ?_
                        refine qg (qv_call (v := (Value.int .i64 (sizeV (spU a x)))) (Size_c (a := spU a x)) rfl rfl) (want_f g9 rfl rfl rfl) ?_
                        refine qg (qv_ldm (vs := [(Value.int .i64 ((spA a x).l)), (Value.int .i64 ((spA a x).h)), (Value.int .i64 ((spA a x).s))]) Try.agg23 rfl (inOc (k := 6) rfl) rfl rfl) (want_f g9 rfl rfl rfl) ?_
                        refine qg (qv_call (v := (Value.int .i64 (sizeV (spA a x)))) (Size_c (a := spA a x)) rfl rfl) (want_f g9 rfl rfl rfl) ?_
                        refine qg (qv_add rfl rfl (by omega)) (want_f g9 rfl rfl rfl) ?_
                        refine qg (qv_ldm (vs := [(Value.int .i64 (a.l)), (Value.int .i64 (a.h)), (Value.int .i64 (a.s))]) Try.agg23 rfl (inOc (k := 1) rfl) rfl rfl) (want_f g9 rfl rfl rfl) ?_
                        refine qg (qv_call (v := (Value.int .i64 (sizeV a))) (Size_c (a := a)) rfl rfl) (want_f g9 rfl rfl rfl) ?_
                        refine qg (qv_neq rfl rfl) (want_f g9 rfl rfl rfl) ?_
                        refine qq (qv_pick_f g9 rfl (rfl : ev _ _ = (Value.bool (decide (((sizeV (spU a x)) + (sizeV (spA a x))) ≠ (sizeV a)))))) ?_
                        refine qops_nil ?_
                        refine vc_if rfl (fun c3 => ?_) (fun c3 => ?_)
                        ·
                          exact absurd s5 c3
                        ·
                          refine vc_skip ?_
                          refine vc_seq ?_
                          refine vc_region ?_
                          refine oq (qv_ldm (vs := [(Value.int .i64 (a.l)), (Value.int .i64 (a.h)), (Value.int .i64 (a.s))]) Try.agg23 rfl (inOc (k := 1) rfl) rfl rfl) ?_
                          refine oq (qv_mv (Value.int .i64 x) rfl) ?_
                          refine oq (qv_mv (Value.int .i64 hi) rfl) ?_
                          refine oq (qv_call (v := (Value.tuple #[(Value.agg #[(Value.int .i64 ((clN a x hi).l)), (Value.int .i64 ((clN a x hi).h)), (Value.int .i64 ((clN a x hi).s))]), (Value.int .i64 (clE a x hi))])) (Clamp_c (a := a)) rfl rfl) ?_
                          refine oq (qv_mv (Value.tuple #[(Value.agg #[(Value.int .i64 ((clN a x hi).l)), (Value.int .i64 ((clN a x hi).h)), (Value.int .i64 ((clN a x hi).s))]), (Value.int .i64 (clE a x hi))]) rfl) ?_
                          refine oq (qv_ext (Value.agg #[(Value.int .i64 ((clN a x hi).l)), (Value.int .i64 ((clN a x hi).h)), (Value.int .i64 ((clN a x hi).s))]) rfl rfl) ?_
                          refine oq (qv_ext (Value.int .i64 (clE a x hi)) rfl rfl) ?_
                          refine ops_alloc Try.ti23 rfl (fun b21 => ?_)
                          refine ops_stm (k := 8) (off := 0) (v := (Value.agg #[(Value.int .i64 ((clN a x hi).l)), (Value.int .i64 ((clN a x hi).h)), (Value.int .i64 ((clN a x hi).s))])) (vs := [(Value.int .i64 ((clN a x hi).l)), (Value.int .i64 ((clN a x hi).h)), (Value.int .i64 ((clN a x hi).s))]) (cs := [(Value.int .i64 0), (Value.int .i64 0), (Value.int .i64 0)]) (cs' := [(Value.int .i64 ((clN a x hi).l)), (Value.int .i64 ((clN a x hi).h)), (Value.int .i64 ((clN a x hi).s))]) Try.size23 rfl rfl rfl rfl rfl rfl (Nat.le_of_ble_eq_true rfl) rfl ?_
                          refine oq (qv_as (Value.int .i64 (clE a x hi)) rfl) ?_
                          refine ops_nil ?_
                          refine vc_seq ?_
                          refine vc_seq ?_
                          refine vc_res (σ' := [(Arr 64 b1 [(Value.int .i64 (a.l)), (Value.int .i64 (a.h)), (Value.int .i64 (a.s)), (Value.int .i64 (b.l)), (Value.int .i64 (b.h)), (Value.int .i64 (b.s)), (Value.int .i64 (c.l)), (Value.int .i64 (c.h)), (Value.int .i64 (c.s))]), (Arr 23 z7 [(Value.int .i64 (a.l)), (Value.int .i64 (a.h)), (Value.int .i64 (a.s))]), (Arr 23 z8 [(Value.int .i64 (b.l)), (Value.int .i64 (b.h)), (Value.int .i64 (b.s))]), (Arr 23 z9 [(Value.int .i64 (c.l)), (Value.int .i64 (c.h)), (Value.int .i64 (c.s))]), (Arr 23 b17 [(Value.int .i64 ((jN a b).l)), (Value.int .i64 ((jN a b).h)), (Value.int .i64 ((jN a b).s))]), (Arr 23 b18 [(Value.int .i64 ((spU a x).l)), (Value.int .i64 ((spU a x).h)), (Value.int .i64 ((spU a x).s))]), (Arr 23 b19 [(Value.int .i64 ((spA a x).l)), (Value.int .i64 ((spA a x).h)), (Value.int .i64 ((spA a x).s))]), (Arr 23 b20 [(Value.int .i64 ((jN (spU a x) (spA a x)).l)), (Value.int .i64 ((jN (spU a x) (spA a x)).h)), (Value.int .i64 ((jN (spU a x) (spA a x)).s))]), (Arr 23 b21 [(Value.int .i64 ((clN a x hi).l)), (Value.int .i64 ((clN a x hi).h)), (Value.int .i64 ((clN a x hi).s))])]) rfl ?_
                          refine vc_region ?_
                          refine oq (qv_mv (Value.int .i64 (clE a x hi)) rfl) ?_
                          refine oq (qv_neq rfl rfl) ?_
                          refine ops_nil ?_
                          refine vc_if rfl (fun c4 => ?_) (fun c4 => ?_)
                          ·
                            refine vc_seq ?_
                            have hz := nm_iff.1 (clN_1 (a := a) (lo := x) (hi := hi) (by assumption))
                            refine vc_region ?_
                            refine oq (qv_ldm (vs := [(Value.int .i64 ((clN a x hi).l)), (Value.int .i64 ((clN a x hi).h)), (Value.int .i64 ((clN a x hi).s))]) Try.agg23 rfl (inOc (k := 8) rfl) rfl rfl) ?_
                            refine oq (qv_build (out := [(Value.int .i64 0), (Value.int .i64 0), (Value.int .i64 0)]) Try.build23 [] rfl rfl) ?_
                            refine oq (qv_eqls Try.eq23 [(clN a x hi).l, (clN a x hi).h, (clN a x hi).s] [0, 0, 0] rfl rfl rfl rfl rfl rfl eq3) ?_
                            refine oq (qv_as (Value.bool (decide (((clN a x hi).l) = 0 ∧ ((clN a x hi).h) = 0 ∧ ((clN a x hi).s) = 0))) rfl) ?_
                            refine ops_nil ?_
                            refine vc_ret ?_
                            exact rq1 (Value.bool true) (congrArg Value.bool (decide_eq_true (show (((clN a x hi).l) = 0 ∧ ((clN a x hi).h) = 0 ∧ ((clN a x hi).s) = 0) from by first | exact hz | exact nm_iff.1 e2))) rfl
                          ·
                            refine vc_skip ?_
                            refine vc_seq ?_
                            have hc0 : clE a x hi = 0 := by omega
                            have hck : clOk x hi := by apply Decidable.not_not.1; intro q; have := clE_3 ha q; omega
                            have hcn := clN_0 hc0
                            obtain ⟨c1, c2, c3⟩ := hck
                            have hcv : vld (clN a x hi) := by rw [hcn]; exact (cl_least ha c2 c3 c1).ok
                            have e1 := clE_0 hcv ⟨c1, c2, c3⟩
                            have e2 : clN (clN a x hi) x hi = clN a x hi := by rw [clN_0 e1, hcn]; exact cl_twice ha ⟨c1, c2, c3⟩
                            refine vc_region ?_
                            refine oq (qv_ldm (vs := [(Value.int .i64 ((clN a x hi).l)), (Value.int .i64 ((clN a x hi).h)), (Value.int .i64 ((clN a x hi).s))]) Try.agg23 rfl (inOc (k := 8) rfl) rfl rfl) ?_
                            refine oq (qv_mv (Value.int .i64 x) rfl) ?_
                            refine oq (qv_mv (Value.int .i64 hi) rfl) ?_
                            refine oq (qv_call (v := (Value.tuple #[(Value.agg #[(Value.int .i64 ((clN (clN a x hi) x hi).l)), (Value.int .i64 ((clN (clN a x hi) x hi).h)), (Value.int .i64 ((clN (clN a x hi) x hi).s))]), (Value.int .i64 (clE (clN a x hi) x hi))])) (Clamp_c (a := clN a x hi)) rfl rfl) ?_
                            refine oq (qv_mv (Value.tuple #[(Value.agg #[(Value.int .i64 ((clN (clN a x hi) x hi).l)), (Value.int .i64 ((clN (clN a x hi) x hi).h)), (Value.int .i64 ((clN (clN a x hi) x hi).s))]), (Value.int .i64 (clE (clN a x hi) x hi))]) rfl) ?_
                            refine oq (qv_ext (Value.agg #[(Value.int .i64 ((clN (clN a x hi) x hi).l)), (Value.int .i64 ((clN (clN a x hi) x hi).h)), (Value.int .i64 ((clN (clN a x hi) x hi).s))]) rfl rfl) ?_
                            refine oq (qv_ext (Value.int .i64 (clE (clN a x hi) x hi)) rfl rfl) ?_
                            refine ops_alloc Try.ti23 rfl (fun b22 => ?_)
                            refine ops_stm (k := 9) (off := 0) (v := (Value.agg #[(Value.int .i64 ((clN (clN a x hi) x hi).l)), (Value.int .i64 ((clN (clN a x hi) x hi).h)), (Value.int .i64 ((clN (clN a x hi) x hi).s))])) (vs := [(Value.int .i64 ((clN (clN a x hi) x hi).l)), (Value.int .i64 ((clN (clN a x hi) x hi).h)), (Value.int .i64 ((clN (clN a x hi) x hi).s))]) (cs := [(Value.int .i64 0), (Value.int .i64 0), (Value.int .i64 0)]) (cs' := [(Value.int .i64 ((clN (clN a x hi) x hi).l)), (Value.int .i64 ((clN (clN a x hi) x hi).h)), (Value.int .i64 ((clN (clN a x hi) x hi).s))]) Try.size23 rfl rfl rfl rfl rfl rfl (Nat.le_of_ble_eq_true rfl) rfl ?_
                            refine oq (qv_as (Value.int .i64 (clE (clN a x hi) x hi)) rfl) ?_
                            refine ops_nil ?_
                            refine vc_seq ?_
                            refine vc_res (σ' := [(Arr 64 b1 [(Value.int .i64 (a.l)), (Value.int .i64 (a.h)), (Value.int .i64 (a.s)), (Value.int .i64 (b.l)), (Value.int .i64 (b.h)), (Value.int .i64 (b.s)), (Value.int .i64 (c.l)), (Value.int .i64 (c.h)), (Value.int .i64 (c.s))]), (Arr 23 z7 [(Value.int .i64 (a.l)), (Value.int .i64 (a.h)), (Value.int .i64 (a.s))]), (Arr 23 z8 [(Value.int .i64 (b.l)), (Value.int .i64 (b.h)), (Value.int .i64 (b.s))]), (Arr 23 z9 [(Value.int .i64 (c.l)), (Value.int .i64 (c.h)), (Value.int .i64 (c.s))]), (Arr 23 b17 [(Value.int .i64 ((jN a b).l)), (Value.int .i64 ((jN a b).h)), (Value.int .i64 ((jN a b).s))]), (Arr 23 b18 [(Value.int .i64 ((spU a x).l)), (Value.int .i64 ((spU a x).h)), (Value.int .i64 ((spU a x).s))]), (Arr 23 b19 [(Value.int .i64 ((spA a x).l)), (Value.int .i64 ((spA a x).h)), (Value.int .i64 ((spA a x).s))]), (Arr 23 b20 [(Value.int .i64 ((jN (spU a x) (spA a x)).l)), (Value.int .i64 ((jN (spU a x) (spA a x)).h)), (Value.int .i64 ((jN (spU a x) (spA a x)).s))]), (Arr 23 b21 [(Value.int .i64 ((clN a x hi).l)), (Value.int .i64 ((clN a x hi).h)), (Value.int .i64 ((clN a x hi).s))]), (Arr 23 b22 [(Value.int .i64 ((clN (clN a x hi) x hi).l)), (Value.int .i64 ((clN (clN a x hi) x hi).h)), (Value.int .i64 ((clN (clN a x hi) x hi).s))])]) rfl ?_
                            refine vc_region ?_
                            refine oq (qv_mv (Value.int .i64 (clE (clN a x hi) x hi)) rfl) ?_
                            refine oq (qv_eql rfl rfl) ?_
                            refine oq (qv_mv (Value.bool (decide ((clE (clN a x hi) x hi) = 0))) rfl) ?_
                            by_cases g10 : (clE (clN a x hi) x hi) = 0
                            ·
                              refine og (qv_ldm (vs := [(Value.int .i64 ((clN (clN a x hi) x hi).l)), (Value.int .i64 ((clN (clN a x hi) x hi).h)), (Value.int .i64 ((clN (clN a x hi) x hi).s))]) Try.agg23 rfl (inOc (k := 9) rfl) rfl rfl) (want_t g10 rfl rfl rfl) ?_
                              refine og (qv_ldm (vs := [(Value.int .i64 ((clN a x hi).l)), (Value.int .i64 ((clN a x hi).h)), (Value.int .i64 ((clN a x hi).s))]) Try.agg23 rfl (inOc (k := 8) rfl) rfl rfl) (want_t g10 rfl rfl rfl) ?_
                              refine og (qv_eqls Try.eq23 [(clN (clN a x hi) x hi).l, (clN (clN a x hi) x hi).h, (clN (clN a x hi) x hi).s] [(clN a x hi).l, (clN a x hi).h, (clN a x hi).s] rfl rfl rfl rfl rfl rfl eq3) (want_t g10 rfl rfl rfl) ?_
                              refine oq (qv_pick_t g10 rfl (rfl : ev _ _ = (Value.bool (decide (((clN (clN a x hi) x hi).l) = ((clN a x hi).l) ∧ ((clN (clN a x hi) x hi).h) = ((clN a x hi).h) ∧ ((clN (clN a x hi) x hi).s) = ((clN a x hi).s)))))) ?_
                              refine oq (qv_as (Value.bool (decide (((clN (clN a x hi) x hi).l) = ((clN a x hi).l) ∧ ((clN (clN a x hi) x hi).h) = ((clN a x hi).h) ∧ ((clN (clN a x hi) x hi).s) = ((clN a x hi).s)))) rfl) ?_
                              refine ops_nil ?_
                              refine vc_ret ?_
                              exact rq1 (Value.bool true) (congrArg Value.bool (decide_eq_true (show (((clN (clN a x hi) x hi).l) = ((clN a x hi).l) ∧ ((clN (clN a x hi) x hi).h) = ((clN a x hi).h) ∧ ((clN (clN a x hi) x hi).s) = ((clN a x hi).s)) from by first | exact hz | exact nm_iff.1 e2))) rfl
                            ·
                              exact absurd e1 g10
              ·
                refine os (want_tn g6 rfl rfl rfl) ?_
                refine os (want_tn g6 rfl rfl rfl) ?_
                refine os (want_tn g6 rfl rfl rfl) ?_
                refine os (want_tn g6 rfl rfl rfl) ?_
                refine og (qv_pick_f g6 rfl (rfl : ev _ _ = (Value.bool false))) (want_f g4 rfl rfl rfl) ?_
                refine oq (qv_pick_f g4 rfl (rfl : ev _ _ = (Value.bool false))) ?_
                refine ops_nil ?_
                refine vc_ff rfl ?_
                refine vc_skip ?_
                refine vc_seq ?_
                have s0 : spE a = 0 := if_pos ha
                have s1 : spU a x = upF a x := if_pos ha
                have s2 : spA a x = abF a x := if_pos ha
                have hu := up_ok ha x
                have hv := ab_ok ha x
                have hjj : jOk (spU a x) (spA a x) := by rw [s1, s2]; exact ⟨hu.1, hv.1⟩
                have s3 := jE_1 hjj
                have s4 : jN (spU a x) (spA a x) = a := by rw [jN_1 hjj, s1, s2]; exact join_parts ha x
                have s5 : sizeV (spU a x) + sizeV (spA a x) = sizeV a := by rw [s1, s2, sizeV_1 hu.1, sizeV_1 hv.1, sizeV_1 ha]; exact size_parts ha x
                have s6 : 0 ≤ sizeV (spU a x) ∧ sizeV (spU a x) ≤ 2199023255553 := by rw [s1, sizeV_1 hu.1]; exact size_bd hu.1
                have s7 : 0 ≤ sizeV (spA a x) ∧ sizeV (spA a x) ≤ 2199023255553 := by rw [s2, sizeV_1 hv.1]; exact size_bd hv.1
                refine vc_region ?_
                refine oq (qv_ldm (vs := [(Value.int .i64 (a.l)), (Value.int .i64 (a.h)), (Value.int .i64 (a.s))]) Try.agg23 rfl (inOc (k := 1) rfl) rfl rfl) ?_
                refine oq (qv_mv (Value.int .i64 x) rfl) ?_
                refine oq (qv_call (v := (Value.tuple #[(Value.agg #[(Value.int .i64 ((spU a x).l)), (Value.int .i64 ((spU a x).h)), (Value.int .i64 ((spU a x).s))]), (Value.agg #[(Value.int .i64 ((spA a x).l)), (Value.int .i64 ((spA a x).h)), (Value.int .i64 ((spA a x).s))]), (Value.int .i64 (spE a))])) (Split_c (a := a)) rfl rfl) ?_
                refine oq (qv_mv (Value.tuple #[(Value.agg #[(Value.int .i64 ((spU a x).l)), (Value.int .i64 ((spU a x).h)), (Value.int .i64 ((spU a x).s))]), (Value.agg #[(Value.int .i64 ((spA a x).l)), (Value.int .i64 ((spA a x).h)), (Value.int .i64 ((spA a x).s))]), (Value.int .i64 (spE a))]) rfl) ?_
                refine oq (qv_ext (Value.agg #[(Value.int .i64 ((spU a x).l)), (Value.int .i64 ((spU a x).h)), (Value.int .i64 ((spU a x).s))]) rfl rfl) ?_
                refine oq (qv_ext (Value.agg #[(Value.int .i64 ((spA a x).l)), (Value.int .i64 ((spA a x).h)), (Value.int .i64 ((spA a x).s))]) rfl rfl) ?_
                refine oq (qv_ext (Value.int .i64 (spE a)) rfl rfl) ?_
                refine ops_alloc Try.ti23 rfl (fun b23 => ?_)
                refine ops_alloc Try.ti23 rfl (fun b24 => ?_)
                refine ops_stm (k := 5) (off := 0) (v := (Value.agg #[(Value.int .i64 ((spU a x).l)), (Value.int .i64 ((spU a x).h)), (Value.int .i64 ((spU a x).s))])) (vs := [(Value.int .i64 ((spU a x).l)), (Value.int .i64 ((spU a x).h)), (Value.int .i64 ((spU a x).s))]) (cs := [(Value.int .i64 0), (Value.int .i64 0), (Value.int .i64 0)]) (cs' := [(Value.int .i64 ((spU a x).l)), (Value.int .i64 ((spU a x).h)), (Value.int .i64 ((spU a x).s))]) Try.size23 rfl rfl rfl rfl rfl rfl (Nat.le_of_ble_eq_true rfl) rfl ?_
                refine ops_stm (k := 6) (off := 0) (v := (Value.agg #[(Value.int .i64 ((spA a x).l)), (Value.int .i64 ((spA a x).h)), (Value.int .i64 ((spA a x).s))])) (vs := [(Value.int .i64 ((spA a x).l)), (Value.int .i64 ((spA a x).h)), (Value.int .i64 ((spA a x).s))]) (cs := [(Value.int .i64 0), (Value.int .i64 0), (Value.int .i64 0)]) (cs' := [(Value.int .i64 ((spA a x).l)), (Value.int .i64 ((spA a x).h)), (Value.int .i64 ((spA a x).s))]) Try.size23 rfl rfl rfl rfl rfl rfl (Nat.le_of_ble_eq_true rfl) rfl ?_
                refine oq (qv_as (Value.int .i64 (spE a)) rfl) ?_
                refine ops_nil ?_
                refine vc_seq ?_
                refine vc_res (σ' := [(Arr 64 b1 [(Value.int .i64 (a.l)), (Value.int .i64 (a.h)), (Value.int .i64 (a.s)), (Value.int .i64 (b.l)), (Value.int .i64 (b.h)), (Value.int .i64 (b.s)), (Value.int .i64 (c.l)), (Value.int .i64 (c.h)), (Value.int .i64 (c.s))]), (Arr 23 z7 [(Value.int .i64 (a.l)), (Value.int .i64 (a.h)), (Value.int .i64 (a.s))]), (Arr 23 z8 [(Value.int .i64 (b.l)), (Value.int .i64 (b.h)), (Value.int .i64 (b.s))]), (Arr 23 z9 [(Value.int .i64 (c.l)), (Value.int .i64 (c.h)), (Value.int .i64 (c.s))]), (Arr 23 b17 [(Value.int .i64 ((jN a b).l)), (Value.int .i64 ((jN a b).h)), (Value.int .i64 ((jN a b).s))]), (Arr 23 b23 [(Value.int .i64 ((spU a x).l)), (Value.int .i64 ((spU a x).h)), (Value.int .i64 ((spU a x).s))]), (Arr 23 b24 [(Value.int .i64 ((spA a x).l)), (Value.int .i64 ((spA a x).h)), (Value.int .i64 ((spA a x).s))])]) rfl ?_
                refine vc_region ?_
                refine oq (qv_ldm (vs := [(Value.int .i64 ((spU a x).l)), (Value.int .i64 ((spU a x).h)), (Value.int .i64 ((spU a x).s))]) Try.agg23 rfl (inOc (k := 5) rfl) rfl rfl) ?_
                refine oq (qv_ldm (vs := [(Value.int .i64 ((spA a x).l)), (Value.int .i64 ((spA a x).h)), (Value.int .i64 ((spA a x).s))]) Try.agg23 rfl (inOc (k := 6) rfl) rfl rfl) ?_
                refine oq (qv_call (v := (Value.tuple #[(Value.agg #[(Value.int .i64 ((jN (spU a x) (spA a x)).l)), (Value.int .i64 ((jN (spU a x) (spA a x)).h)), (Value.int .i64 ((jN (spU a x) (spA a x)).s))]), (Value.int .i64 (jE (spU a x) (spA a x)))])) (Join_c (a := spU a x) (b := spA a x)) rfl rfl) ?_
                refine oq (qv_mv (Value.tuple #[(Value.agg #[(Value.int .i64 ((jN (spU a x) (spA a x)).l)), (Value.int .i64 ((jN (spU a x) (spA a x)).h)), (Value.int .i64 ((jN (spU a x) (spA a x)).s))]), (Value.int .i64 (jE (spU a x) (spA a x)))]) rfl) ?_
                refine oq (qv_ext (Value.agg #[(Value.int .i64 ((jN (spU a x) (spA a x)).l)), (Value.int .i64 ((jN (spU a x) (spA a x)).h)), (Value.int .i64 ((jN (spU a x) (spA a x)).s))]) rfl rfl) ?_
                refine oq (qv_ext (Value.int .i64 (jE (spU a x) (spA a x))) rfl rfl) ?_
                refine ops_alloc Try.ti23 rfl (fun b25 => ?_)
                refine ops_stm (k := 7) (off := 0) (v := (Value.agg #[(Value.int .i64 ((jN (spU a x) (spA a x)).l)), (Value.int .i64 ((jN (spU a x) (spA a x)).h)), (Value.int .i64 ((jN (spU a x) (spA a x)).s))])) (vs := [(Value.int .i64 ((jN (spU a x) (spA a x)).l)), (Value.int .i64 ((jN (spU a x) (spA a x)).h)), (Value.int .i64 ((jN (spU a x) (spA a x)).s))]) (cs := [(Value.int .i64 0), (Value.int .i64 0), (Value.int .i64 0)]) (cs' := [(Value.int .i64 ((jN (spU a x) (spA a x)).l)), (Value.int .i64 ((jN (spU a x) (spA a x)).h)), (Value.int .i64 ((jN (spU a x) (spA a x)).s))]) Try.size23 rfl rfl rfl rfl rfl rfl (Nat.le_of_ble_eq_true rfl) rfl ?_
                refine oq (qv_as (Value.int .i64 (jE (spU a x) (spA a x))) rfl) ?_
                refine ops_nil ?_
                refine vc_seq ?_
                refine vc_seq ?_
                refine vc_res (σ' := [(Arr 64 b1 [(Value.int .i64 (a.l)), (Value.int .i64 (a.h)), (Value.int .i64 (a.s)), (Value.int .i64 (b.l)), (Value.int .i64 (b.h)), (Value.int .i64 (b.s)), (Value.int .i64 (c.l)), (Value.int .i64 (c.h)), (Value.int .i64 (c.s))]), (Arr 23 z7 [(Value.int .i64 (a.l)), (Value.int .i64 (a.h)), (Value.int .i64 (a.s))]), (Arr 23 z8 [(Value.int .i64 (b.l)), (Value.int .i64 (b.h)), (Value.int .i64 (b.s))]), (Arr 23 z9 [(Value.int .i64 (c.l)), (Value.int .i64 (c.h)), (Value.int .i64 (c.s))]), (Arr 23 b17 [(Value.int .i64 ((jN a b).l)), (Value.int .i64 ((jN a b).h)), (Value.int .i64 ((jN a b).s))]), (Arr 23 b23 [(Value.int .i64 ((spU a x).l)), (Value.int .i64 ((spU a x).h)), (Value.int .i64 ((spU a x).s))]), (Arr 23 b24 [(Value.int .i64 ((spA a x).l)), (Value.int .i64 ((spA a x).h)), (Value.int .i64 ((spA a x).s))]), (Arr 23 b25 [(Value.int .i64 ((jN (spU a x) (spA a x)).l)), (Value.int .i64 ((jN (spU a x) (spA a x)).h)), (Value.int .i64 ((jN (spU a x) (spA a x)).s))])]) rfl ?_
                refine vc_region_any Try.mixed (by kernel_rfl) ?_
                refine qq (qv_mv (Value.int .i64 (spE a)) rfl) ?_
                refine qq (qv_neq rfl rfl) ?_
                refine qq (qv_mv (Value.bool (decide ((spE a) ≠ 0))) rfl) ?_
                by_cases g11 : (spE a) ≠ 0
                ·
                  exact absurd s0 g11
                ·
                  refine qg (qv_mv (Value.int .i64 (jE (spU a x) (spA a x))) rfl) (want_f g11 rfl rfl rfl) ?_
                  refine qg (qv_neq rfl rfl) (want_f g11 rfl rfl rfl) ?_
                  refine qq (qv_pick_f g11 rfl (rfl : ev _ _ = (Value.bool (decide ((jE (spU a x) (spA a x)) ≠ 0))))) ?_
                  refine qq (qv_mv (Value.bool (decide ((jE (spU a x) (spA a x)) ≠ 0))) rfl) ?_
                  by_cases g12 : (jE (spU a x) (spA a x)) ≠ 0
                  ·
                    exact absurd s3 g12
                  ·
                    refine qg (qv_ldm (vs := [(Value.int .i64 ((jN (spU a x) (spA a x)).l)), (Value.int .i64 ((jN (spU a x) (spA a x)).h)), (Value.int .i64 ((jN (spU a x) (spA a x)).s))]) Try.agg23 rfl (inOc (k := 7) rfl) rfl rfl) (want_f g12 rfl rfl rfl) ?_
                    refine qg (qv_ldm (vs := [(Value.int .i64 (a.l)), (Value.int .i64 (a.h)), (Value.int .i64 (a.s))]) Try.agg23 rfl (inOc (k := 1) rfl) rfl rfl) (want_f g12 rfl rfl rfl) ?_
                    refine qg (qv_neqs Try.eq23 [(jN (spU a x) (spA a x)).l, (jN (spU a x) (spA a x)).h, (jN (spU a x) (spA a x)).s] [a.l, a.h, a.s] rfl rfl rfl rfl rfl rfl eq3) (want_f g12 rfl rfl rfl) ?_
                    refine qq (qv_pick_f g12 rfl (rfl : ev _ _ = (Value.bool (decide (¬ (((jN (spU a x) (spA a x)).l) = a.l ∧ ((jN (spU a x) (spA a x)).h) = a.h ∧ ((jN (spU a x) (spA a x)).s) = a.s)))))) ?_
                    refine qq (qv_mv (Value.bool (decide (¬ (((jN (spU a x) (spA a x)).l) = a.l ∧ ((jN (spU a x) (spA a x)).h) = a.h ∧ ((jN (spU a x) (spA a x)).s) = a.s)))) rfl) ?_
                    by_cases g13 : ¬ (((jN (spU a x) (spA a x)).l) = a.l ∧ ((jN (spU a x) (spA a x)).h) = a.h ∧ ((jN (spU a x) (spA a x)).s) = a.s)
                    ·
                      exact absurd (nm_iff.1 s4) g13
                    ·
                      refine qg (qv_ldm (vs := [(Value.int .i64 ((spU a x).l)), (Value.int .i64 ((spU a x).h)), (Value.int .i64 ((spU a x).s))]) Try.agg23 rfl (inOc (k := 5) rfl) rfl rfl) (want_f g13 rfl rfl rfl) ?_
                      refine qg (qv_call (v := (Value.int .i64 (sizeV (spU a x)))) (Size_c (a := spU a x)) rfl rfl) (want_f g13 rfl rfl rfl) ?_
                      refine qg (qv_ldm (vs := [(Value.int .i64 ((spA a x).l)), (Value.int .i64 ((spA a x).h)), (Value.int .i64 ((spA a x).s))]) Try.agg23 rfl (inOc (k := 6) rfl) rfl rfl) (want_f g13 rfl rfl rfl) ?_
                      refine qg (qv_call (v := (Value.int .i64 (sizeV (spA a x)))) (Size_c (a := spA a x)) rfl rfl) (want_f g13 rfl rfl rfl) ?_
                      refine qg (qv_add rfl rfl (by omega)) (want_f g13 rfl rfl rfl) ?_
                      refine qg (qv_ldm (vs := [(Value.int .i64 (a.l)), (Value.int .i64 (a.h)), (Value.int .i64 (a.s))]) Try.agg23 rfl (inOc (k := 1) rfl) rfl rfl) (want_f g13 rfl rfl rfl) ?_
                      refine qg (qv_call (v := (Value.int .i64 (sizeV a))) (Size_c (a := a)) rfl rfl) (want_f g13 rfl rfl rfl) ?_
                      refine qg (qv_neq rfl rfl) (want_f g13 rfl rfl rfl) ?_
                      refine qq (qv_pick_f g13 rfl (rfl : ev _ _ = (Value.bool (decide (((sizeV (spU a x)) + (sizeV (spA a x))) ≠ (sizeV a)))))) ?_
                      refine qops_nil ?_
                      refine vc_if rfl (fun c5 => ?_) (fun c5 => ?_)
                      ·
                        exact absurd s5 c5
                      ·
                        refine vc_skip ?_
                        refine vc_seq ?_
                        refine vc_region ?_
                        refine oq (qv_ldm (vs := [(Value.int .i64 (a.l)), (Value.int .i64 (a.h)), (Value.int .i64 (a.s))]) Try.agg23 rfl (inOc (k := 1) rfl) rfl rfl) ?_
                        refine oq (qv_mv (Value.int .i64 x) rfl) ?_
                        refine oq (qv_mv (Value.int .i64 hi) rfl) ?_
                        refine oq (qv_call (v := (Value.tuple #[(Value.agg #[(Value.int .i64 ((clN a x hi).l)), (Value.int .i64 ((clN a x hi).h)), (Value.int .i64 ((clN a x hi).s))]), (Value.int .i64 (clE a x hi))])) (Clamp_c (a := a)) rfl rfl) ?_
                        refine oq (qv_mv (Value.tuple #[(Value.agg #[(Value.int .i64 ((clN a x hi).l)), (Value.int .i64 ((clN a x hi).h)), (Value.int .i64 ((clN a x hi).s))]), (Value.int .i64 (clE a x hi))]) rfl) ?_
                        refine oq (qv_ext (Value.agg #[(Value.int .i64 ((clN a x hi).l)), (Value.int .i64 ((clN a x hi).h)), (Value.int .i64 ((clN a x hi).s))]) rfl rfl) ?_
                        refine oq (qv_ext (Value.int .i64 (clE a x hi)) rfl rfl) ?_
                        refine ops_alloc Try.ti23 rfl (fun b26 => ?_)
                        refine ops_stm (k := 8) (off := 0) (v := (Value.agg #[(Value.int .i64 ((clN a x hi).l)), (Value.int .i64 ((clN a x hi).h)), (Value.int .i64 ((clN a x hi).s))])) (vs := [(Value.int .i64 ((clN a x hi).l)), (Value.int .i64 ((clN a x hi).h)), (Value.int .i64 ((clN a x hi).s))]) (cs := [(Value.int .i64 0), (Value.int .i64 0), (Value.int .i64 0)]) (cs' := [(Value.int .i64 ((clN a x hi).l)), (Value.int .i64 ((clN a x hi).h)), (Value.int .i64 ((clN a x hi).s))]) Try.size23 rfl rfl rfl rfl rfl rfl (Nat.le_of_ble_eq_true rfl) rfl ?_
                        refine oq (qv_as (Value.int .i64 (clE a x hi)) rfl) ?_
                        refine ops_nil ?_
                        refine vc_seq ?_
                        refine vc_seq ?_
                        refine vc_res (σ' := [(Arr 64 b1 [(Value.int .i64 (a.l)), (Value.int .i64 (a.h)), (Value.int .i64 (a.s)), (Value.int .i64 (b.l)), (Value.int .i64 (b.h)), (Value.int .i64 (b.s)), (Value.int .i64 (c.l)), (Value.int .i64 (c.h)), (Value.int .i64 (c.s))]), (Arr 23 z7 [(Value.int .i64 (a.l)), (Value.int .i64 (a.h)), (Value.int .i64 (a.s))]), (Arr 23 z8 [(Value.int .i64 (b.l)), (Value.int .i64 (b.h)), (Value.int .i64 (b.s))]), (Arr 23 z9 [(Value.int .i64 (c.l)), (Value.int .i64 (c.h)), (Value.int .i64 (c.s))]), (Arr 23 b17 [(Value.int .i64 ((jN a b).l)), (Value.int .i64 ((jN a b).h)), (Value.int .i64 ((jN a b).s))]), (Arr 23 b23 [(Value.int .i64 ((spU a x).l)), (Value.int .i64 ((spU a x).h)), (Value.int .i64 ((spU a x).s))]), (Arr 23 b24 [(Value.int .i64 ((spA a x).l)), (Value.int .i64 ((spA a x).h)), (Value.int .i64 ((spA a x).s))]), (Arr 23 b25 [(Value.int .i64 ((jN (spU a x) (spA a x)).l)), (Value.int .i64 ((jN (spU a x) (spA a x)).h)), (Value.int .i64 ((jN (spU a x) (spA a x)).s))]), (Arr 23 b26 [(Value.int .i64 ((clN a x hi).l)), (Value.int .i64 ((clN a x hi).h)), (Value.int .i64 ((clN a x hi).s))])]) rfl ?_
                        refine vc_region ?_
                        refine oq (qv_mv (Value.int .i64 (clE a x hi)) rfl) ?_
                        refine oq (qv_neq rfl rfl) ?_
                        refine ops_nil ?_
                        refine vc_if rfl (fun c6 => ?_) (fun c6 => ?_)
                        ·
                          refine vc_seq ?_
                          have hz := nm_iff.1 (clN_1 (a := a) (lo := x) (hi := hi) (by assumption))
                          refine vc_region ?_
                          refine oq (qv_ldm (vs := [(Value.int .i64 ((clN a x hi).l)), (Value.int .i64 ((clN a x hi).h)), (Value.int .i64 ((clN a x hi).s))]) Try.agg23 rfl (inOc (k := 8) rfl) rfl rfl) ?_
                          refine oq (qv_build (out := [(Value.int .i64 0), (Value.int .i64 0), (Value.int .i64 0)]) Try.build23 [] rfl rfl) ?_
                          refine oq (qv_eqls Try.eq23 [(clN a x hi).l, (clN a x hi).h, (clN a x hi).s] [0, 0, 0] rfl rfl rfl rfl rfl rfl eq3) ?_
                          refine oq (qv_as (Value.bool (decide (((clN a x hi).l) = 0 ∧ ((clN a x hi).h) = 0 ∧ ((clN a x hi).s) = 0))) rfl) ?_
                          refine ops_nil ?_
                          refine vc_ret ?_
                          exact rq1 (Value.bool true) (congrArg Value.bool (decide_eq_true (show (((clN a x hi).l) = 0 ∧ ((clN a x hi).h) = 0 ∧ ((clN a x hi).s) = 0) from by first | exact hz | exact nm_iff.1 e2))) rfl
                        ·
                          refine vc_skip ?_
                          refine vc_seq ?_
                          have hc0 : clE a x hi = 0 := by omega
                          have hck : clOk x hi := by apply Decidable.not_not.1; intro q; have := clE_3 ha q; omega
                          have hcn := clN_0 hc0
                          obtain ⟨c1, c2, c3⟩ := hck
                          have hcv : vld (clN a x hi) := by rw [hcn]; exact (cl_least ha c2 c3 c1).ok
                          have e1 := clE_0 hcv ⟨c1, c2, c3⟩
                          have e2 : clN (clN a x hi) x hi = clN a x hi := by rw [clN_0 e1, hcn]; exact cl_twice ha ⟨c1, c2, c3⟩
                          refine vc_region ?_
                          refine oq (qv_ldm (vs := [(Value.int .i64 ((clN a x hi).l)), (Value.int .i64 ((clN a x hi).h)), (Value.int .i64 ((clN a x hi).s))]) Try.agg23 rfl (inOc (k := 8) rfl) rfl rfl) ?_
                          refine oq (qv_mv (Value.int .i64 x) rfl) ?_
                          refine oq (qv_mv (Value.int .i64 hi) rfl) ?_
                          refine oq (qv_call (v := (Value.tuple #[(Value.agg #[(Value.int .i64 ((clN (clN a x hi) x hi).l)), (Value.int .i64 ((clN (clN a x hi) x hi).h)), (Value.int .i64 ((clN (clN a x hi) x hi).s))]), (Value.int .i64 (clE (clN a x hi) x hi))])) (Clamp_c (a := clN a x hi)) rfl rfl) ?_
                          refine oq (qv_mv (Value.tuple #[(Value.agg #[(Value.int .i64 ((clN (clN a x hi) x hi).l)), (Value.int .i64 ((clN (clN a x hi) x hi).h)), (Value.int .i64 ((clN (clN a x hi) x hi).s))]), (Value.int .i64 (clE (clN a x hi) x hi))]) rfl) ?_
                          refine oq (qv_ext (Value.agg #[(Value.int .i64 ((clN (clN a x hi) x hi).l)), (Value.int .i64 ((clN (clN a x hi) x hi).h)), (Value.int .i64 ((clN (clN a x hi) x hi).s))]) rfl rfl) ?_
                          refine oq (qv_ext (Value.int .i64 (clE (clN a x hi) x hi)) rfl rfl) ?_
                          refine ops_alloc Try.ti23 rfl (fun b27 => ?_)
                          refine ops_stm (k := 9) (off := 0) (v := (Value.agg #[(Value.int .i64 ((clN (clN a x hi) x hi).l)), (Value.int .i64 ((clN (clN a x hi) x hi).h)), (Value.int .i64 ((clN (clN a x hi) x hi).s))])) (vs := [(Value.int .i64 ((clN (clN a x hi) x hi).l)), (Value.int .i64 ((clN (clN a x hi) x hi).h)), (Value.int .i64 ((clN (clN a x hi) x hi).s))]) (cs := [(Value.int .i64 0), (Value.int .i64 0), (Value.int .i64 0)]) (cs' := [(Value.int .i64 ((clN (clN a x hi) x hi).l)), (Value.int .i64 ((clN (clN a x hi) x hi).h)), (Value.int .i64 ((clN (clN a x hi) x hi).s))]) Try.size23 rfl rfl rfl rfl rfl rfl (Nat.le_of_ble_eq_true rfl) rfl ?_
                          refine oq (qv_as (Value.int .i64 (clE (clN a x hi) x hi)) rfl) ?_
                          refine ops_nil ?_
                          refine vc_seq ?_
                          refine vc_res (σ' := [(Arr 64 b1 [(Value.int .i64 (a.l)), (Value.int .i64 (a.h)), (Value.int .i64 (a.s)), (Value.int .i64 (b.l)), (Value.int .i64 (b.h)), (Value.int .i64 (b.s)), (Value.int .i64 (c.l)), (Value.int .i64 (c.h)), (Value.int .i64 (c.s))]), (Arr 23 z7 [(Value.int .i64 (a.l)), (Value.int .i64 (a.h)), (Value.int .i64 (a.s))]), (Arr 23 z8 [(Value.int .i64 (b.l)), (Value.int .i64 (b.h)), (Value.int .i64 (b.s))]), (Arr 23 z9 [(Value.int .i64 (c.l)), (Value.int .i64 (c.h)), (Value.int .i64 (c.s))]), (Arr 23 b17 [(Value.int .i64 ((jN a b).l)), (Value.int .i64 ((jN a b).h)), (Value.int .i64 ((jN a b).s))]), (Arr 23 b23 [(Value.int .i64 ((spU a x).l)), (Value.int .i64 ((spU a x).h)), (Value.int .i64 ((spU a x).s))]), (Arr 23 b24 [(Value.int .i64 ((spA a x).l)), (Value.int .i64 ((spA a x).h)), (Value.int .i64 ((spA a x).s))]), (Arr 23 b25 [(Value.int .i64 ((jN (spU a x) (spA a x)).l)), (Value.int .i64 ((jN (spU a x) (spA a x)).h)), (Value.int .i64 ((jN (spU a x) (spA a x)).s))]), (Arr 23 b26 [(Value.int .i64 ((clN a x hi).l)), (Value.int .i64 ((clN a x hi).h)), (Value.int .i64 ((clN a x hi).s))]), (Arr 23 b27 [(Value.int .i64 ((clN (clN a x hi) x hi).l)), (Value.int .i64 ((clN (clN a x hi) x hi).h)), (Value.int .i64 ((clN (clN a x hi) x hi).s))])]) rfl ?_
                          refine vc_region ?_
                          refine oq (qv_mv (Value.int .i64 (clE (clN a x hi) x hi)) rfl) ?_
                          refine oq (qv_eql rfl rfl) ?_
                          refine oq (qv_mv (Value.bool (decide ((clE (clN a x hi) x hi) = 0))) rfl) ?_
                          by_cases g14 : (clE (clN a x hi) x hi) = 0
                          ·
                            refine og (qv_ldm (vs := [(Value.int .i64 ((clN (clN a x hi) x hi).l)), (Value.int .i64 ((clN (clN a x hi) x hi).h)), (Value.int .i64 ((clN (clN a x hi) x hi).s))]) Try.agg23 rfl (inOc (k := 9) rfl) rfl rfl) (want_t g14 rfl rfl rfl) ?_
                            refine og (qv_ldm (vs := [(Value.int .i64 ((clN a x hi).l)), (Value.int .i64 ((clN a x hi).h)), (Value.int .i64 ((clN a x hi).s))]) Try.agg23 rfl (inOc (k := 8) rfl) rfl rfl) (want_t g14 rfl rfl rfl) ?_
                            refine og (qv_eqls Try.eq23 [(clN (clN a x hi) x hi).l, (clN (clN a x hi) x hi).h, (clN (clN a x hi) x hi).s] [(clN a x hi).l, (clN a x hi).h, (clN a x hi).s] rfl rfl rfl rfl rfl rfl eq3) (want_t g14 rfl rfl rfl) ?_
                            refine oq (qv_pick_t g14 rfl (rfl : ev _ _ = (Value.bool (decide (((clN (clN a x hi) x hi).l) = ((clN a x hi).l) ∧ ((clN (clN a x hi) x hi).h) = ((clN a x hi).h) ∧ ((clN (clN a x hi) x hi).s) = ((clN a x hi).s)))))) ?_
                            refine oq (qv_as (Value.bool (decide (((clN (clN a x hi) x hi).l) = ((clN a x hi).l) ∧ ((clN (clN a x hi) x hi).h) = ((clN a x hi).h) ∧ ((clN (clN a x hi) x hi).s) = ((clN a x hi).s)))) rfl) ?_
                            refine ops_nil ?_
                            refine vc_ret ?_
                            exact rq1 (Value.bool true) (congrArg Value.bool (decide_eq_true (show (((clN (clN a x hi) x hi).l) = ((clN a x hi).l) ∧ ((clN (clN a x hi) x hi).h) = ((clN a x hi).h) ∧ ((clN (clN a x hi) x hi).s) = ((clN a x hi).s)) from by first | exact hz | exact nm_iff.1 e2))) rfl
                          ·
                            exact absurd e1 g14
            ·
              refine os (want_tn g5 rfl rfl rfl) ?_
              refine os (want_tn g5 rfl rfl rfl) ?_
              refine os (want_tn g5 rfl rfl rfl) ?_
              refine og (qv_pick_f g5 rfl (rfl : ev _ _ = (Value.bool false))) (want_f g4 rfl rfl rfl) ?_
              refine og (qv_mv (Value.bool false) rfl) (want_f g4 rfl rfl rfl) ?_
              refine os (want_tnc rfl rfl rfl) ?_
              refine os (want_tnc rfl rfl rfl) ?_
              refine os (want_tnc rfl rfl rfl) ?_
              refine os (want_tnc rfl rfl rfl) ?_
              refine og (qv_pick_fc rfl (rfl : ev _ _ = (Value.bool false))) (want_f g4 rfl rfl rfl) ?_
              refine oq (qv_pick_f g4 rfl (rfl : ev _ _ = (Value.bool false))) ?_
              refine ops_nil ?_
              refine vc_ff rfl ?_
              refine vc_skip ?_
              refine vc_seq ?_
              have s0 : spE a = 0 := if_pos ha
              have s1 : spU a x = upF a x := if_pos ha
              have s2 : spA a x = abF a x := if_pos ha
              have hu := up_ok ha x
              have hv := ab_ok ha x
              have hjj : jOk (spU a x) (spA a x) := by rw [s1, s2]; exact ⟨hu.1, hv.1⟩
              have s3 := jE_1 hjj
              have s4 : jN (spU a x) (spA a x) = a := by rw [jN_1 hjj, s1, s2]; exact join_parts ha x
              have s5 : sizeV (spU a x) + sizeV (spA a x) = sizeV a := by rw [s1, s2, sizeV_1 hu.1, sizeV_1 hv.1, sizeV_1 ha]; exact size_parts ha x
              have s6 : 0 ≤ sizeV (spU a x) ∧ sizeV (spU a x) ≤ 2199023255553 := by rw [s1, sizeV_1 hu.1]; exact size_bd hu.1
              have s7 : 0 ≤ sizeV (spA a x) ∧ sizeV (spA a x) ≤ 2199023255553 := by rw [s2, sizeV_1 hv.1]; exact size_bd hv.1
              refine vc_region ?_
              refine oq (qv_ldm (vs := [(Value.int .i64 (a.l)), (Value.int .i64 (a.h)), (Value.int .i64 (a.s))]) Try.agg23 rfl (inOc (k := 1) rfl) rfl rfl) ?_
              refine oq (qv_mv (Value.int .i64 x) rfl) ?_
              refine oq (qv_call (v := (Value.tuple #[(Value.agg #[(Value.int .i64 ((spU a x).l)), (Value.int .i64 ((spU a x).h)), (Value.int .i64 ((spU a x).s))]), (Value.agg #[(Value.int .i64 ((spA a x).l)), (Value.int .i64 ((spA a x).h)), (Value.int .i64 ((spA a x).s))]), (Value.int .i64 (spE a))])) (Split_c (a := a)) rfl rfl) ?_
              refine oq (qv_mv (Value.tuple #[(Value.agg #[(Value.int .i64 ((spU a x).l)), (Value.int .i64 ((spU a x).h)), (Value.int .i64 ((spU a x).s))]), (Value.agg #[(Value.int .i64 ((spA a x).l)), (Value.int .i64 ((spA a x).h)), (Value.int .i64 ((spA a x).s))]), (Value.int .i64 (spE a))]) rfl) ?_
              refine oq (qv_ext (Value.agg #[(Value.int .i64 ((spU a x).l)), (Value.int .i64 ((spU a x).h)), (Value.int .i64 ((spU a x).s))]) rfl rfl) ?_
              refine oq (qv_ext (Value.agg #[(Value.int .i64 ((spA a x).l)), (Value.int .i64 ((spA a x).h)), (Value.int .i64 ((spA a x).s))]) rfl rfl) ?_
              refine oq (qv_ext (Value.int .i64 (spE a)) rfl rfl) ?_
              refine ops_alloc Try.ti23 rfl (fun b28 => ?_)
              refine ops_alloc Try.ti23 rfl (fun b29 => ?_)
              refine ops_stm (k := 5) (off := 0) (v := (Value.agg #[(Value.int .i64 ((spU a x).l)), (Value.int .i64 ((spU a x).h)), (Value.int .i64 ((spU a x).s))])) (vs := [(Value.int .i64 ((spU a x).l)), (Value.int .i64 ((spU a x).h)), (Value.int .i64 ((spU a x).s))]) (cs := [(Value.int .i64 0), (Value.int .i64 0), (Value.int .i64 0)]) (cs' := [(Value.int .i64 ((spU a x).l)), (Value.int .i64 ((spU a x).h)), (Value.int .i64 ((spU a x).s))]) Try.size23 rfl rfl rfl rfl rfl rfl (Nat.le_of_ble_eq_true rfl) rfl ?_
              refine ops_stm (k := 6) (off := 0) (v := (Value.agg #[(Value.int .i64 ((spA a x).l)), (Value.int .i64 ((spA a x).h)), (Value.int .i64 ((spA a x).s))])) (vs := [(Value.int .i64 ((spA a x).l)), (Value.int .i64 ((spA a x).h)), (Value.int .i64 ((spA a x).s))]) (cs := [(Value.int .i64 0), (Value.int .i64 0), (Value.int .i64 0)]) (cs' := [(Value.int .i64 ((spA a x).l)), (Value.int .i64 ((spA a x).h)), (Value.int .i64 ((spA a x).s))]) Try.size23 rfl rfl rfl rfl rfl rfl (Nat.le_of_ble_eq_true rfl) rfl ?_
              refine oq (qv_as (Value.int .i64 (spE a)) rfl) ?_
              refine ops_nil ?_
              refine vc_seq ?_
              refine vc_res (σ' := [(Arr 64 b1 [(Value.int .i64 (a.l)), (Value.int .i64 (a.h)), (Value.int .i64 (a.s)), (Value.int .i64 (b.l)), (Value.int .i64 (b.h)), (Value.int .i64 (b.s)), (Value.int .i64 (c.l)), (Value.int .i64 (c.h)), (Value.int .i64 (c.s))]), (Arr 23 z7 [(Value.int .i64 (a.l)), (Value.int .i64 (a.h)), (Value.int .i64 (a.s))]), (Arr 23 z8 [(Value.int .i64 (b.l)), (Value.int .i64 (b.h)), (Value.int .i64 (b.s))]), (Arr 23 z9 [(Value.int .i64 (c.l)), (Value.int .i64 (c.h)), (Value.int .i64 (c.s))]), (Arr 23 b17 [(Value.int .i64 ((jN a b).l)), (Value.int .i64 ((jN a b).h)), (Value.int .i64 ((jN a b).s))]), (Arr 23 b28 [(Value.int .i64 ((spU a x).l)), (Value.int .i64 ((spU a x).h)), (Value.int .i64 ((spU a x).s))]), (Arr 23 b29 [(Value.int .i64 ((spA a x).l)), (Value.int .i64 ((spA a x).h)), (Value.int .i64 ((spA a x).s))])]) rfl ?_
              refine vc_region ?_
              refine oq (qv_ldm (vs := [(Value.int .i64 ((spU a x).l)), (Value.int .i64 ((spU a x).h)), (Value.int .i64 ((spU a x).s))]) Try.agg23 rfl (inOc (k := 5) rfl) rfl rfl) ?_
              refine oq (qv_ldm (vs := [(Value.int .i64 ((spA a x).l)), (Value.int .i64 ((spA a x).h)), (Value.int .i64 ((spA a x).s))]) Try.agg23 rfl (inOc (k := 6) rfl) rfl rfl) ?_
              refine oq (qv_call (v := (Value.tuple #[(Value.agg #[(Value.int .i64 ((jN (spU a x) (spA a x)).l)), (Value.int .i64 ((jN (spU a x) (spA a x)).h)), (Value.int .i64 ((jN (spU a x) (spA a x)).s))]), (Value.int .i64 (jE (spU a x) (spA a x)))])) (Join_c (a := spU a x) (b := spA a x)) rfl rfl) ?_
              refine oq (qv_mv (Value.tuple #[(Value.agg #[(Value.int .i64 ((jN (spU a x) (spA a x)).l)), (Value.int .i64 ((jN (spU a x) (spA a x)).h)), (Value.int .i64 ((jN (spU a x) (spA a x)).s))]), (Value.int .i64 (jE (spU a x) (spA a x)))]) rfl) ?_
              refine oq (qv_ext (Value.agg #[(Value.int .i64 ((jN (spU a x) (spA a x)).l)), (Value.int .i64 ((jN (spU a x) (spA a x)).h)), (Value.int .i64 ((jN (spU a x) (spA a x)).s))]) rfl rfl) ?_
              refine oq (qv_ext (Value.int .i64 (jE (spU a x) (spA a x))) rfl rfl) ?_
              refine ops_alloc Try.ti23 rfl (fun b30 => ?_)
              refine ops_stm (k := 7) (off := 0) (v := (Value.agg #[(Value.int .i64 ((jN (spU a x) (spA a x)).l)), (Value.int .i64 ((jN (spU a x) (spA a x)).h)), (Value.int .i64 ((jN (spU a x) (spA a x)).s))])) (vs := [(Value.int .i64 ((jN (spU a x) (spA a x)).l)), (Value.int .i64 ((jN (spU a x) (spA a x)).h)), (Value.int .i64 ((jN (spU a x) (spA a x)).s))]) (cs := [(Value.int .i64 0), (Value.int .i64 0), (Value.int .i64 0)]) (cs' := [(Value.int .i64 ((jN (spU a x) (spA a x)).l)), (Value.int .i64 ((jN (spU a x) (spA a x)).h)), (Value.int .i64 ((jN (spU a x) (spA a x)).s))]) Try.size23 rfl rfl rfl rfl rfl rfl (Nat.le_of_ble_eq_true rfl) rfl ?_
              refine oq (qv_as (Value.int .i64 (jE (spU a x) (spA a x))) rfl) ?_
              refine ops_nil ?_
              refine vc_seq ?_
              refine vc_seq ?_
              refine vc_res (σ' := [(Arr 64 b1 [(Value.int .i64 (a.l)), (Value.int .i64 (a.h)), (Value.int .i64 (a.s)), (Value.int .i64 (b.l)), (Value.int .i64 (b.h)), (Value.int .i64 (b.s)), (Value.int .i64 (c.l)), (Value.int .i64 (c.h)), (Value.int .i64 (c.s))]), (Arr 23 z7 [(Value.int .i64 (a.l)), (Value.int .i64 (a.h)), (Value.int .i64 (a.s))]), (Arr 23 z8 [(Value.int .i64 (b.l)), (Value.int .i64 (b.h)), (Value.int .i64 (b.s))]), (Arr 23 z9 [(Value.int .i64 (c.l)), (Value.int .i64 (c.h)), (Value.int .i64 (c.s))]), (Arr 23 b17 [(Value.int .i64 ((jN a b).l)), (Value.int .i64 ((jN a b).h)), (Value.int .i64 ((jN a b).s))]), (Arr 23 b28 [(Value.int .i64 ((spU a x).l)), (Value.int .i64 ((spU a x).h)), (Value.int .i64 ((spU a x).s))]), (Arr 23 b29 [(Value.int .i64 ((spA a x).l)), (Value.int .i64 ((spA a x).h)), (Value.int .i64 ((spA a x).s))]), (Arr 23 b30 [(Value.int .i64 ((jN (spU a x) (spA a x)).l)), (Value.int .i64 ((jN (spU a x) (spA a x)).h)), (Value.int .i64 ((jN (spU a x) (spA a x)).s))])]) rfl ?_
              refine vc_region_any Try.mixed (by kernel_rfl) ?_
              refine qq (qv_mv (Value.int .i64 (spE a)) rfl) ?_
              refine qq (qv_neq rfl rfl) ?_
              refine qq (qv_mv (Value.bool (decide ((spE a) ≠ 0))) rfl) ?_
              by_cases g15 : (spE a) ≠ 0
              ·
                exact absurd s0 g15
              ·
                refine qg (qv_mv (Value.int .i64 (jE (spU a x) (spA a x))) rfl) (want_f g15 rfl rfl rfl) ?_
                refine qg (qv_neq rfl rfl) (want_f g15 rfl rfl rfl) ?_
                refine qq (qv_pick_f g15 rfl (rfl : ev _ _ = (Value.bool (decide ((jE (spU a x) (spA a x)) ≠ 0))))) ?_
                refine qq (qv_mv (Value.bool (decide ((jE (spU a x) (spA a x)) ≠ 0))) rfl) ?_
                by_cases g16 : (jE (spU a x) (spA a x)) ≠ 0
                ·
                  exact absurd s3 g16
                ·
                  refine qg (qv_ldm (vs := [(Value.int .i64 ((jN (spU a x) (spA a x)).l)), (Value.int .i64 ((jN (spU a x) (spA a x)).h)), (Value.int .i64 ((jN (spU a x) (spA a x)).s))]) Try.agg23 rfl (inOc (k := 7) rfl) rfl rfl) (want_f g16 rfl rfl rfl) ?_
                  refine qg (qv_ldm (vs := [(Value.int .i64 (a.l)), (Value.int .i64 (a.h)), (Value.int .i64 (a.s))]) Try.agg23 rfl (inOc (k := 1) rfl) rfl rfl) (want_f g16 rfl rfl rfl) ?_
                  refine qg (qv_neqs Try.eq23 [(jN (spU a x) (spA a x)).l, (jN (spU a x) (spA a x)).h, (jN (spU a x) (spA a x)).s] [a.l, a.h, a.s] rfl rfl rfl rfl rfl rfl eq3) (want_f g16 rfl rfl rfl) ?_
                  refine qq (qv_pick_f g16 rfl (rfl : ev _ _ = (Value.bool (decide (¬ (((jN (spU a x) (spA a x)).l) = a.l ∧ ((jN (spU a x) (spA a x)).h) = a.h ∧ ((jN (spU a x) (spA a x)).s) = a.s)))))) ?_
                  refine qq (qv_mv (Value.bool (decide (¬ (((jN (spU a x) (spA a x)).l) = a.l ∧ ((jN (spU a x) (spA a x)).h) = a.h ∧ ((jN (spU a x) (spA a x)).s) = a.s)))) rfl) ?_
                  by_cases g17 : ¬ (((jN (spU a x) (spA a x)).l) = a.l ∧ ((jN (spU a x) (spA a x)).h) = a.h ∧ ((jN (spU a x) (spA a x)).s) = a.s)
                  ·
                    exact absurd (nm_iff.1 s4) g17
                  ·
                    refine qg (qv_ldm (vs := [(Value.int .i64 ((spU a x).l)), (Value.int .i64 ((spU a x).h)), (Value.int .i64 ((spU a x).s))]) Try.agg23 rfl (inOc (k := 5) rfl) rfl rfl) (want_f g17 rfl rfl rfl) ?_
                    refine qg (qv_call (v := (Value.int .i64 (sizeV (spU a x)))) (Size_c (a := spU a x)) rfl rfl) (want_f g17 rfl rfl rfl) ?_
                    refine qg (qv_ldm (vs := [(Value.int .i64 ((spA a x).l)), (Value.int .i64 ((spA a x).h)), (Value.int .i64 ((spA a x).s))]) Try.agg23 rfl (inOc (k := 6) rfl) rfl rfl) (want_f g17 rfl rfl rfl) ?_
                    refine qg (qv_call (v := (Value.int .i64 (sizeV (spA a x)))) (Size_c (a := spA a x)) rfl rfl) (want_f g17 rfl rfl rfl) ?_
                    refine qg (qv_add rfl rfl (by omega)) (want_f g17 rfl rfl rfl) ?_
                    refine qg (qv_ldm (vs := [(Value.int .i64 (a.l)), (Value.int .i64 (a.h)), (Value.int .i64 (a.s))]) Try.agg23 rfl (inOc (k := 1) rfl) rfl rfl) (want_f g17 rfl rfl rfl) ?_
                    refine qg (qv_call (v := (Value.int .i64 (sizeV a))) (Size_c (a := a)) rfl rfl) (want_f g17 rfl rfl rfl) ?_
                    refine qg (qv_neq rfl rfl) (want_f g17 rfl rfl rfl) ?_
                    refine qq (qv_pick_f g17 rfl (rfl : ev _ _ = (Value.bool (decide (((sizeV (spU a x)) + (sizeV (spA a x))) ≠ (sizeV a)))))) ?_
                    refine qops_nil ?_
                    refine vc_if rfl (fun c7 => ?_) (fun c7 => ?_)
                    ·
                      exact absurd s5 c7
                    ·
                      refine vc_skip ?_
                      refine vc_seq ?_
                      refine vc_region ?_
                      refine oq (qv_ldm (vs := [(Value.int .i64 (a.l)), (Value.int .i64 (a.h)), (Value.int .i64 (a.s))]) Try.agg23 rfl (inOc (k := 1) rfl) rfl rfl) ?_
                      refine oq (qv_mv (Value.int .i64 x) rfl) ?_
                      refine oq (qv_mv (Value.int .i64 hi) rfl) ?_
                      refine oq (qv_call (v := (Value.tuple #[(Value.agg #[(Value.int .i64 ((clN a x hi).l)), (Value.int .i64 ((clN a x hi).h)), (Value.int .i64 ((clN a x hi).s))]), (Value.int .i64 (clE a x hi))])) (Clamp_c (a := a)) rfl rfl) ?_
                      refine oq (qv_mv (Value.tuple #[(Value.agg #[(Value.int .i64 ((clN a x hi).l)), (Value.int .i64 ((clN a x hi).h)), (Value.int .i64 ((clN a x hi).s))]), (Value.int .i64 (clE a x hi))]) rfl) ?_
                      refine oq (qv_ext (Value.agg #[(Value.int .i64 ((clN a x hi).l)), (Value.int .i64 ((clN a x hi).h)), (Value.int .i64 ((clN a x hi).s))]) rfl rfl) ?_
                      refine oq (qv_ext (Value.int .i64 (clE a x hi)) rfl rfl) ?_
                      refine ops_alloc Try.ti23 rfl (fun b31 => ?_)
                      refine ops_stm (k := 8) (off := 0) (v := (Value.agg #[(Value.int .i64 ((clN a x hi).l)), (Value.int .i64 ((clN a x hi).h)), (Value.int .i64 ((clN a x hi).s))])) (vs := [(Value.int .i64 ((clN a x hi).l)), (Value.int .i64 ((clN a x hi).h)), (Value.int .i64 ((clN a x hi).s))]) (cs := [(Value.int .i64 0), (Value.int .i64 0), (Value.int .i64 0)]) (cs' := [(Value.int .i64 ((clN a x hi).l)), (Value.int .i64 ((clN a x hi).h)), (Value.int .i64 ((clN a x hi).s))]) Try.size23 rfl rfl rfl rfl rfl rfl (Nat.le_of_ble_eq_true rfl) rfl ?_
                      refine oq (qv_as (Value.int .i64 (clE a x hi)) rfl) ?_
                      refine ops_nil ?_
                      refine vc_seq ?_
                      refine vc_seq ?_
                      refine vc_res (σ' := [(Arr 64 b1 [(Value.int .i64 (a.l)), (Value.int .i64 (a.h)), (Value.int .i64 (a.s)), (Value.int .i64 (b.l)), (Value.int .i64 (b.h)), (Value.int .i64 (b.s)), (Value.int .i64 (c.l)), (Value.int .i64 (c.h)), (Value.int .i64 (c.s))]), (Arr 23 z7 [(Value.int .i64 (a.l)), (Value.int .i64 (a.h)), (Value.int .i64 (a.s))]), (Arr 23 z8 [(Value.int .i64 (b.l)), (Value.int .i64 (b.h)), (Value.int .i64 (b.s))]), (Arr 23 z9 [(Value.int .i64 (c.l)), (Value.int .i64 (c.h)), (Value.int .i64 (c.s))]), (Arr 23 b17 [(Value.int .i64 ((jN a b).l)), (Value.int .i64 ((jN a b).h)), (Value.int .i64 ((jN a b).s))]), (Arr 23 b28 [(Value.int .i64 ((spU a x).l)), (Value.int .i64 ((spU a x).h)), (Value.int .i64 ((spU a x).s))]), (Arr 23 b29 [(Value.int .i64 ((spA a x).l)), (Value.int .i64 ((spA a x).h)), (Value.int .i64 ((spA a x).s))]), (Arr 23 b30 [(Value.int .i64 ((jN (spU a x) (spA a x)).l)), (Value.int .i64 ((jN (spU a x) (spA a x)).h)), (Value.int .i64 ((jN (spU a x) (spA a x)).s))]), (Arr 23 b31 [(Value.int .i64 ((clN a x hi).l)), (Value.int .i64 ((clN a x hi).h)), (Value.int .i64 ((clN a x hi).s))])]) rfl ?_
                      refine vc_region ?_
                      refine oq (qv_mv (Value.int .i64 (clE a x hi)) rfl) ?_
                      refine oq (qv_neq rfl rfl) ?_
                      refine ops_nil ?_
                      refine vc_if rfl (fun c8 => ?_) (fun c8 => ?_)
                      ·
                        refine vc_seq ?_
                        have hz := nm_iff.1 (clN_1 (a := a) (lo := x) (hi := hi) (by assumption))
                        refine vc_region ?_
                        refine oq (qv_ldm (vs := [(Value.int .i64 ((clN a x hi).l)), (Value.int .i64 ((clN a x hi).h)), (Value.int .i64 ((clN a x hi).s))]) Try.agg23 rfl (inOc (k := 8) rfl) rfl rfl) ?_
                        refine oq (qv_build (out := [(Value.int .i64 0), (Value.int .i64 0), (Value.int .i64 0)]) Try.build23 [] rfl rfl) ?_
                        refine oq (qv_eqls Try.eq23 [(clN a x hi).l, (clN a x hi).h, (clN a x hi).s] [0, 0, 0] rfl rfl rfl rfl rfl rfl eq3) ?_
                        refine oq (qv_as (Value.bool (decide (((clN a x hi).l) = 0 ∧ ((clN a x hi).h) = 0 ∧ ((clN a x hi).s) = 0))) rfl) ?_
                        refine ops_nil ?_
                        refine vc_ret ?_
                        exact rq1 (Value.bool true) (congrArg Value.bool (decide_eq_true (show (((clN a x hi).l) = 0 ∧ ((clN a x hi).h) = 0 ∧ ((clN a x hi).s) = 0) from by first | exact hz | exact nm_iff.1 e2))) rfl
                      ·
                        refine vc_skip ?_
                        refine vc_seq ?_
                        have hc0 : clE a x hi = 0 := by omega
                        have hck : clOk x hi := by apply Decidable.not_not.1; intro q; have := clE_3 ha q; omega
                        have hcn := clN_0 hc0
                        obtain ⟨c1, c2, c3⟩ := hck
                        have hcv : vld (clN a x hi) := by rw [hcn]; exact (cl_least ha c2 c3 c1).ok
                        have e1 := clE_0 hcv ⟨c1, c2, c3⟩
                        have e2 : clN (clN a x hi) x hi = clN a x hi := by rw [clN_0 e1, hcn]; exact cl_twice ha ⟨c1, c2, c3⟩
                        refine vc_region ?_
                        refine oq (qv_ldm (vs := [(Value.int .i64 ((clN a x hi).l)), (Value.int .i64 ((clN a x hi).h)), (Value.int .i64 ((clN a x hi).s))]) Try.agg23 rfl (inOc (k := 8) rfl) rfl rfl) ?_
                        refine oq (qv_mv (Value.int .i64 x) rfl) ?_
                        refine oq (qv_mv (Value.int .i64 hi) rfl) ?_
                        refine oq (qv_call (v := (Value.tuple #[(Value.agg #[(Value.int .i64 ((clN (clN a x hi) x hi).l)), (Value.int .i64 ((clN (clN a x hi) x hi).h)), (Value.int .i64 ((clN (clN a x hi) x hi).s))]), (Value.int .i64 (clE (clN a x hi) x hi))])) (Clamp_c (a := clN a x hi)) rfl rfl) ?_
                        refine oq (qv_mv (Value.tuple #[(Value.agg #[(Value.int .i64 ((clN (clN a x hi) x hi).l)), (Value.int .i64 ((clN (clN a x hi) x hi).h)), (Value.int .i64 ((clN (clN a x hi) x hi).s))]), (Value.int .i64 (clE (clN a x hi) x hi))]) rfl) ?_
                        refine oq (qv_ext (Value.agg #[(Value.int .i64 ((clN (clN a x hi) x hi).l)), (Value.int .i64 ((clN (clN a x hi) x hi).h)), (Value.int .i64 ((clN (clN a x hi) x hi).s))]) rfl rfl) ?_
                        refine oq (qv_ext (Value.int .i64 (clE (clN a x hi) x hi)) rfl rfl) ?_
                        refine ops_alloc Try.ti23 rfl (fun b32 => ?_)
                        refine ops_stm (k := 9) (off := 0) (v := (Value.agg #[(Value.int .i64 ((clN (clN a x hi) x hi).l)), (Value.int .i64 ((clN (clN a x hi) x hi).h)), (Value.int .i64 ((clN (clN a x hi) x hi).s))])) (vs := [(Value.int .i64 ((clN (clN a x hi) x hi).l)), (Value.int .i64 ((clN (clN a x hi) x hi).h)), (Value.int .i64 ((clN (clN a x hi) x hi).s))]) (cs := [(Value.int .i64 0), (Value.int .i64 0), (Value.int .i64 0)]) (cs' := [(Value.int .i64 ((clN (clN a x hi) x hi).l)), (Value.int .i64 ((clN (clN a x hi) x hi).h)), (Value.int .i64 ((clN (clN a x hi) x hi).s))]) Try.size23 rfl rfl rfl rfl rfl rfl (Nat.le_of_ble_eq_true rfl) rfl ?_
                        refine oq (qv_as (Value.int .i64 (clE (clN a x hi) x hi)) rfl) ?_
                        refine ops_nil ?_
                        refine vc_seq ?_
                        refine vc_res (σ' := [(Arr 64 b1 [(Value.int .i64 (a.l)), (Value.int .i64 (a.h)), (Value.int .i64 (a.s)), (Value.int .i64 (b.l)), (Value.int .i64 (b.h)), (Value.int .i64 (b.s)), (Value.int .i64 (c.l)), (Value.int .i64 (c.h)), (Value.int .i64 (c.s))]), (Arr 23 z7 [(Value.int .i64 (a.l)), (Value.int .i64 (a.h)), (Value.int .i64 (a.s))]), (Arr 23 z8 [(Value.int .i64 (b.l)), (Value.int .i64 (b.h)), (Value.int .i64 (b.s))]), (Arr 23 z9 [(Value.int .i64 (c.l)), (Value.int .i64 (c.h)), (Value.int .i64 (c.s))]), (Arr 23 b17 [(Value.int .i64 ((jN a b).l)), (Value.int .i64 ((jN a b).h)), (Value.int .i64 ((jN a b).s))]), (Arr 23 b28 [(Value.int .i64 ((spU a x).l)), (Value.int .i64 ((spU a x).h)), (Value.int .i64 ((spU a x).s))]), (Arr 23 b29 [(Value.int .i64 ((spA a x).l)), (Value.int .i64 ((spA a x).h)), (Value.int .i64 ((spA a x).s))]), (Arr 23 b30 [(Value.int .i64 ((jN (spU a x) (spA a x)).l)), (Value.int .i64 ((jN (spU a x) (spA a x)).h)), (Value.int .i64 ((jN (spU a x) (spA a x)).s))]), (Arr 23 b31 [(Value.int .i64 ((clN a x hi).l)), (Value.int .i64 ((clN a x hi).h)), (Value.int .i64 ((clN a x hi).s))]), (Arr 23 b32 [(Value.int .i64 ((clN (clN a x hi) x hi).l)), (Value.int .i64 ((clN (clN a x hi) x hi).h)), (Value.int .i64 ((clN (clN a x hi) x hi).s))])]) rfl ?_
                        refine vc_region ?_
                        refine oq (qv_mv (Value.int .i64 (clE (clN a x hi) x hi)) rfl) ?_
                        refine oq (qv_eql rfl rfl) ?_
                        refine oq (qv_mv (Value.bool (decide ((clE (clN a x hi) x hi) = 0))) rfl) ?_
                        by_cases g18 : (clE (clN a x hi) x hi) = 0
                        ·
                          refine og (qv_ldm (vs := [(Value.int .i64 ((clN (clN a x hi) x hi).l)), (Value.int .i64 ((clN (clN a x hi) x hi).h)), (Value.int .i64 ((clN (clN a x hi) x hi).s))]) Try.agg23 rfl (inOc (k := 9) rfl) rfl rfl) (want_t g18 rfl rfl rfl) ?_
                          refine og (qv_ldm (vs := [(Value.int .i64 ((clN a x hi).l)), (Value.int .i64 ((clN a x hi).h)), (Value.int .i64 ((clN a x hi).s))]) Try.agg23 rfl (inOc (k := 8) rfl) rfl rfl) (want_t g18 rfl rfl rfl) ?_
                          refine og (qv_eqls Try.eq23 [(clN (clN a x hi) x hi).l, (clN (clN a x hi) x hi).h, (clN (clN a x hi) x hi).s] [(clN a x hi).l, (clN a x hi).h, (clN a x hi).s] rfl rfl rfl rfl rfl rfl eq3) (want_t g18 rfl rfl rfl) ?_
                          refine oq (qv_pick_t g18 rfl (rfl : ev _ _ = (Value.bool (decide (((clN (clN a x hi) x hi).l) = ((clN a x hi).l) ∧ ((clN (clN a x hi) x hi).h) = ((clN a x hi).h) ∧ ((clN (clN a x hi) x hi).s) = ((clN a x hi).s)))))) ?_
                          refine oq (qv_as (Value.bool (decide (((clN (clN a x hi) x hi).l) = ((clN a x hi).l) ∧ ((clN (clN a x hi) x hi).h) = ((clN a x hi).h) ∧ ((clN (clN a x hi) x hi).s) = ((clN a x hi).s)))) rfl) ?_
                          refine ops_nil ?_
                          refine vc_ret ?_
                          exact rq1 (Value.bool true) (congrArg Value.bool (decide_eq_true (show (((clN (clN a x hi) x hi).l) = ((clN a x hi).l) ∧ ((clN (clN a x hi) x hi).h) = ((clN a x hi).h) ∧ ((clN (clN a x hi) x hi).s) = ((clN a x hi).s)) from by first | exact hz | exact nm_iff.1 e2))) rfl
                        ·
                          exact absurd e1 g18

theorem NumericLeast_c {V : HV} {a1 a2 a3 b1 b2 b3 c1 c2 c3 x hi : Int} : FnC Try.prog 10 [Value.agg #[.int .i64 a1, .int .i64 a2, .int .i64 a3, .int .i64 b1, .int .i64 b2, .int .i64 b3, .int .i64 c1, .int .i64 c2, .int .i64 c3], .int .i64 x, .int .i64 hi] V [] (fun v _ _ => v = .bool true) := NumericLeast_n (a := ⟨a1, a2, a3⟩) (b := ⟨b1, b2, b3⟩) (c := ⟨c1, c2, c3⟩)
end Go.Proofs.Ytapkilaikcihgaa
