/- Walks of numeric: what each function returns. Printed by a program out of notes. -/
import Derived.Test.YtapkilaikcihgaaNc
namespace Go.Proofs.Ytapkilaikcihgaa
open Go.Vc
open Classical

set_option maxRecDepth 100000 in
set_option maxHeartbeats 4000000 in
theorem NumericForms_c {V : HV} {al ah ax tl th ts : Int} {x : Value} {xs : List Int} (hs : Ints .i64 V x xs) :
    FnC Try.prog 5 [(Value.agg #[(Value.int .i64 al), (Value.int .i64 ah), (Value.int .i64 ax)]), (Value.agg #[(Value.int .i64 tl), (Value.int .i64 th), (Value.int .i64 ts)]), x] V [] (fun v _ _ => v = (Value.bool true)) := by
  refine fn_intro (N := 137) Try.func5 (by kernel_rfl) rfl rfl rfl (Nat.le_of_ble_eq_true rfl) ?_
  intro w0 D
  have hbd := hs.bound
  refine vc_seq ?_
  refine vc_region ?_
  refine ops_box (v := (Value.agg #[(Value.int .i64 al), (Value.int .i64 ah), (Value.int .i64 ax)])) (cs := [(Value.int .i64 al), (Value.int .i64 ah), (Value.int .i64 ax)]) rfl rfl (fun b1 => ?_)
  refine ops_box (v := (Value.agg #[(Value.int .i64 tl), (Value.int .i64 th), (Value.int .i64 ts)])) (cs := [(Value.int .i64 tl), (Value.int .i64 th), (Value.int .i64 ts)]) rfl rfl (fun b2 => ?_)
  refine oq (qv_as (Value.bool false) rfl) ?_
  refine ops_nil ?_
  refine vc_seq ?_
  refine vc_seq ?_
  refine vc_res (σ' := [(Arr 23 b1 [(Value.int .i64 al), (Value.int .i64 ah), (Value.int .i64 ax)]), (Arr 36 b2 [(Value.int .i64 tl), (Value.int .i64 th), (Value.int .i64 ts)])]) rfl ?_
  refine vc_region ?_
  refine oq (qv_call (v := (Value.bool true)) (known_c) rfl rfl) ?_
  refine oq (qv_notc rfl) ?_
  refine ops_nil ?_
  refine vc_ff rfl ?_
  refine vc_skip ?_
  refine vc_seq ?_
  refine vc_seq ?_
  refine vc_region ?_
  refine oq (qv_mv x rfl) ?_
  refine oq (qv_lenI Try.underlying37 rfl hs) ?_
  refine oq (qv_gtr rfl rfl) ?_
  refine ops_nil ?_
  refine vc_if rfl (fun c1 => ?_) (fun c1 => ?_)
  ·
    refine vc_seq ?_
    refine vc_region ?_
    refine oq (qv_as (Value.bool true) rfl) ?_
    refine ops_nil ?_
    refine vc_ret ?_
    exact rq1 (Value.bool true) rfl rfl
  ·
    refine vc_skip ?_
    refine vc_seq ?_
    refine vc_region ?_
    refine oq (qv_fa (off := 0) Try.field36_0 rfl) ?_
    refine oq (qv_ldp (v := (Value.int .i64 tl)) Try.plain3 rfl (inOc (k := 1) rfl) rfl) ?_
    refine oq (qv_call (v := (Value.tuple #[(Value.agg #[(Value.int .i64 ((ofN [tl]).l)), (Value.int .i64 ((ofN [tl]).h)), (Value.int .i64 ((ofN [tl]).s))]), (Value.int .i64 (ofE [tl]))])) (One_c) rfl rfl) ?_
    refine oq (qv_mv (Value.tuple #[(Value.agg #[(Value.int .i64 ((ofN [tl]).l)), (Value.int .i64 ((ofN [tl]).h)), (Value.int .i64 ((ofN [tl]).s))]), (Value.int .i64 (ofE [tl]))]) rfl) ?_
    refine oq (qv_ext (Value.agg #[(Value.int .i64 ((ofN [tl]).l)), (Value.int .i64 ((ofN [tl]).h)), (Value.int .i64 ((ofN [tl]).s))]) rfl rfl) ?_
    refine oq (qv_ext (Value.int .i64 (ofE [tl])) rfl rfl) ?_
    refine ops_alloc Try.ti23 rfl (fun b3 => ?_)
    refine ops_stm (k := 2) (off := 0) (v := (Value.agg #[(Value.int .i64 ((ofN [tl]).l)), (Value.int .i64 ((ofN [tl]).h)), (Value.int .i64 ((ofN [tl]).s))])) (vs := [(Value.int .i64 ((ofN [tl]).l)), (Value.int .i64 ((ofN [tl]).h)), (Value.int .i64 ((ofN [tl]).s))]) (cs := [(Value.int .i64 0), (Value.int .i64 0), (Value.int .i64 0)]) (cs' := [(Value.int .i64 ((ofN [tl]).l)), (Value.int .i64 ((ofN [tl]).h)), (Value.int .i64 ((ofN [tl]).s))]) Try.size23 rfl rfl rfl rfl rfl rfl (Nat.le_of_ble_eq_true rfl) rfl ?_
    refine oq (qv_as (Value.int .i64 (ofE [tl])) rfl) ?_
    refine ops_nil ?_
    refine vc_seq ?_
    refine vc_res (σ' := [(Arr 23 b1 [(Value.int .i64 al), (Value.int .i64 ah), (Value.int .i64 ax)]), (Arr 36 b2 [(Value.int .i64 tl), (Value.int .i64 th), (Value.int .i64 ts)]), (Arr 23 b3 [(Value.int .i64 ((ofN [tl]).l)), (Value.int .i64 ((ofN [tl]).h)), (Value.int .i64 ((ofN [tl]).s))])]) rfl ?_
    refine vc_region ?_
    refine oq (qv_fa (off := 0) Try.field36_0 rfl) ?_
    refine oq (qv_ldp (v := (Value.int .i64 tl)) Try.plain3 rfl (inOc (k := 1) rfl) rfl) ?_
    refine ops_lit (n := 1) (s := 1) (cs := [(Value.int .i64 tl)]) Try.underlying37 Try.ti3 (Nat.le_of_ble_eq_true rfl) rfl rfl rfl (Nat.le_of_ble_eq_true rfl) rfl (fun b4 => ?_)
    refine oq (qv_call_own (v := (Value.tuple #[(Value.agg #[(Value.int .i64 ((ofN [tl]).l)), (Value.int .i64 ((ofN [tl]).h)), (Value.int .i64 ((ofN [tl]).s))]), (Value.int .i64 (ofE [tl]))])) (k := 3) (b := b4) rfl (fun Vo hVo hbo => rOf_c (xs := [tl]) (sl_own (n := 1) (c := 1) hbo rfl (Nat.le_refl _) (by omega))) rfl rfl) ?_
    refine oq (qv_mv (Value.tuple #[(Value.agg #[(Value.int .i64 ((ofN [tl]).l)), (Value.int .i64 ((ofN [tl]).h)), (Value.int .i64 ((ofN [tl]).s))]), (Value.int .i64 (ofE [tl]))]) rfl) ?_
    refine oq (qv_ext (Value.agg #[(Value.int .i64 ((ofN [tl]).l)), (Value.int .i64 ((ofN [tl]).h)), (Value.int .i64 ((ofN [tl]).s))]) rfl rfl) ?_
    refine oq (qv_ext (Value.int .i64 (ofE [tl])) rfl rfl) ?_
    refine ops_alloc Try.ti23 rfl (fun b5 => ?_)
    refine ops_stm (k := 4) (off := 0) (v := (Value.agg #[(Value.int .i64 ((ofN [tl]).l)), (Value.int .i64 ((ofN [tl]).h)), (Value.int .i64 ((ofN [tl]).s))])) (vs := [(Value.int .i64 ((ofN [tl]).l)), (Value.int .i64 ((ofN [tl]).h)), (Value.int .i64 ((ofN [tl]).s))]) (cs := [(Value.int .i64 0), (Value.int .i64 0), (Value.int .i64 0)]) (cs' := [(Value.int .i64 ((ofN [tl]).l)), (Value.int .i64 ((ofN [tl]).h)), (Value.int .i64 ((ofN [tl]).s))]) Try.size23 rfl rfl rfl rfl rfl rfl (Nat.le_of_ble_eq_true rfl) rfl ?_
    refine oq (qv_as (Value.int .i64 (ofE [tl])) rfl) ?_
    refine ops_nil ?_
    refine vc_seq ?_
    refine vc_res (σ' := [(Arr 23 b1 [(Value.int .i64 al), (Value.int .i64 ah), (Value.int .i64 ax)]), (Arr 36 b2 [(Value.int .i64 tl), (Value.int .i64 th), (Value.int .i64 ts)]), (Arr 23 b3 [(Value.int .i64 ((ofN [tl]).l)), (Value.int .i64 ((ofN [tl]).h)), (Value.int .i64 ((ofN [tl]).s))]), (Arr 3 b4 [(Value.int .i64 tl)]), (Arr 23 b5 [(Value.int .i64 ((ofN [tl]).l)), (Value.int .i64 ((ofN [tl]).h)), (Value.int .i64 ((ofN [tl]).s))])]) rfl ?_
    refine vc_region ?_
    refine oq (qv_fa (off := 0) Try.field36_0 rfl) ?_
    refine oq (qv_ldp (v := (Value.int .i64 tl)) Try.plain3 rfl (inOc (k := 1) rfl) rfl) ?_
    refine oq (qv_fa (off := 0) Try.field36_1 rfl) ?_
    refine oq (qv_ldp (v := (Value.int .i64 th)) Try.plain3 rfl (inOc (k := 1) rfl) rfl) ?_
    refine oq (qv_call (v := (Value.tuple #[(Value.agg #[(Value.int .i64 ((mkN tl th 1).l)), (Value.int .i64 ((mkN tl th 1).h)), (Value.int .i64 ((mkN tl th 1).s))]), (Value.int .i64 (mkE tl th 1))])) (Range_c) rfl rfl) ?_
    refine oq (qv_mv (Value.tuple #[(Value.agg #[(Value.int .i64 ((mkN tl th 1).l)), (Value.int .i64 ((mkN tl th 1).h)), (Value.int .i64 ((mkN tl th 1).s))]), (Value.int .i64 (mkE tl th 1))]) rfl) ?_
    refine oq (qv_ext (Value.agg #[(Value.int .i64 ((mkN tl th 1).l)), (Value.int .i64 ((mkN tl th 1).h)), (Value.int .i64 ((mkN tl th 1).s))]) rfl rfl) ?_
    refine oq (qv_ext (Value.int .i64 (mkE tl th 1)) rfl rfl) ?_
    refine ops_alloc Try.ti23 rfl (fun b6 => ?_)
    refine ops_stm (k := 5) (off := 0) (v := (Value.agg #[(Value.int .i64 ((mkN tl th 1).l)), (Value.int .i64 ((mkN tl th 1).h)), (Value.int .i64 ((mkN tl th 1).s))])) (vs := [(Value.int .i64 ((mkN tl th 1).l)), (Value.int .i64 ((mkN tl th 1).h)), (Value.int .i64 ((mkN tl th 1).s))]) (cs := [(Value.int .i64 0), (Value.int .i64 0), (Value.int .i64 0)]) (cs' := [(Value.int .i64 ((mkN tl th 1).l)), (Value.int .i64 ((mkN tl th 1).h)), (Value.int .i64 ((mkN tl th 1).s))]) Try.size23 rfl rfl rfl rfl rfl rfl (Nat.le_of_ble_eq_true rfl) rfl ?_
    refine oq (qv_as (Value.int .i64 (mkE tl th 1)) rfl) ?_
    refine ops_nil ?_
    refine vc_seq ?_
    refine vc_res (σ' := [(Arr 23 b1 [(Value.int .i64 al), (Value.int .i64 ah), (Value.int .i64 ax)]), (Arr 36 b2 [(Value.int .i64 tl), (Value.int .i64 th), (Value.int .i64 ts)]), (Arr 23 b3 [(Value.int .i64 ((ofN [tl]).l)), (Value.int .i64 ((ofN [tl]).h)), (Value.int .i64 ((ofN [tl]).s))]), (Arr 3 b4 [(Value.int .i64 tl)]), (Arr 23 b5 [(Value.int .i64 ((ofN [tl]).l)), (Value.int .i64 ((ofN [tl]).h)), (Value.int .i64 ((ofN [tl]).s))]), (Arr 23 b6 [(Value.int .i64 ((mkN tl th 1).l)), (Value.int .i64 ((mkN tl th 1).h)), (Value.int .i64 ((mkN tl th 1).s))])]) rfl ?_
    refine vc_region ?_
    refine oq (qv_fa (off := 0) Try.field36_0 rfl) ?_
    refine oq (qv_ldp (v := (Value.int .i64 tl)) Try.plain3 rfl (inOc (k := 1) rfl) rfl) ?_
    refine oq (qv_fa (off := 0) Try.field36_1 rfl) ?_
    refine oq (qv_ldp (v := (Value.int .i64 th)) Try.plain3 rfl (inOc (k := 1) rfl) rfl) ?_
    refine oq (qv_call (v := (Value.tuple #[(Value.agg #[(Value.int .i64 ((mkN tl th 1).l)), (Value.int .i64 ((mkN tl th 1).h)), (Value.int .i64 ((mkN tl th 1).s))]), (Value.int .i64 (mkE tl th 1))])) (rMake_c) rfl rfl) ?_
    refine oq (qv_mv (Value.tuple #[(Value.agg #[(Value.int .i64 ((mkN tl th 1).l)), (Value.int .i64 ((mkN tl th 1).h)), (Value.int .i64 ((mkN tl th 1).s))]), (Value.int .i64 (mkE tl th 1))]) rfl) ?_
    refine oq (qv_ext (Value.agg #[(Value.int .i64 ((mkN tl th 1).l)), (Value.int .i64 ((mkN tl th 1).h)), (Value.int .i64 ((mkN tl th 1).s))]) rfl rfl) ?_
    refine oq (qv_ext (Value.int .i64 (mkE tl th 1)) rfl rfl) ?_
    refine ops_alloc Try.ti23 rfl (fun b7 => ?_)
    refine ops_stm (k := 6) (off := 0) (v := (Value.agg #[(Value.int .i64 ((mkN tl th 1).l)), (Value.int .i64 ((mkN tl th 1).h)), (Value.int .i64 ((mkN tl th 1).s))])) (vs := [(Value.int .i64 ((mkN tl th 1).l)), (Value.int .i64 ((mkN tl th 1).h)), (Value.int .i64 ((mkN tl th 1).s))]) (cs := [(Value.int .i64 0), (Value.int .i64 0), (Value.int .i64 0)]) (cs' := [(Value.int .i64 ((mkN tl th 1).l)), (Value.int .i64 ((mkN tl th 1).h)), (Value.int .i64 ((mkN tl th 1).s))]) Try.size23 rfl rfl rfl rfl rfl rfl (Nat.le_of_ble_eq_true rfl) rfl ?_
    refine oq (qv_as (Value.int .i64 (mkE tl th 1)) rfl) ?_
    refine ops_nil ?_
    refine vc_seq ?_
    refine vc_res (σ' := [(Arr 23 b1 [(Value.int .i64 al), (Value.int .i64 ah), (Value.int .i64 ax)]), (Arr 36 b2 [(Value.int .i64 tl), (Value.int .i64 th), (Value.int .i64 ts)]), (Arr 23 b3 [(Value.int .i64 ((ofN [tl]).l)), (Value.int .i64 ((ofN [tl]).h)), (Value.int .i64 ((ofN [tl]).s))]), (Arr 3 b4 [(Value.int .i64 tl)]), (Arr 23 b5 [(Value.int .i64 ((ofN [tl]).l)), (Value.int .i64 ((ofN [tl]).h)), (Value.int .i64 ((ofN [tl]).s))]), (Arr 23 b6 [(Value.int .i64 ((mkN tl th 1).l)), (Value.int .i64 ((mkN tl th 1).h)), (Value.int .i64 ((mkN tl th 1).s))]), (Arr 23 b7 [(Value.int .i64 ((mkN tl th 1).l)), (Value.int .i64 ((mkN tl th 1).h)), (Value.int .i64 ((mkN tl th 1).s))])]) rfl ?_
    refine vc_region ?_
    refine oq (qv_fa (off := 0) Try.field36_0 rfl) ?_
    refine oq (qv_ldp (v := (Value.int .i64 tl)) Try.plain3 rfl (inOc (k := 1) rfl) rfl) ?_
    refine oq (qv_fa (off := 0) Try.field36_1 rfl) ?_
    refine oq (qv_ldp (v := (Value.int .i64 th)) Try.plain3 rfl (inOc (k := 1) rfl) rfl) ?_
    refine oq (qv_fa (off := 0) Try.field36_2 rfl) ?_
    refine oq (qv_ldp (v := (Value.int .i64 ts)) Try.plain3 rfl (inOc (k := 1) rfl) rfl) ?_
    refine oq (qv_call (v := (Value.tuple #[(Value.agg #[(Value.int .i64 ((mkN tl th ts).l)), (Value.int .i64 ((mkN tl th ts).h)), (Value.int .i64 ((mkN tl th ts).s))]), (Value.int .i64 (mkE tl th ts))])) (Make_c) rfl rfl) ?_
    refine oq (qv_mv (Value.tuple #[(Value.agg #[(Value.int .i64 ((mkN tl th ts).l)), (Value.int .i64 ((mkN tl th ts).h)), (Value.int .i64 ((mkN tl th ts).s))]), (Value.int .i64 (mkE tl th ts))]) rfl) ?_
    refine oq (qv_ext (Value.agg #[(Value.int .i64 ((mkN tl th ts).l)), (Value.int .i64 ((mkN tl th ts).h)), (Value.int .i64 ((mkN tl th ts).s))]) rfl rfl) ?_
    refine oq (qv_ext (Value.int .i64 (mkE tl th ts)) rfl rfl) ?_
    refine ops_alloc Try.ti23 rfl (fun b8 => ?_)
    refine ops_stm (k := 7) (off := 0) (v := (Value.agg #[(Value.int .i64 ((mkN tl th ts).l)), (Value.int .i64 ((mkN tl th ts).h)), (Value.int .i64 ((mkN tl th ts).s))])) (vs := [(Value.int .i64 ((mkN tl th ts).l)), (Value.int .i64 ((mkN tl th ts).h)), (Value.int .i64 ((mkN tl th ts).s))]) (cs := [(Value.int .i64 0), (Value.int .i64 0), (Value.int .i64 0)]) (cs' := [(Value.int .i64 ((mkN tl th ts).l)), (Value.int .i64 ((mkN tl th ts).h)), (Value.int .i64 ((mkN tl th ts).s))]) Try.size23 rfl rfl rfl rfl rfl rfl (Nat.le_of_ble_eq_true rfl) rfl ?_
    refine oq (qv_as (Value.int .i64 (mkE tl th ts)) rfl) ?_
    refine ops_nil ?_
    refine vc_seq ?_
    refine vc_res (σ' := [(Arr 23 b1 [(Value.int .i64 al), (Value.int .i64 ah), (Value.int .i64 ax)]), (Arr 36 b2 [(Value.int .i64 tl), (Value.int .i64 th), (Value.int .i64 ts)]), (Arr 23 b3 [(Value.int .i64 ((ofN [tl]).l)), (Value.int .i64 ((ofN [tl]).h)), (Value.int .i64 ((ofN [tl]).s))]), (Arr 3 b4 [(Value.int .i64 tl)]), (Arr 23 b5 [(Value.int .i64 ((ofN [tl]).l)), (Value.int .i64 ((ofN [tl]).h)), (Value.int .i64 ((ofN [tl]).s))]), (Arr 23 b6 [(Value.int .i64 ((mkN tl th 1).l)), (Value.int .i64 ((mkN tl th 1).h)), (Value.int .i64 ((mkN tl th 1).s))]), (Arr 23 b7 [(Value.int .i64 ((mkN tl th 1).l)), (Value.int .i64 ((mkN tl th 1).h)), (Value.int .i64 ((mkN tl th 1).s))]), (Arr 23 b8 [(Value.int .i64 ((mkN tl th ts).l)), (Value.int .i64 ((mkN tl th ts).h)), (Value.int .i64 ((mkN tl th ts).s))])]) rfl ?_
    refine vc_region ?_
    refine oq (qv_fa (off := 0) Try.field36_0 rfl) ?_
    refine oq (qv_ldp (v := (Value.int .i64 tl)) Try.plain3 rfl (inOc (k := 1) rfl) rfl) ?_
    refine oq (qv_fa (off := 0) Try.field36_1 rfl) ?_
    refine oq (qv_ldp (v := (Value.int .i64 th)) Try.plain3 rfl (inOc (k := 1) rfl) rfl) ?_
    refine oq (qv_fa (off := 0) Try.field36_2 rfl) ?_
    refine oq (qv_ldp (v := (Value.int .i64 ts)) Try.plain3 rfl (inOc (k := 1) rfl) rfl) ?_
    refine oq (qv_call (v := (Value.tuple #[(Value.agg #[(Value.int .i64 ((mkN tl th ts).l)), (Value.int .i64 ((mkN tl th ts).h)), (Value.int .i64 ((mkN tl th ts).s))]), (Value.int .i64 (mkE tl th ts))])) (rMake_c) rfl rfl) ?_
    refine oq (qv_mv (Value.tuple #[(Value.agg #[(Value.int .i64 ((mkN tl th ts).l)), (Value.int .i64 ((mkN tl th ts).h)), (Value.int .i64 ((mkN tl th ts).s))]), (Value.int .i64 (mkE tl th ts))]) rfl) ?_
    refine oq (qv_ext (Value.agg #[(Value.int .i64 ((mkN tl th ts).l)), (Value.int .i64 ((mkN tl th ts).h)), (Value.int .i64 ((mkN tl th ts).s))]) rfl rfl) ?_
    refine oq (qv_ext (Value.int .i64 (mkE tl th ts)) rfl rfl) ?_
    refine ops_alloc Try.ti23 rfl (fun b9 => ?_)
    refine ops_stm (k := 8) (off := 0) (v := (Value.agg #[(Value.int .i64 ((mkN tl th ts).l)), (Value.int .i64 ((mkN tl th ts).h)), (Value.int .i64 ((mkN tl th ts).s))])) (vs := [(Value.int .i64 ((mkN tl th ts).l)), (Value.int .i64 ((mkN tl th ts).h)), (Value.int .i64 ((mkN tl th ts).s))]) (cs := [(Value.int .i64 0), (Value.int .i64 0), (Value.int .i64 0)]) (cs' := [(Value.int .i64 ((mkN tl th ts).l)), (Value.int .i64 ((mkN tl th ts).h)), (Value.int .i64 ((mkN tl th ts).s))]) Try.size23 rfl rfl rfl rfl rfl rfl (Nat.le_of_ble_eq_true rfl) rfl ?_
    refine oq (qv_as (Value.int .i64 (mkE tl th ts)) rfl) ?_
    refine ops_nil ?_
    refine vc_seq ?_
    refine vc_res (σ' := [(Arr 23 b1 [(Value.int .i64 al), (Value.int .i64 ah), (Value.int .i64 ax)]), (Arr 36 b2 [(Value.int .i64 tl), (Value.int .i64 th), (Value.int .i64 ts)]), (Arr 23 b3 [(Value.int .i64 ((ofN [tl]).l)), (Value.int .i64 ((ofN [tl]).h)), (Value.int .i64 ((ofN [tl]).s))]), (Arr 3 b4 [(Value.int .i64 tl)]), (Arr 23 b5 [(Value.int .i64 ((ofN [tl]).l)), (Value.int .i64 ((ofN [tl]).h)), (Value.int .i64 ((ofN [tl]).s))]), (Arr 23 b6 [(Value.int .i64 ((mkN tl th 1).l)), (Value.int .i64 ((mkN tl th 1).h)), (Value.int .i64 ((mkN tl th 1).s))]), (Arr 23 b7 [(Value.int .i64 ((mkN tl th 1).l)), (Value.int .i64 ((mkN tl th 1).h)), (Value.int .i64 ((mkN tl th 1).s))]), (Arr 23 b8 [(Value.int .i64 ((mkN tl th ts).l)), (Value.int .i64 ((mkN tl th ts).h)), (Value.int .i64 ((mkN tl th ts).s))]), (Arr 23 b9 [(Value.int .i64 ((mkN tl th ts).l)), (Value.int .i64 ((mkN tl th ts).h)), (Value.int .i64 ((mkN tl th ts).s))])]) rfl ?_
    refine vc_region ?_
    refine oq (qv_mv x rfl) ?_
    refine oq (qv_call (v := (Value.tuple #[(Value.agg #[(Value.int .i64 ((ofN xs).l)), (Value.int .i64 ((ofN xs).h)), (Value.int .i64 ((ofN xs).s))]), (Value.int .i64 (ofE xs))])) (Of_c hs) rfl rfl) ?_
    refine oq (qv_mv (Value.tuple #[(Value.agg #[(Value.int .i64 ((ofN xs).l)), (Value.int .i64 ((ofN xs).h)), (Value.int .i64 ((ofN xs).s))]), (Value.int .i64 (ofE xs))]) rfl) ?_
    refine oq (qv_ext (Value.agg #[(Value.int .i64 ((ofN xs).l)), (Value.int .i64 ((ofN xs).h)), (Value.int .i64 ((ofN xs).s))]) rfl rfl) ?_
    refine oq (qv_ext (Value.int .i64 (ofE xs)) rfl rfl) ?_
    refine ops_alloc Try.ti23 rfl (fun b10 => ?_)
    refine ops_stm (k := 9) (off := 0) (v := (Value.agg #[(Value.int .i64 ((ofN xs).l)), (Value.int .i64 ((ofN xs).h)), (Value.int .i64 ((ofN xs).s))])) (vs := [(Value.int .i64 ((ofN xs).l)), (Value.int .i64 ((ofN xs).h)), (Value.int .i64 ((ofN xs).s))]) (cs := [(Value.int .i64 0), (Value.int .i64 0), (Value.int .i64 0)]) (cs' := [(Value.int .i64 ((ofN xs).l)), (Value.int .i64 ((ofN xs).h)), (Value.int .i64 ((ofN xs).s))]) Try.size23 rfl rfl rfl rfl rfl rfl (Nat.le_of_ble_eq_true rfl) rfl ?_
    refine oq (qv_as (Value.int .i64 (ofE xs)) rfl) ?_
    refine ops_nil ?_
    refine vc_seq ?_
    refine vc_res (σ' := [(Arr 23 b1 [(Value.int .i64 al), (Value.int .i64 ah), (Value.int .i64 ax)]), (Arr 36 b2 [(Value.int .i64 tl), (Value.int .i64 th), (Value.int .i64 ts)]), (Arr 23 b3 [(Value.int .i64 ((ofN [tl]).l)), (Value.int .i64 ((ofN [tl]).h)), (Value.int .i64 ((ofN [tl]).s))]), (Arr 3 b4 [(Value.int .i64 tl)]), (Arr 23 b5 [(Value.int .i64 ((ofN [tl]).l)), (Value.int .i64 ((ofN [tl]).h)), (Value.int .i64 ((ofN [tl]).s))]), (Arr 23 b6 [(Value.int .i64 ((mkN tl th 1).l)), (Value.int .i64 ((mkN tl th 1).h)), (Value.int .i64 ((mkN tl th 1).s))]), (Arr 23 b7 [(Value.int .i64 ((mkN tl th 1).l)), (Value.int .i64 ((mkN tl th 1).h)), (Value.int .i64 ((mkN tl th 1).s))]), (Arr 23 b8 [(Value.int .i64 ((mkN tl th ts).l)), (Value.int .i64 ((mkN tl th ts).h)), (Value.int .i64 ((mkN tl th ts).s))]), (Arr 23 b9 [(Value.int .i64 ((mkN tl th ts).l)), (Value.int .i64 ((mkN tl th ts).h)), (Value.int .i64 ((mkN tl th ts).s))]), (Arr 23 b10 [(Value.int .i64 ((ofN xs).l)), (Value.int .i64 ((ofN xs).h)), (Value.int .i64 ((ofN xs).s))])]) rfl ?_
    refine vc_region ?_
    refine oq (qv_mv x rfl) ?_
    refine oq (qv_call (v := (Value.tuple #[(Value.agg #[(Value.int .i64 ((ofN xs).l)), (Value.int .i64 ((ofN xs).h)), (Value.int .i64 ((ofN xs).s))]), (Value.int .i64 (ofE xs))])) (rOf_c hs) rfl rfl) ?_
    refine oq (qv_mv (Value.tuple #[(Value.agg #[(Value.int .i64 ((ofN xs).l)), (Value.int .i64 ((ofN xs).h)), (Value.int .i64 ((ofN xs).s))]), (Value.int .i64 (ofE xs))]) rfl) ?_
    refine oq (qv_ext (Value.agg #[(Value.int .i64 ((ofN xs).l)), (Value.int .i64 ((ofN xs).h)), (Value.int .i64 ((ofN xs).s))]) rfl rfl) ?_
    refine oq (qv_ext (Value.int .i64 (ofE xs)) rfl rfl) ?_
    refine ops_alloc Try.ti23 rfl (fun b11 => ?_)
    refine ops_stm (k := 10) (off := 0) (v := (Value.agg #[(Value.int .i64 ((ofN xs).l)), (Value.int .i64 ((ofN xs).h)), (Value.int .i64 ((ofN xs).s))])) (vs := [(Value.int .i64 ((ofN xs).l)), (Value.int .i64 ((ofN xs).h)), (Value.int .i64 ((ofN xs).s))]) (cs := [(Value.int .i64 0), (Value.int .i64 0), (Value.int .i64 0)]) (cs' := [(Value.int .i64 ((ofN xs).l)), (Value.int .i64 ((ofN xs).h)), (Value.int .i64 ((ofN xs).s))]) Try.size23 rfl rfl rfl rfl rfl rfl (Nat.le_of_ble_eq_true rfl) rfl ?_
    refine oq (qv_as (Value.int .i64 (ofE xs)) rfl) ?_
    refine ops_nil ?_
    refine vc_seq ?_
    refine vc_res (σ' := [(Arr 23 b1 [(Value.int .i64 al), (Value.int .i64 ah), (Value.int .i64 ax)]), (Arr 36 b2 [(Value.int .i64 tl), (Value.int .i64 th), (Value.int .i64 ts)]), (Arr 23 b3 [(Value.int .i64 ((ofN [tl]).l)), (Value.int .i64 ((ofN [tl]).h)), (Value.int .i64 ((ofN [tl]).s))]), (Arr 3 b4 [(Value.int .i64 tl)]), (Arr 23 b5 [(Value.int .i64 ((ofN [tl]).l)), (Value.int .i64 ((ofN [tl]).h)), (Value.int .i64 ((ofN [tl]).s))]), (Arr 23 b6 [(Value.int .i64 ((mkN tl th 1).l)), (Value.int .i64 ((mkN tl th 1).h)), (Value.int .i64 ((mkN tl th 1).s))]), (Arr 23 b7 [(Value.int .i64 ((mkN tl th 1).l)), (Value.int .i64 ((mkN tl th 1).h)), (Value.int .i64 ((mkN tl th 1).s))]), (Arr 23 b8 [(Value.int .i64 ((mkN tl th ts).l)), (Value.int .i64 ((mkN tl th ts).h)), (Value.int .i64 ((mkN tl th ts).s))]), (Arr 23 b9 [(Value.int .i64 ((mkN tl th ts).l)), (Value.int .i64 ((mkN tl th ts).h)), (Value.int .i64 ((mkN tl th ts).s))]), (Arr 23 b10 [(Value.int .i64 ((ofN xs).l)), (Value.int .i64 ((ofN xs).h)), (Value.int .i64 ((ofN xs).s))]), (Arr 23 b11 [(Value.int .i64 ((ofN xs).l)), (Value.int .i64 ((ofN xs).h)), (Value.int .i64 ((ofN xs).s))])]) rfl ?_
    refine vc_region_any Try.mixed (by kernel_rfl) ?_
    refine qq (qv_ldm (vs := [(Value.int .i64 al), (Value.int .i64 ah), (Value.int .i64 ax)]) Try.agg23 rfl (inOc (k := 0) rfl) rfl rfl) ?_
    refine qq (qv_call (v := (Value.bool (decide (vld (⟨al, ah, ax⟩ : Nm))))) (Valid_c (a := (⟨al, ah, ax⟩ : Nm))) rfl rfl) ?_
    refine qq (qv_ldm (vs := [(Value.int .i64 al), (Value.int .i64 ah), (Value.int .i64 ax)]) Try.agg23 rfl (inOc (k := 0) rfl) rfl rfl) ?_
    refine qq (qv_call (v := (Value.bool (decide (vld (⟨al, ah, ax⟩ : Nm))))) (rValid_c (a := (⟨al, ah, ax⟩ : Nm))) rfl rfl) ?_
    refine qq (qv_iffb Try.underlying4 rfl rfl) ?_
    refine qq (qv_mv (Value.bool (decide ((vld (⟨al, ah, ax⟩ : Nm)) ↔ (vld (⟨al, ah, ax⟩ : Nm))))) rfl) ?_
    by_cases g1 : (vld (⟨al, ah, ax⟩ : Nm)) ↔ (vld (⟨al, ah, ax⟩ : Nm))
    ·
      refine qg (qv_call (v := (Value.agg #[(Value.int .i64 (nE.l)), (Value.int .i64 (nE.h)), (Value.int .i64 (nE.s))])) (Empty_c) rfl rfl) (want_t g1 rfl rfl rfl) ?_
      refine qg (qv_call (v := (Value.agg #[(Value.int .i64 (nE.l)), (Value.int .i64 (nE.h)), (Value.int .i64 (nE.s))])) (rNone_c) rfl rfl) (want_t g1 rfl rfl rfl) ?_
      refine qg (qv_eqls Try.eq23 [nE.l, nE.h, nE.s] [nE.l, nE.h, nE.s] rfl rfl rfl rfl rfl rfl eq3) (want_t g1 rfl rfl rfl) ?_
      refine qq (qv_pick_t g1 rfl (rfl : ev _ _ = (Value.bool (decide (nE.l = nE.l ∧ nE.h = nE.h ∧ nE.s = nE.s))))) ?_
      refine qq (qv_mv (Value.bool (decide (nE.l = nE.l ∧ nE.h = nE.h ∧ nE.s = nE.s))) rfl) ?_
      by_cases g2 : nE.l = nE.l ∧ nE.h = nE.h ∧ nE.s = nE.s
      ·
        refine qg (qv_ldm (vs := [(Value.int .i64 ((ofN [tl]).l)), (Value.int .i64 ((ofN [tl]).h)), (Value.int .i64 ((ofN [tl]).s))]) Try.agg23 rfl (inOc (k := 2) rfl) rfl rfl) (want_t g2 rfl rfl rfl) ?_
        refine qg (qv_ldm (vs := [(Value.int .i64 ((ofN [tl]).l)), (Value.int .i64 ((ofN [tl]).h)), (Value.int .i64 ((ofN [tl]).s))]) Try.agg23 rfl (inOc (k := 4) rfl) rfl rfl) (want_t g2 rfl rfl rfl) ?_
        refine qg (qv_eqls Try.eq23 [(ofN [tl]).l, (ofN [tl]).h, (ofN [tl]).s] [(ofN [tl]).l, (ofN [tl]).h, (ofN [tl]).s] rfl rfl rfl rfl rfl rfl eq3) (want_t g2 rfl rfl rfl) ?_
        refine qq (qv_pick_t g2 rfl (rfl : ev _ _ = (Value.bool (decide (((ofN [tl]).l) = ((ofN [tl]).l) ∧ ((ofN [tl]).h) = ((ofN [tl]).h) ∧ ((ofN [tl]).s) = ((ofN [tl]).s)))))) ?_
        refine qq (qv_mv (Value.bool (decide (((ofN [tl]).l) = ((ofN [tl]).l) ∧ ((ofN [tl]).h) = ((ofN [tl]).h) ∧ ((ofN [tl]).s) = ((ofN [tl]).s)))) rfl) ?_
        by_cases g3 : ((ofN [tl]).l) = ((ofN [tl]).l) ∧ ((ofN [tl]).h) = ((ofN [tl]).h) ∧ ((ofN [tl]).s) = ((ofN [tl]).s)
        ·
          refine qg (qv_mv (Value.int .i64 (ofE [tl])) rfl) (want_t g3 rfl rfl rfl) ?_
          refine qg (qv_mv (Value.int .i64 (ofE [tl])) rfl) (want_t g3 rfl rfl rfl) ?_
          refine qg (qv_eql rfl rfl) (want_t g3 rfl rfl rfl) ?_
          refine qq (qv_pick_t g3 rfl (rfl : ev _ _ = (Value.bool (decide ((ofE [tl]) = (ofE [tl])))))) ?_
          refine qq (qv_mv (Value.bool (decide ((ofE [tl]) = (ofE [tl])))) rfl) ?_
          by_cases g4 : (ofE [tl]) = (ofE [tl])
          ·
            refine qg (qv_ldm (vs := [(Value.int .i64 ((mkN tl th 1).l)), (Value.int .i64 ((mkN tl th 1).h)), (Value.int .i64 ((mkN tl th 1).s))]) Try.agg23 rfl (inOc (k := 5) rfl) rfl rfl) (want_t g4 rfl rfl rfl) ?_
            refine qg (qv_ldm (vs := [(Value.int .i64 ((mkN tl th 1).l)), (Value.int .i64 ((mkN tl th 1).h)), (Value.int .i64 ((mkN tl th 1).s))]) Try.agg23 rfl (inOc (k := 6) rfl) rfl rfl) (want_t g4 rfl rfl rfl) ?_
            refine qg (qv_eqls Try.eq23 [(mkN tl th 1).l, (mkN tl th 1).h, (mkN tl th 1).s] [(mkN tl th 1).l, (mkN tl th 1).h, (mkN tl th 1).s] rfl rfl rfl rfl rfl rfl eq3) (want_t g4 rfl rfl rfl) ?_
            refine qq (qv_pick_t g4 rfl (rfl : ev _ _ = (Value.bool (decide (((mkN tl th 1).l) = ((mkN tl th 1).l) ∧ ((mkN tl th 1).h) = ((mkN tl th 1).h) ∧ ((mkN tl th 1).s) = ((mkN tl th 1).s)))))) ?_
            refine qq (qv_mv (Value.bool (decide (((mkN tl th 1).l) = ((mkN tl th 1).l) ∧ ((mkN tl th 1).h) = ((mkN tl th 1).h) ∧ ((mkN tl th 1).s) = ((mkN tl th 1).s)))) rfl) ?_
            by_cases g5 : ((mkN tl th 1).l) = ((mkN tl th 1).l) ∧ ((mkN tl th 1).h) = ((mkN tl th 1).h) ∧ ((mkN tl th 1).s) = ((mkN tl th 1).s)
            ·
              refine qg (qv_mv (Value.int .i64 (mkE tl th 1)) rfl) (want_t g5 rfl rfl rfl) ?_
              refine qg (qv_mv (Value.int .i64 (mkE tl th 1)) rfl) (want_t g5 rfl rfl rfl) ?_
              refine qg (qv_eql rfl rfl) (want_t g5 rfl rfl rfl) ?_
              refine qq (qv_pick_t g5 rfl (rfl : ev _ _ = (Value.bool (decide ((mkE tl th 1) = (mkE tl th 1)))))) ?_
              refine qq (qv_mv (Value.bool (decide ((mkE tl th 1) = (mkE tl th 1)))) rfl) ?_
              by_cases g6 : (mkE tl th 1) = (mkE tl th 1)
              ·
                refine qg (qv_ldm (vs := [(Value.int .i64 ((mkN tl th ts).l)), (Value.int .i64 ((mkN tl th ts).h)), (Value.int .i64 ((mkN tl th ts).s))]) Try.agg23 rfl (inOc (k := 7) rfl) rfl rfl) (want_t g6 rfl rfl rfl) ?_
                refine qg (qv_ldm (vs := [(Value.int .i64 ((mkN tl th ts).l)), (Value.int .i64 ((mkN tl th ts).h)), (Value.int .i64 ((mkN tl th ts).s))]) Try.agg23 rfl (inOc (k := 8) rfl) rfl rfl) (want_t g6 rfl rfl rfl) ?_
                refine qg (qv_eqls Try.eq23 [(mkN tl th ts).l, (mkN tl th ts).h, (mkN tl th ts).s] [(mkN tl th ts).l, (mkN tl th ts).h, (mkN tl th ts).s] rfl rfl rfl rfl rfl rfl eq3) (want_t g6 rfl rfl rfl) ?_
                refine qq (qv_pick_t g6 rfl (rfl : ev _ _ = (Value.bool (decide (((mkN tl th ts).l) = ((mkN tl th ts).l) ∧ ((mkN tl th ts).h) = ((mkN tl th ts).h) ∧ ((mkN tl th ts).s) = ((mkN tl th ts).s)))))) ?_
                refine qq (qv_mv (Value.bool (decide (((mkN tl th ts).l) = ((mkN tl th ts).l) ∧ ((mkN tl th ts).h) = ((mkN tl th ts).h) ∧ ((mkN tl th ts).s) = ((mkN tl th ts).s)))) rfl) ?_
                by_cases g7 : ((mkN tl th ts).l) = ((mkN tl th ts).l) ∧ ((mkN tl th ts).h) = ((mkN tl th ts).h) ∧ ((mkN tl th ts).s) = ((mkN tl th ts).s)
                ·
                  refine qg (qv_mv (Value.int .i64 (mkE tl th ts)) rfl) (want_t g7 rfl rfl rfl) ?_
                  refine qg (qv_mv (Value.int .i64 (mkE tl th ts)) rfl) (want_t g7 rfl rfl rfl) ?_
                  refine qg (qv_eql rfl rfl) (want_t g7 rfl rfl rfl) ?_
                  refine qq (qv_pick_t g7 rfl (rfl : ev _ _ = (Value.bool (decide ((mkE tl th ts) = (mkE tl th ts)))))) ?_
                  refine qq (qv_mv (Value.bool (decide ((mkE tl th ts) = (mkE tl th ts)))) rfl) ?_
                  by_cases g8 : (mkE tl th ts) = (mkE tl th ts)
                  ·
                    refine qg (qv_ldm (vs := [(Value.int .i64 ((ofN xs).l)), (Value.int .i64 ((ofN xs).h)), (Value.int .i64 ((ofN xs).s))]) Try.agg23 rfl (inOc (k := 9) rfl) rfl rfl) (want_t g8 rfl rfl rfl) ?_
                    refine qg (qv_ldm (vs := [(Value.int .i64 ((ofN xs).l)), (Value.int .i64 ((ofN xs).h)), (Value.int .i64 ((ofN xs).s))]) Try.agg23 rfl (inOc (k := 10) rfl) rfl rfl) (want_t g8 rfl rfl rfl) ?_
                    refine qg (qv_eqls Try.eq23 [(ofN xs).l, (ofN xs).h, (ofN xs).s] [(ofN xs).l, (ofN xs).h, (ofN xs).s] rfl rfl rfl rfl rfl rfl eq3) (want_t g8 rfl rfl rfl) ?_
                    refine qq (qv_pick_t g8 rfl (rfl : ev _ _ = (Value.bool (decide (((ofN xs).l) = ((ofN xs).l) ∧ ((ofN xs).h) = ((ofN xs).h) ∧ ((ofN xs).s) = ((ofN xs).s)))))) ?_
                    refine qq (qv_mv (Value.bool (decide (((ofN xs).l) = ((ofN xs).l) ∧ ((ofN xs).h) = ((ofN xs).h) ∧ ((ofN xs).s) = ((ofN xs).s)))) rfl) ?_
                    by_cases g9 : ((ofN xs).l) = ((ofN xs).l) ∧ ((ofN xs).h) = ((ofN xs).h) ∧ ((ofN xs).s) = ((ofN xs).s)
                    ·
                      refine qg (qv_mv (Value.int .i64 (ofE xs)) rfl) (want_t g9 rfl rfl rfl) ?_
                      refine qg (qv_mv (Value.int .i64 (ofE xs)) rfl) (want_t g9 rfl rfl rfl) ?_
                      refine qg (qv_eql rfl rfl) (want_t g9 rfl rfl rfl) ?_
                      refine qq (qv_pick_t g9 rfl (rfl : ev _ _ = (Value.bool (decide ((ofE xs) = (ofE xs)))))) ?_
                      refine qq (qv_as (Value.bool (decide ((ofE xs) = (ofE xs)))) rfl) ?_
                      refine qops_nil ?_
                      refine vc_ret ?_
                      exact rq1 (Value.bool true) (congrArg Value.bool (decide_eq_true (show ((ofE xs) = (ofE xs)) from by rfl))) rfl
                    ·
                      exact absurd ⟨rfl, rfl, rfl⟩ g9
                  ·
                    exact absurd rfl g8
                ·
                  exact absurd ⟨rfl, rfl, rfl⟩ g7
              ·
                exact absurd rfl g6
            ·
              exact absurd ⟨rfl, rfl, rfl⟩ g5
          ·
            exact absurd rfl g4
        ·
          exact absurd ⟨rfl, rfl, rfl⟩ g3
      ·
        exact absurd ⟨rfl, rfl, rfl⟩ g2
    ·
      exact absurd Iff.rfl g1

end Go.Proofs.Ytapkilaikcihgaa
