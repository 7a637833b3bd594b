/- Walks of numeric: what each function returns. Printed by a program out of notes. -/
import Derived.Test.YtapkilaikcihgaaNg
import Derived.Test.YtapkilaikcihgaaNmV
namespace Go.Proofs.Ytapkilaikcihgaa
open Go.Vc
open Classical

set_option maxRecDepth 100000 in
set_option maxHeartbeats 4000000 in
theorem Len64_c {V : HV} {x : Int} (h0 : 0 ≤ x) (h1 : x < 18446744073709551616) :
    FnC Try.prog 106 [(Value.int .u64 x)] V [] (fun v _ _ => v = (.int .i64 (bl x))) := by
 refine fn_intro (N := 25) Try.func106 (by kernel_rfl) rfl rfl rfl (Nat.le_of_ble_eq_true rfl) ?_
 intro w0 D
 refine vc_seq ?_
 refine vc_region ?_
 refine oq (qv_as (Value.int .i64 0) rfl) ?_
 refine ops_nil ?_
 refine vc_seq ?_
 refine vc_seq ?_
 refine vc_region ?_
 refine oq (qv_mv (Value.int .u64 x) rfl) ?_
 refine oq (qv_geq rfl rfl) ?_
 refine ops_nil ?_
 refine vc_if rfl (fun c1 => ?_) (fun c1 => ?_)
 ·
  refine vc_seq ?_
  have x1b := bl_shift (x := x) (k := 32) 4294967296 (by decide) (by omega)
  refine vc_region ?_
  refine oq (qv_mv (Value.int .u64 x) rfl) ?_
  refine oq (qv_shrc rfl rfl 4294967296 (by omega) (by omega) (by decide)) ?_
  refine oq (qv_as (.int .u64 (x / 4294967296)) rfl) ?_
  refine ops_nil ?_
  refine vc_region ?_
  refine oq (qv_as (Value.int .i64 32) rfl) ?_
  refine ops_nil ?_
  refine vc_seq ?_
  refine vc_seq ?_
  refine vc_region ?_
  refine oq (qv_mv (.int .u64 (x / 4294967296)) rfl) ?_
  refine oq (qv_geq rfl rfl) ?_
  refine ops_nil ?_
  refine vc_if rfl (fun c2 => ?_) (fun c2 => ?_)
  ·
   refine vc_seq ?_
   have x2b := bl_shift (x := x / 4294967296) (k := 16) 65536 (by decide) (by omega)
   refine vc_region ?_
   refine oq (qv_mv (.int .u64 (x / 4294967296)) rfl) ?_
   refine oq (qv_shrc rfl rfl 65536 (by omega) (by omega) (by decide)) ?_
   refine oq (qv_as (.int .u64 ((x / 4294967296) / 65536)) rfl) ?_
   refine ops_nil ?_
   refine vc_region ?_
   refine oq (qv_mv (Value.int .i64 32) rfl) ?_
   refine oq (qv_add rfl rfl (by omega)) ?_
   refine oq (qv_as (.int .i64 (32 + 16)) rfl) ?_
   refine ops_nil ?_
   refine vc_seq ?_
   refine vc_seq ?_
   refine vc_region ?_
   refine oq (qv_mv (.int .u64 ((x / 4294967296) / 65536)) rfl) ?_
   refine oq (qv_geq rfl rfl) ?_
   refine ops_nil ?_
   refine vc_if rfl (fun c3 => ?_) (fun c3 => ?_)
   ·
    refine vc_seq ?_
    have x3b := bl_shift (x := (x / 4294967296) / 65536) (k := 8) 256 (by decide) (by omega)
    refine vc_region ?_
    refine oq (qv_mv (.int .u64 ((x / 4294967296) / 65536)) rfl) ?_
    refine oq (qv_shrc rfl rfl 256 (by omega) (by omega) (by decide)) ?_
    refine oq (qv_as (.int .u64 (((x / 4294967296) / 65536) / 256)) rfl) ?_
    refine ops_nil ?_
    refine vc_region ?_
    refine oq (qv_mv (.int .i64 (32 + 16)) rfl) ?_
    refine oq (qv_add rfl rfl (by omega)) ?_
    refine oq (qv_as (.int .i64 ((32 + 16) + 8)) rfl) ?_
    refine ops_nil ?_
    refine vc_seq ?_
    have hs8 := len8_size
    have hb8 := len8_bl (x := ((x / 4294967296) / 65536) / 256) (by omega) (by omega)
    have hbl := bl_le (n := 64) (x := x) (by simpa using h1)
    have hbn := bl_nn (((x / 4294967296) / 65536) / 256)
    have hbl8 := bl_le (n := 8) (x := ((x / 4294967296) / 65536) / 256) (by rw [show (2 : Int) ^ 8 = 256 by decide]; omega)
    refine vc_region ?_
    refine oq (qv_mv (.int .i64 ((32 + 16) + 8)) rfl) ?_
    refine oq (qv_mv (.int .u64 (((x / 4294967296) / 65536) / 256)) rfl) ?_
    refine oq (qv_convk Try.underlying101 Try.underlying5 rfl (IntWalk.u8_in _ (by omega))) ?_
    refine oq (qv_idxs (s := len8) (i := ((x / 4294967296) / 65536) / 256) Try.underlying9 rfl rfl (by omega) (by rw [len8_size]; omega)) ?_
    refine oq (qv_convk Try.underlying5 Try.underlying3 rfl (IntWalk.i64_in _ (by omega))) ?_
    refine oq (qv_add rfl rfl (by omega)) ?_
    refine oq (qv_as (.int .i64 (((32 + 16) + 8) + (sAt len8 (((x / 4294967296) / 65536) / 256)))) rfl) ?_
    refine ops_nil ?_
    refine vc_ret ?_
    exact rq1 (.int .i64 (bl x)) (congrArg (Value.int .i64) (show (((32 + 16) + 8) + (sAt len8 (((x / 4294967296) / 65536) / 256))) = (bl x) from by omega)) rfl
   ·
    refine vc_skip ?_
    refine vc_seq ?_
    have hs8 := len8_size
    have hb8 := len8_bl (x := (x / 4294967296) / 65536) (by omega) (by omega)
    have hbl := bl_le (n := 64) (x := x) (by simpa using h1)
    have hbn := bl_nn ((x / 4294967296) / 65536)
    have hbl8 := bl_le (n := 8) (x := (x / 4294967296) / 65536) (by rw [show (2 : Int) ^ 8 = 256 by decide]; omega)
    refine vc_region ?_
    refine oq (qv_mv (.int .i64 (32 + 16)) rfl) ?_
    refine oq (qv_mv (.int .u64 ((x / 4294967296) / 65536)) rfl) ?_
    refine oq (qv_convk Try.underlying101 Try.underlying5 rfl (IntWalk.u8_in _ (by omega))) ?_
    refine oq (qv_idxs (s := len8) (i := (x / 4294967296) / 65536) Try.underlying9 rfl rfl (by omega) (by rw [len8_size]; omega)) ?_
    refine oq (qv_convk Try.underlying5 Try.underlying3 rfl (IntWalk.i64_in _ (by omega))) ?_
    refine oq (qv_add rfl rfl (by omega)) ?_
    refine oq (qv_as (.int .i64 ((32 + 16) + (sAt len8 ((x / 4294967296) / 65536)))) rfl) ?_
    refine ops_nil ?_
    refine vc_ret ?_
    exact rq1 (.int .i64 (bl x)) (congrArg (Value.int .i64) (show ((32 + 16) + (sAt len8 ((x / 4294967296) / 65536))) = (bl x) from by omega)) rfl
  ·
   refine vc_skip ?_
   refine vc_seq ?_
   refine vc_seq ?_
   refine vc_region ?_
   refine oq (qv_mv (.int .u64 (x / 4294967296)) rfl) ?_
   refine oq (qv_geq rfl rfl) ?_
   refine ops_nil ?_
   refine vc_if rfl (fun c4 => ?_) (fun c4 => ?_)
   ·
    refine vc_seq ?_
    have x3b := bl_shift (x := x / 4294967296) (k := 8) 256 (by decide) (by omega)
    refine vc_region ?_
    refine oq (qv_mv (.int .u64 (x / 4294967296)) rfl) ?_
    refine oq (qv_shrc rfl rfl 256 (by omega) (by omega) (by decide)) ?_
    refine oq (qv_as (.int .u64 ((x / 4294967296) / 256)) rfl) ?_
    refine ops_nil ?_
    refine vc_region ?_
    refine oq (qv_mv (Value.int .i64 32) rfl) ?_
    refine oq (qv_add rfl rfl (by omega)) ?_
    refine oq (qv_as (.int .i64 (32 + 8)) rfl) ?_
    refine ops_nil ?_
    refine vc_seq ?_
    have hs8 := len8_size
    have hb8 := len8_bl (x := (x / 4294967296) / 256) (by omega) (by omega)
    have hbl := bl_le (n := 64) (x := x) (by simpa using h1)
    have hbn := bl_nn ((x / 4294967296) / 256)
    have hbl8 := bl_le (n := 8) (x := (x / 4294967296) / 256) (by rw [show (2 : Int) ^ 8 = 256 by decide]; omega)
    refine vc_region ?_
    refine oq (qv_mv (.int .i64 (32 + 8)) rfl) ?_
    refine oq (qv_mv (.int .u64 ((x / 4294967296) / 256)) rfl) ?_
    refine oq (qv_convk Try.underlying101 Try.underlying5 rfl (IntWalk.u8_in _ (by omega))) ?_
    refine oq (qv_idxs (s := len8) (i := (x / 4294967296) / 256) Try.underlying9 rfl rfl (by omega) (by rw [len8_size]; omega)) ?_
    refine oq (qv_convk Try.underlying5 Try.underlying3 rfl (IntWalk.i64_in _ (by omega))) ?_
    refine oq (qv_add rfl rfl (by omega)) ?_
    refine oq (qv_as (.int .i64 ((32 + 8) + (sAt len8 ((x / 4294967296) / 256)))) rfl) ?_
    refine ops_nil ?_
    refine vc_ret ?_
    exact rq1 (.int .i64 (bl x)) (congrArg (Value.int .i64) (show ((32 + 8) + (sAt len8 ((x / 4294967296) / 256))) = (bl x) from by omega)) rfl
   ·
    refine vc_skip ?_
    refine vc_seq ?_
    have hs8 := len8_size
    have hb8 := len8_bl (x := x / 4294967296) (by omega) (by omega)
    have hbl := bl_le (n := 64) (x := x) (by simpa using h1)
    have hbn := bl_nn (x / 4294967296)
    have hbl8 := bl_le (n := 8) (x := x / 4294967296) (by rw [show (2 : Int) ^ 8 = 256 by decide]; omega)
    refine vc_region ?_
    refine oq (qv_mv (Value.int .i64 32) rfl) ?_
    refine oq (qv_mv (.int .u64 (x / 4294967296)) rfl) ?_
    refine oq (qv_convk Try.underlying101 Try.underlying5 rfl (IntWalk.u8_in _ (by omega))) ?_
    refine oq (qv_idxs (s := len8) (i := x / 4294967296) Try.underlying9 rfl rfl (by omega) (by rw [len8_size]; omega)) ?_
    refine oq (qv_convk Try.underlying5 Try.underlying3 rfl (IntWalk.i64_in _ (by omega))) ?_
    refine oq (qv_add rfl rfl (by omega)) ?_
    refine oq (qv_as (.int .i64 (32 + (sAt len8 (x / 4294967296)))) rfl) ?_
    refine ops_nil ?_
    refine vc_ret ?_
    exact rq1 (.int .i64 (bl x)) (congrArg (Value.int .i64) (show (32 + (sAt len8 (x / 4294967296))) = (bl x) from by omega)) rfl
 ·
  refine vc_skip ?_
  refine vc_seq ?_
  refine vc_seq ?_
  refine vc_region ?_
  refine oq (qv_mv (Value.int .u64 x) rfl) ?_
  refine oq (qv_geq rfl rfl) ?_
  refine ops_nil ?_
  refine vc_if rfl (fun c5 => ?_) (fun c5 => ?_)
  ·
   refine vc_seq ?_
   have x2b := bl_shift (x := x) (k := 16) 65536 (by decide) (by omega)
   refine vc_region ?_
   refine oq (qv_mv (Value.int .u64 x) rfl) ?_
   refine oq (qv_shrc rfl rfl 65536 (by omega) (by omega) (by decide)) ?_
   refine oq (qv_as (.int .u64 (x / 65536)) rfl) ?_
   refine ops_nil ?_
   refine vc_region ?_
   refine oq (qv_mv (Value.int .i64 0) rfl) ?_
   refine oq (qv_add rfl rfl (by omega)) ?_
   refine oq (qv_as (.int .i64 (0 + 16)) rfl) ?_
   refine ops_nil ?_
   refine vc_seq ?_
   refine vc_seq ?_
   refine vc_region ?_
   refine oq (qv_mv (.int .u64 (x / 65536)) rfl) ?_
   refine oq (qv_geq rfl rfl) ?_
   refine ops_nil ?_
   refine vc_if rfl (fun c6 => ?_) (fun c6 => ?_)
   ·
    refine vc_seq ?_
    have x3b := bl_shift (x := x / 65536) (k := 8) 256 (by decide) (by omega)
    refine vc_region ?_
    refine oq (qv_mv (.int .u64 (x / 65536)) rfl) ?_
    refine oq (qv_shrc rfl rfl 256 (by omega) (by omega) (by decide)) ?_
    refine oq (qv_as (.int .u64 ((x / 65536) / 256)) rfl) ?_
    refine ops_nil ?_
    refine vc_region ?_
    refine oq (qv_mv (.int .i64 (0 + 16)) rfl) ?_
    refine oq (qv_add rfl rfl (by omega)) ?_
    refine oq (qv_as (.int .i64 ((0 + 16) + 8)) rfl) ?_
    refine ops_nil ?_
    refine vc_seq ?_
    have hs8 := len8_size
    have hb8 := len8_bl (x := (x / 65536) / 256) (by omega) (by omega)
    have hbl := bl_le (n := 64) (x := x) (by simpa using h1)
    have hbn := bl_nn ((x / 65536) / 256)
    have hbl8 := bl_le (n := 8) (x := (x / 65536) / 256) (by rw [show (2 : Int) ^ 8 = 256 by decide]; omega)
    refine vc_region ?_
    refine oq (qv_mv (.int .i64 ((0 + 16) + 8)) rfl) ?_
    refine oq (qv_mv (.int .u64 ((x / 65536) / 256)) rfl) ?_
    refine oq (qv_convk Try.underlying101 Try.underlying5 rfl (IntWalk.u8_in _ (by omega))) ?_
    refine oq (qv_idxs (s := len8) (i := (x / 65536) / 256) Try.underlying9 rfl rfl (by omega) (by rw [len8_size]; omega)) ?_
    refine oq (qv_convk Try.underlying5 Try.underlying3 rfl (IntWalk.i64_in _ (by omega))) ?_
    refine oq (qv_add rfl rfl (by omega)) ?_
    refine oq (qv_as (.int .i64 (((0 + 16) + 8) + (sAt len8 ((x / 65536) / 256)))) rfl) ?_
    refine ops_nil ?_
    refine vc_ret ?_
    exact rq1 (.int .i64 (bl x)) (congrArg (Value.int .i64) (show (((0 + 16) + 8) + (sAt len8 ((x / 65536) / 256))) = (bl x) from by omega)) rfl
   ·
    refine vc_skip ?_
    refine vc_seq ?_
    have hs8 := len8_size
    have hb8 := len8_bl (x := x / 65536) (by omega) (by omega)
    have hbl := bl_le (n := 64) (x := x) (by simpa using h1)
    have hbn := bl_nn (x / 65536)
    have hbl8 := bl_le (n := 8) (x := x / 65536) (by rw [show (2 : Int) ^ 8 = 256 by decide]; omega)
    refine vc_region ?_
    refine oq (qv_mv (.int .i64 (0 + 16)) rfl) ?_
    refine oq (qv_mv (.int .u64 (x / 65536)) rfl) ?_
    refine oq (qv_convk Try.underlying101 Try.underlying5 rfl (IntWalk.u8_in _ (by omega))) ?_
    refine oq (qv_idxs (s := len8) (i := x / 65536) Try.underlying9 rfl rfl (by omega) (by rw [len8_size]; omega)) ?_
    refine oq (qv_convk Try.underlying5 Try.underlying3 rfl (IntWalk.i64_in _ (by omega))) ?_
    refine oq (qv_add rfl rfl (by omega)) ?_
    refine oq (qv_as (.int .i64 ((0 + 16) + (sAt len8 (x / 65536)))) rfl) ?_
    refine ops_nil ?_
    refine vc_ret ?_
    exact rq1 (.int .i64 (bl x)) (congrArg (Value.int .i64) (show ((0 + 16) + (sAt len8 (x / 65536))) = (bl x) from by omega)) rfl
  ·
   refine vc_skip ?_
   refine vc_seq ?_
   refine vc_seq ?_
   refine vc_region ?_
   refine oq (qv_mv (Value.int .u64 x) rfl) ?_
   refine oq (qv_geq rfl rfl) ?_
   refine ops_nil ?_
   refine vc_if rfl (fun c7 => ?_) (fun c7 => ?_)
   ·
    refine vc_seq ?_
    have x3b := bl_shift (x := x) (k := 8) 256 (by decide) (by omega)
    refine vc_region ?_
    refine oq (qv_mv (Value.int .u64 x) rfl) ?_
    refine oq (qv_shrc rfl rfl 256 (by omega) (by omega) (by decide)) ?_
    refine oq (qv_as (.int .u64 (x / 256)) rfl) ?_
    refine ops_nil ?_
    refine vc_region ?_
    refine oq (qv_mv (Value.int .i64 0) rfl) ?_
    refine oq (qv_add rfl rfl (by omega)) ?_
    refine oq (qv_as (.int .i64 (0 + 8)) rfl) ?_
    refine ops_nil ?_
    refine vc_seq ?_
    have hs8 := len8_size
    have hb8 := len8_bl (x := x / 256) (by omega) (by omega)
    have hbl := bl_le (n := 64) (x := x) (by simpa using h1)
    have hbn := bl_nn (x / 256)
    have hbl8 := bl_le (n := 8) (x := x / 256) (by rw [show (2 : Int) ^ 8 = 256 by decide]; omega)
    refine vc_region ?_
    refine oq (qv_mv (.int .i64 (0 + 8)) rfl) ?_
    refine oq (qv_mv (.int .u64 (x / 256)) rfl) ?_
    refine oq (qv_convk Try.underlying101 Try.underlying5 rfl (IntWalk.u8_in _ (by omega))) ?_
    refine oq (qv_idxs (s := len8) (i := x / 256) Try.underlying9 rfl rfl (by omega) (by rw [len8_size]; omega)) ?_
    refine oq (qv_convk Try.underlying5 Try.underlying3 rfl (IntWalk.i64_in _ (by omega))) ?_
    refine oq (qv_add rfl rfl (by omega)) ?_
    refine oq (qv_as (.int .i64 ((0 + 8) + (sAt len8 (x / 256)))) rfl) ?_
    refine ops_nil ?_
    refine vc_ret ?_
    exact rq1 (.int .i64 (bl x)) (congrArg (Value.int .i64) (show ((0 + 8) + (sAt len8 (x / 256))) = (bl x) from by omega)) rfl
   ·
    refine vc_skip ?_
    refine vc_seq ?_
    have hs8 := len8_size
    have hb8 := len8_bl (x := x) (by omega) (by omega)
    have hbl := bl_le (n := 64) (x := x) (by simpa using h1)
    have hbn := bl_nn (x)
    have hbl8 := bl_le (n := 8) (x := x) (by rw [show (2 : Int) ^ 8 = 256 by decide]; omega)
    refine vc_region ?_
    refine oq (qv_mv (Value.int .i64 0) rfl) ?_
    refine oq (qv_mv (Value.int .u64 x) rfl) ?_
    refine oq (qv_convk Try.underlying101 Try.underlying5 rfl (IntWalk.u8_in _ (by omega))) ?_
    refine oq (qv_idxs (s := len8) (i := x) Try.underlying9 rfl rfl (by omega) (by rw [len8_size]; omega)) ?_
    refine oq (qv_convk Try.underlying5 Try.underlying3 rfl (IntWalk.i64_in _ (by omega))) ?_
    refine oq (qv_add rfl rfl (by omega)) ?_
    refine oq (qv_as (.int .i64 (0 + (sAt len8 x))) rfl) ?_
    refine ops_nil ?_
    refine vc_ret ?_
    exact rq1 (.int .i64 (bl x)) (congrArg (Value.int .i64) (show (0 + (sAt len8 x)) = (bl x) from by omega)) rfl

set_option maxRecDepth 100000 in
set_option maxHeartbeats 4000000 in
theorem LZ64_c {V : HV} {x : Int} (h0 : 0 ≤ x) (h1 : x < 18446744073709551616) :
    FnC Try.prog 117 [(Value.int .u64 x)] V [] (fun v _ _ => v = (.int .i64 (64 - bl x))) := by
 refine fn_intro (N := 6) Try.func117 (by kernel_rfl) rfl rfl rfl (Nat.le_of_ble_eq_true rfl) ?_
 intro w0 D
 have hbl := bl_le (n := 64) (x := x) (by simpa using h1)
 have hbn := bl_nn x
 refine vc_seq ?_
 refine vc_region ?_
 refine oq (qv_as (Value.int .i64 0) rfl) ?_
 refine ops_nil ?_
 refine vc_seq ?_
 refine vc_region ?_
 refine oq (qv_mv (Value.int .u64 x) rfl) ?_
 refine oq (qv_call (v := (.int .i64 (bl x))) (Len64_c h0 h1) rfl rfl) ?_
 refine oq (qv_sub rfl rfl (by omega)) ?_
 refine oq (qv_as (.int .i64 (64 - (bl x))) rfl) ?_
 refine ops_nil ?_
 refine vc_ret ?_
 exact rq1 (.int .i64 (64 - bl x)) (congrArg (Value.int .i64) (show (64 - (bl x)) = (64 - bl x) from by rfl)) rfl

set_option maxRecDepth 100000 in
set_option maxHeartbeats 4000000 in
theorem Mul64_c {V : HV} {x y : Int} (x0 : 0 ≤ x) (x1 : x < 18446744073709551616) (y0 : 0 ≤ y) (y1 : y < 18446744073709551616) :
    FnC Try.prog 107 [(Value.int .u64 x), (Value.int .u64 y)] V [] (fun v _ _ => v = .tuple #[(.int .u64 (x * y / 18446744073709551616)), (.int .u64 (x * y % 18446744073709551616))]) := by
 refine fn_intro (N := 51) Try.func107 (by kernel_rfl) rfl rfl rfl (Nat.le_of_ble_eq_true rfl) ?_
 intro w0 D
 obtain ⟨m1a, m1b⟩ := mul32 (a := x % 4294967296) (b := y % 4294967296) (by omega) (by omega) (by omega) (by omega)
 obtain ⟨m2a, m2b⟩ := mul32 (a := x / 4294967296) (b := y % 4294967296) (by omega) (by omega) (by omega) (by omega)
 obtain ⟨m3a, m3b⟩ := mul32 (a := x % 4294967296) (b := y / 4294967296) (by omega) (by omega) (by omega) (by omega)
 obtain ⟨m4a, m4b⟩ := mul32 (a := x / 4294967296) (b := y / 4294967296) (by omega) (by omega) (by omega) (by omega)
 have mm := mul_parts (x := x) (y := y) (a := x / 4294967296) (b := x % 4294967296) (c := y / 4294967296) (d := y % 4294967296) (by omega) (by omega)
 refine vc_seq ?_
 refine vc_region ?_
 refine oq (qv_as (Value.int .u64 0) rfl) ?_
 refine oq (qv_as (Value.int .u64 0) rfl) ?_
 refine ops_nil ?_
 refine vc_seq ?_
 refine vc_region ?_
 refine oq (qv_mv (Value.int .u64 x) rfl) ?_
 refine oq (qv_and32 rfl rfl (by omega)) ?_
 refine oq (qv_as (.int .u64 (x % 4294967296)) rfl) ?_
 refine ops_nil ?_
 refine vc_seq ?_
 refine vc_region ?_
 refine oq (qv_mv (Value.int .u64 x) rfl) ?_
 refine oq (qv_shrc rfl rfl 4294967296 (by omega) (by omega) (by decide)) ?_
 refine oq (qv_as (.int .u64 (x / 4294967296)) rfl) ?_
 refine ops_nil ?_
 refine vc_seq ?_
 refine vc_region ?_
 refine oq (qv_mv (Value.int .u64 y) rfl) ?_
 refine oq (qv_and32 rfl rfl (by omega)) ?_
 refine oq (qv_as (.int .u64 (y % 4294967296)) rfl) ?_
 refine ops_nil ?_
 refine vc_seq ?_
 refine vc_region ?_
 refine oq (qv_mv (Value.int .u64 y) rfl) ?_
 refine oq (qv_shrc rfl rfl 4294967296 (by omega) (by omega) (by decide)) ?_
 refine oq (qv_as (.int .u64 (y / 4294967296)) rfl) ?_
 refine ops_nil ?_
 refine vc_seq ?_
 refine vc_region ?_
 refine oq (qv_mv (.int .u64 (x % 4294967296)) rfl) ?_
 refine oq (qv_mv (.int .u64 (y % 4294967296)) rfl) ?_
 refine oq (qv_mulu rfl rfl (by omega)) ?_
 refine oq (qv_as (.int .u64 ((x % 4294967296) * (y % 4294967296))) rfl) ?_
 refine ops_nil ?_
 refine vc_seq ?_
 refine vc_region ?_
 refine oq (qv_mv (.int .u64 (x / 4294967296)) rfl) ?_
 refine oq (qv_mv (.int .u64 (y % 4294967296)) rfl) ?_
 refine oq (qv_mulu rfl rfl (by omega)) ?_
 refine oq (qv_mv (.int .u64 ((x % 4294967296) * (y % 4294967296))) rfl) ?_
 refine oq (qv_shrc rfl rfl 4294967296 (by omega) (by omega) (by decide)) ?_
 refine oq (qv_addu rfl rfl (by omega)) ?_
 refine oq (qv_as (.int .u64 (((x / 4294967296) * (y % 4294967296)) + (((x % 4294967296) * (y % 4294967296)) / 4294967296))) rfl) ?_
 refine ops_nil ?_
 refine vc_seq ?_
 refine vc_region ?_
 refine oq (qv_mv (.int .u64 (((x / 4294967296) * (y % 4294967296)) + (((x % 4294967296) * (y % 4294967296)) / 4294967296))) rfl) ?_
 refine oq (qv_and32 rfl rfl (by omega)) ?_
 refine oq (qv_as (.int .u64 ((((x / 4294967296) * (y % 4294967296)) + (((x % 4294967296) * (y % 4294967296)) / 4294967296)) % 4294967296)) rfl) ?_
 refine ops_nil ?_
 refine vc_seq ?_
 refine vc_region ?_
 refine oq (qv_mv (.int .u64 (((x / 4294967296) * (y % 4294967296)) + (((x % 4294967296) * (y % 4294967296)) / 4294967296))) rfl) ?_
 refine oq (qv_shrc rfl rfl 4294967296 (by omega) (by omega) (by decide)) ?_
 refine oq (qv_as (.int .u64 ((((x / 4294967296) * (y % 4294967296)) + (((x % 4294967296) * (y % 4294967296)) / 4294967296)) / 4294967296)) rfl) ?_
 refine ops_nil ?_
 refine vc_seq ?_
 refine vc_region ?_
 refine oq (qv_mv (.int .u64 ((((x / 4294967296) * (y % 4294967296)) + (((x % 4294967296) * (y % 4294967296)) / 4294967296)) % 4294967296)) rfl) ?_
 refine oq (qv_mv (.int .u64 (x % 4294967296)) rfl) ?_
 refine oq (qv_mv (.int .u64 (y / 4294967296)) rfl) ?_
 refine oq (qv_mulu rfl rfl (by omega)) ?_
 refine oq (qv_addu rfl rfl (by omega)) ?_
 refine oq (qv_as (.int .u64 (((((x / 4294967296) * (y % 4294967296)) + (((x % 4294967296) * (y % 4294967296)) / 4294967296)) % 4294967296) + ((x % 4294967296) * (y / 4294967296)))) rfl) ?_
 refine ops_nil ?_
 refine vc_seq ?_
 refine vc_region ?_
 refine oq (qv_mv (.int .u64 (x / 4294967296)) rfl) ?_
 refine oq (qv_mv (.int .u64 (y / 4294967296)) rfl) ?_
 refine oq (qv_mulu rfl rfl (by omega)) ?_
 refine oq (qv_mv (.int .u64 ((((x / 4294967296) * (y % 4294967296)) + (((x % 4294967296) * (y % 4294967296)) / 4294967296)) / 4294967296)) rfl) ?_
 refine oq (qv_addu rfl rfl (by omega)) ?_
 refine oq (qv_mv (.int .u64 (((((x / 4294967296) * (y % 4294967296)) + (((x % 4294967296) * (y % 4294967296)) / 4294967296)) % 4294967296) + ((x % 4294967296) * (y / 4294967296)))) rfl) ?_
 refine oq (qv_shrc rfl rfl 4294967296 (by omega) (by omega) (by decide)) ?_
 refine oq (qv_addu rfl rfl (by omega)) ?_
 refine oq (qv_as (.int .u64 ((((x / 4294967296) * (y / 4294967296)) + ((((x / 4294967296) * (y % 4294967296)) + (((x % 4294967296) * (y % 4294967296)) / 4294967296)) / 4294967296)) + ((((((x / 4294967296) * (y % 4294967296)) + (((x % 4294967296) * (y % 4294967296)) / 4294967296)) % 4294967296) + ((x % 4294967296) * (y / 4294967296))) / 4294967296))) rfl) ?_
 refine ops_nil ?_
 refine vc_seq ?_
 refine vc_region ?_
 refine oq (qv_mv (Value.int .u64 x) rfl) ?_
 refine oq (qv_mv (Value.int .u64 y) rfl) ?_
 refine oq (qv_mulw rfl rfl) ?_
 refine oq (qv_as (.int .u64 ((x * y) % 18446744073709551616)) rfl) ?_
 refine ops_nil ?_
 refine vc_ret ?_
 exact rq2 (.int .u64 (x * y / 18446744073709551616)) (.int .u64 (x * y % 18446744073709551616)) (congrArg (Value.int .u64) (show ((((x / 4294967296) * (y / 4294967296)) + ((((x / 4294967296) * (y % 4294967296)) + (((x % 4294967296) * (y % 4294967296)) / 4294967296)) / 4294967296)) + ((((((x / 4294967296) * (y % 4294967296)) + (((x % 4294967296) * (y % 4294967296)) / 4294967296)) % 4294967296) + ((x % 4294967296) * (y / 4294967296))) / 4294967296)) = (x * y / 18446744073709551616) from by rw [mm]; omega)) (congrArg (Value.int .u64) (show ((x * y) % 18446744073709551616) = (x * y % 18446744073709551616) from by rfl)) rfl

end Go.Proofs.Ytapkilaikcihgaa
